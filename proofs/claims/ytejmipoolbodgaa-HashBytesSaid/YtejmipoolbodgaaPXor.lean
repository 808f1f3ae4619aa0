/- Plain facts: exclusive or on bytes and on whole numbers; a row of bytes, one of them put. No function of the program in it. -/
import Derived.Test.YtejmipoolbodgaaPFlip
import Derived.Test.YtejmipoolbodgaaPFnv
import Derived.Test.YtejmipoolbodgaaPHeap
namespace Go.Proofs.Ytejmipoolbodgaa.Pal
theorem wraps_u8 (n : Int) (h₀ : 0 ≤ n) (h₁ : n < 2 ^ 8) : IntKind.u8.wrap n = n := by rw [IntKind.wrap_u8]; omega
theorem xor8 (a b : Nat) (ha : a < 256) (hb : b < 256) : Go.bits .xor .u8 (a : Int) (b : Int) = ((a ^^^ b : Nat) : Int) := by
  have ha' : a % 2 ^ IntKind.u8.bits = a := Nat.mod_eq_of_lt (Nat.lt_of_lt_of_le ha (by decide))
  have hb' : b % 2 ^ IntKind.u8.bits = b := Nat.mod_eq_of_lt (Nat.lt_of_lt_of_le hb (by decide))
  have hx : a ^^^ b < 2 ^ 8 := Nat.xor_lt_two_pow ha hb
  simp only [Go.bits, BitVec.ofInt_natCast, BitVec.toNat_xor, BitVec.toNat_ofNat, ha', hb']
  exact wraps_u8 _ (Int.natCast_nonneg _) (by exact_mod_cast hx)
theorem xor_byte (x : UInt8) (m : Nat) (hm : m < 256) : (UInt8.ofNat (x.toNat ^^^ m)).toNat = x.toNat ^^^ m := by
  have hx : x.toNat ^^^ m < 2 ^ 8 := Nat.xor_lt_two_pow x.toNat_lt hm
  simp only [UInt8.toNat_ofNat']
  exact Nat.mod_eq_of_lt hx
theorem xor_ne (a m : Nat) (h : m ≠ 0) : a ^^^ m ≠ a := fun e => by
  have := congrArg (a ^^^ ·) e
  simp only [← Nat.xor_assoc, Nat.xor_self, Nat.zero_xor] at this
  exact h this
/-- A number's lowest four bytes, one byte of it changed. -/
theorem low_xor (k : Int) (m : Nat) (hm : m < 256) : ∃ K : Nat, k % 4294967296 = ((K % 4294967296 : Nat) : Int) ∧ Go.bits .xor .i64 k (m : Int) % 4294967296 = (((K ^^^ m) % 4294967296 : Nat) : Int) := by
  refine ⟨(k % 18446744073709551616).toNat, by omega, ?_⟩
  have e : Go.bits .xor .i64 k (m : Int) = IntKind.i64.wrap ((((k % 18446744073709551616).toNat ^^^ m : Nat) : Int)) := by
    show IntKind.i64.wrap (((BitVec.ofInt 64 k ^^^ BitVec.ofInt 64 (m : Int)).toNat : Nat) : Int) = _
    rw [BitVec.toNat_xor, BitVec.toNat_ofInt, BitVec.ofInt_natCast, BitVec.toNat_ofNat, Nat.mod_eq_of_lt (Nat.lt_of_lt_of_le hm (by decide) : m < 2 ^ 64)]
    rfl
  rw [e, IntKind.wrap_i64]
  omega
theorem xor_parts (K m : Nat) (hm : m < 256) : (K ^^^ m) / 256 = K / 256 ∧ (K ^^^ m) % 256 = K % 256 ^^^ m := by
  have h1 := Nat.shiftRight_xor_distrib (a := K) (b := m) (i := 8)
  have h2 := Nat.xor_mod_two_pow (a := K) (b := m) (n := 8)
  simp only [Nat.shiftRight_eq_div_pow] at h1
  rw [show (2 : Nat) ^ 8 = 256 from rfl] at h1 h2
  rw [show m / 256 = 0 by omega, Nat.xor_zero] at h1
  rw [Nat.mod_eq_of_lt hm] at h2
  exact ⟨h1, h2⟩
/-- Unlike in one byte of the lowest four: unlike numbers. -/
theorem fnv_low (A : List UInt8) (K m : Nat) (hm : m < 256) (h0 : m ≠ 0) : fnv (A ++ nb 4 (K % 4294967296)) ≠ fnv (A ++ nb 4 ((K ^^^ m) % 4294967296)) := by
  obtain ⟨h1, h2⟩ := xor_parts K m hm
  have h3 := xor_ne (K % 256) m h0
  have e1 : nb 4 (K % 4294967296) = nb 3 (K / 256 % 16777216) ++ [UInt8.ofNat (K % 4294967296)] := by
    rw [nb]; congr 2; omega
  have e2 : nb 4 ((K ^^^ m) % 4294967296) = nb 3 (K / 256 % 16777216) ++ [UInt8.ofNat ((K ^^^ m) % 4294967296)] := by
    rw [nb]; congr 2; omega
  rw [e1, e2, ← List.append_assoc, ← List.append_assoc]
  refine fnv_one _ [] fun h => ?_
  have h4 := congrArg UInt8.toNat h
  simp only [UInt8.toNat_ofNat'] at h4
  omega
theorem fnv_put (l : List UInt8) (j : Nat) (hj : j < l.length) (y : UInt8) (h : y ≠ l[j]) : fnv (l.set j y) ≠ fnv l := by
  have e : l = l.take j ++ l[j] :: l.drop (j + 1) := by rw [List.getElem_cons_drop, List.take_append_drop]
  have e2 : l.set j y = l.take j ++ y :: l.drop (j + 1) := by rw [List.set_eq_take_append_cons_drop, if_pos hj]
  rw [e2]
  conv => rhs; rw [e]
  exact fnv_one _ _ h
/-- A text's bytes in memory, one of them put: what stands there then. -/
theorem put_cells {w : World} {b : Nat} {l : List UInt8} (h : ∀ j, j < l.length → w.cell? ⟨b, j, none⟩ = some (.int .u8 (l.getD j 0).toNat)) (q : Nat) (y : UInt8) :
    ∀ j (hj : j < (l.set q y).length), (w.setCell ⟨b, q, none⟩ (.int .u8 (y.toNat : Int))).cell? ((⟨b, 0, none⟩ : Addr).add j) = some (.int .u8 ((l.set q y)[j].toNat : Int)) := fun j hj => by
  have e : (⟨b, 0, none⟩ : Addr).add j = ⟨b, j, none⟩ := by cases j <;> simp [Addr.add]
  have hj' : j < l.length := by rw [List.length_set] at hj; exact hj
  rw [e]
  by_cases c : j = q
  · subst c
    rw [World.cell?_setCell_same' _ _ _ (by rw [h _ hj']; rfl)]
    simp
  · rw [World.cell?_setCell_other w ⟨b, q, none⟩ ⟨b, j, none⟩ _ (by intro h; injection h with h1 h2; exact c h2.symm), h j hj']
    simp [Ne.symm c, List.getD_eq_getElem?_getD, List.getElem?_eq_getElem hj']
end Go.Proofs.Ytejmipoolbodgaa.Pal
