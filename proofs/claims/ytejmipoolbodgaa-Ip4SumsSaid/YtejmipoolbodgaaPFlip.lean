/- Plain theory: a text with one bit turned. No program in it. -/
import Derived.Test.YtejmipoolbodgaaPNum
namespace Go.Proofs.Ytejmipoolbodgaa.Pal
def flipByte (b : UInt8) (k : Nat) : UInt8 := UInt8.ofNat (b.toNat ^^^ 2 ^ (k % 8))
/-- One bit turned: bit i stands in byte i / 8, and is its bit i % 8. -/
def flip (l : List UInt8) (i : Nat) : List UInt8 := l.set (i / 8) (flipByte (l.getD (i / 8) 0) i)
theorem flip_length (l : List UInt8) (i : Nat) : (flip l i).length = l.length := by simp [flip]
theorem flip_fin : ∀ b : Fin 256, ∀ k : Fin 8, (b.val ^^^ 2 ^ k.val) < 256 ∧ ((b.val ^^^ 2 ^ k.val) = b.val + 2 ^ k.val ∨ b.val = (b.val ^^^ 2 ^ k.val) + 2 ^ k.val) ∧ 1 ≤ 2 ^ k.val ∧ 2 ^ k.val ≤ 128 := by decide +kernel
theorem flipByte_is (b : UInt8) (k : Nat) : ∃ d, 1 ≤ d ∧ d ≤ 128 ∧ d = 2 ^ (k % 8) ∧ ((flipByte b k).toNat = b.toNat + d ∨ b.toNat = (flipByte b k).toNat + d) := by
  have h := flip_fin ⟨b.toNat, b.toNat_lt⟩ ⟨k % 8, Nat.mod_lt _ (by decide)⟩
  dsimp only at h
  have e : (flipByte b k).toNat = b.toNat ^^^ 2 ^ (k % 8) := by
    unfold flipByte
    simp only [UInt8.toNat_ofNat']
    exact Nat.mod_eq_of_lt h.1
  rw [e]
  exact ⟨2 ^ (k % 8), h.2.2.1, h.2.2.2, rfl, h.2.1⟩
theorem flipByte_ne (b : UInt8) (k : Nat) : flipByte b k ≠ b := fun h => by
  obtain ⟨d, h1, _, _, h2⟩ := flipByte_is b k
  rw [h] at h2; omega
theorem tot_set (b : UInt8) : ∀ (l : List UInt8) (j : Nat) (o : Bool), j < l.length → ∃ w, (w = 1 ∨ w = 256) ∧ tot o (l.set j b) + w * (l.getD j 0).toNat = tot o l + w * b.toNat
  | [], _, _, h => absurd h (by simp)
  | x :: l, 0, false, _ => ⟨256, .inr rfl, by simp [tot]; omega⟩
  | x :: l, 0, true, _ => ⟨1, .inl rfl, by simp [tot]; omega⟩
  | x :: l, j + 1, false, h => by
    obtain ⟨w, h1, h2⟩ := tot_set b l j true (by simpa using h)
    exact ⟨w, h1, by simp only [List.set_cons_succ, tot, List.getD_cons_succ]; omega⟩
  | x :: l, j + 1, true, h => by
    obtain ⟨w, h1, h2⟩ := tot_set b l j false (by simpa using h)
    exact ⟨w, h1, by simp only [List.set_cons_succ, tot, List.getD_cons_succ]; omega⟩
theorem flip_tot (l : List UInt8) (i : Nat) (h : i / 8 < l.length) (o : Bool) : ∃ D, 1 ≤ D ∧ D ≤ 32768 ∧ (tot o (flip l i) = tot o l + D ∨ tot o l = tot o (flip l i) + D) := by
  obtain ⟨w, hw, h1⟩ := tot_set (flipByte (l.getD (i / 8) 0) i) l (i / 8) o h
  obtain ⟨d, d1, d2, _, h2⟩ := flipByte_is (l.getD (i / 8) 0) i
  unfold flip
  rcases hw with rfl | rfl
  · exact ⟨d, d1, by omega, by omega⟩
  · exact ⟨256 * d, by omega, by omega, by omega⟩
/-- A text that is right isn't with one bit turned. -/
theorem flip_wrong (l : List UInt8) (i : Nat) (h : i / 8 < l.length) (h0 : csum l = 0) : csum (flip l i) ≠ 0 := by
  obtain ⟨D, d1, d2, h1⟩ := flip_tot l i h false
  unfold csum fold16 at *
  split at h0
  · omega
  · split
    · omega
    · omega
theorem cut_bl (s : ByteArray) (n m : Nat) : bl (s.extract n m) = ((bl s).take m).drop n := by simp [bl, ByteArray.data_extract, List.drop_take]
theorem take_bl (s : ByteArray) : (bl s).take s.size = bl s := List.take_of_length_le (by rw [bl_length]; exact Nat.le_refl _)
theorem flip_bits_fin : ∀ b : Fin 256, ∀ k : Fin 8, Go.bits .xor .u8 (b.val : Int) (2 ^ k.val % 256) = ((b.val ^^^ 2 ^ k.val : Nat) : Int) := by decide +kernel
theorem flip_bits (b : UInt8) (i : Nat) : Go.bits .xor .u8 (b.toNat : Int) (2 ^ (i % 8) % 256) = ((flipByte b i).toNat : Int) := by
  have h := flip_bits_fin ⟨b.toNat, b.toNat_lt⟩ ⟨i % 8, Nat.mod_lt _ (by decide)⟩
  have h2 := flip_fin ⟨b.toNat, b.toNat_lt⟩ ⟨i % 8, Nat.mod_lt _ (by decide)⟩
  dsimp only at h h2
  rw [h]
  unfold flipByte
  simp only [UInt8.toNat_ofNat']
  rw [Nat.mod_eq_of_lt h2.1]
/-- A text's bytes in memory, one of them turned: what stands there then. -/
theorem flip_cells {w : World} {b : Nat} {l : List UInt8} (h : ∀ j, j < l.length → w.cell? ⟨b, j, none⟩ = some (.int .u8 (l.getD j 0).toNat)) (i : Nat) (hi : i / 8 < l.length) :
    ∀ j (hj : j < (flip l i).length), (w.setCell ⟨b, i / 8, none⟩ (.int .u8 ((flipByte (l.getD (i / 8) 0) i).toNat : Int))).cell? ((⟨b, 0, none⟩ : Addr).add j) = some (.int .u8 ((flip l i)[j].toNat : Int)) := fun j hj => by
  have e : (⟨b, 0, none⟩ : Addr).add j = ⟨b, j, none⟩ := by cases j <;> simp [Addr.add]
  have hj' : j < l.length := by rw [flip_length] at hj; exact hj
  rw [e]
  by_cases c : j = i / 8
  · subst c
    rw [World.cell?_setCell_same' _ _ _ (by rw [h _ hj']; rfl)]
    simp [flip]
  · rw [World.cell?_setCell_other w ⟨b, i / 8, none⟩ ⟨b, j, none⟩ _ (by intro h; injection h with h1 h2; exact c h2.symm), h j hj']
    simp [flip, List.getElem_set, c, Ne.symm c, List.getD_eq_getElem?_getD, List.getElem?_eq_getElem hj']
end Go.Proofs.Ytejmipoolbodgaa.Pal
