/- By hand: hash.Sum: FNV-1a over all parts' bytes. -/
import Derived.Test.YtejmipoolbodgaaG0
import Derived.Test.YtejmipoolbodgaaPFnv
namespace Go.Proofs.Ytejmipoolbodgaa.G
open Go.RowKit Go.Proofs.YtejmipoolbodgaaW.PrintWords Go.Proofs.YtejmipoolbodgaaW.PrintLast Go.Proofs.YtejmipoolbodgaaW.PrintMore Go.Proofs.Ytejmipoolbodgaa.Pal
set_option linter.unusedVariables false
set_option linter.unusedSimpArgs false

def hash_Sum.f (l0 : List ByteArray) : Option Int := if (cat l0).length ≤ 1099511627776 then some (fnv (cat l0) : Nat) else none

set_option maxHeartbeats 400000 in
set_option maxRecDepth 100000 in
theorem hash_Sum.calls (A0 : Option Addr) (c0 : Nat) (l0 : List ByteArray) (r : Int) (w : World) (hr0 : Kd.C Kd.string w A0 l0.length l0) (hc0 : l0.length ≤ c0) (h : hash_Sum.f l0 = some r) :
    Calls Try.prog 67 #[.slice A0 l0.length c0] w fun e w' => e = .returned (.int .u64 r) ∧ Below w.heap.size w w' := by
  unfold hash_Sum.f at h
  by_cases hs : (cat l0).length ≤ 1099511627776
  case neg => rw [if_neg hs] at h; exact absurd h (by simp)
  rw [if_pos hs] at h
  have H := Aside0.mk (Option.some.inj h)
  have HR := Aside0.mk hr0
  have HS := Aside0.mk hs
  clear hr0 hs h
  go_enter Try.func67, Try.ntmps67
  go_wp2
  go_loopg [3, 9] l0.length (fun kq v3 v9 wr => ∃ i : Nat, v9 = .int .i64 (i : Int) ∧ v3 = .int .u64 (fnv (cat (l0.take i)) : Nat) ∧ Aside0 (i + kq = l0.length) ∧ Aside0 (Below w.heap.size w wr))
  case atStart => exact ⟨0, rfl, by simp [cat, fnv, fnvOn], ⟨by omega⟩, ⟨Below.refl _ _⟩⟩
  case round =>
    obtain ⟨i, rfl, rfl, HK, HI⟩ := hrel
    by_cases hlt : i < l0.length
    · obtain ⟨ad, rfl, hcell⟩ := Kd.at_string (Kd.C_below HR.out HI.out) (i : Int) (by omega) (by omega)
      rw [Int.toNat_natCast] at hcell
      have HP : Aside0 (rdOf ByteArray.empty l0 (i : Int) = l0[i]) := ⟨by simp [rdOf, List.getD_eq_getElem?_getD, List.getElem?_eq_getElem hlt]⟩
      generalize rdOf ByteArray.empty l0 (i : Int) = p at hcell HP
      have HL : Aside0 ((cat (l0.take i)).length + p.size ≤ 1099511627776) := ⟨by
        have h1 := HS.out
        have h2 : cat l0 = cat (l0.take i) ++ (bl p ++ cat (l0.drop (i + 1))) := by
          conv => lhs; rw [← List.take_append_drop i l0]
          rw [List.drop_eq_getElem_cons hlt, ← HP.out]
          simp [cat]
        rw [h2, List.length_append, List.length_append, bl_length] at h1
        omega⟩
      go_wp2
      obtain ⟨wo, rfl⟩ : ∃ wo : World, wo = wr := ⟨_, rfl⟩
      clear hcell
      go_loopg [3, 15] p.size (fun kq v3 v15 wr => ∃ j : Nat, v15 = .int .i64 (j : Int) ∧ v3 = .int .u64 (fnv (cat (l0.take i) ++ (bl p).take j) : Nat) ∧ Aside0 (j + kq = p.size) ∧ Aside0 (Below w.heap.size w wr))
      case atStart => exact ⟨0, rfl, by rw [List.take_zero, List.append_nil], ⟨by omega⟩, HI⟩
      case round =>
        obtain ⟨j, rfl, rfl, HKj, HJ⟩ := hrel
        have hfl := fnv_lt (cat (l0.take i) ++ (bl p).take j)
        by_cases hj : j < p.size
        · have HT : Aside0 ((bl p).take (j + 1) = (bl p).take j ++ [p[j]]) := ⟨by
            rw [List.take_succ_eq_append_getElem (by rw [bl_length]; exact hj)]
            rfl⟩
          have hbyte := p[j].toNat_lt
          have hw : wrap64 ((j : Int) + 1) = ((j + 1 : Nat) : Int) := by have := HL.out; unfold wrap64; omega
          have hstep := fnv_bits (fnv (cat (l0.take i) ++ (bl p).take j)) p[j] hfl
          have HN : Aside0 (fnv (cat (l0.take i) ++ (bl p).take (j + 1)) = fnvStep (fnv (cat (l0.take i) ++ (bl p).take j)) p[j]) := ⟨by rw [HT.out, ← List.append_assoc, fnv_snoc]⟩
          generalize fnv (cat (l0.take i) ++ (bl p).take j) = x at hfl hstep HN ⊢
          go_wp2
          go_roundg (p.size - (j + 1))
          case measure => have := HKj.out; omega
          case rel => exact ⟨j + 1, by rw [hw], by rw [HN.out], ⟨by have := HKj.out; omega⟩, HJ⟩
        · have HT : Aside0 ((bl p).take j = bl p) := ⟨List.take_of_length_le (by rw [bl_length]; omega)⟩
          have HT2 : Aside0 (cat (l0.take (i + 1)) = cat (l0.take i) ++ bl p) := ⟨by
            rw [List.take_succ_eq_append_getElem hlt, ← HP.out]
            simp [cat]⟩
          have hlen : l0.length ≤ 9223372036854775807 := HR.out.2.1
          have hw : wrap64 ((i : Int) + 1) = ((i + 1 : Nat) : Int) := by unfold wrap64; omega
          go_wp2
          go_roundg (l0.length - (i + 1))
          case measure => have := HK.out; omega
          case rel => exact ⟨i + 1, by rw [show ((i : Int) + 1) = ((i + 1 : Nat) : Int) from by omega], by rw [HT2.out, HT.out], ⟨by omega⟩, HJ⟩
    · have HT : Aside0 (l0.take i = l0) := ⟨List.take_of_length_le (by omega)⟩
      rw [HT.out]
      go_wp2
      go_ret
      exact ⟨by rw [← H.out]; rfl, HI.out⟩
end Go.Proofs.Ytejmipoolbodgaa.G
