/- By hand: the law HashBytes: its walk, for the answer true alone. -/
import Derived.Test.YtejmipoolbodgaaPHash
import Derived.Test.YtejmipoolbodgaaPXor
import Derived.Lib.ConvBytes
import Derived.Laws.IdiomStrings
import Derived.WalkLawsBesides
namespace Go.Proofs.Ytejmipoolbodgaa.G
open Go.RowKit Go.Proofs.YtejmipoolbodgaaW.PrintWords Go.Proofs.YtejmipoolbodgaaW.PrintLast Go.Proofs.YtejmipoolbodgaaW.PrintMore Go.Proofs.Ytejmipoolbodgaa.Pal
set_option linter.unusedVariables false
set_option linter.unusedSimpArgs false
def palanquinlaw20_HashBytes.f (a0 : ByteArray) (a1 a2 a3 a4 : Int) : Option Bool := if a0.size ≤ 140737488351232 ∧ -9223372036854775808 ≤ a1 ∧ a1 ≤ 9223372036854775807 ∧ 0 ≤ a2 ∧ a2 ≤ 255 then some true else none

set_option maxHeartbeats 4000000 in
set_option maxRecDepth 100000 in
theorem palanquinlaw20_HashBytes.calls (a0 : ByteArray) (a1 a2 a3 a4 : Int) (r : Bool) (w : World) (h : palanquinlaw20_HashBytes.f a0 a1 a2 a3 a4 = some r) :
    Calls Try.prog 13 #[.string a0, .int .i64 a1, .int .u8 a2, .int .i64 a3, .int .i64 a4] w fun e w' => e = .returned (.bool r) ∧ Below w.heap.size w w' := by
  unfold palanquinlaw20_HashBytes.f at h
  split at h
  case isFalse => exact absurd h (by simp)
  rename_i hh
  obtain rfl := Option.some.inj h
  clear h
  obtain ⟨m, rfl⟩ := Int.eq_ofNat_of_zero_le hh.2.2.2.1
  have hm : m < 256 := by have := hh.2.2.2.2; omega
  clear hh
  go_enter Try.func13, Try.ntmps13
  go_wp2_with fail
  refine (palanquinlaw20_awake.calls true _ Pure.awake20).mono ?_
  rintro e w2 ⟨rfl, g1⟩
  have HB := Aside0.mk g1
  clear g1
  by_cases c1 : 5000 < (a0.size : Int)
  · have d1 : decide (5000 < (a0.size : Int)) = true := decide_eq_true c1
    have d2 : decide (5000 < a0.size) = true := decide_eq_true (by omega)
    clear c1
    go_wp2
    go_ret
    exact ⟨rfl, HB.out⟩
  have d1 : decide (5000 < (a0.size : Int)) = false := decide_eq_false c1
  have d2 : decide (5000 < a0.size) = false := decide_eq_false (by omega)
  by_cases c2 : a1 < 0
  · have d3 : decide (a1 < 0) = true := decide_eq_true c2
    clear c1 c2
    go_wp2
    go_ret
    exact ⟨rfl, HB.out⟩
  have d3 : decide (a1 < 0) = false := decide_eq_false c2
  obtain ⟨j, rfl⟩ := Int.eq_ofNat_of_zero_le (show 0 ≤ a1 by omega)
  by_cases c3 : a0.size ≤ j
  · have d4 : decide ((a0.size : Int) ≤ (j : Int)) = true := decide_eq_true (by omega)
    have d5 : decide (a0.size ≤ j) = true := decide_eq_true c3
    clear c1 c2 c3
    go_wp2
    go_ret
    exact ⟨rfl, HB.out⟩
  have d4 : decide ((a0.size : Int) ≤ (j : Int)) = false := decide_eq_false (by omega)
  have d5 : decide (a0.size ≤ j) = false := decide_eq_false c3
  by_cases c4 : m = 0
  · have d6 : ((m : Int) == 0) = true := by rw [c4]; rfl
    have d7 : (m == 0) = true := by rw [c4]; rfl
    clear c1 c2 c3
    go_wp2
    go_ret
    exact ⟨rfl, HB.out⟩
  have d6 : ((m : Int) == 0) = false := beq_eq_false_iff_ne.mpr (by omega)
  have d7 : (m == 0) = false := beq_eq_false_iff_ne.mpr c4
  have q2 : ((j : Int) < (a0.size : Int)) = True := eq_true (by omega)
  have q3 : (j < a0.size) = True := eq_true (by omega)
  have HI := Aside0.mk (show j < a0.size ∧ a0.size ≤ 5000 ∧ m ≠ 0 by omega)
  clear c1 c2 c3 c4
  have hcv := fun (wx : World) => Lib.run_convert_string_bytes (P := Try.prog) wx 9 25 5 a0 Try.underlying9 Try.underlying25 Try.underlying5
  have hcell : ∀ k, k < a0.size → (Lib.bytesWorld w2 5 a0).cell? ⟨w2.heap.size, k, none⟩ = some (.int .u8 ((bl a0).getD k 0).toNat) := fun k hk => Lib.bytesWorld_cell _ _ _ _ hk
  have hfree : ∀ k, k < a0.size → (Lib.bytesWorld w2 5 a0).frozen? ⟨w2.heap.size, k, none⟩ = false := fun k hk => by
    have h := Lib.bytesWorld_at_new w2 5 a0
    have hz : k < (Lib.bytesCells w2 5 a0).size := by unfold Lib.bytesCells; rw [Array.size_append, Array.size_map]; exact Nat.lt_of_lt_of_le hk (Nat.le_add_right _ _)
    simp [World.frozen?, h]; omega
  have f0 := hcell j HI.out.1
  have f1 := hfree j HI.out.1
  have HW := Aside0.mk (show w.heap.size ≤ w2.heap.size from HB.out.size)
  replace HB := Aside0.mk (HB.out.trans (show Below w.heap.size w2 (Lib.bytesWorld w2 5 a0) from ⟨rfl, rfl, rfl, by rw [Lib.bytesWorld_size]; omega, fun k hk => Lib.bytesWorld_at_old _ _ _ _ (Nat.lt_of_lt_of_le hk HB.out.size)⟩))
  have HH := Aside0.mk hcell
  clear hcell hfree
  have hv : Go.bits .xor .u8 (((bl a0).getD j 0).toNat : Int) (m : Int) = ((UInt8.ofNat (((bl a0).getD j 0).toNat ^^^ m)).toNat : Int) := by rw [xor_byte _ _ hm, xor8 _ _ ((bl a0).getD j 0).toNat_lt hm]
  obtain ⟨y, hy⟩ : ∃ y, y = UInt8.ofNat (((bl a0).getD j 0).toNat ^^^ m) := ⟨_, rfl⟩
  rw [← hy] at hv
  have HY := Aside0.mk (show y ≠ (bl a0).getD j 0 by
    intro e
    have h1 := congrArg UInt8.toNat (hy.symm.trans e)
    rw [xor_byte _ _ hm] at h1
    exact xor_ne _ m HI.out.2.2 h1)
  clear hy
  have HM := Aside0.mk hm
  obtain ⟨x, hx⟩ : ∃ x, (bl a0).getD j 0 = x := ⟨_, rfl⟩
  have HX := Aside0.mk hx
  rw [hx] at f0 hv HY
  clear hx
  have hcb := run_convert_bytes_back (P := Try.prog) ((Lib.bytesWorld w2 5 a0).setCell ⟨w2.heap.size, j, none⟩ (.int .u8 (y.toNat : Int))) 25 9 5 ⟨w2.heap.size, 0, none⟩ (grownCap w2 a0.size 0 5) ((bl a0).set j y) Try.underlying25 Try.underlying5 Try.underlying9
    (put_cells (l := bl a0) (fun k hk => HH.out k (by rwa [bl_length] at hk)) j y)
  rw [List.length_set, bl_length] at hcb
  replace HB := Aside0.mk (HB.out.setCell (p := ⟨w2.heap.size, j, none⟩) HW.out (.int .u8 (y.toNat : Int)))
  obtain ⟨z, hz⟩ : ∃ z : ByteArray, z = ⟨((bl a0).set j y).toArray⟩ := ⟨_, rfl⟩
  rw [← hz] at hcb
  have HZ := Aside0.mk (show fnv (bl z) ≠ fnv (bl a0) ∧ z.size ≤ 5000 by
    have e : bl z = (bl a0).set j y := by rw [hz]; simp [bl]
    have hj : j < (bl a0).length := by rw [bl_length]; exact HI.out.1
    have hx : x = (bl a0)[j] := by rw [← HX.out, List.getD_eq_getElem?_getD, List.getElem?_eq_getElem hj]; rfl
    exact ⟨by rw [e]; exact fnv_put _ _ hj _ (by rw [← hx]; exact HY.out), by rw [← bl_length, e, List.length_set, bl_length]; exact HI.out.2.1⟩)
  have hC := C_one ((Lib.bytesWorld w2 5 a0).setCell ⟨w2.heap.size, j, none⟩ (.int .u8 (y.toNat : Int))) 9 z
  rw [show ((Lib.bytesWorld w2 5 a0).setCell ⟨w2.heap.size, j, none⟩ (.int .u8 (y.toNat : Int))).heap.size = (Lib.bytesWorld w2 5 a0).heap.size by simp] at hC
  have HC := Aside0.mk hC
  have HR := Aside0.mk (show ((Lib.bytesWorld w2 5 a0).setCell ⟨w2.heap.size, j, none⟩ (.int .u8 (y.toNat : Int))).heap.size = (Lib.bytesWorld w2 5 a0).heap.size by simp)
  have HL := Aside0.mk (low_xor a4 m hm)
  clear hz hC hm
  go_wp2_with fail
  clear hcv hcb f0 f1 hv
  refine (hash_Sum.calls _ _ [z] _ _ HC.out (by simp) (Pure.hsum_one z (by have := HZ.out.2; omega))).mono ?_
  rintro e w3 ⟨rfl, g1⟩
  replace HB := Aside0.mk ((HB.out.alloc HB.out.size _).trans (g1.mono (HB.out.alloc HB.out.size _).size))
  clear g1 HC
  go_wp2_with fail
  refine (hash_Sum.calls _ _ [a0] _ _ (C_one _ _ _) (by simp) (Pure.hsum_one a0 (by have := HI.out.2.1; omega))).mono ?_
  rintro e w4 ⟨rfl, g1⟩
  replace HB := Aside0.mk ((HB.out.alloc HB.out.size _).trans (g1.mono (HB.out.alloc HB.out.size _).size))
  clear g1
  have b1 : (((fnv (bl z) : Nat) : Int) != ((fnv (bl a0) : Nat) : Int)) = true := bne_iff_ne.mpr (fun h => HZ.out.1 (by exact_mod_cast h))
  have b2 : (fnv (bl z) != fnv (bl a0)) = true := bne_iff_ne.mpr HZ.out.1
  go_wp2_with fail
  refine (hash_Point.calls a3 a4 _ _ rfl).mono ?_
  rintro e w5 ⟨rfl, g1⟩
  replace HB := Aside0.mk (HB.out.trans (g1.mono HB.out.size))
  clear g1
  have w8 : wrap64 (m : Int) = (m : Int) := by unfold wrap64; have := HM.out; omega
  have w9 : IntKind.i64.wrap (m : Int) = (m : Int) := by rw [IntKind.wrap_i64]; have := HM.out; omega
  go_wp2_with fail
  clear w8 w9
  refine (hash_Point.calls a3 _ _ _ rfl).mono ?_
  rintro e w6 ⟨rfl, g1⟩
  replace HB := Aside0.mk (HB.out.trans (g1.mono HB.out.size))
  clear g1
  have hp : fnv (pointText a3 a4) ≠ fnv (pointText a3 (Go.bits .xor .i64 a4 (m : Int))) := by
    obtain ⟨K, h1, h2⟩ := HL.out
    unfold pointText
    rw [h1, h2]
    have e : ∀ n : Nat, u64n ((n % 4294967296 : Nat) : Int) = n % 4294967296 := fun n => by unfold u64n; rw [IntKind.wrap_u64]; omega
    rw [e, e]
    exact fnv_low _ K m HM.out HI.out.2.2
  have b3 : (((fnv (pointText a3 a4) : Nat) : Int) != ((fnv (pointText a3 (Go.bits .xor .i64 a4 (m : Int))) : Nat) : Int)) = true := bne_iff_ne.mpr (fun h => hp (by exact_mod_cast h))
  have b4 : (fnv (pointText a3 a4) != fnv (pointText a3 (Go.bits .xor .i64 a4 (m : Int)))) = true := bne_iff_ne.mpr hp
  clear hp
  go_wp2
  go_ret
  exact ⟨rfl, HB.out⟩
end Go.Proofs.Ytejmipoolbodgaa.G
