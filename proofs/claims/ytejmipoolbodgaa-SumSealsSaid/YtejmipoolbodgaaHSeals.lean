/- By hand: the law SumSeals: its walk, for the answer true alone. -/
import Derived.Test.YtejmipoolbodgaaGsum
import Derived.Test.YtejmipoolbodgaaGlaw02
import Derived.Test.YtejmipoolbodgaaHSum
import Derived.Test.YtejmipoolbodgaaUSumOrder
import Derived.Test.YtejmipoolbodgaaPFlip
import Derived.Test.YtejmipoolbodgaaPHeap
import Derived.Lib.ConvBytes
import Derived.Laws.IdiomStrings
import Derived.RegionTactic
import Derived.WalkLawsBesides
namespace Go.Proofs.Ytejmipoolbodgaa.G
open Go.RowKit Go.Proofs.YtejmipoolbodgaaW.PrintWords Go.Proofs.YtejmipoolbodgaaW.PrintLast Go.Proofs.YtejmipoolbodgaaW.PrintMore Go.Proofs.Ytejmipoolbodgaa.Pal
set_option linter.unusedVariables false
set_option linter.unusedSimpArgs false
def palanquinlaw02_SumSeals.f (a0 : ByteArray) (a1 : Int) : Option Bool := if a0.size ≤ 140737488351232 ∧ -9223372036854775808 ≤ a1 ∧ a1 ≤ 9223372036854775807 then some true else none

set_option maxHeartbeats 4000000 in
set_option maxRecDepth 100000 in
theorem seals_skip (a0 : ByteArray) (a1 : Int) (w : World) (h : (a0.size : Int) % 2 = 1 ∨ 5000 < (a0.size : Int)) :
    Calls Try.prog 3 #[.string a0, .int .i64 a1] w fun e w' => e = .returned (.bool true) ∧ Below w.heap.size w w' := by
  by_cases h1 : (a0.size : Int) % 2 = 1
  · have d1 : (((a0.size : Int) % 2) == 1) = true := beq_iff_eq.mpr h1
    clear h h1
    go_enter Try.func3, Try.ntmps3
    go_wp2_with fail
    refine (palanquinlaw02_awake.calls true _ Pure.awake02).mono ?_
    rintro e w2 ⟨rfl, g1⟩
    have HB := Aside0.mk g1
    clear g1
    go_wp2
    go_ret
    exact ⟨rfl, HB.out⟩
  · have d1 : (((a0.size : Int) % 2) == 1) = false := beq_eq_false_iff_ne.mpr h1
    have h2 : 5000 < (a0.size : Int) := by rcases h with h | h; exact absurd h h1; exact h
    have d2 : decide (5000 < (a0.size : Int)) = true := decide_eq_true h2
    have d3 : decide (5000 < a0.size) = true := decide_eq_true (by omega)
    clear h h1 h2
    go_enter Try.func3, Try.ntmps3
    go_wp2_with fail
    refine (palanquinlaw02_awake.calls true _ Pure.awake02).mono ?_
    rintro e w2 ⟨rfl, g1⟩
    have HB := Aside0.mk g1
    clear g1
    go_wp2
    go_ret
    exact ⟨rfl, HB.out⟩

theorem csum_two (l : List UInt8) (n : Nat) (hl : odd l = false) (h : n = csum l) : csum (l ++ [UInt8.ofNat (n / 256), UInt8.ofNat (n % 256)]) = 0 ∧ csum ([UInt8.ofNat (n / 256), UInt8.ofNat (n % 256)] ++ l) = 0 := by
  have hn : n ≤ 65535 := by rw [h]; exact Pure.csum_le l
  have h2 := Pure.tot2 n hn
  have hs := Pure.sealed (tot false l)
  have e : csum l = 65535 - fold16 (tot false l) := rfl
  rw [← e, ← h] at hs
  refine ⟨?_, ?_⟩
  · unfold csum
    rw [Pure.tot_even hl, h2, hs]
  · unfold csum
    rw [Pure.tot_even (show odd [UInt8.ofNat (n / 256), UInt8.ofNat (n % 256)] = false by simp [odd]), h2, Nat.add_comm, hs]

set_option maxHeartbeats 4000000 in
set_option maxRecDepth 100000 in
theorem seals_main (a0 : ByteArray) (a1 : Int) (w : World) (h1 : ¬ (a0.size : Int) % 2 = 1) (h2 : ¬ 5000 < (a0.size : Int)) :
    Calls Try.prog 3 #[.string a0, .int .i64 a1] w fun e w' => e = .returned (.bool true) ∧ Below w.heap.size w w' := by
  have d1 : (((a0.size : Int) % 2) == 1) = false := beq_eq_false_iff_ne.mpr h1
  have d2 : decide (5000 < (a0.size : Int)) = false := decide_eq_false h2
  have d3 : decide (5000 < a0.size) = false := decide_eq_false (by omega)
  have HS := Aside0.mk (Pure.sum_some [a0] (by rw [cat_cons, cat_nil, List.append_nil, bl_length]; omega))
  rw [cat_cons, cat_nil, List.append_nil] at HS
  have HN := Aside0.mk (Pure.csum_le (bl a0))
  have HX := Aside0.mk (csum_two (bl a0) (csum (bl a0)) (Pure.odd_of (by omega)) rfl)
  have HE := Aside0.mk (show a0.size % 2 = 0 ∧ a0.size ≤ 5000 by omega)
  have d9 : (9223372036854775807 < a0.size + 2) = False := eq_false (by omega)
  clear h1 h2
  go_enter Try.func3, Try.ntmps3
  go_wp2_with fail
  refine (palanquinlaw02_awake.calls true _ Pure.awake02).mono ?_
  rintro e w2 ⟨rfl, g1⟩
  have HB := Aside0.mk g1
  clear g1
  go_wp2_with fail
  refine (sum_Sum.calls _ _ [a0] _ _ (C_one _ _ _) (by simp) HS.out).mono ?_
  rintro e w3 ⟨rfl, g1⟩
  replace HB := Aside0.mk ((HB.out.alloc HB.out.size _).trans (g1.mono (HB.out.alloc HB.out.size _).size))
  clear g1
  generalize csum (bl a0) = n at HS HN HX ⊢
  go_wp2
  have hcv : (convert 25 9 (.slice (some ⟨w3.heap.size, 0, none⟩) 2 2)).run Try.prog (w3.alloc (.cells #[.int .u8 ((n : Int) / 256 % 256), .int .u8 ((n : Int) % 256)] 5)) = .ok (.string ⟨[UInt8.ofNat (n / 256), UInt8.ofNat (n % 256)].toArray⟩) (w3.alloc (.cells #[.int .u8 ((n : Int) / 256 % 256), .int .u8 ((n : Int) % 256)] 5)) := run_convert_bytes_back (P := Try.prog) (w3.alloc (.cells #[.int .u8 ((n : Int) / 256 % 256), .int .u8 ((n : Int) % 256)] 5)) 25 9 5 ⟨w3.heap.size, 0, none⟩ 2 [UInt8.ofNat (n / 256), UInt8.ofNat (n % 256)] Try.underlying25 Try.underlying5 Try.underlying9 (fun j hj => by
    have hk := (Blk.new w3 5 #[.int .u8 ((n : Int) / 256 % 256), .int .u8 ((n : Int) % 256)]).cells
    match j, hj with
    | 0, _ => exact (hk 0).trans (by simp)
    | 1, _ => exact (hk 1).trans (by simp))
  rw [hcv]
  clear hcv
  simp only [Result.andThen]
  rw [Oper.upon_value]
  simp only [Act.put, List.setIfInBounds_toArray, List.set_cons_zero, List.set_cons_succ]
  replace HB := Aside0.mk (HB.out.alloc HB.out.size (.cells #[.int .u8 ((n : Int) / 256 % 256), .int .u8 ((n : Int) % 256)] 5))
  generalize w3.alloc (.cells #[.int .u8 ((n : Int) / 256 % 256), .int .u8 ((n : Int) % 256)] 5) = w4 at HB ⊢
  generalize hy : (⟨[UInt8.ofNat (n / 256), UInt8.ofNat (n % 256)].toArray⟩ : ByteArray) = y
  have by_ : bl y = [UInt8.ofNat (n / 256), UInt8.ofNat (n % 256)] := by rw [← hy]; simp [bl]
  have hsy : y.size = 2 := by rw [← bl_length, by_]; rfl
  have HC := Aside0.mk (show csum (bl (a0 ++ y)) = 0 ∧ csum (bl y ++ bl a0) = 0 ∧ (a0 ++ y).size = a0.size + 2 ∧ bl ((a0 ++ y).extract a0.size (a0 ++ y).size) = bl y by
    refine ⟨by rw [bl_append, by_]; exact HX.out.1, by rw [by_]; exact HX.out.2, by rw [ByteArray.size_append]; omega, ?_⟩
    rw [cut_bl, take_bl, bl_append, List.drop_left' (bl_length a0)])
  have d9 : (9223372036854775807 < a0.size + y.size) = False := eq_false (by have := HE.out; omega)
  clear hy by_ hsy HX
  go_wp2_with fail
  clear d9
  generalize a0 ++ y = x at HC ⊢
  refine (sum_Right.calls _ _ [x] true _ (C_one _ _ _) (by simp) (by rw [Pure.right_some _ (by rw [cat_cons, cat_nil, List.append_nil, bl_length]; have := HC.out.2.2.1; have := HE.out; omega), cat_cons, cat_nil, List.append_nil, HC.out.1]; rfl)).mono ?_
  rintro e w5 ⟨rfl, g1⟩
  replace HB := Aside0.mk ((HB.out.alloc HB.out.size _).trans (g1.mono (HB.out.alloc HB.out.size _).size))
  clear g1
  have e1 : ((a0.size : Int) ≤ (x.size : Int)) = True := eq_true (by have := HC.out.2.2.1; omega)
  have e2 : (a0.size ≤ x.size) = True := eq_true (by have := HC.out.2.2.1; omega)
  go_wp2_with fail
  clear e1 e2
  refine (sum_Right.calls _ _ [x.extract a0.size x.size, a0] true _ (C_two _ _ _ _) (by simp) (by rw [Pure.right_some _ (by rw [cat_cons, cat_cons, cat_nil, List.append_nil, List.length_append, bl_length, bl_length, ByteArray.size_extract]; have := HC.out.2.2.1; have := HE.out; omega), cat_cons, cat_cons, cat_nil, List.append_nil, HC.out.2.2.2, HC.out.2.1]; rfl)).mono ?_
  rintro e w6 ⟨rfl, g1⟩
  replace HB := Aside0.mk ((HB.out.alloc HB.out.size _).trans (g1.mono (HB.out.alloc HB.out.size _).size))
  clear g1
  have d5 : decide ((n : Int) < 0) = false := decide_eq_false (by omega)
  have d6 : decide ((65535 : Int) < (n : Int)) = false := decide_eq_false (by have := HN.out; omega)
  have d7 : decide (65535 < n) = false := decide_eq_false (by have := HN.out; omega)
  by_cases c1 : a1 < 0
  · have b1 : decide (a1 < 0) = true := decide_eq_true c1
    clear c1
    go_wp2
    go_ret
    exact ⟨rfl, HB.out⟩
  have b1 : decide (a1 < 0) = false := decide_eq_false c1
  obtain ⟨i, rfl⟩ := Int.eq_ofNat_of_zero_le (show 0 ≤ a1 by omega)
  clear c1
  by_cases c2 : 8 * x.size ≤ i
  · have b2 : decide (8 * (x.size : Int) ≤ (i : Int)) = true := decide_eq_true (by omega)
    have b3 : decide (8 * x.size ≤ i) = true := decide_eq_true c2
    have b4 : wrap64 (8 * (x.size : Int)) = 8 * (x.size : Int) := by unfold wrap64; have := HC.out.2.2.1; have := HE.out; omega
    clear c2
    go_wp2
    go_ret
    exact ⟨rfl, HB.out⟩
  have b2 : decide (8 * (x.size : Int) ≤ (i : Int)) = false := decide_eq_false (by omega)
  have b3 : decide (8 * x.size ≤ i) = false := decide_eq_false c2
  have b4 : IntKind.i64.wrap (8 * (x.size : Int)) = 8 * (x.size : Int) := by rw [IntKind.wrap_i64]; have := HC.out.2.2.1; have := HE.out; omega
  have HI := Aside0.mk (show i / 8 < x.size by omega)
  clear c2
  have hcv := fun (wx : World) => Lib.run_convert_string_bytes (P := Try.prog) wx 9 25 5 x Try.underlying9 Try.underlying25 Try.underlying5
  go_wp2
  clear hcv
  have hcell : ∀ j, j < x.size → (Lib.bytesWorld w6 5 x).cell? ⟨w6.heap.size, j, none⟩ = some (.int .u8 ((bl x).getD j 0).toNat) := fun j hj => Lib.bytesWorld_cell _ _ _ _ hj
  have hfree : ∀ j, j < x.size → (Lib.bytesWorld w6 5 x).frozen? ⟨w6.heap.size, j, none⟩ = false := fun j hj => by
    have h := Lib.bytesWorld_at_new w6 5 x
    have hz : j < (Lib.bytesCells w6 5 x).size := by unfold Lib.bytesCells; rw [Array.size_append, Array.size_map]; exact Nat.lt_of_lt_of_le hj (Nat.le_add_right _ _)
    simp [World.frozen?, h]; omega
  have HW := Aside0.mk (show w.heap.size ≤ w6.heap.size from HB.out.size)
  replace HB := Aside0.mk (HB.out.trans (show Below w.heap.size w6 (Lib.bytesWorld w6 5 x) from ⟨rfl, rfl, rfl, by rw [Lib.bytesWorld_size]; omega, fun k hk => Lib.bytesWorld_at_old _ _ _ _ (Nat.lt_of_lt_of_le hk HB.out.size)⟩))
  generalize grownCap w6 x.size 0 5 = cap
  generalize Lib.bytesWorld w6 5 x = w7 at hcell hfree HB ⊢
  generalize w6.heap.size = b at hcell hfree HW ⊢
  have HJ := Aside0.mk (show i < 9223372036854775808 by have := HI.out; have := HC.out.2.2.1; have := HE.out; omega)
  obtain ⟨j, hj⟩ : ∃ j, j = i / 8 := ⟨_, rfl⟩
  rw [← hj] at HI
  have q0 : wrap64 ((i : Int) / 8) = (j : Int) := by unfold wrap64; have := HJ.out; omega
  have q1 : IntKind.i64.wrap ((i : Int) / 8) = (j : Int) := by rw [IntKind.wrap_i64]; have := HJ.out; omega
  have q2 : ((j : Int) < (x.size : Int)) = True := eq_true (by have := HI.out; omega)
  have q3 : (j < x.size) = True := eq_true HI.out
  have f0 := hcell j HI.out
  have f1 := hfree j HI.out
  have HH := Aside0.mk hcell
  have HQ := Aside0.mk hj
  clear hcell hfree hj
  go_region
  have hv := flip_bits ((bl x).getD j 0) i
  rw [List.getD_eq_getElem?_getD] at hv
  rw [hv]
  have hfc := flip_cells (l := bl x) (fun k hk => HH.out k (by rwa [bl_length] at hk)) i (by rw [bl_length, ← HQ.out]; exact HI.out)
  rw [← HQ.out, List.getD_eq_getElem?_getD] at hfc
  have hcb := run_convert_bytes_back (P := Try.prog) ((w7.setCell ⟨b, j, none⟩ (.int .u8 ((flipByte ((bl x)[j]?.getD 0) i).toNat : Int))).drew) 25 9 5 ⟨b, 0, none⟩ cap (flip (bl x) i) Try.underlying25 Try.underlying5 Try.underlying9 hfc
  rw [flip_length, bl_length] at hcb
  replace HB := Aside0.mk ((HB.out.setCell (p := ⟨b, j, none⟩) HW.out (.int .u8 ((flipByte ((bl x)[j]?.getD 0) i).toNat : Int))).drew)
  clear hfc hv q0 q1 q2 q3 f0 f1
  generalize (w7.setCell ⟨b, j, none⟩ (.int .u8 ((flipByte ((bl x)[j]?.getD 0) i).toNat : Int))).drew = w8 at HB hcb ⊢
  obtain ⟨z, hz⟩ : ∃ z : ByteArray, z = ⟨(flip (bl x) i).toArray⟩ := ⟨_, rfl⟩
  rw [← hz] at hcb
  have HZ := Aside0.mk (show csum (bl z) ≠ 0 ∧ z.size ≤ 6000 by
    have e : bl z = flip (bl x) i := by rw [hz]; simp [bl]
    refine ⟨by rw [e]; exact flip_wrong (bl x) i (by rw [bl_length, ← HQ.out]; exact HI.out) HC.out.1, ?_⟩
    rw [← bl_length, e, flip_length, bl_length]; have := HC.out.2.2.1; have := HE.out; omega)
  clear hz
  go_wp2_with fail
  clear hcb
  refine (sum_Right.calls _ _ [z] false _ (C_one _ _ _) (by simp) (by rw [Pure.right_some _ (by rw [cat_cons, cat_nil, List.append_nil, bl_length]; have := HZ.out.2; omega), cat_cons, cat_nil, List.append_nil, beq_eq_false_iff_ne.mpr HZ.out.1])).mono ?_
  rintro e w9 ⟨rfl, g1⟩
  replace HB := Aside0.mk ((HB.out.alloc HB.out.size _).trans (g1.mono (HB.out.alloc HB.out.size _).size))
  clear g1
  go_wp2
  go_ret
  exact ⟨rfl, HB.out⟩

theorem palanquinlaw02_SumSeals.calls (a0 : ByteArray) (a1 : Int) (r : Bool) (w : World) (h : palanquinlaw02_SumSeals.f a0 a1 = some r) :
    Calls Try.prog 3 #[.string a0, .int .i64 a1] w fun e w' => e = .returned (.bool r) ∧ Below w.heap.size w w' := by
  unfold palanquinlaw02_SumSeals.f at h
  split at h
  case isFalse => exact absurd h (by simp)
  obtain rfl := Option.some.inj h
  by_cases c : (a0.size : Int) % 2 = 1 ∨ 5000 < (a0.size : Int)
  · exact seals_skip a0 a1 w c
  · exact seals_main a0 a1 w (fun h => c (.inl h)) (fun h => c (.inr h))
end Go.Proofs.Ytejmipoolbodgaa.G
