/- Texts of this session, joined: each is a section. -/
import Derived.Test.YtcmalglippmocaaMClampTells2
import Derived.Test.YtcmalglippmocaaMClampTells5
import Derived.Test.YtcmalglippmocaaMClampTells10
import Derived.Test.YtcmalglippmocaaMClampTells13
import Derived.Test.YtcmalglippmocaaMClampTells8
import Derived.Test.YtcmalglippmocaaMClampTells12
import Derived.Test.YtcmalglippmocaaMClampTells11
import Derived.Test.YtcmalglippmocaaMClampTells3
import Derived.Test.YtcmalglippmocaaMClampTells4
set_option linter.unusedVariables false
set_option linter.unusedSimpArgs false
section
namespace Go.Proofs.Ytcmalglippmocaa.G
open Go.RowKit Go.Proofs.YtcmalglippmocaaW.PrintWords Go.Proofs.YtcmalglippmocaaW.PrintLast Go.Proofs.YtcmalglippmocaaW.PrintMore
attribute [local go_sem] max2_int min2_int max_two min_two max_three min_three max_four min_four

mutual
def palanquinref10_Find.j0 : Nat → ByteArray → Bool → Int → ByteArray → ByteArray → Int → Int → Option (Int × Int × Int × Bool)
 | 0, _, _, _, _, _, _, _ => none
 | k + 1, x0, x26, x384000, x384001, x384002, x384003, x384004 => if x26 = true then (some (0, 0, 0, false)) else (if (x384001.size : Int) = 4 then (if 0 < (x0.size : Int) then (palanquinref10_Find.j1 k x0 (wrap64 ((wrap64 (Int.tmod (bt x0 0) 16)) * 4))) else (none)) else (palanquinref10_Find.j1 k x0 40))
def palanquinref10_Find.j1 : Nat → ByteArray → Int → Option (Int × Int × Int × Bool)
 | 0, _, _ => none
 | k + 1, x0, x8 => if 0 ≤ x8 then (if x8 ≤ (x0.size : Int) then ((palanquinref07_Get.f (x0.extract (x8 : Int).toNat x0.size)).bind fun bt384 => ((palanquinref07_MSS.f k bt384.2.2.2.2.2.2.2.1).bind fun bt396 => (if bt396.2.2 = true then (if (Int.tmod (wrap64 (Int.tdiv bt384.2.2.2.2.1 2)) 2) = 0 then (some (0, 0, 0, false)) else (some (x8, wrap64 (20 + bt396.2.1), bt396.1, true))) else (some (0, 0, 0, false))))) else (none)) else (none)
end
def palanquinref10_Find.f (k : Nat) (a0 : ByteArray) : Option (Int × Int × Int × Bool) := (palanquinref09_Get.f k a0).bind fun bt377 => (if bt377.2.2.2.2.2 = 0 then (palanquinref10_Find.j0 k a0 (bt377.1 != 6) bt377.1 bt377.2.1 bt377.2.2.1 bt377.2.2.2.1 bt377.2.2.2.2.1) else (palanquinref10_Find.j0 k a0 true bt377.1 bt377.2.1 bt377.2.2.1 bt377.2.2.2.1 bt377.2.2.2.2.1))
set_option maxHeartbeats 8000000 in
set_option maxRecDepth 100000 in
theorem palanquinref10_Find.calls (k : Nat) (a0 : ByteArray) (r1 : Int) (r2 : Int) (r3 : Int) (r4 : Bool) (w : World) (h : palanquinref10_Find.f k a0 = some (r1, r2, r3, r4)) :
  Calls Try.prog 16 #[.string a0] w fun e w' => e = .returned (.tuple #[.int .i64 r1, .int .i64 r2, .int .i64 r3, .bool r4]) ∧ Below w.heap.size w w' := by
 have hu24 := Try.underlying24
 have hu69 := Try.underlying69
 have HB := mA (Below.refl w.heap.size w)
 have H : ((palanquinref09_Get.f k a0).bind fun bt377 => (if bt377.2.2.2.2.2 = 0 then (palanquinref10_Find.j0 k a0 (bt377.1 != 6) bt377.1 bt377.2.1 bt377.2.2.1 bt377.2.2.2.1 bt377.2.2.2.2.1) else (palanquinref10_Find.j0 k a0 true bt377.1 bt377.2.1 bt377.2.2.1 bt377.2.2.2.1 bt377.2.2.2.2.1))) = some (r1, r2, r3, r4) := h
 clear h
 replace H := Option.bind_eq_some_iff.mp H
 obtain ⟨⟨t377, t378, t379, t380, t381, t382⟩, A20, H⟩ := H
 try dsimp +instances only at H
 have A2 := mA A20
 clear A20
 have HC3 := mA H
 clear H
 go_enter Try.func16, Try.ntmps16
 go_upto_region 2 with (first | ((with_reducible refine gate_callee (f := 12) rfl ?_); refine goesL_ (some 17) rfl rfl Try.func12 (by kernel_rfl) rfl #[.string a0] rfl (by (try simp only [List.map_toArray, List.map_cons, List.map_nil]); first | done | rfl | (simp only [List.length_drop, List.length_take]; rfl)) ?_; (with_reducible refine (palanquinref09_Get.calls k a0 t377 t378 t379 t380 t381 t382 _ A2.out).mono ?_); rintro e w4 ⟨rfl, hb⟩; refine ⟨_, rfl, ?_⟩; have n0_ := mA (bP (by repeat (first | (with_reducible first | exact HB.out | apply bA | apply bN | apply bD) | exact HB.out)) hb); clear HB; have HB := n0_; clear n0_; (try clear hb); (try clear hb2); (try clear hk); (try clear hi)) | ((with_reducible refine gate_dst (N := 6) rfl ?_); refine box_event ?hg (N := 6) ?hd (cs := #[.int .i64 0, .string ⟨#[]⟩, .string ⟨#[]⟩, .int .i64 0, .int .i64 0]) (t := 24) ?hr ?_; (case hd => rfl); (case hg => rfl); (case hr => first | (go_simp; done) | (go_simp; rfl)); intro gb383 hg w5 hbox hb; obtain ⟨n0_, nq_⟩ := bpr (by repeat (first | (with_reducible first | exact HB.out | apply bA | apply bN | apply bD) | exact HB.out)) hb; have n1_ := mA (hbox); have n2_ := mA ((by rw [hg]; exact nq_ : w.heap.size ≤ gb383)); have n3_ := mA ((by rw [hg]; exact nq_ : w.heap.size ≤ gb383)); clear HB; have HB := n0_; have BK383 := n1_; have GW383 := n2_; have GE383 := n3_; clear nq_; clear n0_ n1_ n2_ n3_; clear hb hbox hg; obtain ⟨hcz6_0, hcz6_1, hcz6_2, hcz6_3, hcz6_4⟩ := bc5 BK383.out; obtain ⟨hfz6_0, hfz6_1, hfz6_2, hfz6_3, hfz6_4⟩ := bf5 BK383.out))
 (try simp only [Act.put, List.setIfInBounds_toArray, List.set_cons_zero, List.set_cons_succ])
 go_cut [26] (fun v26 wc => ∃ (kq : Nat) (x26_2 : Bool), v26 = .bool x26_2 ∧ Aside0 (palanquinref10_Find.j0 kq a0 x26_2 t377 t378 t379 t380 t381 = some (r1, r2, r3, r4)) ∧ Aside0 (kq ≤ k) ∧ Aside0 (wc.heap[gb383]? = some (.cells #[.int .i64 t377, .string t378, .string t379, .int .i64 t380, .int .i64 t381] 24 (0, 0))) ∧ Aside0 (Below w.heap.size w wc))
 case first =>
  have H := HC3.out
  clear HC3
  by_cases c7 : t382 = 0
  ·rw [if_pos c7] at H
   have c7b0 : (t382 == 0) = true := beq_iff_eq.mpr c7
   have c7b1 : (t382 != 0) = false := bne_eq_false_iff_eq.mpr c7
   clear c7
   (first | rw [c7b0] | (simp only [i64_w, i32_w]; rw [c7b0]) | skip)
   have H' := mA H
   clear H
   obtain ⟨hcz8_0, hcz8_1, hcz8_2, hcz8_3, hcz8_4⟩ := bc5 BK383.out
   obtain ⟨hfz8_0, hfz8_1, hfz8_2, hfz8_3, hfz8_4⟩ := bf5 BK383.out
   go_wp2
   go_meet
   case rel => exact ⟨_, ((t377 != 6)), (by first | rfl | (simp; done) | (simp [*]; done)), H', ⟨by first | omega | exact Nat.le_refl _⟩, ⟨by (with_reducible repeat (first | apply kN | apply kD | apply kA)); refine blk_put (cs := #[.int .i64 t377, .string t378, .string t379, .int .i64 t380, .int .i64 0]) ?_ 4 _ (by first | rfl | (simp [*]; done)); (with_reducible repeat (first | apply kN | apply kD | apply kA)); refine blk_put (cs := #[.int .i64 t377, .string t378, .string t379, .int .i64 0, .int .i64 0]) ?_ 3 _ (by first | rfl | (simp [*]; done)); (with_reducible repeat (first | apply kN | apply kD | apply kA)); refine blk_put (cs := #[.int .i64 t377, .string t378, .string ⟨#[]⟩, .int .i64 0, .int .i64 0]) ?_ 2 _ (by first | rfl | (simp [*]; done)); (with_reducible repeat (first | apply kN | apply kD | apply kA)); refine blk_put (cs := #[.int .i64 t377, .string ⟨#[]⟩, .string ⟨#[]⟩, .int .i64 0, .int .i64 0]) ?_ 1 _ (by first | rfl | (simp [*]; done)); (with_reducible repeat (first | apply kN | apply kD | apply kA)); refine blk_put (cs := #[.int .i64 0, .string ⟨#[]⟩, .string ⟨#[]⟩, .int .i64 0, .int .i64 0]) ?_ 0 _ (by first | rfl | (simp [*]; done)); (with_reducible repeat (first | apply kN | apply kD | apply kA)); exact BK383.out⟩, ⟨by repeat (first | (with_reducible first | exact HB.out | apply bA | apply bN | apply bD | refine bS ?_ GE383.out) | exact HB.out)⟩⟩
  ·rw [if_neg c7] at H
   have c7b0 : (t382 == 0) = false := beq_eq_false_iff_ne.mpr c7
   have c7b1 : (t382 != 0) = true := bne_iff_ne.mpr c7
   (first | rw [c7b0] | (simp only [i64_w, i32_w]; rw [c7b0]) | skip)
   have H' := mA H
   clear H
   go_wp2
   go_meet
   case rel => exact ⟨_, (true), (by first | rfl | (simp; done) | (simp [*]; done)), H', ⟨by first | omega | exact Nat.le_refl _⟩, ⟨by (with_reducible repeat (first | apply kN | apply kD | apply kA)); refine blk_put (cs := #[.int .i64 t377, .string t378, .string t379, .int .i64 t380, .int .i64 0]) ?_ 4 _ (by first | rfl | (simp [*]; done)); (with_reducible repeat (first | apply kN | apply kD | apply kA)); refine blk_put (cs := #[.int .i64 t377, .string t378, .string t379, .int .i64 0, .int .i64 0]) ?_ 3 _ (by first | rfl | (simp [*]; done)); (with_reducible repeat (first | apply kN | apply kD | apply kA)); refine blk_put (cs := #[.int .i64 t377, .string t378, .string ⟨#[]⟩, .int .i64 0, .int .i64 0]) ?_ 2 _ (by first | rfl | (simp [*]; done)); (with_reducible repeat (first | apply kN | apply kD | apply kA)); refine blk_put (cs := #[.int .i64 t377, .string ⟨#[]⟩, .string ⟨#[]⟩, .int .i64 0, .int .i64 0]) ?_ 1 _ (by first | rfl | (simp [*]; done)); (with_reducible repeat (first | apply kN | apply kD | apply kA)); refine blk_put (cs := #[.int .i64 0, .string ⟨#[]⟩, .string ⟨#[]⟩, .int .i64 0, .int .i64 0]) ?_ 0 _ (by first | rfl | (simp [*]; done)); (with_reducible repeat (first | apply kN | apply kD | apply kA)); exact BK383.out⟩, ⟨by repeat (first | (with_reducible first | exact HB.out | apply bA | apply bN | apply bD | refine bS ?_ GE383.out) | exact HB.out)⟩⟩
 case rest =>
  clear HC3
  try clear c1
  try clear p2
  try clear c7
  try clear c7b0
  try clear c7b1
  try clear hcz6_0 hcz6_1 hcz6_2 hcz6_3 hcz6_4
  try clear hcz8_0 hcz8_1 hcz8_2 hcz8_3 hcz8_4
  try clear hfz6_0 hfz6_1 hfz6_2 hfz6_3 hfz6_4
  try clear hfz8_0 hfz8_1 hfz8_2 hfz8_3 hfz8_4
  obtain ⟨kq, x26_2, rfl, HA, HJ2, BK383, HB⟩ := hcut
  cases kq with
  | zero => exact absurd HA.out (by simp [palanquinref10_Find.j0])
  | succ kj2 =>
   have H := HA.out
   clear HA
   simp only [palanquinref10_Find.j0] at H
   by_cases c9 : x26_2 = true
   ·subst c9
    rw [if_pos rfl] at H
    simp only [Option.some.injEq, Prod.mk.injEq] at H
    obtain ⟨rfl, rfl, rfl, rfl⟩ := H
    go_wp2
    refine bodyPost_ret (results_list (rs := [.tmp 2, .tmp 3, .tmp 4, .tmp 5]) rfl (by simp) (.tmp (.tmp (.tmp (.tmp .nil))))) rfl ?_
    exact ⟨by first | rfl | (simp [errW_none, errW_some] <;> rfl) | (simp [*, errW_none, errW_some] <;> rfl), by repeat (first | (with_reducible first | exact HB.out | apply bA | apply bN | apply bD | refine bS ?_ GE383.out) | exact HB.out)⟩
   ·replace c9 := Bool.eq_false_iff.mpr c9
    subst c9
    rw [if_neg (show ¬ (false = true) by decide)] at H
    have HC10 := mA H
    clear H
    obtain ⟨hcz11_0, hcz11_1, hcz11_2, hcz11_3, hcz11_4⟩ := bc5 BK383.out
    obtain ⟨hfz11_0, hfz11_1, hfz11_2, hfz11_3, hfz11_4⟩ := bf5 BK383.out
    go_upto_if 30 with (fail)
    go_cut [8] (fun v8 wc => ∃ (kq : Nat) (x8_9 : Int), v8 = .int .i64 x8_9 ∧ Aside0 (palanquinref10_Find.j1 kq a0 x8_9 = some (r1, r2, r3, r4)) ∧ Aside0 (kq ≤ kj2) ∧ Aside0 (wc.heap[gb383]? = some (.cells #[.int .i64 t377, .string t378, .string t379, .int .i64 t380, .int .i64 t381] 24 (0, 0))) ∧ Aside0 (Below w.heap.size w wc))
    case first =>
     have H := HC10.out
     clear HC10
     by_cases c12 : (t378.size : Int) = 4
     ·rw [if_pos c12] at H
      have c12b0 : ((t378.size : Int) == 4) = true := beq_iff_eq.mpr c12
      have c12b1 : ((t378.size : Int) != 4) = false := bne_eq_false_iff_eq.mpr c12
      clear c12
      (first | rw [c12b0] | (simp only [i64_w, i32_w]; rw [c12b0]) | skip)
      by_cases c13 : 0 < (a0.size : Int)
      ·rw [if_pos c13] at H
       have c13b0 : decide (0 < (a0.size : Int)) = true := decide_eq_true c13
       have c13b1 : decide (0 < a0.size) = true := decide_eq_true (by omega)
       clear c13
       have H' := mA H
       clear H
       have p14 : 0 ≤ (0 : Int) := (by omega)
       have q14 : 0 < a0.size := (by have : (0 : Int) < (a0.size : Int) := of_decide_eq_true (by first | (with_reducible assumption) | assumption); omega)
       have hx14 : ∀ h : 0 < a0.size, ((a0[0]'h).toNat : Int) = bt a0 0 := bt_at a0 0
       clear p14
       have qi14 : (0 < (a0.size : Int)) = True := eq_true (of_decide_eq_true (by first | (with_reducible assumption) | assumption))
       replace q14 := eq_true q14
       go_wp2
       go_meet
       case rel => exact ⟨_, (wrap64 ((wrap64 (Int.tmod (bt a0 0) 16)) * 4)), (by first | rfl | (simp; done) | (simp [*]; done)), H', ⟨by have := HJ2.out; first | omega | exact Nat.le_refl _⟩, ⟨by (with_reducible repeat (first | apply kN | apply kD | apply kA)); exact BK383.out⟩, ⟨by repeat (first | (with_reducible first | exact HB.out | apply bA | apply bN | apply bD | refine bS ?_ GE383.out) | exact HB.out)⟩⟩
      ·rw [if_neg c13] at H
       exact absurd H (by simp)
     ·rw [if_neg c12] at H
      have c12b0 : ((t378.size : Int) == 4) = false := beq_eq_false_iff_ne.mpr c12
      have c12b1 : ((t378.size : Int) != 4) = true := bne_iff_ne.mpr c12
      (first | rw [c12b0] | (simp only [i64_w, i32_w]; rw [c12b0]) | skip)
      have H' := mA H
      clear H
      go_wp2
      go_meet
      case rel => exact ⟨_, (40), (by first | rfl | (simp; done) | (simp [*]; done)), H', ⟨by have := HJ2.out; first | omega | exact Nat.le_refl _⟩, ⟨by (with_reducible repeat (first | apply kN | apply kD | apply kA)); exact BK383.out⟩, ⟨by repeat (first | (with_reducible first | exact HB.out | apply bA | apply bN | apply bD | refine bS ?_ GE383.out) | exact HB.out)⟩⟩
    case rest =>
     clear HC10
     try clear c1
     try clear p1
     try clear q1
     try clear hx1
     try clear qi1
     try clear p2
     try clear p6
     try clear c7
     try clear c7b0
     try clear c7b1
     try clear c9
     try clear c12
     try clear c12b0
     try clear c12b1
     try clear c13
     try clear c13b0
     try clear c13b1
     try clear p14
     try clear q14
     try clear hx14
     try clear qi14
     try clear hcz11_0 hcz11_1 hcz11_2 hcz11_3 hcz11_4
     try clear hcz6_0 hcz6_1 hcz6_2 hcz6_3 hcz6_4
     try clear hcz8_0 hcz8_1 hcz8_2 hcz8_3 hcz8_4
     try clear hfz11_0 hfz11_1 hfz11_2 hfz11_3 hfz11_4
     try clear hfz6_0 hfz6_1 hfz6_2 hfz6_3 hfz6_4
     try clear hfz8_0 hfz8_1 hfz8_2 hfz8_3 hfz8_4
     try clear p14
     try clear p2
     try clear q14
     obtain ⟨kq, x8_9, rfl, HA, HJ9, BK383, HB⟩ := hcut
     cases kq with
     | zero => exact absurd HA.out (by simp [palanquinref10_Find.j1])
     | succ kj9 =>
      have H := HA.out
      clear HA
      simp only [palanquinref10_Find.j1] at H
      by_cases c15 : 0 ≤ x8_9
      ·rw [if_pos c15] at H
       have c15b0 := eq_true c15
       have c15b1 : decide (0 ≤ x8_9) = true := decide_eq_true c15
       clear c15
       by_cases c16 : x8_9 ≤ (a0.size : Int)
       ·rw [if_pos c16] at H
        have c16b0 := eq_true c16
        have c16b1 : decide (x8_9 ≤ (a0.size : Int)) = true := decide_eq_true c16
        clear c16
        replace H := Option.bind_eq_some_iff.mp H
        obtain ⟨⟨t384, t385, t386, t387, t388, t389, t390, t391, t392, t393, t394⟩, A170, H⟩ := H
        try dsimp +instances only at H
        have A17 := mA A170
        clear A170
        replace H := Option.bind_eq_some_iff.mp H
        obtain ⟨⟨t396, t397, t398⟩, A180, H⟩ := H
        try dsimp +instances only at H
        have A18 := mA A180
        clear A180
        by_cases c19 : t398 = true
        ·subst c19
         rw [if_pos rfl] at H
         by_cases c20 : (Int.tmod (wrap64 (Int.tdiv t388 2)) 2) = 0
         ·rw [if_pos c20] at H
          have c20b0 : ((Int.tmod (wrap64 (Int.tdiv t388 2)) 2) == 0) = true := beq_iff_eq.mpr c20
          have c20b1 : ((Int.tmod (wrap64 (Int.tdiv t388 2)) 2) != 0) = false := bne_eq_false_iff_eq.mpr c20
          clear c20
          simp only [Option.some.injEq, Prod.mk.injEq] at H
          obtain ⟨rfl, rfl, rfl, rfl⟩ := H
          go_wp2_with (first | ((with_reducible refine gate_callee (f := 30) rfl ?_); refine goesL_ (some 40) rfl rfl Try.func30 (by kernel_rfl) rfl #[.string (a0.extract (x8_9 : Int).toNat a0.size)] rfl (by (try simp only [List.map_toArray, List.map_cons, List.map_nil]); first | done | rfl | (simp only [List.length_drop, List.length_take]; rfl)) ?_; (with_reducible refine (palanquinref07_Get.calls (a0.extract (x8_9 : Int).toNat a0.size) t384 t385 t386 t387 t388 t389 t390 t391 t392 t393 t394 _ A17.out).mono ?_); rintro e w21 ⟨rfl, hb⟩; refine ⟨_, rfl, ?_⟩; have n0_ := mA (blk_below (g := gb383) (o := .cells #[.int .i64 t377, .string t378, .string t379, .int .i64 t380, .int .i64 t381] 24 (0, 0)) (by (with_reducible repeat (first | apply kN | apply kD | apply kA)); exact BK383.out) hb); have n1_ := mA (bP (by repeat (first | (with_reducible first | exact HB.out | apply bA | apply bN | apply bD | refine bS ?_ GE383.out) | exact HB.out)) hb); clear BK383; clear HB; have BK383 := n0_; have HB := n1_; clear n0_ n1_; (try clear hb); (try clear hb2); (try clear hk); (try clear hi)) | ((with_reducible refine gate_dst (N := 9) rfl ?_); refine box_event ?hg (N := 9) ?hd (cs := #[.int .i64 0, .int .i64 0, .int .u32 0, .int .u32 0, .int .i64 0, .int .i64 0, .int .i64 0, .string ⟨#[]⟩, .string ⟨#[]⟩]) (t := 69) ?hr ?_; (case hd => rfl); (case hg => rfl); (case hr => first | (go_simp; done) | (go_simp; rfl)); intro gb395 hg w22 hbox hb; obtain ⟨n0_, nl383_⟩ := bt3 (g := gb383) (o := .cells #[.int .i64 t377, .string t378, .string t379, .int .i64 t380, .int .i64 t381] 24 (0, 0)) (by (with_reducible repeat (first | apply kN | apply kD | apply kA)); exact BK383.out) hb; obtain ⟨n1_, nq_⟩ := bpr (by repeat (first | (with_reducible first | exact HB.out | apply bA | apply bN | apply bD | refine bS ?_ GE383.out) | exact HB.out)) hb; have n2_ := mA (hbox); have n3_ := mA ((by rw [hg]; exact nq_ : w.heap.size ≤ gb395)); have n4_ := mA ((by rw [hg]; exact nq_ : w.heap.size ≤ gb395)); have n5_ := mA ((by rw [hg]; exact Nat.ne_of_lt nl383_ : gb383 ≠ gb395)); have n6_ := mA ((by rw [hg]; exact Nat.ne_of_gt nl383_ : gb395 ≠ gb383)); clear BK383; clear HB; have BK383 := n0_; have HB := n1_; have BK395 := n2_; have GW395 := n3_; have GE395 := n4_; have NB383_395 := n5_; have NB395_383 := n6_; clear nl383_; clear nq_; clear n0_ n1_ n2_ n3_ n4_ n5_ n6_; clear hb hbox hg; have hnb23 := NB395_383.out; have hnc23 := NB383_395.out; obtain ⟨hcz24_0, hcz24_1, hcz24_2, hcz24_3, hcz24_4, hcz24_5, hcz24_6, hcz24_7, hcz24_8⟩ := bc9 BK395.out; obtain ⟨hfz24_0, hfz24_1, hfz24_2, hfz24_3, hfz24_4, hfz24_5, hfz24_6, hfz24_7, hfz24_8⟩ := bf9 BK395.out) | ((with_reducible refine gate_callee (f := 41) rfl ?_); refine goesL_ (some 47) rfl rfl Try.func41 (by kernel_rfl) rfl #[.string t391] rfl (by (try simp only [List.map_toArray, List.map_cons, List.map_nil]); first | done | rfl | (simp only [List.length_drop, List.length_take]; rfl)) ?_; (with_reducible refine (palanquinref07_MSS.calls kj9 t391 t396 t397 true _ A18.out).mono ?_); rintro e w25 ⟨rfl, hb⟩; refine ⟨_, rfl, ?_⟩; have n0_ := mA (blk_below (g := gb383) (o := .cells #[.int .i64 t377, .string t378, .string t379, .int .i64 t380, .int .i64 t381] 24 (0, 0)) (by (with_reducible repeat (first | apply kN | apply kD | apply kA | refine blk_far ?_ NB383_395.out _)); exact BK383.out) hb); have n1_ := mA (blk_below (g := gb395) (o := .cells #[.int .i64 t384, .int .i64 t385, .int .u32 t386, .int .u32 t387, .int .i64 t388, .int .i64 t389, .int .i64 t390, .string t391, .string t392] 69 (0, 0)) (by (with_reducible repeat (first | apply kN | apply kD | apply kA)); refine blk_put (cs := #[.int .i64 t384, .int .i64 t385, .int .u32 t386, .int .u32 t387, .int .i64 t388, .int .i64 t389, .int .i64 t390, .string t391, .string ⟨#[]⟩]) ?_ 8 _ (by first | rfl | (simp [*]; done)); (with_reducible repeat (first | apply kN | apply kD | apply kA)); refine blk_put (cs := #[.int .i64 t384, .int .i64 t385, .int .u32 t386, .int .u32 t387, .int .i64 t388, .int .i64 t389, .int .i64 t390, .string ⟨#[]⟩, .string ⟨#[]⟩]) ?_ 7 _ (by first | rfl | (simp [*]; done)); (with_reducible repeat (first | apply kN | apply kD | apply kA)); refine blk_put (cs := #[.int .i64 t384, .int .i64 t385, .int .u32 t386, .int .u32 t387, .int .i64 t388, .int .i64 t389, .int .i64 0, .string ⟨#[]⟩, .string ⟨#[]⟩]) ?_ 6 _ (by first | rfl | (simp [*]; done)); (with_reducible repeat (first | apply kN | apply kD | apply kA)); refine blk_put (cs := #[.int .i64 t384, .int .i64 t385, .int .u32 t386, .int .u32 t387, .int .i64 t388, .int .i64 0, .int .i64 0, .string ⟨#[]⟩, .string ⟨#[]⟩]) ?_ 5 _ (by first | rfl | (simp [*]; done)); (with_reducible repeat (first | apply kN | apply kD | apply kA)); refine blk_put (cs := #[.int .i64 t384, .int .i64 t385, .int .u32 t386, .int .u32 t387, .int .i64 0, .int .i64 0, .int .i64 0, .string ⟨#[]⟩, .string ⟨#[]⟩]) ?_ 4 _ (by first | rfl | (simp [*]; done)); (with_reducible repeat (first | apply kN | apply kD | apply kA)); refine blk_put (cs := #[.int .i64 t384, .int .i64 t385, .int .u32 t386, .int .u32 0, .int .i64 0, .int .i64 0, .int .i64 0, .string ⟨#[]⟩, .string ⟨#[]⟩]) ?_ 3 _ (by first | rfl | (simp [*]; done)); (with_reducible repeat (first | apply kN | apply kD | apply kA)); refine blk_put (cs := #[.int .i64 t384, .int .i64 t385, .int .u32 0, .int .u32 0, .int .i64 0, .int .i64 0, .int .i64 0, .string ⟨#[]⟩, .string ⟨#[]⟩]) ?_ 2 _ (by first | rfl | (simp [*]; done)); (with_reducible repeat (first | apply kN | apply kD | apply kA)); refine blk_put (cs := #[.int .i64 t384, .int .i64 0, .int .u32 0, .int .u32 0, .int .i64 0, .int .i64 0, .int .i64 0, .string ⟨#[]⟩, .string ⟨#[]⟩]) ?_ 1 _ (by first | rfl | (simp [*]; done)); (with_reducible repeat (first | apply kN | apply kD | apply kA)); refine blk_put (cs := #[.int .i64 0, .int .i64 0, .int .u32 0, .int .u32 0, .int .i64 0, .int .i64 0, .int .i64 0, .string ⟨#[]⟩, .string ⟨#[]⟩]) ?_ 0 _ (by first | rfl | (simp [*]; done)); (with_reducible repeat (first | apply kN | apply kD | apply kA)); exact BK395.out) hb); have n2_ := mA (bP (by repeat (first | (with_reducible first | exact HB.out | apply bA | apply bN | apply bD | refine bS ?_ GE383.out | refine bS ?_ GE395.out) | exact HB.out)) hb); clear BK383; clear BK395; clear HB; have BK383 := n0_; have BK395 := n1_; have HB := n2_; clear n0_ n1_ n2_; (try clear hb); (try clear hb2); (try clear hk); (try clear hi); obtain ⟨hcz26_0, hcz26_1, hcz26_2, hcz26_3, hcz26_4, hcz26_5, hcz26_6, hcz26_7, hcz26_8⟩ := bc9 BK395.out; obtain ⟨hfz26_0, hfz26_1, hfz26_2, hfz26_3, hfz26_4, hfz26_5, hfz26_6, hfz26_7, hfz26_8⟩ := bf9 BK395.out))
          refine bodyPost_ret (results_list (rs := [.tmp 2, .tmp 3, .tmp 4, .tmp 5]) rfl (by simp) (.tmp (.tmp (.tmp (.tmp .nil))))) rfl ?_
          exact ⟨by first | rfl | (simp [errW_none, errW_some] <;> rfl) | (simp [*, errW_none, errW_some] <;> rfl), by repeat (first | (with_reducible first | exact HB.out | apply bA | apply bN | apply bD | refine bS ?_ GE383.out | refine bS ?_ GE395.out) | exact HB.out)⟩
         ·rw [if_neg c20] at H
          have c20b0 : ((Int.tmod (wrap64 (Int.tdiv t388 2)) 2) == 0) = false := beq_eq_false_iff_ne.mpr c20
          have c20b1 : ((Int.tmod (wrap64 (Int.tdiv t388 2)) 2) != 0) = true := bne_iff_ne.mpr c20
          simp only [Option.some.injEq, Prod.mk.injEq] at H
          obtain ⟨rfl, rfl, rfl, rfl⟩ := H
          go_wp2_with (first | ((with_reducible refine gate_callee (f := 30) rfl ?_); refine goesL_ (some 40) rfl rfl Try.func30 (by kernel_rfl) rfl #[.string (a0.extract (x8_9 : Int).toNat a0.size)] rfl (by (try simp only [List.map_toArray, List.map_cons, List.map_nil]); first | done | rfl | (simp only [List.length_drop, List.length_take]; rfl)) ?_; (with_reducible refine (palanquinref07_Get.calls (a0.extract (x8_9 : Int).toNat a0.size) t384 t385 t386 t387 t388 t389 t390 t391 t392 t393 t394 _ A17.out).mono ?_); rintro e w27 ⟨rfl, hb⟩; refine ⟨_, rfl, ?_⟩; have n0_ := mA (blk_below (g := gb383) (o := .cells #[.int .i64 t377, .string t378, .string t379, .int .i64 t380, .int .i64 t381] 24 (0, 0)) (by (with_reducible repeat (first | apply kN | apply kD | apply kA)); exact BK383.out) hb); have n1_ := mA (bP (by repeat (first | (with_reducible first | exact HB.out | apply bA | apply bN | apply bD | refine bS ?_ GE383.out) | exact HB.out)) hb); clear BK383; clear HB; have BK383 := n0_; have HB := n1_; clear n0_ n1_; (try clear hb); (try clear hb2); (try clear hk); (try clear hi)) | ((with_reducible refine gate_dst (N := 9) rfl ?_); refine box_event ?hg (N := 9) ?hd (cs := #[.int .i64 0, .int .i64 0, .int .u32 0, .int .u32 0, .int .i64 0, .int .i64 0, .int .i64 0, .string ⟨#[]⟩, .string ⟨#[]⟩]) (t := 69) ?hr ?_; (case hd => rfl); (case hg => rfl); (case hr => first | (go_simp; done) | (go_simp; rfl)); intro gb395 hg w28 hbox hb; obtain ⟨n0_, nl383_⟩ := bt3 (g := gb383) (o := .cells #[.int .i64 t377, .string t378, .string t379, .int .i64 t380, .int .i64 t381] 24 (0, 0)) (by (with_reducible repeat (first | apply kN | apply kD | apply kA)); exact BK383.out) hb; obtain ⟨n1_, nq_⟩ := bpr (by repeat (first | (with_reducible first | exact HB.out | apply bA | apply bN | apply bD | refine bS ?_ GE383.out) | exact HB.out)) hb; have n2_ := mA (hbox); have n3_ := mA ((by rw [hg]; exact nq_ : w.heap.size ≤ gb395)); have n4_ := mA ((by rw [hg]; exact nq_ : w.heap.size ≤ gb395)); have n5_ := mA ((by rw [hg]; exact Nat.ne_of_lt nl383_ : gb383 ≠ gb395)); have n6_ := mA ((by rw [hg]; exact Nat.ne_of_gt nl383_ : gb395 ≠ gb383)); clear BK383; clear HB; have BK383 := n0_; have HB := n1_; have BK395 := n2_; have GW395 := n3_; have GE395 := n4_; have NB383_395 := n5_; have NB395_383 := n6_; clear nl383_; clear nq_; clear n0_ n1_ n2_ n3_ n4_ n5_ n6_; clear hb hbox hg; have hnb29 := NB395_383.out; have hnc29 := NB383_395.out; obtain ⟨hcz30_0, hcz30_1, hcz30_2, hcz30_3, hcz30_4, hcz30_5, hcz30_6, hcz30_7, hcz30_8⟩ := bc9 BK395.out; obtain ⟨hfz30_0, hfz30_1, hfz30_2, hfz30_3, hfz30_4, hfz30_5, hfz30_6, hfz30_7, hfz30_8⟩ := bf9 BK395.out) | ((with_reducible refine gate_callee (f := 41) rfl ?_); refine goesL_ (some 47) rfl rfl Try.func41 (by kernel_rfl) rfl #[.string t391] rfl (by (try simp only [List.map_toArray, List.map_cons, List.map_nil]); first | done | rfl | (simp only [List.length_drop, List.length_take]; rfl)) ?_; (with_reducible refine (palanquinref07_MSS.calls kj9 t391 t396 t397 true _ A18.out).mono ?_); rintro e w31 ⟨rfl, hb⟩; refine ⟨_, rfl, ?_⟩; have n0_ := mA (blk_below (g := gb383) (o := .cells #[.int .i64 t377, .string t378, .string t379, .int .i64 t380, .int .i64 t381] 24 (0, 0)) (by (with_reducible repeat (first | apply kN | apply kD | apply kA | refine blk_far ?_ NB383_395.out _)); exact BK383.out) hb); have n1_ := mA (blk_below (g := gb395) (o := .cells #[.int .i64 t384, .int .i64 t385, .int .u32 t386, .int .u32 t387, .int .i64 t388, .int .i64 t389, .int .i64 t390, .string t391, .string t392] 69 (0, 0)) (by (with_reducible repeat (first | apply kN | apply kD | apply kA)); refine blk_put (cs := #[.int .i64 t384, .int .i64 t385, .int .u32 t386, .int .u32 t387, .int .i64 t388, .int .i64 t389, .int .i64 t390, .string t391, .string ⟨#[]⟩]) ?_ 8 _ (by first | rfl | (simp [*]; done)); (with_reducible repeat (first | apply kN | apply kD | apply kA)); refine blk_put (cs := #[.int .i64 t384, .int .i64 t385, .int .u32 t386, .int .u32 t387, .int .i64 t388, .int .i64 t389, .int .i64 t390, .string ⟨#[]⟩, .string ⟨#[]⟩]) ?_ 7 _ (by first | rfl | (simp [*]; done)); (with_reducible repeat (first | apply kN | apply kD | apply kA)); refine blk_put (cs := #[.int .i64 t384, .int .i64 t385, .int .u32 t386, .int .u32 t387, .int .i64 t388, .int .i64 t389, .int .i64 0, .string ⟨#[]⟩, .string ⟨#[]⟩]) ?_ 6 _ (by first | rfl | (simp [*]; done)); (with_reducible repeat (first | apply kN | apply kD | apply kA)); refine blk_put (cs := #[.int .i64 t384, .int .i64 t385, .int .u32 t386, .int .u32 t387, .int .i64 t388, .int .i64 0, .int .i64 0, .string ⟨#[]⟩, .string ⟨#[]⟩]) ?_ 5 _ (by first | rfl | (simp [*]; done)); (with_reducible repeat (first | apply kN | apply kD | apply kA)); refine blk_put (cs := #[.int .i64 t384, .int .i64 t385, .int .u32 t386, .int .u32 t387, .int .i64 0, .int .i64 0, .int .i64 0, .string ⟨#[]⟩, .string ⟨#[]⟩]) ?_ 4 _ (by first | rfl | (simp [*]; done)); (with_reducible repeat (first | apply kN | apply kD | apply kA)); refine blk_put (cs := #[.int .i64 t384, .int .i64 t385, .int .u32 t386, .int .u32 0, .int .i64 0, .int .i64 0, .int .i64 0, .string ⟨#[]⟩, .string ⟨#[]⟩]) ?_ 3 _ (by first | rfl | (simp [*]; done)); (with_reducible repeat (first | apply kN | apply kD | apply kA)); refine blk_put (cs := #[.int .i64 t384, .int .i64 t385, .int .u32 0, .int .u32 0, .int .i64 0, .int .i64 0, .int .i64 0, .string ⟨#[]⟩, .string ⟨#[]⟩]) ?_ 2 _ (by first | rfl | (simp [*]; done)); (with_reducible repeat (first | apply kN | apply kD | apply kA)); refine blk_put (cs := #[.int .i64 t384, .int .i64 0, .int .u32 0, .int .u32 0, .int .i64 0, .int .i64 0, .int .i64 0, .string ⟨#[]⟩, .string ⟨#[]⟩]) ?_ 1 _ (by first | rfl | (simp [*]; done)); (with_reducible repeat (first | apply kN | apply kD | apply kA)); refine blk_put (cs := #[.int .i64 0, .int .i64 0, .int .u32 0, .int .u32 0, .int .i64 0, .int .i64 0, .int .i64 0, .string ⟨#[]⟩, .string ⟨#[]⟩]) ?_ 0 _ (by first | rfl | (simp [*]; done)); (with_reducible repeat (first | apply kN | apply kD | apply kA)); exact BK395.out) hb); have n2_ := mA (bP (by repeat (first | (with_reducible first | exact HB.out | apply bA | apply bN | apply bD | refine bS ?_ GE383.out | refine bS ?_ GE395.out) | exact HB.out)) hb); clear BK383; clear BK395; clear HB; have BK383 := n0_; have BK395 := n1_; have HB := n2_; clear n0_ n1_ n2_; (try clear hb); (try clear hb2); (try clear hk); (try clear hi); obtain ⟨hcz32_0, hcz32_1, hcz32_2, hcz32_3, hcz32_4, hcz32_5, hcz32_6, hcz32_7, hcz32_8⟩ := bc9 BK395.out; obtain ⟨hfz32_0, hfz32_1, hfz32_2, hfz32_3, hfz32_4, hfz32_5, hfz32_6, hfz32_7, hfz32_8⟩ := bf9 BK395.out))
          refine bodyPost_ret (results_list (rs := [.tmp 2, .tmp 3, .tmp 4, .tmp 5]) rfl (by simp) (.tmp (.tmp (.tmp (.tmp .nil))))) rfl ?_
          exact ⟨by first | rfl | (simp [errW_none, errW_some] <;> rfl) | (simp [*, errW_none, errW_some] <;> rfl), by repeat (first | (with_reducible first | exact HB.out | apply bA | apply bN | apply bD | refine bS ?_ GE383.out | refine bS ?_ GE395.out) | exact HB.out)⟩
        ·replace c19 := Bool.eq_false_iff.mpr c19
         subst c19
         rw [if_neg (show ¬ (false = true) by decide)] at H
         simp only [Option.some.injEq, Prod.mk.injEq] at H
         obtain ⟨rfl, rfl, rfl, rfl⟩ := H
         go_wp2_with (first | ((with_reducible refine gate_callee (f := 30) rfl ?_); refine goesL_ (some 40) rfl rfl Try.func30 (by kernel_rfl) rfl #[.string (a0.extract (x8_9 : Int).toNat a0.size)] rfl (by (try simp only [List.map_toArray, List.map_cons, List.map_nil]); first | done | rfl | (simp only [List.length_drop, List.length_take]; rfl)) ?_; (with_reducible refine (palanquinref07_Get.calls (a0.extract (x8_9 : Int).toNat a0.size) t384 t385 t386 t387 t388 t389 t390 t391 t392 t393 t394 _ A17.out).mono ?_); rintro e w33 ⟨rfl, hb⟩; refine ⟨_, rfl, ?_⟩; have n0_ := mA (blk_below (g := gb383) (o := .cells #[.int .i64 t377, .string t378, .string t379, .int .i64 t380, .int .i64 t381] 24 (0, 0)) (by (with_reducible repeat (first | apply kN | apply kD | apply kA)); exact BK383.out) hb); have n1_ := mA (bP (by repeat (first | (with_reducible first | exact HB.out | apply bA | apply bN | apply bD | refine bS ?_ GE383.out) | exact HB.out)) hb); clear BK383; clear HB; have BK383 := n0_; have HB := n1_; clear n0_ n1_; (try clear hb); (try clear hb2); (try clear hk); (try clear hi)) | ((with_reducible refine gate_dst (N := 9) rfl ?_); refine box_event ?hg (N := 9) ?hd (cs := #[.int .i64 0, .int .i64 0, .int .u32 0, .int .u32 0, .int .i64 0, .int .i64 0, .int .i64 0, .string ⟨#[]⟩, .string ⟨#[]⟩]) (t := 69) ?hr ?_; (case hd => rfl); (case hg => rfl); (case hr => first | (go_simp; done) | (go_simp; rfl)); intro gb395 hg w34 hbox hb; obtain ⟨n0_, nl383_⟩ := bt3 (g := gb383) (o := .cells #[.int .i64 t377, .string t378, .string t379, .int .i64 t380, .int .i64 t381] 24 (0, 0)) (by (with_reducible repeat (first | apply kN | apply kD | apply kA)); exact BK383.out) hb; obtain ⟨n1_, nq_⟩ := bpr (by repeat (first | (with_reducible first | exact HB.out | apply bA | apply bN | apply bD | refine bS ?_ GE383.out) | exact HB.out)) hb; have n2_ := mA (hbox); have n3_ := mA ((by rw [hg]; exact nq_ : w.heap.size ≤ gb395)); have n4_ := mA ((by rw [hg]; exact nq_ : w.heap.size ≤ gb395)); have n5_ := mA ((by rw [hg]; exact Nat.ne_of_lt nl383_ : gb383 ≠ gb395)); have n6_ := mA ((by rw [hg]; exact Nat.ne_of_gt nl383_ : gb395 ≠ gb383)); clear BK383; clear HB; have BK383 := n0_; have HB := n1_; have BK395 := n2_; have GW395 := n3_; have GE395 := n4_; have NB383_395 := n5_; have NB395_383 := n6_; clear nl383_; clear nq_; clear n0_ n1_ n2_ n3_ n4_ n5_ n6_; clear hb hbox hg; have hnb35 := NB395_383.out; have hnc35 := NB383_395.out; obtain ⟨hcz36_0, hcz36_1, hcz36_2, hcz36_3, hcz36_4, hcz36_5, hcz36_6, hcz36_7, hcz36_8⟩ := bc9 BK395.out; obtain ⟨hfz36_0, hfz36_1, hfz36_2, hfz36_3, hfz36_4, hfz36_5, hfz36_6, hfz36_7, hfz36_8⟩ := bf9 BK395.out) | ((with_reducible refine gate_callee (f := 41) rfl ?_); refine goesL_ (some 47) rfl rfl Try.func41 (by kernel_rfl) rfl #[.string t391] rfl (by (try simp only [List.map_toArray, List.map_cons, List.map_nil]); first | done | rfl | (simp only [List.length_drop, List.length_take]; rfl)) ?_; (with_reducible refine (palanquinref07_MSS.calls kj9 t391 t396 t397 false _ A18.out).mono ?_); rintro e w37 ⟨rfl, hb⟩; refine ⟨_, rfl, ?_⟩; have n0_ := mA (blk_below (g := gb383) (o := .cells #[.int .i64 t377, .string t378, .string t379, .int .i64 t380, .int .i64 t381] 24 (0, 0)) (by (with_reducible repeat (first | apply kN | apply kD | apply kA | refine blk_far ?_ NB383_395.out _)); exact BK383.out) hb); have n1_ := mA (blk_below (g := gb395) (o := .cells #[.int .i64 t384, .int .i64 t385, .int .u32 t386, .int .u32 t387, .int .i64 t388, .int .i64 t389, .int .i64 t390, .string t391, .string t392] 69 (0, 0)) (by (with_reducible repeat (first | apply kN | apply kD | apply kA)); refine blk_put (cs := #[.int .i64 t384, .int .i64 t385, .int .u32 t386, .int .u32 t387, .int .i64 t388, .int .i64 t389, .int .i64 t390, .string t391, .string ⟨#[]⟩]) ?_ 8 _ (by first | rfl | (simp [*]; done)); (with_reducible repeat (first | apply kN | apply kD | apply kA)); refine blk_put (cs := #[.int .i64 t384, .int .i64 t385, .int .u32 t386, .int .u32 t387, .int .i64 t388, .int .i64 t389, .int .i64 t390, .string ⟨#[]⟩, .string ⟨#[]⟩]) ?_ 7 _ (by first | rfl | (simp [*]; done)); (with_reducible repeat (first | apply kN | apply kD | apply kA)); refine blk_put (cs := #[.int .i64 t384, .int .i64 t385, .int .u32 t386, .int .u32 t387, .int .i64 t388, .int .i64 t389, .int .i64 0, .string ⟨#[]⟩, .string ⟨#[]⟩]) ?_ 6 _ (by first | rfl | (simp [*]; done)); (with_reducible repeat (first | apply kN | apply kD | apply kA)); refine blk_put (cs := #[.int .i64 t384, .int .i64 t385, .int .u32 t386, .int .u32 t387, .int .i64 t388, .int .i64 0, .int .i64 0, .string ⟨#[]⟩, .string ⟨#[]⟩]) ?_ 5 _ (by first | rfl | (simp [*]; done)); (with_reducible repeat (first | apply kN | apply kD | apply kA)); refine blk_put (cs := #[.int .i64 t384, .int .i64 t385, .int .u32 t386, .int .u32 t387, .int .i64 0, .int .i64 0, .int .i64 0, .string ⟨#[]⟩, .string ⟨#[]⟩]) ?_ 4 _ (by first | rfl | (simp [*]; done)); (with_reducible repeat (first | apply kN | apply kD | apply kA)); refine blk_put (cs := #[.int .i64 t384, .int .i64 t385, .int .u32 t386, .int .u32 0, .int .i64 0, .int .i64 0, .int .i64 0, .string ⟨#[]⟩, .string ⟨#[]⟩]) ?_ 3 _ (by first | rfl | (simp [*]; done)); (with_reducible repeat (first | apply kN | apply kD | apply kA)); refine blk_put (cs := #[.int .i64 t384, .int .i64 t385, .int .u32 0, .int .u32 0, .int .i64 0, .int .i64 0, .int .i64 0, .string ⟨#[]⟩, .string ⟨#[]⟩]) ?_ 2 _ (by first | rfl | (simp [*]; done)); (with_reducible repeat (first | apply kN | apply kD | apply kA)); refine blk_put (cs := #[.int .i64 t384, .int .i64 0, .int .u32 0, .int .u32 0, .int .i64 0, .int .i64 0, .int .i64 0, .string ⟨#[]⟩, .string ⟨#[]⟩]) ?_ 1 _ (by first | rfl | (simp [*]; done)); (with_reducible repeat (first | apply kN | apply kD | apply kA)); refine blk_put (cs := #[.int .i64 0, .int .i64 0, .int .u32 0, .int .u32 0, .int .i64 0, .int .i64 0, .int .i64 0, .string ⟨#[]⟩, .string ⟨#[]⟩]) ?_ 0 _ (by first | rfl | (simp [*]; done)); (with_reducible repeat (first | apply kN | apply kD | apply kA)); exact BK395.out) hb); have n2_ := mA (bP (by repeat (first | (with_reducible first | exact HB.out | apply bA | apply bN | apply bD | refine bS ?_ GE383.out | refine bS ?_ GE395.out) | exact HB.out)) hb); clear BK383; clear BK395; clear HB; have BK383 := n0_; have BK395 := n1_; have HB := n2_; clear n0_ n1_ n2_; (try clear hb); (try clear hb2); (try clear hk); (try clear hi)))
         refine bodyPost_ret (results_list (rs := [.tmp 2, .tmp 3, .tmp 4, .tmp 5]) rfl (by simp) (.tmp (.tmp (.tmp (.tmp .nil))))) rfl ?_
         exact ⟨by first | rfl | (simp [errW_none, errW_some] <;> rfl) | (simp [*, errW_none, errW_some] <;> rfl), by repeat (first | (with_reducible first | exact HB.out | apply bA | apply bN | apply bD | refine bS ?_ GE383.out | refine bS ?_ GE395.out) | exact HB.out)⟩
       ·rw [if_neg c16] at H
        exact absurd H (by simp)
      ·rw [if_neg c15] at H
       exact absurd H (by simp)

def palanquinref10_MSS.f (k : Nat) (a0 : ByteArray) : Option (Int × Bool) := (palanquinref10_Find.f k a0).bind fun bt415 => (some (bt415.2.2.1, bt415.2.2.2))
set_option maxHeartbeats 8000000 in
set_option maxRecDepth 100000 in
theorem palanquinref10_MSS.calls (k : Nat) (a0 : ByteArray) (r1 : Int) (r2 : Bool) (w : World) (h : palanquinref10_MSS.f k a0 = some (r1, r2)) :
  Calls Try.prog 19 #[.string a0] w fun e w' => e = .returned (.tuple #[.int .i64 r1, .bool r2]) ∧ Below w.heap.size w w' := by
 have HB := mA (Below.refl w.heap.size w)
 have H : ((palanquinref10_Find.f k a0).bind fun bt415 => (some (bt415.2.2.1, bt415.2.2.2))) = some (r1, r2) := h
 clear h
 replace H := Option.bind_eq_some_iff.mp H
 obtain ⟨⟨t415, t416, t417, t418⟩, A20, H⟩ := H
 try dsimp +instances only at H
 have A2 := mA A20
 clear A20
 simp only [Option.some.injEq, Prod.mk.injEq] at H
 obtain ⟨rfl, rfl⟩ := H
 go_enter Try.func19, Try.ntmps19
 go_wp2_with (first | ((with_reducible refine gate_callee (f := 16) rfl ?_); refine goesL_ (some 10) rfl rfl Try.func16 (by kernel_rfl) rfl #[.string a0] rfl (by (try simp only [List.map_toArray, List.map_cons, List.map_nil]); first | done | rfl | (simp only [List.length_drop, List.length_take]; rfl)) ?_; (with_reducible refine (palanquinref10_Find.calls k a0 t415 t416 t417 t418 _ A2.out).mono ?_); rintro e w3 ⟨rfl, hb⟩; refine ⟨_, rfl, ?_⟩; have n0_ := mA (bP (by repeat (first | (with_reducible first | exact HB.out | apply bA | apply bN | apply bD) | exact HB.out)) hb); clear HB; have HB := n0_; clear n0_; (try clear hb); (try clear hb2); (try clear hk); (try clear hi)))
 go_ret2
 exact ⟨by first | rfl | (simp [errW_none, errW_some] <;> rfl) | (simp [*, errW_none, errW_some] <;> rfl), by repeat (first | (with_reducible first | exact HB.out | apply bA | apply bN | apply bD) | exact HB.out)⟩

mutual
def palanquinref10_Clamp.j0 : Nat → ByteArray → Int → Option (ByteArray)
 | 0, _, _ => none
 | k + 1, x0, x1 => if x1 > 65535 then (palanquinref10_Clamp.j1 k x0 65535) else (palanquinref10_Clamp.j1 k x0 x1)
def palanquinref10_Clamp.j1 : Nat → ByteArray → Int → Option (ByteArray)
 | 0, _, _ => none
 | k + 1, x0, x1 => (palanquinref10_Find.f k x0).bind fun bt419 => (if bt419.2.2.2 = true then (palanquinref10_Clamp.j2 k x0 x1 bt419.1 bt419.2.1 (decide (bt419.2.2.1 ≤ x1))) else (palanquinref10_Clamp.j2 k x0 x1 bt419.1 bt419.2.1 true))
def palanquinref10_Clamp.j2 : Nat → ByteArray → Int → Int → Int → Bool → Option (ByteArray)
 | 0, _, _, _, _, _ => none
 | k + 1, x0, x1, x5, x6, x29 => if x29 = true then (some x0) else ((palanquinref09_Get.f k x0).bind fun bt423 => (if 0 ≤ x5 then (if x5 ≤ (x0.size : Int) then (if 0 ≤ x6 then (if x6 ≤ ((x0.extract (x5 : Int).toNat x0.size).size : Int) then ((palanquinref01_Bytes.f k (IntKind.u64.wrap (x1)) 2).bind fun t430 => (if ((x0.extract (x5 : Int).toNat x0.size).extract 0 (x6 : Int).toNat).size + t430.size ≤ 9223372036854775807 then (if 0 ≤ (wrap64 (x6 + 2)) then (if (wrap64 (x6 + 2)) ≤ ((x0.extract (x5 : Int).toNat x0.size).size : Int) then (if (((x0.extract (x5 : Int).toNat x0.size).extract 0 (x6 : Int).toNat) ++ t430).size + ((x0.extract (x5 : Int).toNat x0.size).extract ((wrap64 (x6 + 2)) : Int).toNat (x0.extract (x5 : Int).toNat x0.size).size).size ≤ 9223372036854775807 then ((palanquinref09_Seal.f k 6 bt423.2.1 bt423.2.2.1 ((((x0.extract (x5 : Int).toNat x0.size).extract 0 (x6 : Int).toNat) ++ t430) ++ ((x0.extract (x5 : Int).toNat x0.size).extract ((wrap64 (x6 + 2)) : Int).toNat (x0.extract (x5 : Int).toNat x0.size).size))).bind fun t431 => (if (x0.extract 0 (x5 : Int).toNat).size + t431.size ≤ 9223372036854775807 then (some ((x0.extract 0 (x5 : Int).toNat) ++ t431)) else (none))) else (none)) else (none)) else (none)) else (none))) else (none)) else (none)) else (none)) else (none)))
end
def palanquinref10_Clamp.f (k : Nat) (a0 : ByteArray) (a1 : Int) : Option (ByteArray) := if a1 < 0 then (palanquinref10_Clamp.j0 k a0 0) else (palanquinref10_Clamp.j0 k a0 a1)
def palanquinref10_Clamp.T10 : Bool × List (List Nat × List Nat) := (true, [([], []), ([], []), ([0, 1], [0, 1]), ([], []), ([3], [3]), ([], []), ([5], [5]), ([], []), ([], []), ([7, 8], [7, 8]), ([], []), ([10], [10]), ([11], [11]), ([9, 12], [9, 12]), ([], []), ([], []), ([15], [15]), ([14, 16], [14, 16]), ([13, 17], [13, 17]), ([4, 6, 18, 12], [4, 6, 18]), ([2, 19], [2, 19]), ([20, 19, 0, 1, 2, 3, 4, 5, 6, 7, 8, 9, 10, 11, 12, 13, 14, 15, 16, 17, 18, 19, 20], [20])])
def palanquinref10_Clamp.B10 : List Nat := [0, 0, 3, 0, 8, 0, 32, 0, 0, 384, 0, 1024, 3072, 8064, 0, 0, 32768, 114688, 262016, 524280, 1048575, 2097151]
theorem palanquinref10_Clamp.tab10 : rtab .any (opsOf Try.f20 10) = palanquinref10_Clamp.T10 := by kernel_rfl
theorem palanquinref10_Clamp.bits10 : waitsOk palanquinref10_Clamp.T10.2 palanquinref10_Clamp.B10 = true := by kernel_rfl
set_option maxHeartbeats 8000000 in
set_option maxRecDepth 100000 in
theorem palanquinref10_Clamp.calls (k : Nat) (a0 : ByteArray) (a1 : Int) (r : ByteArray) (w : World) (h : palanquinref10_Clamp.f k a0 a1 = some r) :
  Calls Try.prog 20 #[.string a0, .int .i64 a1] w fun e w' => e = .returned (.string r) ∧ Below w.heap.size w w' := by
 have hu24 := Try.underlying24
 have HB := mA (Below.refl w.heap.size w)
 have H : (if a1 < 0 then (palanquinref10_Clamp.j0 k a0 0) else (palanquinref10_Clamp.j0 k a0 a1)) = some r := h
 clear h
 have HC3 := mA H
 clear H
 go_enter Try.func20, Try.ntmps20
 go_upto_if 13 with (fail)
 go_cut [1] (fun v1 wc => ∃ (kq : Nat) (x1_2 : Int), v1 = .int .i64 x1_2 ∧ Aside0 (palanquinref10_Clamp.j0 kq a0 x1_2 = some r) ∧ Aside0 (kq ≤ k) ∧ Aside0 (Below w.heap.size w wc))
 case first =>
  have H := HC3.out
  clear HC3
  by_cases c4 : a1 < 0
  ·rw [if_pos c4] at H
   have c4b0 : decide (a1 < 0) = true := decide_eq_true c4
   clear c4
   (first | rw [c4b0] | (simp only [i64_w, i32_w]; rw [c4b0]) | skip)
   have H' := mA H
   clear H
   go_wp2
   go_meet
   case rel => exact ⟨_, (0), (by first | rfl | (simp; done) | (simp [*]; done)), H', ⟨by first | omega | exact Nat.le_refl _⟩, ⟨by repeat (first | (with_reducible first | exact HB.out | apply bA | apply bN | apply bD) | exact HB.out)⟩⟩
  ·rw [if_neg c4] at H
   have c4b0 : decide (a1 < 0) = false := decide_eq_false c4
   clear c4
   (first | rw [c4b0] | (simp only [i64_w, i32_w]; rw [c4b0]) | skip)
   have H' := mA H
   clear H
   go_wp2
   go_meet
   case rel => exact ⟨_, (a1), (by first | rfl | (simp; done) | (simp [*]; done)), H', ⟨by first | omega | exact Nat.le_refl _⟩, ⟨by repeat (first | (with_reducible first | exact HB.out | apply bA | apply bN | apply bD) | exact HB.out)⟩⟩
 case rest =>
  clear HC3
  try clear c2
  try clear p2
  try clear c4
  try clear c4b0
  obtain ⟨kq, x1_2, rfl, HA, HJ2, HB⟩ := hcut
  cases kq with
  | zero => exact absurd HA.out (by simp [palanquinref10_Clamp.j0])
  | succ kj2 =>
   have H := HA.out
   clear HA
   simp only [palanquinref10_Clamp.j0] at H
   have HC5 := mA H
   clear H
   go_upto_if 15 with (fail)
   go_cut [1] (fun v1 wc => ∃ (kq : Nat) (x1_4 : Int), v1 = .int .i64 x1_4 ∧ Aside0 (palanquinref10_Clamp.j1 kq a0 x1_4 = some r) ∧ Aside0 (kq ≤ kj2) ∧ Aside0 (Below w.heap.size w wc))
   case first =>
    have H := HC5.out
    clear HC5
    by_cases c6 : x1_2 > 65535
    ·rw [if_pos c6] at H
     have c6b0 : decide (65535 < x1_2) = true := decide_eq_true c6
     clear c6
     (first | rw [c6b0] | (simp only [i64_w, i32_w]; rw [c6b0]) | skip)
     have H' := mA H
     clear H
     go_wp2
     go_meet
     case rel => exact ⟨_, (65535), (by first | rfl | (simp; done) | (simp [*]; done)), H', ⟨by have := HJ2.out; first | omega | exact Nat.le_refl _⟩, ⟨by repeat (first | (with_reducible first | exact HB.out | apply bA | apply bN | apply bD) | exact HB.out)⟩⟩
    ·rw [if_neg c6] at H
     have c6b0 : decide (65535 < x1_2) = false := decide_eq_false c6
     clear c6
     (first | rw [c6b0] | (simp only [i64_w, i32_w]; rw [c6b0]) | skip)
     have H' := mA H
     clear H
     go_wp2
     go_meet
     case rel => exact ⟨_, (x1_2), (by first | rfl | (simp; done) | (simp [*]; done)), H', ⟨by have := HJ2.out; first | omega | exact Nat.le_refl _⟩, ⟨by repeat (first | (with_reducible first | exact HB.out | apply bA | apply bN | apply bD) | exact HB.out)⟩⟩
   case rest =>
    clear HC5
    try clear c2
    try clear p2
    try clear c4
    try clear c4b0
    try clear c6
    try clear c6b0
    try clear p2
    obtain ⟨kq, x1_4, rfl, HA, HJ4, HB⟩ := hcut
    cases kq with
    | zero => exact absurd HA.out (by simp [palanquinref10_Clamp.j1])
    | succ kj4 =>
     have H := HA.out
     clear HA
     simp only [palanquinref10_Clamp.j1] at H
     replace H := Option.bind_eq_some_iff.mp H
     obtain ⟨⟨t419, t420, t421, t422⟩, A70, H⟩ := H
     try dsimp +instances only at H
     have A7 := mA A70
     clear A70
     have HC8 := mA H
     clear H
     go_upto_region 6 with (first | ((with_reducible refine gate_callee (f := 16) rfl ?_); refine goesL_ (some 18) rfl rfl Try.func16 (by kernel_rfl) rfl #[.string a0] rfl (by (try simp only [List.map_toArray, List.map_cons, List.map_nil]); first | done | rfl | (simp only [List.length_drop, List.length_take]; rfl)) ?_; (with_reducible refine (palanquinref10_Find.calls kj4 a0 t419 t420 t421 t422 _ A7.out).mono ?_); rintro e w9 ⟨rfl, hb⟩; refine ⟨_, rfl, ?_⟩; have n0_ := mA (bP (by repeat (first | (with_reducible first | exact HB.out | apply bA | apply bN | apply bD) | exact HB.out)) hb); clear HB; have HB := n0_; clear n0_; (try clear hb); (try clear hb2); (try clear hk); (try clear hi)))
     (try simp only [Act.put, List.setIfInBounds_toArray, List.set_cons_zero, List.set_cons_succ])
     go_cut [29] (fun v29 wc => ∃ (kq : Nat) (x29_7 : Bool), v29 = .bool x29_7 ∧ Aside0 (palanquinref10_Clamp.j2 kq a0 x1_4 t419 t420 x29_7 = some r) ∧ Aside0 (kq ≤ kj4) ∧ Aside0 (Below w.heap.size w wc))
     case first =>
      have H := HC8.out
      clear HC8
      by_cases c10 : t422 = true
      ·subst c10
       rw [if_pos rfl] at H
       have H' := mA H
       clear H
       go_wp2
       go_meet
       case rel => exact ⟨_, (decide (t421 ≤ x1_4)), (by first | rfl | (simp; done) | (simp [*]; done)), H', ⟨by have := HJ2.out; have := HJ4.out; first | omega | exact Nat.le_refl _⟩, ⟨by repeat (first | (with_reducible first | exact HB.out | apply bA | apply bN | apply bD) | exact HB.out)⟩⟩
      ·replace c10 := Bool.eq_false_iff.mpr c10
       subst c10
       rw [if_neg (show ¬ (false = true) by decide)] at H
       have H' := mA H
       clear H
       go_wp2
       go_meet
       case rel => exact ⟨_, (true), (by first | rfl | (simp; done) | (simp [*]; done)), H', ⟨by have := HJ2.out; have := HJ4.out; first | omega | exact Nat.le_refl _⟩, ⟨by repeat (first | (with_reducible first | exact HB.out | apply bA | apply bN | apply bD) | exact HB.out)⟩⟩
     case rest =>
      clear HC8
      try clear c1
      try clear c2
      try clear p2
      try clear c4
      try clear c4b0
      try clear c6
      try clear c6b0
      try clear c10
      try clear p2
      obtain ⟨kq, x29_7, rfl, HA, HJ7, HB⟩ := hcut
      cases kq with
      | zero => exact absurd HA.out (by simp [palanquinref10_Clamp.j2])
      | succ kj7 =>
       have H := HA.out
       clear HA
       simp only [palanquinref10_Clamp.j2] at H
       by_cases c11 : x29_7 = true
       ·subst c11
        rw [if_pos rfl] at H
        obtain rfl := Option.some.inj H
        go_wp2
        go_ret
        exact ⟨by first | rfl | (simp [errW_none, errW_some] <;> rfl) | (simp [*, errW_none, errW_some] <;> rfl), by repeat (first | (with_reducible first | exact HB.out | apply bA | apply bN | apply bD) | exact HB.out)⟩
       ·replace c11 := Bool.eq_false_iff.mpr c11
        subst c11
        rw [if_neg (show ¬ (false = true) by decide)] at H
        replace H := Option.bind_eq_some_iff.mp H
        obtain ⟨⟨t423, t424, t425, t426, t427, t428⟩, A120, H⟩ := H
        try dsimp +instances only at H
        have A12 := mA A120
        clear A120
        by_cases c13 : 0 ≤ t419
        ·rw [if_pos c13] at H
         have c13b0 := eq_true c13
         have c13b1 : decide (0 ≤ t419) = true := decide_eq_true c13
         clear c13
         by_cases c14 : t419 ≤ (a0.size : Int)
         ·rw [if_pos c14] at H
          have c14b0 := eq_true c14
          have c14b1 : decide (t419 ≤ (a0.size : Int)) = true := decide_eq_true c14
          clear c14
          have c15b0 := eq_true (of_decide_eq_true (by first | (with_reducible assumption) | assumption) : 0 ≤ t419)
          have c16b0 := eq_true (of_decide_eq_true (by first | (with_reducible assumption) | assumption) : t419 ≤ (a0.size : Int))
          by_cases c17 : 0 ≤ t420
          ·rw [if_pos c17] at H
           have c17b0 := eq_true c17
           have c17b1 : decide (0 ≤ t420) = true := decide_eq_true c17
           clear c17
           by_cases c18 : t420 ≤ ((a0.extract (t419 : Int).toNat a0.size).size : Int)
           ·rw [if_pos c18] at H
            have c18b0 := eq_true c18
            have c18b1 : decide (t420 ≤ ((a0.extract (t419 : Int).toNat a0.size).size : Int)) = true := decide_eq_true c18
            try have c18b7 : (t420 ≤ (((a0.size - (t419 : Int).toNat) : Nat) : Int)) = True := eq_true (by have h_ := c18; simp only [ByteArray.size_extract] at h_; simp only [eq_iff_iff, iff_true] at *; omega)
            clear c18
            replace H := Option.bind_eq_some_iff.mp H
            obtain ⟨t430, A190, H⟩ := H
            try dsimp +instances only at H
            have A19 := mA A190
            clear A190
            by_cases c20 : ((a0.extract (t419 : Int).toNat a0.size).extract 0 (t420 : Int).toNat).size + t430.size ≤ 9223372036854775807
            ·rw [if_pos c20] at H
             have c20b0 := eq_true c20
             have c20b1 : decide (((a0.extract (t419 : Int).toNat a0.size).extract 0 (t420 : Int).toNat).size + t430.size ≤ 9223372036854775807) = true := decide_eq_true c20
             try have c20b2 : (9223372036854775807 < ((a0.extract (t419 : Int).toNat a0.size).extract 0 (t420 : Int).toNat).size + t430.size) = False := eq_false (Nat.not_lt.2 c20)
             try have c20b5 : (9223372036854775807 < (t420 : Int).toNat + t430.size) = False := eq_false (by have h_ := c20; simp only [ByteArray.size_append, ByteArray.size_extract] at h_; simp only [eq_iff_iff, iff_true] at *; omega)
             try have c20b6 : ((t420 : Int).toNat + t430.size ≤ 9223372036854775807) = True := eq_true (by have h_ := c20; simp only [ByteArray.size_append, ByteArray.size_extract] at h_; simp only [eq_iff_iff, iff_true] at *; omega)
             obtain ⟨ji21, hji21⟩ : ∃ j_ : Int, (wrap64 (t420 + 2)) = j_ := ⟨_, rfl⟩
             replace H : (if 0 ≤ (ji21) then (if (ji21) ≤ ((a0.extract (t419 : Int).toNat a0.size).size : Int) then (if (((a0.extract (t419 : Int).toNat a0.size).extract 0 (t420 : Int).toNat) ++ t430).size + ((a0.extract (t419 : Int).toNat a0.size).extract ((ji21) : Int).toNat (a0.extract (t419 : Int).toNat a0.size).size).size ≤ 9223372036854775807 then ((palanquinref09_Seal.f kj7 6 t424 t425 ((((a0.extract (t419 : Int).toNat a0.size).extract 0 (t420 : Int).toNat) ++ t430) ++ ((a0.extract (t419 : Int).toNat a0.size).extract ((ji21) : Int).toNat (a0.extract (t419 : Int).toNat a0.size).size))).bind fun t431 => (if (a0.extract 0 (t419 : Int).toNat).size + t431.size ≤ 9223372036854775807 then (some ((a0.extract 0 (t419 : Int).toNat) ++ t431)) else (none))) else (none)) else (none)) else (none)) = some r := by first | (rw [hji21] at H; exact H) | (simp only [hji21] at H ⊢; exact H)
             (try rw [hji21] at A12)
             (try rw [hji21] at A19)
             have hji21w : (IntKind.i64.wrap (t420 + 2)) = ji21 := (i64_w _).trans hji21
             by_cases c22 : 0 ≤ (ji21)
             ·rw [if_pos c22] at H
              have c22b0 := eq_true c22
              have c22b1 : decide (0 ≤ (ji21)) = true := decide_eq_true c22
              clear c22
              by_cases c23 : (ji21) ≤ ((a0.extract (t419 : Int).toNat a0.size).size : Int)
              ·rw [if_pos c23] at H
               have c23b0 := eq_true c23
               have c23b1 : decide ((ji21) ≤ ((a0.extract (t419 : Int).toNat a0.size).size : Int)) = true := decide_eq_true c23
               try have c23b7 : ((ji21) ≤ (((a0.size - (t419 : Int).toNat) : Nat) : Int)) = True := eq_true (by have h_ := c23; simp only [ByteArray.size_extract] at h_; simp only [eq_iff_iff, iff_true] at *; omega)
               clear c23
               by_cases c24 : (((a0.extract (t419 : Int).toNat a0.size).extract 0 (t420 : Int).toNat) ++ t430).size + ((a0.extract (t419 : Int).toNat a0.size).extract ((ji21) : Int).toNat (a0.extract (t419 : Int).toNat a0.size).size).size ≤ 9223372036854775807
               ·rw [if_pos c24] at H
                have c24b0 := eq_true c24
                have c24b1 : decide ((((a0.extract (t419 : Int).toNat a0.size).extract 0 (t420 : Int).toNat) ++ t430).size + ((a0.extract (t419 : Int).toNat a0.size).extract ((ji21) : Int).toNat (a0.extract (t419 : Int).toNat a0.size).size).size ≤ 9223372036854775807) = true := decide_eq_true c24
                try have c24b2 : (9223372036854775807 < (((a0.extract (t419 : Int).toNat a0.size).extract 0 (t420 : Int).toNat) ++ t430).size + ((a0.extract (t419 : Int).toNat a0.size).extract ((ji21) : Int).toNat (a0.extract (t419 : Int).toNat a0.size).size).size) = False := eq_false (Nat.not_lt.2 c24)
                try have c24b3 : (9223372036854775807 < (((a0.extract (t419).toNat a0.size).extract 0 (t420).toNat).size) + (t430.size) + ((a0.extract (t419 : Int).toNat a0.size).extract ((ji21) : Int).toNat (a0.extract (t419 : Int).toNat a0.size).size).size) = False := eq_false (by have h_ := c24; simp only [ByteArray.size_append] at h_; omega)
                try have c24b4 : ((((a0.extract (t419).toNat a0.size).extract 0 (t420).toNat).size) + (t430.size) + ((a0.extract (t419 : Int).toNat a0.size).extract ((ji21) : Int).toNat (a0.extract (t419 : Int).toNat a0.size).size).size ≤ 9223372036854775807) = True := eq_true (by have h_ := c24; simp only [ByteArray.size_append] at h_; omega)
                try have c24b5 : (9223372036854775807 < ((t420).toNat) + (t430.size) + ((a0.size - (t419 : Int).toNat) - ((ji21) : Int).toNat)) = False := eq_false (by have h_ := c24; simp only [ByteArray.size_append, ByteArray.size_extract] at h_; simp only [eq_iff_iff, iff_true] at *; omega)
                try have c24b6 : (((t420).toNat) + (t430.size) + ((a0.size - (t419 : Int).toNat) - ((ji21) : Int).toNat) ≤ 9223372036854775807) = True := eq_true (by have h_ := c24; simp only [ByteArray.size_append, ByteArray.size_extract] at h_; simp only [eq_iff_iff, iff_true] at *; omega)
                replace H := Option.bind_eq_some_iff.mp H
                obtain ⟨t431, A250, H⟩ := H
                try dsimp +instances only at H
                have A25 := mA A250
                clear A250
                by_cases c26 : (a0.extract 0 (t419 : Int).toNat).size + t431.size ≤ 9223372036854775807
                ·rw [if_pos c26] at H
                 have c26b0 := eq_true c26
                 have c26b1 : decide ((a0.extract 0 (t419 : Int).toNat).size + t431.size ≤ 9223372036854775807) = true := decide_eq_true c26
                 try have c26b2 : (9223372036854775807 < (a0.extract 0 (t419 : Int).toNat).size + t431.size) = False := eq_false (Nat.not_lt.2 c26)
                 try have c26b5 : (9223372036854775807 < (t419 : Int).toNat + t431.size) = False := eq_false (by have h_ := c26; simp only [ByteArray.size_append, ByteArray.size_extract] at h_; simp only [eq_iff_iff, iff_true] at *; omega)
                 try have c26b6 : ((t419 : Int).toNat + t431.size ≤ 9223372036854775807) = True := eq_true (by have h_ := c26; simp only [ByteArray.size_append, ByteArray.size_extract] at h_; simp only [eq_iff_iff, iff_true] at *; omega)
                 obtain rfl := Option.some.inj H
                 try go_wp2_with (first | ((with_reducible refine gate_callee (f := 12) rfl ?_); refine goesL_ (some 33) rfl rfl Try.func12 (by kernel_rfl) rfl #[.string a0] rfl (by (try simp only [List.map_toArray, List.map_cons, List.map_nil]); first | done | rfl | (simp only [List.length_drop, List.length_take]; rfl)) ?_; (with_reducible refine (palanquinref09_Get.calls kj7 a0 t423 t424 t425 t426 t427 t428 _ A12.out).mono ?_); rintro e w27 ⟨rfl, hb⟩; refine ⟨_, rfl, ?_⟩; have n0_ := mA (bP (by repeat (first | (with_reducible first | exact HB.out | apply bA | apply bN | apply bD) | exact HB.out)) hb); clear HB; have HB := n0_; clear n0_; (try clear hb); (try clear hb2); (try clear hk); (try clear hi)) | ((with_reducible refine gate_dst (N := 9) rfl ?_); refine box_event ?hg (N := 9) ?hd (cs := #[.int .i64 0, .string ⟨#[]⟩, .string ⟨#[]⟩, .int .i64 0, .int .i64 0]) (t := 24) ?hr ?_; (case hd => rfl); (case hg => rfl); (case hr => first | (go_simp; done) | (go_simp; rfl)); intro gb429 hg w28 hbox hb; obtain ⟨n0_, nq_⟩ := bpr (by repeat (first | (with_reducible first | exact HB.out | apply bA | apply bN | apply bD) | exact HB.out)) hb; have n1_ := mA (hbox); have n2_ := mA ((by rw [hg]; exact nq_ : w.heap.size ≤ gb429)); have n3_ := mA ((by rw [hg]; exact nq_ : w.heap.size ≤ gb429)); clear HB; have HB := n0_; have BK429 := n1_; have GW429 := n2_; have GE429 := n3_; clear nq_; clear n0_ n1_ n2_ n3_; clear hb hbox hg; obtain ⟨hcz29_0, hcz29_1, hcz29_2, hcz29_3, hcz29_4⟩ := bc5 BK429.out; obtain ⟨hfz29_0, hfz29_1, hfz29_2, hfz29_3, hfz29_4⟩ := bf5 BK429.out))
                 have n0_ : Aside0 ((((((w28.setCell ⟨gb429, 0, none⟩ (.int .i64 t423)).setCell ⟨gb429, 1, none⟩ (.string t424)).setCell ⟨gb429, 2, none⟩ (.string t425)).setCell ⟨gb429, 3, none⟩ (.int .i64 t426)).setCell ⟨gb429, 4, none⟩ (.int .i64 t427)).heap[gb429]? = some (.cells #[.int .i64 t423, .string t424, .string t425, .int .i64 t426, .int .i64 t427] 24 (0, 0))) := ⟨by (with_reducible repeat (first | apply kN | apply kD | apply kA)); refine blk_put (cs := #[.int .i64 t423, .string t424, .string t425, .int .i64 t426, .int .i64 0]) ?_ 4 _ (by first | rfl | (simp [*]; done)); (with_reducible repeat (first | apply kN | apply kD | apply kA)); refine blk_put (cs := #[.int .i64 t423, .string t424, .string t425, .int .i64 0, .int .i64 0]) ?_ 3 _ (by first | rfl | (simp [*]; done)); (with_reducible repeat (first | apply kN | apply kD | apply kA)); refine blk_put (cs := #[.int .i64 t423, .string t424, .string ⟨#[]⟩, .int .i64 0, .int .i64 0]) ?_ 2 _ (by first | rfl | (simp [*]; done)); (with_reducible repeat (first | apply kN | apply kD | apply kA)); refine blk_put (cs := #[.int .i64 t423, .string ⟨#[]⟩, .string ⟨#[]⟩, .int .i64 0, .int .i64 0]) ?_ 1 _ (by first | rfl | (simp [*]; done)); (with_reducible repeat (first | apply kN | apply kD | apply kA)); refine blk_put (cs := #[.int .i64 0, .string ⟨#[]⟩, .string ⟨#[]⟩, .int .i64 0, .int .i64 0]) ?_ 0 _ (by first | rfl | (simp [*]; done)); (with_reducible repeat (first | apply kN | apply kD | apply kA)); exact BK429.out⟩
                 have n1_ : Aside0 (Below w.heap.size w (((((w28.setCell ⟨gb429, 0, none⟩ (.int .i64 t423)).setCell ⟨gb429, 1, none⟩ (.string t424)).setCell ⟨gb429, 2, none⟩ (.string t425)).setCell ⟨gb429, 3, none⟩ (.int .i64 t426)).setCell ⟨gb429, 4, none⟩ (.int .i64 t427))) := ⟨by repeat (first | (with_reducible first | exact HB.out | apply bA | apply bN | apply bD | refine bS ?_ GE429.out) | exact HB.out)⟩
                 (try clear BK429)
                 (try clear HB)
                 generalize (((((w28.setCell ⟨gb429, 0, none⟩ (.int .i64 t423)).setCell ⟨gb429, 1, none⟩ (.string t424)).setCell ⟨gb429, 2, none⟩ (.string t425)).setCell ⟨gb429, 3, none⟩ (.int .i64 t426)).setCell ⟨gb429, 4, none⟩ (.int .i64 t427)) = w30 at n0_ n1_ ⊢
                 have BK429 := n0_
                 have HB := n1_
                 clear n0_ n1_
                 have n0_ := mA (kD BK429.out)
                 have n1_ := mA (bD HB.out)
                 clear BK429
                 clear HB
                 have BK429 := n0_
                 have HB := n1_
                 clear n0_ n1_
                 refine start_ (n := 22) (S := fun w' => w'.cell? ⟨gb429, 0, none⟩ = some (.int .i64 t423) ∧ w'.cell? ⟨gb429, 1, none⟩ = some (.string t424) ∧ w'.cell? ⟨gb429, 2, none⟩ = some (.string t425) ∧ w'.cell? ⟨gb429, 3, none⟩ = some (.int .i64 t426) ∧ w'.cell? ⟨gb429, 4, none⟩ = some (.int .i64 t427)) (ds := []) (bv 22 0) (by kernel_rfl) rfl rfl ⟨(zC BK429.out 0).trans rfl, (zC BK429.out 1).trans rfl, (zC BK429.out 2).trans rfl, (zC BK429.out 3).trans rfl, (zC BK429.out 4).trans rfl⟩ (fun hHeld => ?_); refine with_tabW palanquinref10_Clamp.tab10 palanquinref10_Clamp.bits10 (fun HT_ HW_ => ?_)
                 generalize w30.drew = w31 at BK429 HB hHeld ⊢
                 refine pure_ (i := 0) (N := some 39) (v := ?_) (a' := ?_) (bv 22 1) rfl rfl (any_of HT_.out (by kernel_rfl)) (fun _ _ _ h => h) (Or.inl ⟨by rfl, ?_⟩) ?_ ?_; rotate_left; (intro w'; go_simp; with_reducible rfl); rotate_left; (simp only [Act.put, List.setIfInBounds_toArray, List.set_cons_zero, List.set_cons_succ, i64_w, i32_w]; rfl)
                 refine pure_ (i := 1) (N := some 40) (v := ?_) (a' := ?_) (bv 22 3) rfl rfl (any_of HT_.out (by kernel_rfl)) (fun _ _ _ h => h) (Or.inl ⟨by rfl, ?_⟩) ?_ ?_; rotate_left; (intro w'; go_simp; with_reducible rfl); rotate_left; (simp only [Act.put, List.setIfInBounds_toArray, List.set_cons_zero, List.set_cons_succ, i64_w, i32_w]; rfl)
                 refine pure_ (i := 2) (N := some 41) (v := ?_) (a' := ?_) (bv 22 7) rfl rfl (any_of HT_.out (by kernel_rfl)) (fun _ _ _ h => h) (Or.inl ⟨by rfl, ?_⟩) ?_ ?_; rotate_left; (intro w'; go_simp; with_reducible rfl); rotate_left; (simp only [Act.put, List.setIfInBounds_toArray, List.set_cons_zero, List.set_cons_succ, i64_w, i32_w]; rfl)
                 refine pure_ (i := 3) (N := some 42) (v := ?_) (a' := ?_) (bv 22 15) rfl rfl (any_of HT_.out (by kernel_rfl)) (fun _ _ _ h => h) (Or.inl ⟨by rfl, ?_⟩) ?_ ?_; rotate_left; (intro w'; go_simp; with_reducible rfl); rotate_left; (simp only [Act.put, List.setIfInBounds_toArray, List.set_cons_zero, List.set_cons_succ, i64_w, i32_w]; rfl)
                 refine pure_ (i := 5) (N := some 44) (v := ?_) (a' := ?_) (bv 22 47) rfl rfl (any_of HT_.out (by kernel_rfl)) (fun _ _ _ h => h) (Or.inl ⟨by rfl, ?_⟩) ?_ ?_; rotate_left; (intro w'; go_simp; with_reducible rfl); rotate_left; (simp only [Act.put, List.setIfInBounds_toArray, List.set_cons_zero, List.set_cons_succ, i64_w, i32_w]; rfl)
                 refine pure_ (i := 7) (N := some 46) (v := ?_) (a' := ?_) (bv 22 175) rfl rfl (any_of HT_.out (by kernel_rfl)) (fun _ _ _ h => h) (Or.inl ⟨by rfl, ?_⟩) ?_ ?_; rotate_left; (intro w'; go_simp; with_reducible rfl); rotate_left; (simp only [Act.put, List.setIfInBounds_toArray, List.set_cons_zero, List.set_cons_succ, i64_w, i32_w]; rfl)
                 refine pure_ (i := 8) (N := some 47) (v := ?_) (a' := ?_) (bv 22 431) rfl rfl (any_of HT_.out (by kernel_rfl)) (fun _ _ _ h => h) (Or.inl ⟨by rfl, ?_⟩) ?_ ?_; rotate_left; (intro w'; go_simp; with_reducible rfl); rotate_left; (simp only [Act.put, List.setIfInBounds_toArray, List.set_cons_zero, List.set_cons_succ, i64_w, i32_w]; rfl)
                 refine pure_ (i := 9) (N := some 48) (v := ?_) (a' := ?_) (bv 22 943) rfl rfl (any_of HT_.out (by kernel_rfl)) (fun _ _ _ h => h) (Or.inl ⟨by rfl, ?_⟩) ?_ ?_; rotate_left; (intro w'; go_simp; with_reducible rfl); rotate_left; (simp only [Act.put, List.setIfInBounds_toArray, List.set_cons_zero, List.set_cons_succ, i64_w, i32_w]; rfl)
                 refine pure_ (i := 10) (N := some 49) (v := ?_) (a' := ?_) (bv 22 1967) rfl rfl (any_of HT_.out (by kernel_rfl)) (fun _ _ _ h => h) (Or.inl ⟨by rfl, ?_⟩) ?_ ?_; rotate_left; (intro w'; go_simp; with_reducible rfl); rotate_left; (simp only [Act.put, List.setIfInBounds_toArray, List.set_cons_zero, List.set_cons_succ, i64_w, i32_w]; rfl)
                 refine pure_ (i := 11) (N := some 50) (v := ?_) (a' := ?_) (bv 22 4015) rfl rfl (any_of HT_.out (by kernel_rfl)) (fun _ _ _ h => h) (Or.inl ⟨by rfl, ?_⟩) ?_ ?_; rotate_left; (intro w'; go_simp; with_reducible rfl); rotate_left; (simp only [Act.put, List.setIfInBounds_toArray, List.set_cons_zero, List.set_cons_succ, i64_w, i32_w]; rfl)
                 refine pure_ (i := 14) (N := some 53) (v := ?_) (a' := ?_) (bv 22 20399) rfl rfl (any_of HT_.out (by kernel_rfl)) (fun _ _ _ h => h) (Or.inl ⟨by rfl, ?_⟩) ?_ ?_; rotate_left; (intro w'; go_simp; with_reducible rfl); rotate_left; (simp only [Act.put, List.setIfInBounds_toArray, List.set_cons_zero, List.set_cons_succ, i64_w, i32_w]; rfl)
                 refine pure_ (i := 15) (N := some 54) (v := ?_) (a' := ?_) (bv 22 53167) rfl rfl (any_of HT_.out (by kernel_rfl)) (fun _ _ _ h => h) (Or.inl ⟨by rfl, ?_⟩) ?_ ?_; rotate_left; (intro w'; go_simp; with_reducible rfl); rotate_left; (simp only [Act.put, List.setIfInBounds_toArray, List.set_cons_zero, List.set_cons_succ, i64_w, i32_w]; rfl)
                 refine pure_ (i := 16) (N := some 55) (v := ?_) (a' := ?_) (bv 22 118703) rfl rfl (any_of HT_.out (by kernel_rfl)) (fun _ _ _ h => h) (Or.inl ⟨by rfl, ?_⟩) ?_ ?_; rotate_left; (intro w'; go_simp; with_reducible rfl); rotate_left; (simp only [Act.put, List.setIfInBounds_toArray, List.set_cons_zero, List.set_cons_succ, i64_w, i32_w]; rfl)
                 refine pure_ (i := 17) (N := some 56) (v := ?_) (a' := ?_) (bv 22 249775) rfl rfl (any_of HT_.out (by kernel_rfl)) (fun _ _ _ h => h) (Or.inl ⟨by rfl, ?_⟩) ?_ ?_; rotate_left; (intro w'; go_simp; with_reducible rfl); rotate_left; (simp only [Act.put, List.setIfInBounds_toArray, List.set_cons_zero, List.set_cons_succ, i64_w, i32_w]; rfl)
                 refine take_ (i := 4) (N := some 43) (v := ?_) (a' := ?_) (bv 22 249791) rfl rfl (take_ofW HT_.out HW_.out (by kernel_rfl)) (fun _ _ _ h => h) (Or.inl ⟨by rfl, ?_⟩) hHeld ?_ ?_; rotate_left; (rintro w' ⟨s0, s1, s2, s3, s4⟩; go_simp; with_reducible rfl); rotate_left; (simp only [Act.put, List.setIfInBounds_toArray, List.set_cons_zero, List.set_cons_succ, i64_w, i32_w]; rfl)
                 refine take_ (i := 6) (N := some 45) (v := ?_) (a' := ?_) (bv 22 249855) rfl rfl (take_ofW HT_.out HW_.out (by kernel_rfl)) (fun _ _ _ h => h) (Or.inl ⟨by rfl, ?_⟩) hHeld ?_ ?_; rotate_left; (rintro w' ⟨s0, s1, s2, s3, s4⟩; go_simp; with_reducible rfl); rotate_left; (simp only [Act.put, List.setIfInBounds_toArray, List.set_cons_zero, List.set_cons_succ, i64_w, i32_w]; rfl)
                 refine one_ (i := 12) (N := some 51) (bv 22 253951) rfl rfl (one_of HT_.out (by kernel_rfl)) (by decide) (fun K hK => ?_)
                 refine goes_ Try.func42 (by kernel_rfl) rfl #[.int .u64 (IntKind.u64.wrap (x1_4)), .int .i64 2] (by rfl) rfl rfl (by (try simp only [List.map_toArray, List.map_cons, List.map_nil]); first | done | rfl | (simp only [List.length_drop, List.length_take]; rfl)) ?_
                 with_reducible refine (palanquinref01_Bytes.calls kj7 (IntKind.u64.wrap (x1_4)) 2 t430 _ A19.out).mono ?_
                 rintro e w32 ⟨rfl, hb⟩
                 refine ⟨_, rfl, ?_⟩
                 have n0_ := mA (blk_below (g := gb429) (o := .cells #[.int .i64 t423, .string t424, .string t425, .int .i64 t426, .int .i64 t427] 24 (0, 0)) (by (with_reducible repeat (first | apply kN | apply kD | apply kA)); exact BK429.out) hb)
                 have n1_ := mA (bP (by repeat (first | (with_reducible first | exact HB.out | apply bA | apply bN | apply bD | refine bS ?_ GE429.out) | exact HB.out)) hb)
                 clear BK429
                 clear HB
                 have BK429 := n0_
                 have HB := n1_
                 clear n0_ n1_
                 (try clear hb)
                 (try clear hb2)
                 (try clear hk)
                 (try clear hi)
                 refine hK.out _ _ ⟨(zC BK429.out 0).trans rfl, (zC BK429.out 1).trans rfl, (zC BK429.out 2).trans rfl, (zC BK429.out 3).trans rfl, (zC BK429.out 4).trans rfl⟩ (fun hHeld => ?_)
                 clear hK K
                 refine norm_ (a' := ?_) ?_ ?_
                 rotate_left
                 ·show Act.put _ (some 51) _ = _
                  simp only [Act.put, List.setIfInBounds_toArray, List.set_cons_zero, List.set_cons_succ, i64_w, i32_w]
                  rfl
                 refine pure_ (i := 13) (N := some 52) (v := ?_) (a' := ?_) (bv 22 262143) rfl rfl (any_of HT_.out (by kernel_rfl)) (fun _ _ _ h => h) (Or.inl ⟨by rfl, ?_⟩) ?_ ?_; rotate_left; (intro w'; go_simp; with_reducible rfl); rotate_left; (simp only [Act.put, List.setIfInBounds_toArray, List.set_cons_zero, List.set_cons_succ, i64_w, i32_w]; rfl)
                 refine pure_ (i := 18) (N := some 57) (v := ?_) (a' := ?_) (bv 22 524287) rfl rfl (any_of HT_.out (by kernel_rfl)) (fun _ _ _ h => h) (Or.inl ⟨by rfl, ?_⟩) ?_ ?_; rotate_left; (intro w'; go_simp; with_reducible rfl); rotate_left; (simp only [Act.put, List.setIfInBounds_toArray, List.set_cons_zero, List.set_cons_succ, i64_w, i32_w]; rfl)
                 refine one_ (i := 19) (N := some 58) (bv 22 1048575) rfl rfl (one_of HT_.out (by kernel_rfl)) (by decide) (fun K hK => ?_)
                 refine goes_ Try.func17 (by kernel_rfl) rfl #[.int .i64 6, .string t424, .string t425, .string ((((a0.extract (t419 : Int).toNat a0.size).extract 0 (t420 : Int).toNat) ++ t430) ++ ((a0.extract (t419 : Int).toNat a0.size).extract ((ji21) : Int).toNat (a0.extract (t419 : Int).toNat a0.size).size))] (by rfl) rfl rfl (by (try simp only [List.map_toArray, List.map_cons, List.map_nil]); first | done | (simp only [hji21]; rfl) | rfl | (simp only [List.length_drop, List.length_take]; rfl) | (simp only [ByteArray.size_extract, Nat.min_self]; rfl)) ?_
                 with_reducible refine (palanquinref09_Seal.calls kj7 6 t424 t425 ((((a0.extract (t419 : Int).toNat a0.size).extract 0 (t420 : Int).toNat) ++ t430) ++ ((a0.extract (t419 : Int).toNat a0.size).extract ((ji21) : Int).toNat (a0.extract (t419 : Int).toNat a0.size).size)) t431 _ A25.out).mono ?_
                 rintro e w33 ⟨rfl, hb⟩
                 refine ⟨_, rfl, ?_⟩
                 have n0_ := mA (blk_below (g := gb429) (o := .cells #[.int .i64 t423, .string t424, .string t425, .int .i64 t426, .int .i64 t427] 24 (0, 0)) (by (with_reducible repeat (first | apply kN | apply kD | apply kA)); exact BK429.out) hb)
                 have n1_ := mA (bP (by repeat (first | (with_reducible first | exact HB.out | apply bA | apply bN | apply bD | refine bS ?_ GE429.out) | exact HB.out)) hb)
                 clear BK429
                 clear HB
                 have BK429 := n0_
                 have HB := n1_
                 clear n0_ n1_
                 (try clear hb)
                 (try clear hb2)
                 (try clear hk)
                 (try clear hi)
                 refine hK.out _ _ ⟨(zC BK429.out 0).trans rfl, (zC BK429.out 1).trans rfl, (zC BK429.out 2).trans rfl, (zC BK429.out 3).trans rfl, (zC BK429.out 4).trans rfl⟩ (fun hHeld => ?_)
                 clear hK K
                 refine norm_ (a' := ?_) ?_ ?_
                 rotate_left
                 ·show Act.put _ (some 58) _ = _
                  simp only [Act.put, List.setIfInBounds_toArray, List.set_cons_zero, List.set_cons_succ, i64_w, i32_w]
                  rfl
                 refine pure_ (i := 20) (N := some 59) (v := ?_) (a' := ?_) (bv 22 2097151) rfl rfl (any_of HT_.out (by kernel_rfl)) (fun _ _ _ h => h) (Or.inl ⟨by rfl, ?_⟩) ?_ ?_; rotate_left; (intro w'; go_simp; with_reducible rfl); rotate_left; (simp only [Act.put, List.setIfInBounds_toArray, List.set_cons_zero, List.set_cons_succ, i64_w, i32_w]; rfl)
                 refine pure_ (i := 21) (N := some 4) (v := ?_) (a' := ?_) (bv 22 4194303) rfl rfl (any_of HT_.out (by kernel_rfl)) (fun _ _ _ h => h) (Or.inl ⟨by rfl, ?_⟩) ?_ ?_; rotate_left; (intro w'; go_simp; with_reducible rfl); rotate_left; (simp only [Act.put, List.setIfInBounds_toArray, List.set_cons_zero, List.set_cons_succ, i64_w, i32_w]; rfl)
                 refine done_ (done_of HT_.out (by kernel_rfl)) ?_
                 try go_wp2
                 go_ret
                 exact ⟨by first | rfl | (simp [errW_none, errW_some] <;> rfl) | (simp only [← hji21]; first | rfl | (simp [errW_none, errW_some] <;> rfl)) | (simp [*, errW_none, errW_some] <;> rfl), by repeat (first | (with_reducible first | exact HB.out | apply bA | apply bN | apply bD | refine bS ?_ GE429.out) | exact HB.out)⟩
                ·rw [if_neg c26] at H
                 exact absurd H (by simp)
               ·rw [if_neg c24] at H
                exact absurd H (by simp)
              ·rw [if_neg c23] at H
               exact absurd H (by simp)
             ·rw [if_neg c22] at H
              exact absurd H (by simp)
            ·rw [if_neg c20] at H
             exact absurd H (by simp)
           ·rw [if_neg c18] at H
            exact absurd H (by simp)
          ·rw [if_neg c17] at H
           exact absurd H (by simp)
         ·rw [if_neg c14] at H
          exact absurd H (by simp)
        ·rw [if_neg c13] at H
         exact absurd H (by simp)

def palanquinref10_Limit.j0 : Nat → Int → Option (Int)
 | 0, _ => none
 | k + 1, x7 => if x7 < 0 then (some 0) else (if x7 > 65535 then (some 65535) else (some x7))
def palanquinref10_Limit.f (k : Nat) (a0 : Int) (a1 : Int) (a2 : Bool) : Option (Int) := if a2 = true then (palanquinref10_Limit.j0 k (wrap64 ((wrap64 (a0 - a1)) - 60))) else (palanquinref10_Limit.j0 k (wrap64 ((wrap64 (a0 - a1)) - 40)))
set_option maxHeartbeats 8000000 in
set_option maxRecDepth 100000 in
theorem palanquinref10_Limit.calls (k : Nat) (a0 : Int) (a1 : Int) (a2 : Bool) (r : Int) (w : World) (h : palanquinref10_Limit.f k a0 a1 a2 = some r) :
  Calls Try.prog 22 #[.int .i64 a0, .int .i64 a1, .bool a2] w fun e w' => e = .returned (.int .i64 r) ∧ Drawn0 w w' := by
 have H : (if a2 = true then (palanquinref10_Limit.j0 k (wrap64 ((wrap64 (a0 - a1)) - 60))) else (palanquinref10_Limit.j0 k (wrap64 ((wrap64 (a0 - a1)) - 40)))) = some r := h
 clear h
 have HC4 := mA H
 clear H
 go_enter Try.func22, Try.ntmps22
 go_upto_if 12 with (fail)
 go_cut [7] (fun v7 wc => ∃ (kq : Nat) (x7_3 : Int), v7 = .int .i64 x7_3 ∧ Aside0 (palanquinref10_Limit.j0 kq x7_3 = some r) ∧ Aside0 (kq ≤ k) ∧ Drawn0 w wc)
 case first =>
  have H := HC4.out
  clear HC4
  by_cases c5 : a2 = true
  ·subst c5
   rw [if_pos rfl] at H
   have H' := mA H
   clear H
   go_wp2
   go_meet
   case rel => exact ⟨_, (wrap64 ((wrap64 (a0 - a1)) - 60)), (by first | rfl | (simp; done) | (simp [*]; done)), H', ⟨by first | omega | exact Nat.le_refl _⟩, by repeat (first | exact Drawn0.refl _ | apply Drawn0.step)⟩
  ·replace c5 := Bool.eq_false_iff.mpr c5
   subst c5
   rw [if_neg (show ¬ (false = true) by decide)] at H
   have H' := mA H
   clear H
   go_wp2
   go_meet
   case rel => exact ⟨_, (wrap64 ((wrap64 (a0 - a1)) - 40)), (by first | rfl | (simp; done) | (simp [*]; done)), H', ⟨by first | omega | exact Nat.le_refl _⟩, by repeat (first | exact Drawn0.refl _ | apply Drawn0.step)⟩
 case rest =>
  clear HC4
  try clear c2
  try clear p2
  try clear c5
  obtain ⟨kq, x7_3, rfl, HA, HJ3, ⟨mc3, rfl⟩⟩ := hcut
  cases kq with
  | zero => exact absurd HA.out (by simp [palanquinref10_Limit.j0])
  | succ kj3 =>
   have H := HA.out
   clear HA
   simp only [palanquinref10_Limit.j0] at H
   by_cases c6 : x7_3 < 0
   ·rw [if_pos c6] at H
    have c6b0 : decide (x7_3 < 0) = true := decide_eq_true c6
    clear c6
    obtain rfl := Option.some.inj H
    go_wp2
    go_ret
    exact ⟨by first | rfl | (simp; done) | (simp [*]; done), by repeat (first | exact Drawn0.refl _ | apply Drawn0.step)⟩
   ·rw [if_neg c6] at H
    have c6b0 : decide (x7_3 < 0) = false := decide_eq_false c6
    clear c6
    by_cases c7 : x7_3 > 65535
    ·rw [if_pos c7] at H
     have c7b0 : decide (65535 < x7_3) = true := decide_eq_true c7
     clear c7
     obtain rfl := Option.some.inj H
     go_wp2
     go_ret
     exact ⟨by first | rfl | (simp; done) | (simp [*]; done), by repeat (first | exact Drawn0.refl _ | apply Drawn0.step)⟩
    ·rw [if_neg c7] at H
     have c7b0 : decide (65535 < x7_3) = false := decide_eq_false c7
     clear c7
     obtain rfl := Option.some.inj H
     go_wp2
     go_ret
     exact ⟨by first | rfl | (simp; done) | (simp [*]; done), by repeat (first | exact Drawn0.refl _ | apply Drawn0.step)⟩

end Go.Proofs.Ytcmalglippmocaa.G
end

section
namespace Go.Proofs.Ytcmalglippmocaa.G
open Go.RowKit Go.Proofs.YtcmalglippmocaaW.PrintWords Go.Proofs.YtcmalglippmocaaW.PrintLast Go.Proofs.YtcmalglippmocaaW.PrintMore
attribute [local go_sem] max2_int min2_int max_two min_two max_three min_three max_four min_four

def palanquinlaw10_ClampTells.j0 : Nat → ByteArray → Int → Int → Int → Bool → Bool → Option (Bool)
 | 0, _, _, _, _, _, _ => none
 | k + 1, x0, x1, x2, x3, x4, x35 => if x35 = true then (some true) else ((clamp_MSS.f k x0).bind fun bt433 => ((palanquinref10_MSS.f k x0).bind fun bt435 => ((clamp_Clamp.f x0 x1).bind fun t437 => ((palanquinref10_Clamp.f k x0 x1).bind fun t438 => (if t437.toList = t438.toList then (if bt433.1 = bt435.1 then (if (bt433.2 == bt435.2) = true then ((clamp_Limit.f x2 x3 x4).bind fun t439 => ((palanquinref10_Limit.f k x2 x3 x4).bind fun t440 => (some (t439 == t440)))) else (some false)) else (some false)) else (some false))))))
def palanquinlaw10_ClampTells.f (k : Nat) (a0 : ByteArray) (a1 : Int) (a2 : Int) (a3 : Int) (a4 : Bool) : Option (Bool) := (palanquinlaw10_awake.f k).bind fun t432 => (if t432 = true then (if (a0.size : Int) > 5000 then (palanquinlaw10_ClampTells.j0 k a0 a1 a2 a3 a4 true) else (if a2 < (-1099511627776) then (palanquinlaw10_ClampTells.j0 k a0 a1 a2 a3 a4 true) else (if a2 > 1099511627776 then (palanquinlaw10_ClampTells.j0 k a0 a1 a2 a3 a4 true) else (if a3 < (-1099511627776) then (palanquinlaw10_ClampTells.j0 k a0 a1 a2 a3 a4 true) else (palanquinlaw10_ClampTells.j0 k a0 a1 a2 a3 a4 (decide (a3 > 1099511627776))))))) else (some false))
set_option maxHeartbeats 8000000 in
set_option maxRecDepth 100000 in
theorem palanquinlaw10_ClampTells.calls (k : Nat) (a0 : ByteArray) (a1 : Int) (a2 : Int) (a3 : Int) (a4 : Bool) (r : Bool) (w : World) (h : palanquinlaw10_ClampTells.f k a0 a1 a2 a3 a4 = some r) (hrt_ : Aside0 (r = true)) :
  Calls Try.prog 8 #[.string a0, .int .i64 a1, .int .i64 a2, .int .i64 a3, .bool a4] w fun e w' => e = .returned (.bool r) ∧ Below w.heap.size w w' := by
 have HB := mA (Below.refl w.heap.size w)
 have H : ((palanquinlaw10_awake.f k).bind fun t432 => (if t432 = true then (if (a0.size : Int) > 5000 then (palanquinlaw10_ClampTells.j0 k a0 a1 a2 a3 a4 true) else (if a2 < (-1099511627776) then (palanquinlaw10_ClampTells.j0 k a0 a1 a2 a3 a4 true) else (if a2 > 1099511627776 then (palanquinlaw10_ClampTells.j0 k a0 a1 a2 a3 a4 true) else (if a3 < (-1099511627776) then (palanquinlaw10_ClampTells.j0 k a0 a1 a2 a3 a4 true) else (palanquinlaw10_ClampTells.j0 k a0 a1 a2 a3 a4 (decide (a3 > 1099511627776))))))) else (some false))) = some r := h
 clear h
 replace H := Option.bind_eq_some_iff.mp H
 obtain ⟨t432, A60, H⟩ := H
 try dsimp +instances only at H
 have A6 := mA A60
 clear A60
 by_cases c7 : t432 = true
 ·subst c7
  rw [if_pos rfl] at H
  have HC8 := mA H
  clear H
  go_enter Try.func8, Try.ntmps8
  go_upto_region 3 with (first | ((with_reducible refine gate_callee (f := 13) rfl ?_); refine goesL_ (some 15) rfl rfl Try.func13 (by kernel_rfl) rfl #[] rfl (by (try simp only [List.map_toArray, List.map_cons, List.map_nil]); first | done | rfl | (simp only [List.length_drop, List.length_take]; rfl)) ?_; (with_reducible refine (palanquinlaw10_awake.calls k  true _ A6.out).mono ?_); rintro e w9 ⟨rfl, hb⟩; refine ⟨_, rfl, ?_⟩; have n0_ := mA (bP (by repeat (first | (with_reducible first | exact HB.out | apply bA | apply bN | apply bD) | exact HB.out)) hb); clear HB; have HB := n0_; clear n0_; (try clear hb); (try clear hb2); (try clear hk); (try clear hi)))
  (try simp only [Act.put, List.setIfInBounds_toArray, List.set_cons_zero, List.set_cons_succ])
  go_cut [35] (fun v35 wc => ∃ (kq : Nat) (x35_7 : Bool), v35 = .bool x35_7 ∧ Aside0 (palanquinlaw10_ClampTells.j0 kq a0 a1 a2 a3 a4 x35_7 = some r) ∧ Aside0 (kq ≤ k) ∧ Aside0 (Below w.heap.size w wc))
  case first =>
   have H := HC8.out
   clear HC8
   by_cases c10 : (a0.size : Int) > 5000
   ·rw [if_pos c10] at H
    have c10b0 : decide (5000 < (a0.size : Int)) = true := decide_eq_true c10
    have c10b1 : decide (5000 < a0.size) = true := decide_eq_true (by omega)
    clear c10
    (first | rw [c10b0] | (simp only [i64_w, i32_w]; rw [c10b0]) | skip)
    have H' := mA H
    clear H
    go_wp2
    go_meet
    case rel => exact ⟨_, (true), (by first | rfl | (simp; done) | (simp [*]; done)), H', ⟨by first | omega | exact Nat.le_refl _⟩, ⟨by repeat (first | (with_reducible first | exact HB.out | apply bA | apply bN | apply bD) | exact HB.out)⟩⟩
   ·rw [if_neg c10] at H
    have c10b0 : decide (5000 < (a0.size : Int)) = false := decide_eq_false c10
    have c10b1 : decide (5000 < a0.size) = false := decide_eq_false (by omega)
    clear c10
    (first | rw [c10b0] | (simp only [i64_w, i32_w]; rw [c10b0]) | skip)
    by_cases c11 : a2 < (-1099511627776)
    ·rw [if_pos c11] at H
     have c11b0 : decide (a2 < (-1099511627776)) = true := decide_eq_true c11
     clear c11
     have H' := mA H
     clear H
     go_wp2
     go_meet
     case rel => exact ⟨_, (true), (by first | rfl | (simp; done) | (simp [*]; done)), H', ⟨by first | omega | exact Nat.le_refl _⟩, ⟨by repeat (first | (with_reducible first | exact HB.out | apply bA | apply bN | apply bD) | exact HB.out)⟩⟩
    ·rw [if_neg c11] at H
     have c11b0 : decide (a2 < (-1099511627776)) = false := decide_eq_false c11
     clear c11
     by_cases c12 : a2 > 1099511627776
     ·rw [if_pos c12] at H
      have c12b0 : decide (1099511627776 < a2) = true := decide_eq_true c12
      clear c12
      have H' := mA H
      clear H
      go_wp2
      go_meet
      case rel => exact ⟨_, (true), (by first | rfl | (simp; done) | (simp [*]; done)), H', ⟨by first | omega | exact Nat.le_refl _⟩, ⟨by repeat (first | (with_reducible first | exact HB.out | apply bA | apply bN | apply bD) | exact HB.out)⟩⟩
     ·rw [if_neg c12] at H
      have c12b0 : decide (1099511627776 < a2) = false := decide_eq_false c12
      clear c12
      by_cases c13 : a3 < (-1099511627776)
      ·rw [if_pos c13] at H
       have c13b0 : decide (a3 < (-1099511627776)) = true := decide_eq_true c13
       clear c13
       have H' := mA H
       clear H
       go_wp2
       go_meet
       case rel => exact ⟨_, (true), (by first | rfl | (simp; done) | (simp [*]; done)), H', ⟨by first | omega | exact Nat.le_refl _⟩, ⟨by repeat (first | (with_reducible first | exact HB.out | apply bA | apply bN | apply bD) | exact HB.out)⟩⟩
      ·rw [if_neg c13] at H
       have c13b0 : decide (a3 < (-1099511627776)) = false := decide_eq_false c13
       clear c13
       have H' := mA H
       clear H
       go_wp2
       go_meet
       case rel => exact ⟨_, (decide (a3 > 1099511627776)), (by first | rfl | (simp; done) | (simp [*]; done)), H', ⟨by first | omega | exact Nat.le_refl _⟩, ⟨by repeat (first | (with_reducible first | exact HB.out | apply bA | apply bN | apply bD) | exact HB.out)⟩⟩
  case rest =>
   clear HC8
   try clear c1
   try clear p2
   try clear c7
   try clear c8
   try clear c10
   try clear c10b0
   try clear c10b1
   try clear c11
   try clear c11b0
   try clear c12
   try clear c12b0
   try clear c13
   try clear c13b0
   obtain ⟨kq, x35_7, rfl, HA, HJ7, HB⟩ := hcut
   cases kq with
   | zero => exact absurd HA.out (by simp [palanquinlaw10_ClampTells.j0])
   | succ kj7 =>
    have H := HA.out
    clear HA
    simp only [palanquinlaw10_ClampTells.j0] at H
    by_cases c14 : x35_7 = true
    ·subst c14
     rw [if_pos rfl] at H
     obtain rfl := Option.some.inj H
     go_wp2
     go_ret
     exact ⟨by first | rfl | (simp [errW_none, errW_some] <;> rfl) | (simp [*, errW_none, errW_some] <;> rfl), by repeat (first | (with_reducible first | exact HB.out | apply bA | apply bN | apply bD) | exact HB.out)⟩
    ·replace c14 := Bool.eq_false_iff.mpr c14
     subst c14
     rw [if_neg (show ¬ (false = true) by decide)] at H
     replace H := Option.bind_eq_some_iff.mp H
     obtain ⟨⟨t433, t434⟩, A150, H⟩ := H
     try dsimp +instances only at H
     have A15 := mA A150
     clear A150
     replace H := Option.bind_eq_some_iff.mp H
     obtain ⟨⟨t435, t436⟩, A160, H⟩ := H
     try dsimp +instances only at H
     have A16 := mA A160
     clear A160
     replace H := Option.bind_eq_some_iff.mp H
     obtain ⟨t437, A170, H⟩ := H
     try dsimp +instances only at H
     have A17 := mA A170
     clear A170
     replace H := Option.bind_eq_some_iff.mp H
     obtain ⟨t438, A180, H⟩ := H
     try dsimp +instances only at H
     have A18 := mA A180
     clear A180
     by_cases c19 : t437.toList = t438.toList
     ·rw [if_pos c19] at H
      have c19b0 : (t437.toList == t438.toList) = true := beq_iff_eq.mpr c19
      have c19b1 : (t437.toList != t438.toList) = false := bne_eq_false_iff_eq.mpr c19
      clear c19
      by_cases c20 : t433 = t435
      ·rw [if_pos c20] at H
       have c20b0 : (t433 == t435) = true := beq_iff_eq.mpr c20
       have c20b1 : (t433 != t435) = false := bne_eq_false_iff_eq.mpr c20
       clear c20
       by_cases c21 : (t434 == t436) = true
       ·rw [if_pos c21] at H
        have c21b0 : (t434 == t436) = true := c21
        (try (have c21b1 : decide (t434 = t436) = true := by simpa using c21))
        (try (have c21b2 : (t434 == t436) = true := by simpa using c21))
        clear c21
        replace H := Option.bind_eq_some_iff.mp H
        obtain ⟨t439, A220, H⟩ := H
        try dsimp +instances only at H
        have A22 := mA A220
        clear A220
        replace H := Option.bind_eq_some_iff.mp H
        obtain ⟨t440, A230, H⟩ := H
        try dsimp +instances only at H
        have A23 := mA A230
        clear A230
        obtain rfl := Option.some.inj H
        go_wp2_with (first | ((with_reducible refine gate_callee (f := 15) rfl ?_); refine goesL_ (some 38) rfl rfl Try.func15 (by kernel_rfl) rfl #[.string a0] rfl (by (try simp only [List.map_toArray, List.map_cons, List.map_nil]); first | done | rfl | (simp only [List.length_drop, List.length_take]; rfl)) ?_; (with_reducible refine (clamp_MSS.calls kj7 a0 t433 t434 _ A15.out).mono ?_); rintro e w24 ⟨rfl, hb⟩; refine ⟨_, rfl, ?_⟩; have n0_ := mA (bP (by repeat (first | (with_reducible first | exact HB.out | apply bA | apply bN | apply bD) | exact HB.out)) hb); clear HB; have HB := n0_; clear n0_; (try clear hb); (try clear hb2); (try clear hk); (try clear hi)) | ((with_reducible refine gate_callee (f := 19) rfl ?_); refine goesL_ (some 43) rfl rfl Try.func19 (by kernel_rfl) rfl #[.string a0] rfl (by (try simp only [List.map_toArray, List.map_cons, List.map_nil]); first | done | rfl | (simp only [List.length_drop, List.length_take]; rfl)) ?_; (with_reducible refine (palanquinref10_MSS.calls kj7 a0 t435 t436 _ A16.out).mono ?_); rintro e w25 ⟨rfl, hb⟩; refine ⟨_, rfl, ?_⟩; have n0_ := mA (bP (by repeat (first | (with_reducible first | exact HB.out | apply bA | apply bN | apply bD) | exact HB.out)) hb); clear HB; have HB := n0_; clear n0_; (try clear hb); (try clear hb2); (try clear hk); (try clear hi)) | ((with_reducible refine gate_callee (f := 14) rfl ?_); refine goesL_ (some 48) rfl rfl Try.func14 (by kernel_rfl) rfl #[.string a0, .int .i64 a1] rfl (by (try simp only [List.map_toArray, List.map_cons, List.map_nil]); first | done | rfl | (simp only [List.length_drop, List.length_take]; rfl)) ?_; (with_reducible refine (clamp_Clamp.calls a0 a1 t437 _ A17.out).mono ?_); rintro e w26 ⟨rfl, hb⟩; refine ⟨_, rfl, ?_⟩; have n0_ := mA (bP (by repeat (first | (with_reducible first | exact HB.out | apply bA | apply bN | apply bD) | exact HB.out)) hb); clear HB; have HB := n0_; clear n0_; (try clear hb); (try clear hb2); (try clear hk); (try clear hi)) | ((with_reducible refine gate_callee (f := 20) rfl ?_); refine goesL_ (some 51) rfl rfl Try.func20 (by kernel_rfl) rfl #[.string a0, .int .i64 a1] rfl (by (try simp only [List.map_toArray, List.map_cons, List.map_nil]); first | done | rfl | (simp only [List.length_drop, List.length_take]; rfl)) ?_; (with_reducible refine (palanquinref10_Clamp.calls kj7 a0 a1 t438 _ A18.out).mono ?_); rintro e w27 ⟨rfl, hb⟩; refine ⟨_, rfl, ?_⟩; have n0_ := mA (bP (by repeat (first | (with_reducible first | exact HB.out | apply bA | apply bN | apply bD) | exact HB.out)) hb); clear HB; have HB := n0_; clear n0_; (try clear hb); (try clear hb2); (try clear hk); (try clear hi)) | (go_at_call 21; (with_reducible refine (clamp_Limit.calls a2 a3 a4 t439 _ A22.out).mono ?_); rintro e w28 ⟨rfl, hb⟩; have n0_ := mA (bP (by repeat (first | (with_reducible first | exact HB.out | apply bA | apply bN | apply bD) | exact HB.out)) hb); clear HB; have HB := n0_; clear n0_; (try clear hb); (try clear hb2); (try clear hk); (try clear hi)) | (go_at_call 22; (with_reducible refine (palanquinref10_Limit.calls kj7 a2 a3 a4 t440 _ A23.out).mono ?_); rintro e w' ⟨rfl, ⟨nd, rfl⟩⟩))
        go_ret
        exact ⟨by first | rfl | (simp [errW_none, errW_some] <;> rfl) | (simp [*, errW_none, errW_some] <;> rfl), by repeat (first | (with_reducible first | exact HB.out | apply bA | apply bN | apply bD) | exact HB.out)⟩
       ·rw [if_neg c21] at H
        exact absurd ((Option.some.inj H).trans hrt_.out) (by decide)
      ·rw [if_neg c20] at H
       exact absurd ((Option.some.inj H).trans hrt_.out) (by decide)
     ·rw [if_neg c19] at H
      exact absurd ((Option.some.inj H).trans hrt_.out) (by decide)
 ·replace c7 := Bool.eq_false_iff.mpr c7
  subst c7
  have H1 : (some false) = some r := by rw [if_neg (show ¬ (false = true) by decide)] at H; exact H
  exact absurd ((Option.some.inj H1).trans hrt_.out) (by decide)
def palanquinlaw10_ClampTells.Pure : Prop := ∀ (a0 : ByteArray) (a1 : Int) (a2 : Int) (a3 : Int) (a4 : Bool), a0.size ≤ 140737488351232 → (Lit.int .i64 a1).wf = true → (Lit.int .i64 a2).wf = true → (Lit.int .i64 a3).wf = true → ∃ k, palanquinlaw10_ClampTells.f k a0 a1 a2 a3 a4 = some true
theorem palanquinlaw10_ClampTells.walk (P : palanquinlaw10_ClampTells.Pure) (a0 : ByteArray) (a1 : Int) (a2 : Int) (a3 : Int) (a4 : Bool) (w : World) (w0 : a0.size ≤ 140737488351232) (w1 : (Lit.int .i64 a1).wf = true) (w2 : (Lit.int .i64 a2).wf = true) (w3 : (Lit.int .i64 a3).wf = true) :
  Calls Try.prog 8 #[.string a0, .int .i64 a1, .int .i64 a2, .int .i64 a3, .bool a4] w fun e w' => e = .returned (.bool true) ∧ Below w.heap.size w w' := by
 obtain ⟨k, h⟩ := P a0 a1 a2 a3 a4 w0 w1 w2 w3
 refine (palanquinlaw10_ClampTells.calls k a0 a1 a2 a3 a4 true w h ⟨rfl⟩).mono ?_
 rintro e w' ⟨rfl, hd⟩
 exact ⟨rfl, hd⟩

end Go.Proofs.Ytcmalglippmocaa.G
end

section
namespace Go.Proofs.Ytcmalglippmocaa.Pal
theorem nb2_is (c : Nat) : nb 2 c = [UInt8.ofNat (c / 256), UInt8.ofNat c] := rfl
theorem nb2_tot (c : Nat) (h : c ≤ 65535) : tot false (nb 2 c) = c := by
  rw [nb2_is]
  simp only [tot, UInt8.toNat_ofNat']
  omega
theorem tot_mid (A B : List UInt8) (c : Nat) (hA : odd A = false) (hc : c ≤ 65535) : tot false (A ++ nb 2 c ++ B) = tot false (A ++ nb 2 0 ++ B) + c := by
  have e : ∀ d, odd (A ++ nb 2 d) = false := fun d => by
    unfold odd at hA ⊢
    rw [List.length_append, nb_length]
    simp only [beq_eq_false_iff_ne] at hA ⊢
    omega
  have t : ∀ d, tot false (A ++ nb 2 d ++ B) = tot false A + tot false (nb 2 d) + tot false B := fun d => by
    rw [tot_append, tot_append, e d, hA]
    rfl
  rw [t, t, nb2_tot c hc, nb2_tot 0 (by decide)]
  omega
theorem csum_bound (l : List UInt8) : csum l ≤ 65535 := by unfold csum; omega
theorem inSealed (A B : List UInt8) (hA : odd A = false) : csum (A ++ nb 2 (csum (A ++ nb 2 0 ++ B)) ++ B) = 0 := by
  unfold csum at *
  rw [tot_mid A B _ hA (by omega)]
  generalize tot false (A ++ nb 2 0 ++ B) = t
  unfold fold16
  split <;> split <;> omega
end Go.Proofs.Ytcmalglippmocaa.Pal
end

section
namespace Go.Proofs.Ytcmalglippmocaa.Pal
theorem cut_bl (s : ByteArray) (n m : Nat) : bl (s.extract n m) = ((bl s).take m).drop n := by simp [bl, ByteArray.data_extract, List.drop_take]
theorem take_bl (s : ByteArray) : (bl s).take s.size = bl s := List.take_of_length_le (by rw [bl_length]; exact Nat.le_refl _)
end Go.Proofs.Ytcmalglippmocaa.Pal
end

section
namespace Go.Proofs.Ytcmalglippmocaa.Pal
def seal17 (t : Nat) : Nat := if t = 0 then 65535 else t
theorem seal17_le {t : Nat} (h : t ≤ 65535) : 1 ≤ seal17 t ∧ seal17 t ≤ 65535 := by unfold seal17; split <;> omega
theorem seal17_fold (t : Nat) : 65535 - fold16 (t + seal17 (65535 - fold16 t)) = 0 := by
  unfold fold16 seal17
  by_cases h : t = 0
  · subst h; rfl
  · rw [if_neg h]
    have := Nat.mod_lt (t - 1) (show 0 < 65535 by decide)
    by_cases h2 : 65535 - ((t - 1) % 65535 + 1) = 0
    · rw [if_pos h2, if_neg (by omega)]; omega
    · rw [if_neg h2, if_neg (by omega)]; omega
theorem inSealed17 (A B : List UInt8) (hA : odd A = false) : csum (A ++ nb 2 (seal17 (csum (A ++ nb 2 0 ++ B))) ++ B) = 0 := by
  have e := tot_mid A B _ hA (seal17_le (csum_bound (A ++ nb 2 0 ++ B))).2
  unfold csum at *
  rw [e]
  exact seal17_fold _
end Go.Proofs.Ytcmalglippmocaa.Pal
end

section
namespace Go.Proofs.Ytcmalglippmocaa.Pure
open Go.RowKit Go.Proofs.YtcmalglippmocaaW.PrintWords Go.Proofs.YtcmalglippmocaaW.PrintLast Go.Proofs.Ytcmalglippmocaa.G Go.Proofs.Ytcmalglippmocaa.Pal
theorem bl_inj {a b : ByteArray} (h : bl a = bl b) : a = b := ByteArray.ext (Array.toList_inj.mp h)
theorem u64n_of {a : Int} (h0 : 0 ≤ a) (h1 : a ≤ 18446744073709551615) : u64n a = a.toNat := by
  unfold u64n; rw [IntKind.wrap_u64]; omega
theorem parts {x : ByteArray} {A B L S : List UInt8} {p : ByteArray} (hx : bl x = A ++ B ++ L ++ S ++ bl p) (hA : A.length = 2) (hB : B.length = 2) (hL : L.length = 2) (hS : S.length = 2) :
    x.size = 8 + p.size ∧ bl (x.extract 0 2) = A ∧ bl (x.extract 2 4) = B ∧ bl (x.extract 4 6) = L ∧ bl (x.extract 6 8) = S ∧ x.extract 8 x.size = p := by
  match A, hA, B, hB, L, hL, S, hS with
  | [a0, a1], _, [b0, b1], _, [l0, l1], _, [s0, s1], _ =>
    have hsz : x.size = 8 + p.size := by rw [← bl_length, hx, ← bl_length]; simp; omega
    refine ⟨hsz, ?_, ?_, ?_, ?_, bl_inj ?_⟩ <;> rw [bl_extract, hx]
    · simp
    · simp
    · simp
    · simp
    · rw [List.take_of_length_le (by simp [bl_length, hsz]; omega)]; simp
theorem get_is {s : ByteArray} (hs : s.size ≤ 140737488351232) : udp_Get.f s = some (if udpErr s = 0 then (((be (bl (s.extract 0 2)) : Nat) : Int), ((be (bl (s.extract 2 4)) : Nat) : Int), s.extract 8 s.size, ((be (bl (s.extract 6 8)) : Nat) : Int), 0) else (0, 0, empty, 0, udpErr s)) := by
  unfold udp_Get.f; rw [if_pos hs]
end Go.Proofs.Ytcmalglippmocaa.Pure
end

section
namespace Go.Proofs.Ytcmalglippmocaa.Pure
open Go.RowKit Go.Proofs.YtcmalglippmocaaW.PrintWords Go.Proofs.YtcmalglippmocaaW.PrintLast Go.Proofs.Ytcmalglippmocaa.G Go.Proofs.Ytcmalglippmocaa.Pal
def psT (six : Bool) (a b : Int) : ByteArray := if six then strOfNums [b / 16777216 % 256, b / 65536 % 256, b / 256 % 256, b % 256, 0, 0, 0, a % 256] else strOfNums [0, a % 256, b / 256 % 256, b % 256]
theorem psT_size (six : Bool) (a b : Int) : (psT six a b).size % 2 = 0 ∧ (psT six a b).size ≤ 8 := by
  have sz_nums : ∀ xs : List Int, (strOfNums xs).size = xs.length := fun xs => by rw [← bl_length]; simp [bl, strOfNums]
  unfold psT; split <;> rw [sz_nums] <;> exact ⟨by simp, by simp⟩
def psB (s d : ByteArray) (a b : Int) : ByteArray := s ++ d ++ psT (s.size == 16) a b
theorem pseudo_some (s d : ByteArray) (hs : s.size ≤ 300) (hd : d.size ≤ 300) (a b : Int) : sum_Pseudo.f s d a b = some (psB s d a b) := by
  have sz_nums : ∀ xs : List Int, (strOfNums xs).size = xs.length := fun xs => by rw [← bl_length]; simp [bl, strOfNums]
  unfold sum_Pseudo.f psB psT
  by_cases h : (s.size : Int) = 16
  · have h' : (s.size == 16) = true := beq_iff_eq.mpr (by omega)
    rw [if_pos h, if_pos (by omega), Option.bind_some, if_pos (by rw [sz_nums, ByteArray.size_append]; simp; omega), if_pos h']
  · have h' : (s.size == 16) = false := beq_eq_false_iff_ne.mpr (by omega)
    rw [if_neg h, if_pos (by omega), Option.bind_some, if_pos (by rw [sz_nums, ByteArray.size_append]; simp; omega), if_neg (by rw [h']; decide)]
theorem psB_size (s d : ByteArray) (a b : Int) : (psB s d a b).size = s.size + d.size + (psT (s.size == 16) a b).size := by unfold psB; rw [ByteArray.size_append, ByteArray.size_append]
theorem psB_even (s d : ByteArray) (a b : Int) (h : (s.size + d.size) % 2 = 0) : odd (bl (psB s d a b)) = false := by
  have := (psT_size (s.size == 16) a b).1
  unfold odd; rw [bl_length, psB_size]; simp only [beq_eq_false_iff_ne]; omega
theorem sum_is (l : List ByteArray) (h : (cat l).length ≤ 1099511627776) : sum_Sum.f l = some ((csum (cat l) : Nat) : Int) := by unfold sum_Sum.f; rw [if_pos h]
theorem right2 (a b : ByteArray) (h : a.size + b.size ≤ 1099511627776) : sum_Right.f [a, b] = some (decide (csum (bl a ++ bl b) = 0)) := by
  unfold sum_Right.f
  rw [sum_is _ (by rw [cat_cons, cat_cons, cat_nil, List.append_nil, List.length_append, bl_length, bl_length]; exact h), Option.bind_some, cat_cons, cat_cons, cat_nil, List.append_nil]
  congr 1
  by_cases hc : csum (bl a ++ bl b) = 0
  · rw [hc]; rfl
  · rw [decide_eq_false hc]; exact beq_eq_false_iff_ne.mpr (by omega)
def sealC (p : Int) (t : Nat) : Nat := if t = 0 ∧ p = 17 then 65535 else t
theorem sealC_le {p : Int} {t : Nat} (h : t ≤ 65535) : sealC p t ≤ 65535 := by unfold sealC; split <;> omega
theorem sealNo_is (p : Int) (t : Nat) : sealNo p (t : Int) = ((sealC p t : Nat) : Int) := by
  unfold sealNo sealC
  by_cases h : t = 0 ∧ p = 17
  · rw [if_pos h, if_pos ⟨by omega, h.2⟩]; rfl
  · rw [if_neg h, if_neg (fun h' => h ⟨by omega, h'.2⟩)]
theorem sealC_6 (t : Nat) : sealC 6 t = t := by unfold sealC; rw [if_neg (fun h => absurd h.2 (by decide))]
def putAt (s : ByteArray) (q c : Nat) : ByteArray := ⟨((bl s).take q ++ nb 2 c ++ (bl s).drop (q + 2)).toArray⟩
theorem bl_putAt (s : ByteArray) (q c : Nat) : bl (putAt s q c) = (bl s).take q ++ nb 2 c ++ (bl s).drop (q + 2) := by unfold putAt; simp [bl]
theorem putAt_size (s : ByteArray) (q c : Nat) (h : q + 2 ≤ s.size) : (putAt s q c).size = s.size := by
  rw [← bl_length, bl_putAt]; simp only [List.length_append, List.length_take, List.length_drop, nb_length, bl_length]; omega
theorem take_putAt (s : ByteArray) (q c : Nat) (h : q + 2 ≤ s.size) : (bl (putAt s q c)).take q = (bl s).take q := by
  have hl : ((bl s).take q).length = q := by rw [List.length_take, bl_length]; omega
  rw [bl_putAt, List.append_assoc, List.take_append_of_le_length (by omega), List.take_of_length_le (by omega)]
theorem drop_putAt (s : ByteArray) (q c : Nat) (h : q + 2 ≤ s.size) : (bl (putAt s q c)).drop (q + 2) = (bl s).drop (q + 2) := by
  have hl : ((bl s).take q).length = q := by rw [List.length_take, bl_length]; omega
  rw [bl_putAt]
  exact List.drop_left' (by rw [List.length_append, nb_length, hl])
def sumAt (ps : ByteArray) (s : ByteArray) (q : Nat) : Nat := csum (bl ps ++ bl (putAt s q 0))
theorem seal_none {p : Int} {a b s : ByteArray} (h : sealAt p s.size = 0) (hs : s.size ≤ 1000000000) : flow_Seal.f p a b s = some s := by unfold flow_Seal.f; rw [if_pos hs, if_pos h]
theorem ext_front (s : ByteArray) (q : Nat) : bl (s.extract 0 q) = (bl s).take q := by rw [cut_bl, List.drop_zero]
theorem ext_back (s : ByteArray) (q : Nat) : bl (s.extract q s.size) = (bl s).drop q := by rw [cut_bl, take_bl]
theorem seal_some {p : Int} {a b s : ByteArray} {q : Nat} (h : sealAt p s.size = q) (h0 : q ≠ 0) (hs : s.size ≤ 1000000000) (ha : a.size ≤ 300) (hb : b.size ≤ 300) :
    flow_Seal.f p a b s = some (putAt s q (sealC p (sumAt (psB a b p s.size) s q))) := by
  unfold flow_Seal.f
  rw [if_pos hs, h, if_neg h0]
  unfold seal_with
  rw [pseudo_some a b ha hb, Option.bind_some]
  have hz := psB_size a b p s.size
  have hz2 := (psT_size (a.size == 16) p s.size).2
  have hcat : cat [psB a b p s.size, s.extract 0 q, ⟨#[0, 0]⟩, s.extract (q + 2) s.size] = bl (psB a b p s.size) ++ bl (putAt s q 0) := by
    rw [bl_putAt, cat_cons, cat_cons, cat_cons, cat_cons, cat_nil, List.append_nil, ext_front, ext_back, show bl (⟨#[0, 0]⟩ : ByteArray) = nb 2 0 from rfl]
    simp only [List.append_assoc]
  rw [sum_is _ (by rw [hcat, bl_putAt]; simp only [List.length_append, List.length_take, List.length_drop, nb_length, bl_length]; omega), Option.bind_some, hcat, sealNo_is]
  unfold sealBytes
  rw [u64n_of (by omega) (by have := sealC_le (p := p) (csum_bound (bl (psB a b p s.size) ++ bl (putAt s q 0))); omega), Int.toNat_natCast, ext_front, ext_back]
  rfl
theorem sealAt_cases (p : Int) (n : Nat) : sealAt p n = 0 ∨ (sealAt p n = 16 ∧ p = 6 ∧ 20 ≤ n) ∨ (sealAt p n = 6 ∧ p = 17 ∧ 8 ≤ n) := by
  unfold sealAt; split
  · rename_i h; exact .inr (.inl ⟨rfl, h.1, h.2⟩)
  · split
    · rename_i h; exact .inr (.inr ⟨rfl, h.1, h.2⟩)
    · exact .inl rfl
theorem sealed_right {ps s : ByteArray} {q : Nat} {p : Int} (hp : odd (bl ps) = false) (hq : q % 2 = 0) (hl : q + 2 ≤ s.size) : csum (bl ps ++ bl (putAt s q (sealC p (sumAt ps s q)))) = 0 := by
  have hA : odd (bl ps ++ (bl s).take q) = false := by
    have e : ((bl s).take q).length = q := by rw [List.length_take, bl_length]; omega
    unfold odd at hp ⊢
    simp only [beq_eq_false_iff_ne] at hp ⊢
    rw [List.length_append, e]; omega
  have e : ∀ c, bl ps ++ bl (putAt s q c) = (bl ps ++ (bl s).take q) ++ nb 2 c ++ (bl s).drop (q + 2) := fun c => by rw [bl_putAt]; simp only [List.append_assoc]
  unfold sumAt
  rw [e, e]
  unfold sealC
  split
  · rename_i h
    have := inSealed17 (bl ps ++ (bl s).take q) ((bl s).drop (q + 2)) hA
    unfold seal17 at this
    rw [if_pos h.1] at this
    exact this
  · exact inSealed _ _ hA
end Go.Proofs.Ytcmalglippmocaa.Pure
end

section
namespace Go.Proofs.Ytcmalglippmocaa.Pure
open Go.RowKit Go.Proofs.YtcmalglippmocaaW.PrintWords Go.Proofs.YtcmalglippmocaaW.PrintLast Go.Proofs.Ytcmalglippmocaa.G Go.Proofs.Ytcmalglippmocaa.Pal
namespace F2
theorem mid_putAt (s : ByteArray) (q c : Nat) (h : q + 2 ≤ s.size) : bl ((putAt s q c).extract q (q + 2)) = nb 2 c := by
  have hl : ((bl s).take q).length = q := by rw [List.length_take, bl_length]; omega
  rw [cut_bl, bl_putAt, List.take_append_of_le_length (by rw [List.length_append, nb_length]; omega), List.take_of_length_le (by rw [List.length_append, nb_length]; omega)]
  exact List.drop_left' hl
end F2
end Go.Proofs.Ytcmalglippmocaa.Pure
end

section
namespace Go.Proofs.Ytcmalglippmocaa.Pure
open Go.RowKit Go.Proofs.YtcmalglippmocaaW.PrintWords Go.Proofs.YtcmalglippmocaaW.PrintLast Go.Proofs.Ytcmalglippmocaa.G Go.Proofs.Ytcmalglippmocaa.Pal
theorem cut4 (s : ByteArray) (n m : Nat) : bl (s.extract n m) = ((bl s).take m).drop n := by simp [bl, ByteArray.data_extract, List.drop_take]
theorem err4_zero {s : ByteArray} (h : ip4Err s = 0) : 20 ≤ s.size ∧ be (bl (s.extract 0 1)) / 16 = 4 ∧ (20 ≤ hl4 s ∧ hl4 s ≤ s.size ∧ be (bl (s.extract 2 4)) = s.size) ∧ csum (bl (s.extract 0 (hl4 s))) = 0 ∧ be (bl (s.extract 6 8)) / 32768 = 0 := by
  unfold ip4Err at h
  by_cases h1 : s.size < 20
  · rw [if_pos h1] at h; exact absurd h (by decide)
  rw [if_neg h1] at h
  by_cases h2 : be (bl (s.extract 0 1)) / 16 = 4
  case neg => rw [if_neg h2] at h; exact absurd h (by decide)
  rw [if_pos h2] at h
  by_cases h3 : 20 ≤ hl4 s ∧ hl4 s ≤ s.size ∧ be (bl (s.extract 2 4)) = s.size
  case neg => rw [if_neg h3] at h; exact absurd h (by decide)
  rw [if_pos h3] at h
  by_cases h4 : csum (bl (s.extract 0 (hl4 s))) = 0
  case neg => rw [if_neg h4] at h; exact absurd h (by decide)
  rw [if_pos h4] at h
  by_cases h5 : be (bl (s.extract 6 8)) / 32768 = 0
  case neg => rw [if_neg h5] at h; exact absurd h (by decide)
  exact ⟨by omega, h2, h3, h4, h5⟩
end Go.Proofs.Ytcmalglippmocaa.Pure
end

section
namespace Go.Proofs.Ytcmalglippmocaa.Pure
open Go.RowKit Go.Proofs.YtcmalglippmocaaW.PrintWords Go.Proofs.YtcmalglippmocaaW.PrintLast Go.Proofs.Ytcmalglippmocaa.G Go.Proofs.Ytcmalglippmocaa.Pal
theorem low8 (x : Int) : Go.bits .and .i64 x 255 = x % 256 := by
  have e : Go.bits .and .i64 x 255 = IntKind.i64.wrap (((x % 18446744073709551616).toNat &&& 255 : Nat) : Int) := by
    show IntKind.i64.wrap (((BitVec.ofInt 64 x &&& BitVec.ofInt 64 255).toNat : Nat) : Int) = _
    rw [BitVec.toNat_and, BitVec.toNat_ofInt, show (BitVec.ofInt 64 255).toNat = 255 from rfl]
    rfl
  rw [e, Nat.and_two_pow_sub_one_eq_mod _ 8, IntKind.wrap_i64]; omega
theorem low20 (x : Int) : Go.bits .and .i64 x 1048575 = x % 1048576 := by
  have e : Go.bits .and .i64 x 1048575 = IntKind.i64.wrap (((x % 18446744073709551616).toNat &&& 1048575 : Nat) : Int) := by
    show IntKind.i64.wrap (((BitVec.ofInt 64 x &&& BitVec.ofInt 64 1048575).toNat : Nat) : Int) = _
    rw [BitVec.toNat_and, BitVec.toNat_ofInt, show (BitVec.ofInt 64 1048575).toNat = 1048575 from rfl]
    rfl
  rw [e, Nat.and_two_pow_sub_one_eq_mod _ 20, IntKind.wrap_i64]; omega
end Go.Proofs.Ytcmalglippmocaa.Pure
end

section
namespace Go.Proofs.Ytcmalglippmocaa.Pure
open Go.RowKit Go.Proofs.YtcmalglippmocaaW.PrintWords Go.Proofs.YtcmalglippmocaaW.PrintLast Go.Proofs.Ytcmalglippmocaa.G Go.Proofs.Ytcmalglippmocaa.Pal
end Go.Proofs.Ytcmalglippmocaa.Pure
end

section
namespace Go.Proofs.Ytcmalglippmocaa.Pure
open Go.RowKit Go.Proofs.YtcmalglippmocaaW.PrintWords Go.Proofs.YtcmalglippmocaaW.PrintLast Go.Proofs.Ytcmalglippmocaa.G Go.Proofs.Ytcmalglippmocaa.Pal
namespace FG
theorem bt_one (s : ByteArray) (i : Nat) (h : i < s.size) : bt s (i : Int) = ((be (bl (s.extract i (i + 1))) : Nat) : Int) := by
  have e : ((bl s).take (i + 1)).drop i = [(bl s)[i]'(by rw [bl_length]; exact h)] := by
    rw [List.drop_take, show i + 1 - i = 1 by omega, List.drop_eq_getElem_cons (by rw [bl_length]; exact h)]; rfl
  rw [bt_bl s i h, cut_bl, e]
  simp [be]
def okR (proto p3 : Int) (src dst pay : ByteArray) (bare : Bool) : Bool := if proto = 17 ∧ p3 = 0 then bare else decide (csum (bl (psB src dst proto (pay.size : Int)) ++ bl pay) = 0)
theorem fin_some {proto p1 p2 p3 : Int} {src dst pay : ByteArray} (bare : Bool) (hp : proto = 6 ∨ proto = 17) (hports : flow_ports.f proto pay = some (p1, p2, p3, 0)) (hs : src.size ≤ 300) (hd : dst.size ≤ 300) (hz : pay.size ≤ 1000000000) :
    flow_fin proto src dst pay false bare = some (if okR proto p3 src dst pay bare = true then (proto, src, dst, p1, p2, 0) else flow_bad 5) := by
  have hz1 := psB_size src dst proto pay.size
  have hz2 := (psT_size (src.size == 16) proto pay.size).2
  unfold flow_fin okR
  rw [if_neg (by decide), if_neg (by rcases hp with rfl | rfl <;> decide), hports, Option.bind_some]
  dsimp +instances only
  rw [if_neg (fun h => h rfl), pseudo_some src dst hs hd, Option.bind_some, right2 _ _ (by omega), Option.bind_some]
  split <;> split <;> rfl
theorem fin_err {proto p1 p2 p3 p4 : Int} {src dst pay : ByteArray} (bare : Bool) (hp : proto = 6 ∨ proto = 17) (hports : flow_ports.f proto pay = some (p1, p2, p3, p4)) (h4 : p4 ≠ 0) : flow_fin proto src dst pay false bare = some (flow_bad p4) := by
  unfold flow_fin
  rw [if_neg (by decide), if_neg (by rcases hp with rfl | rfl <;> decide), hports, Option.bind_some]
  dsimp +instances only
  rw [if_pos h4]
theorem fin_other {proto : Int} {src dst pay : ByteArray} (bare : Bool) (hp : proto ≠ 6 ∧ proto ≠ 17) : flow_fin proto src dst pay false bare = some (flow_bad 6) := by
  unfold flow_fin
  rw [if_neg (by decide), if_pos hp]
theorem fin_piece {proto : Int} {src dst pay : ByteArray} (bare : Bool) : flow_fin proto src dst pay true bare = some (flow_bad 14) := by
  unfold flow_fin; rw [if_pos rfl]
theorem err4_of {x : ByteArray} {a b c d e : Int} {df mf : Bool} {src dst opt p : ByteArray} (h : ip4_Get.f x = some (a, b, c, d, e, df, mf, src, dst, opt, p, 0)) : ip4Err x = 0 := by
  unfold ip4_Get.f at h
  split at h
  · have := Option.some.inj h
    by_cases h0 : ip4Err x = 0
    · exact h0
    · rw [if_neg h0] at this
      simp only [Prod.mk.injEq] at this
      exact this.2.2.2.2.2.2.2.2.2.2.2
  · exact absurd h (by simp)
theorem err6_of {x : ByteArray} {a b c d : Int} {src dst p : ByteArray} (h : ip6_Get.f x = some (a, b, c, d, src, dst, p, 0)) : ip6Err x = 0 := by
  unfold ip6_Get.f at h
  split at h
  · have := Option.some.inj h
    by_cases h0 : ip6Err x = 0
    · exact h0
    · rw [if_neg h0] at this
      simp only [Prod.mk.injEq] at this
      exact this.2.2.2.2.2.2.2
  · exact absurd h (by simp)
theorem bt0_four {x : ByteArray} (h : ip4Err x = 0) : ¬ x.size = 0 ∧ bt x 0 / 16 = 4 := by
  obtain ⟨h1, h2, _⟩ := err4_zero h
  refine ⟨by omega, ?_⟩
  have := bt_one x 0 (by omega)
  rw [show (0 : Int) = ((0 : Nat) : Int) from rfl, this, show (0 + 1 : Nat) = 1 from rfl]
  generalize be (bl (x.extract 0 1)) = y at h2 ⊢
  omega
theorem first_four (x : ByteArray) (h : 4 ≤ x.size) : be (bl (x.extract 0 4)) / 268435456 = be (bl (x.extract 0 1)) / 16 := by
  have hl := bl_length x
  obtain ⟨a, b, c, d, r, hx⟩ : ∃ a b c d r, bl x = a :: b :: c :: d :: r := by
    match hb : bl x with
    | [] => rw [hb] at hl; simp at hl; omega
    | [_] => rw [hb] at hl; simp at hl; omega
    | [_, _] => rw [hb] at hl; simp at hl; omega
    | [_, _, _] => rw [hb] at hl; simp at hl; omega
    | a :: b :: c :: d :: r => exact ⟨a, b, c, d, r, rfl⟩
  rw [cut_bl, cut_bl, hx]
  have e1 : ((a :: b :: c :: d :: r).take 4).drop 0 = [a] ++ [b] ++ [c] ++ [d] := rfl
  have e2 : ((a :: b :: c :: d :: r).take 1).drop 0 = [a] := rfl
  rw [e1, e2, be_snoc, be_snoc, be_snoc]
  have hb := b.toNat_lt
  have hc := c.toNat_lt
  have hd := d.toNat_lt
  generalize be [a] = y
  omega
theorem bt0_six {x : ByteArray} (h : ip6Err x = 0) : ¬ x.size = 0 ∧ bt x 0 / 16 = 6 := by
  unfold ip6Err at h
  split at h
  · exact absurd h (by decide)
  rename_i h40
  split at h
  case isFalse => exact absurd h (by decide)
  rename_i h6
  refine ⟨by omega, ?_⟩
  rw [first_four x (by omega)] at h6
  have := bt_one x 0 (by omega)
  rw [show (0 : Int) = ((0 : Nat) : Int) from rfl, this, show (0 + 1 : Nat) = 1 from rfl]
  generalize be (bl (x.extract 0 1)) = y at h6 ⊢
  omega
theorem get_of4 {x : ByteArray} {a b c d e : Int} {df mf : Bool} {src dst opt p : ByteArray} (h : ip4_Get.f x = some (a, b, c, d, e, df, mf, src, dst, opt, p, 0)) : flow_Get.f x = flow_fin e src dst p (c != 0 || mf) true := by
  obtain ⟨h1, h2⟩ := bt0_four (err4_of h)
  unfold flow_Get.f
  rw [if_neg h1, if_pos h2, h, Option.bind_some]
  dsimp +instances only
  rw [if_neg (fun h => h rfl)]
theorem get_of6 {x : ByteArray} {a b c d : Int} {src dst p : ByteArray} (h : ip6_Get.f x = some (a, b, c, d, src, dst, p, 0)) : flow_Get.f x = flow_fin c src dst p false false := by
  obtain ⟨h1, h2⟩ := bt0_six (err6_of h)
  unfold flow_Get.f
  rw [if_neg h1, if_neg (by omega), if_pos h2, h, Option.bind_some]
  dsimp +instances only
  rw [if_neg (fun h => h rfl)]
theorem ports_ex (proto : Int) {pay : ByteArray} (hz : pay.size ≤ 1000000) : ∃ p1 p2 p3 p4, flow_ports.f proto pay = some (p1, p2, p3, p4) := by
  unfold flow_ports.f
  by_cases h6 : proto = 6
  · obtain ⟨⟨d1, d2, d3, d4, d5, d6, d7, d8, d9, d10, d11⟩, hd'⟩ : ∃ d, tcp_Get.f pay = some d := ⟨_, getT_is (by omega)⟩
    rw [if_pos h6, hd', Option.bind_some]; exact ⟨_, _, _, _, rfl⟩
  · obtain ⟨⟨d1, d2, d3, d4, d5⟩, hd'⟩ : ∃ d, udp_Get.f pay = some d := ⟨_, get_is (by omega)⟩
    rw [if_neg h6, hd', Option.bind_some]; exact ⟨_, _, _, _, rfl⟩
theorem fin_ex (proto : Int) {src dst pay : ByteArray} (piece bare : Bool) (hs : src.size ≤ 300) (hd : dst.size ≤ 300) (hz : pay.size ≤ 1000000) : ∃ r, flow_fin proto src dst pay piece bare = some r := by
  cases piece with
  | true => exact ⟨_, fin_piece bare⟩
  | false =>
    by_cases hp : proto ≠ 6 ∧ proto ≠ 17
    · exact ⟨_, fin_other bare hp⟩
    · have hp' : proto = 6 ∨ proto = 17 := by omega
      obtain ⟨p1, p2, p3, p4, h⟩ := ports_ex proto hz
      by_cases h4 : p4 = 0
      · subst h4; exact ⟨_, fin_some bare hp' h hs hd (by omega)⟩
      · exact ⟨_, fin_err bare hp' h h4⟩
theorem flow_some (s : ByteArray) (hs : s.size ≤ 1000000) : ∃ r, flow_Get.f s = some r := by
  unfold flow_Get.f
  split
  · exact ⟨_, rfl⟩
  split
  · unfold ip4_Get.f
    rw [if_pos (by omega)]
    by_cases he : ip4Err s = 0
    · have hE := (err4_zero he).1
      rw [if_pos he, Option.bind_some]
      dsimp +instances only
      rw [if_neg (fun h => h rfl)]
      exact fin_ex _ _ _ (by rw [ByteArray.size_extract]; omega) (by rw [ByteArray.size_extract]; omega) (by rw [ByteArray.size_extract]; omega)
    · rw [if_neg he, Option.bind_some]
      dsimp +instances only
      rw [if_pos he]
      exact ⟨_, rfl⟩
  split
  · unfold ip6_Get.f
    rw [if_pos (by omega)]
    by_cases he : ip6Err s = 0
    · rw [if_pos he, Option.bind_some]
      dsimp +instances only
      rw [if_neg (fun h => h rfl)]
      exact fin_ex _ _ _ (by rw [ByteArray.size_extract]; omega) (by rw [ByteArray.size_extract]; omega) (by rw [ByteArray.size_extract]; omega)
    · rw [if_neg he, Option.bind_some]
      dsimp +instances only
      rw [if_pos he]
      exact ⟨_, rfl⟩
  · exact ⟨_, rfl⟩
end FG
end Go.Proofs.Ytcmalglippmocaa.Pure
end
