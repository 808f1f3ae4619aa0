/- Texts of this session, joined: each is a section. -/
import Derived.Test.YtcmalglippmocaaDoorMFlowValid2
import Derived.Test.YtcmalglippmocaaDoorMFlowValid6
set_option linter.unusedVariables false
set_option linter.unusedSimpArgs false
section
namespace Go.Proofs.YtcmalglippmocaaDoor.G
open Go.RowKit Go.Proofs.YtcmalglippmocaaDoorW.PrintWords Go.Proofs.YtcmalglippmocaaDoorW.PrintLast Go.Proofs.YtcmalglippmocaaDoorW.PrintMore
attribute [local go_sem] max2_int min2_int max_two min_two max_three min_three max_four min_four

mutual
def palanquinref05_Put.j0 : Nat → ByteArray → Int → Int → Int → Int → Int → Int → Int → Bool → Bool → ByteArray → ByteArray → ByteArray → Option (ByteArray × Int)
 | 0, _, _, _, _, _, _, _, _, _, _, _, _, _ => none
 | k + 1, x1, x6, x7, x370000, x370001, x370002, x370003, x370004, x370005, x370006, x370007, x370008, x370009 => if x370006 = true then (palanquinref05_Put.j1 k x1 x6 (wrap64 (x7 + 8192)) x370000 x370001 x370002 x370003 x370004 x370005 x370006 x370007 x370008 x370009) else (palanquinref05_Put.j1 k x1 x6 x7 x370000 x370001 x370002 x370003 x370004 x370005 x370006 x370007 x370008 x370009)
def palanquinref05_Put.j1 : Nat → ByteArray → Int → Int → Int → Int → Int → Int → Int → Bool → Bool → ByteArray → ByteArray → ByteArray → Option (ByteArray × Int)
 | 0, _, _, _, _, _, _, _, _, _, _, _, _, _ => none
 | k + 1, x1, x6, x7, x370000, x370001, x370002, x370003, x370004, x370005, x370006, x370007, x370008, x370009 => (palanquinref05_num.f k (wrap64 (69 + (wrap64 ((x370009.size : Int) / 4)))) 1).bind fun t371 => ((palanquinref05_num.f k x370000 1).bind fun t372 => (if t371.size + t372.size ≤ 9223372036854775807 then ((palanquinref05_num.f k x6 2).bind fun t373 => (if (t371 ++ t372).size + t373.size ≤ 9223372036854775807 then ((palanquinref05_num.f k x370001 2).bind fun t374 => (if ((t371 ++ t372) ++ t373).size + t374.size ≤ 9223372036854775807 then ((palanquinref05_num.f k x7 2).bind fun t375 => (if (((t371 ++ t372) ++ t373) ++ t374).size + t375.size ≤ 9223372036854775807 then ((palanquinref05_num.f k x370003 1).bind fun t376 => (if ((((t371 ++ t372) ++ t373) ++ t374) ++ t375).size + t376.size ≤ 9223372036854775807 then ((palanquinref05_num.f k x370004 1).bind fun t377 => (if (((((t371 ++ t372) ++ t373) ++ t374) ++ t375) ++ t376).size + t377.size ≤ 9223372036854775807 then (if x370007.size + x370008.size ≤ 9223372036854775807 then (if (x370007 ++ x370008).size + x370009.size ≤ 9223372036854775807 then (if ((((((t371 ++ t372) ++ t373) ++ t374) ++ t375) ++ t376) ++ t377).size + 2 ≤ 9223372036854775807 then (if (((((((t371 ++ t372) ++ t373) ++ t374) ++ t375) ++ t376) ++ t377) ++ (⟨#[0, 0]⟩ : ByteArray)).size + ((x370007 ++ x370008) ++ x370009).size ≤ 9223372036854775807 then ((palanquinref02_Sum.f k ((((((((t371 ++ t372) ++ t373) ++ t374) ++ t375) ++ t376) ++ t377) ++ (⟨#[0, 0]⟩ : ByteArray)) ++ ((x370007 ++ x370008) ++ x370009))).bind fun t378 => ((palanquinref05_num.f k t378 2).bind fun t379 => (if ((((((t371 ++ t372) ++ t373) ++ t374) ++ t375) ++ t376) ++ t377).size + t379.size ≤ 9223372036854775807 then (if (((((((t371 ++ t372) ++ t373) ++ t374) ++ t375) ++ t376) ++ t377) ++ t379).size + ((x370007 ++ x370008) ++ x370009).size ≤ 9223372036854775807 then (if ((((((((t371 ++ t372) ++ t373) ++ t374) ++ t375) ++ t376) ++ t377) ++ t379) ++ ((x370007 ++ x370008) ++ x370009)).size + x1.size ≤ 9223372036854775807 then (some (((((((((t371 ++ t372) ++ t373) ++ t374) ++ t375) ++ t376) ++ t377) ++ t379) ++ ((x370007 ++ x370008) ++ x370009)) ++ x1, 0)) else (none)) else (none)) else (none)))) else (none)) else (none)) else (none)) else (none)) else (none))) else (none))) else (none))) else (none))) else (none))) else (none)))
end
def palanquinref05_Put.f (k : Nat) (a0_0 : Int) (a0_1 : Int) (a0_2 : Int) (a0_3 : Int) (a0_4 : Int) (a0_5 : Bool) (a0_6 : Bool) (a0_7 : ByteArray) (a0_8 : ByteArray) (a0_9 : ByteArray) (a1 : ByteArray) : Option (ByteArray × Int) := (palanquinref05_Right.f a0_0 a0_1 a0_2 a0_3 a0_4 a0_5 a0_6 a0_7 a0_8 a0_9).bind fun t370 => (if t370 = true then (if (wrap64 ((wrap64 (20 + (a0_9.size : Int))) + (a1.size : Int))) > 65535 then (some ((⟨#[]⟩ : ByteArray), 4)) else (if a0_5 = true then (palanquinref05_Put.j0 k a1 (wrap64 ((wrap64 (20 + (a0_9.size : Int))) + (a1.size : Int))) (wrap64 (a0_2 + 16384)) a0_0 a0_1 a0_2 a0_3 a0_4 a0_5 a0_6 a0_7 a0_8 a0_9) else (palanquinref05_Put.j0 k a1 (wrap64 ((wrap64 (20 + (a0_9.size : Int))) + (a1.size : Int))) a0_2 a0_0 a0_1 a0_2 a0_3 a0_4 a0_5 a0_6 a0_7 a0_8 a0_9))) else (some ((⟨#[]⟩ : ByteArray), 1)))
def palanquinref05_Put.T11 : Bool × List (List Nat × List Nat) := (true, [([], []), ([0], [0]), ([1], [1]), ([2], [2]), ([3], [3]), ([4], [4]), ([], []), ([6], [6]), ([7, 5], [7]), ([5, 8], [5, 8]), ([], []), ([10, 8], [10]), ([9, 11], [9, 11]), ([], []), ([13], [13]), ([14, 11], [14]), ([12, 15], [12, 15]), ([], []), ([17, 15], [17]), ([16, 18], [16, 18]), ([], []), ([20], [20]), ([21, 18], [21]), ([19, 22], [19, 22]), ([], []), ([24], [24]), ([25, 22], [25]), ([23, 26], [23, 26]), ([27, 26, 0, 1, 2, 3, 4, 5, 6, 7, 8, 9, 10, 11, 12, 13, 14, 15, 16, 17, 18, 19, 20, 21, 22, 23, 24, 25, 26, 27], [27])])
def palanquinref05_Put.B11 : List Nat := [0, 1, 3, 7, 15, 31, 0, 64, 255, 511, 0, 1535, 4095, 0, 8192, 28159, 65535, 0, 191999, 524287, 0, 1048576, 3599871, 8388607, 0, 16777216, 58125823, 134217727, 268435455]
theorem palanquinref05_Put.tab11 : rtab .any (opsOf Tryd.f82 11) = palanquinref05_Put.T11 := by kernel_rfl
theorem palanquinref05_Put.bits11 : waitsOk palanquinref05_Put.T11.2 palanquinref05_Put.B11 = true := by kernel_rfl
set_option maxHeartbeats 8000000 in
set_option maxRecDepth 100000 in
theorem palanquinref05_Put.calls (k : Nat) (a0_0 : Int) (a0_1 : Int) (a0_2 : Int) (a0_3 : Int) (a0_4 : Int) (a0_5 : Bool) (a0_6 : Bool) (a0_7 : ByteArray) (a0_8 : ByteArray) (a0_9 : ByteArray) (a1 : ByteArray) (r1 : ByteArray) (r2 : Int) (w : World) (h : palanquinref05_Put.f k a0_0 a0_1 a0_2 a0_3 a0_4 a0_5 a0_6 a0_7 a0_8 a0_9 a1 = some (r1, r2)) :
  Calls Tryd.prog 82 #[.agg #[.int .i64 a0_0, .int .i64 a0_1, .int .i64 a0_2, .int .i64 a0_3, .int .i64 a0_4, .bool a0_5, .bool a0_6, .string a0_7, .string a0_8, .string a0_9], .string a1] w fun e w' => e = .returned (.tuple #[.string r1, .int .i64 r2]) ∧ Below w.heap.size w w' := by
 have hu69 := Tryd.underlying69
 have HB := mA (Below.refl w.heap.size w)
 have H : ((palanquinref05_Right.f a0_0 a0_1 a0_2 a0_3 a0_4 a0_5 a0_6 a0_7 a0_8 a0_9).bind fun t370 => (if t370 = true then (if (wrap64 ((wrap64 (20 + (a0_9.size : Int))) + (a1.size : Int))) > 65535 then (some ((⟨#[]⟩ : ByteArray), 4)) else (if a0_5 = true then (palanquinref05_Put.j0 k a1 (wrap64 ((wrap64 (20 + (a0_9.size : Int))) + (a1.size : Int))) (wrap64 (a0_2 + 16384)) a0_0 a0_1 a0_2 a0_3 a0_4 a0_5 a0_6 a0_7 a0_8 a0_9) else (palanquinref05_Put.j0 k a1 (wrap64 ((wrap64 (20 + (a0_9.size : Int))) + (a1.size : Int))) a0_2 a0_0 a0_1 a0_2 a0_3 a0_4 a0_5 a0_6 a0_7 a0_8 a0_9))) else (some ((⟨#[]⟩ : ByteArray), 1)))) = some (r1, r2) := h
 clear h
 replace H := Option.bind_eq_some_iff.mp H
 obtain ⟨t370, A30, H⟩ := H
 try dsimp +instances only at H
 have A3 := mA A30
 clear A30
 by_cases c4 : t370 = true
 ·subst c4
  rw [if_pos rfl] at H
  by_cases c5 : (wrap64 ((wrap64 (20 + (a0_9.size : Int))) + (a1.size : Int))) > 65535
  ·rw [if_pos c5] at H
   have c5b0 : decide (65535 < (wrap64 ((wrap64 (20 + (a0_9.size : Int))) + (a1.size : Int)))) = true := decide_eq_true c5
   clear c5
   simp only [Option.some.injEq, Prod.mk.injEq] at H
   obtain ⟨rfl, rfl⟩ := H
   go_enter Tryd.func82, Tryd.ntmps82
   go_wp2_with (first | ((with_reducible refine gate_dst (N := 2) rfl ?_); refine box_event ?hg (N := 2) ?hd (cs := #[.int .i64 a0_0, .int .i64 a0_1, .int .i64 a0_2, .int .i64 a0_3, .int .i64 a0_4, .bool a0_5, .bool a0_6, .string a0_7, .string a0_8, .string a0_9]) (t := 69) ?hr ?_; (case hd => rfl); (case hg => rfl); (case hr => first | (go_simp; done) | (go_simp; rfl)); intro gb369 hg w6 hbox hb; obtain ⟨n0_, nq_⟩ := bpr (by repeat (first | (with_reducible first | exact HB.out | apply bA | apply bN | apply bD) | exact HB.out)) hb; have n1_ := mA (hbox); have n2_ := mA ((by rw [hg]; exact nq_ : w.heap.size ≤ gb369)); have n3_ := mA ((by rw [hg]; exact nq_ : w.heap.size ≤ gb369)); clear HB; have HB := n0_; have BK369 := n1_; have GW369 := n2_; have GE369 := n3_; clear nq_; clear n0_ n1_ n2_ n3_; clear hb hbox hg; obtain ⟨hcz7_0, hcz7_1, hcz7_2, hcz7_3, hcz7_4, hcz7_5, hcz7_6, hcz7_7, hcz7_8, hcz7_9⟩ := bc10 BK369.out; obtain ⟨hfz7_0, hfz7_1, hfz7_2, hfz7_3, hfz7_4, hfz7_5, hfz7_6, hfz7_7, hfz7_8, hfz7_9⟩ := bf10 BK369.out) | ((with_reducible refine gate_callee (f := 110) rfl ?_); refine goesL_ (some 11) rfl rfl Tryd.func110 (by kernel_rfl) rfl #[.agg #[.int .i64 a0_0, .int .i64 a0_1, .int .i64 a0_2, .int .i64 a0_3, .int .i64 a0_4, .bool a0_5, .bool a0_6, .string a0_7, .string a0_8, .string a0_9]] rfl (by (try simp only [List.map_toArray, List.map_cons, List.map_nil]); first | done | rfl | (simp only [List.length_drop, List.length_take]; rfl)) ?_; (with_reducible refine (palanquinref05_Right.calls a0_0 a0_1 a0_2 a0_3 a0_4 a0_5 a0_6 a0_7 a0_8 a0_9 true _ A3.out).mono ?_); rintro e w8 ⟨rfl, hb⟩; refine ⟨_, rfl, ?_⟩; have n0_ := mA (blk_below (g := gb369) (o := .cells #[.int .i64 a0_0, .int .i64 a0_1, .int .i64 a0_2, .int .i64 a0_3, .int .i64 a0_4, .bool a0_5, .bool a0_6, .string a0_7, .string a0_8, .string a0_9] 69 (0, 0)) (by (with_reducible repeat (first | apply kN | apply kD | apply kA)); exact BK369.out) hb); have n1_ := mA (bP (by repeat (first | (with_reducible first | exact HB.out | apply bA | apply bN | apply bD | refine bS ?_ GE369.out) | exact HB.out)) hb); clear BK369; clear HB; have BK369 := n0_; have HB := n1_; clear n0_ n1_; (try clear hb); (try clear hb2); (try clear hk); (try clear hi); obtain ⟨hcz9_0, hcz9_1, hcz9_2, hcz9_3, hcz9_4, hcz9_5, hcz9_6, hcz9_7, hcz9_8, hcz9_9⟩ := bc10 BK369.out; obtain ⟨hfz9_0, hfz9_1, hfz9_2, hfz9_3, hfz9_4, hfz9_5, hfz9_6, hfz9_7, hfz9_8, hfz9_9⟩ := bf10 BK369.out))
   go_ret2
   exact ⟨by first | rfl | (simp [errW_none, errW_some] <;> rfl) | (simp [*, errW_none, errW_some] <;> rfl), by repeat (first | (with_reducible first | exact HB.out | apply bA | apply bN | apply bD | refine bS ?_ GE369.out) | exact HB.out)⟩
  ·rw [if_neg c5] at H
   have c5b0 : decide (65535 < (wrap64 ((wrap64 (20 + (a0_9.size : Int))) + (a1.size : Int)))) = false := decide_eq_false c5
   clear c5
   have HC10 := mA H
   clear H
   go_enter Tryd.func82, Tryd.ntmps82
   go_upto_if 25 with (first | ((with_reducible refine gate_dst (N := 2) rfl ?_); refine box_event ?hg (N := 2) ?hd (cs := #[.int .i64 a0_0, .int .i64 a0_1, .int .i64 a0_2, .int .i64 a0_3, .int .i64 a0_4, .bool a0_5, .bool a0_6, .string a0_7, .string a0_8, .string a0_9]) (t := 69) ?hr ?_; (case hd => rfl); (case hg => rfl); (case hr => first | (go_simp; done) | (go_simp; rfl)); intro gb369 hg w11 hbox hb; obtain ⟨n0_, nq_⟩ := bpr (by repeat (first | (with_reducible first | exact HB.out | apply bA | apply bN | apply bD) | exact HB.out)) hb; have n1_ := mA (hbox); have n2_ := mA ((by rw [hg]; exact nq_ : w.heap.size ≤ gb369)); have n3_ := mA ((by rw [hg]; exact nq_ : w.heap.size ≤ gb369)); clear HB; have HB := n0_; have BK369 := n1_; have GW369 := n2_; have GE369 := n3_; clear nq_; clear n0_ n1_ n2_ n3_; clear hb hbox hg; obtain ⟨hcz12_0, hcz12_1, hcz12_2, hcz12_3, hcz12_4, hcz12_5, hcz12_6, hcz12_7, hcz12_8, hcz12_9⟩ := bc10 BK369.out; obtain ⟨hfz12_0, hfz12_1, hfz12_2, hfz12_3, hfz12_4, hfz12_5, hfz12_6, hfz12_7, hfz12_8, hfz12_9⟩ := bf10 BK369.out) | ((with_reducible refine gate_callee (f := 110) rfl ?_); refine goesL_ (some 11) rfl rfl Tryd.func110 (by kernel_rfl) rfl #[.agg #[.int .i64 a0_0, .int .i64 a0_1, .int .i64 a0_2, .int .i64 a0_3, .int .i64 a0_4, .bool a0_5, .bool a0_6, .string a0_7, .string a0_8, .string a0_9]] rfl (by (try simp only [List.map_toArray, List.map_cons, List.map_nil]); first | done | rfl | (simp only [List.length_drop, List.length_take]; rfl)) ?_; (with_reducible refine (palanquinref05_Right.calls a0_0 a0_1 a0_2 a0_3 a0_4 a0_5 a0_6 a0_7 a0_8 a0_9 true _ A3.out).mono ?_); rintro e w13 ⟨rfl, hb⟩; refine ⟨_, rfl, ?_⟩; have n0_ := mA (blk_below (g := gb369) (o := .cells #[.int .i64 a0_0, .int .i64 a0_1, .int .i64 a0_2, .int .i64 a0_3, .int .i64 a0_4, .bool a0_5, .bool a0_6, .string a0_7, .string a0_8, .string a0_9] 69 (0, 0)) (by (with_reducible repeat (first | apply kN | apply kD | apply kA)); exact BK369.out) hb); have n1_ := mA (bP (by repeat (first | (with_reducible first | exact HB.out | apply bA | apply bN | apply bD | refine bS ?_ GE369.out) | exact HB.out)) hb); clear BK369; clear HB; have BK369 := n0_; have HB := n1_; clear n0_ n1_; (try clear hb); (try clear hb2); (try clear hk); (try clear hi); obtain ⟨hcz14_0, hcz14_1, hcz14_2, hcz14_3, hcz14_4, hcz14_5, hcz14_6, hcz14_7, hcz14_8, hcz14_9⟩ := bc10 BK369.out; obtain ⟨hfz14_0, hfz14_1, hfz14_2, hfz14_3, hfz14_4, hfz14_5, hfz14_6, hfz14_7, hfz14_8, hfz14_9⟩ := bf10 BK369.out))
   (try simp only [Act.put, List.setIfInBounds_toArray, List.set_cons_zero, List.set_cons_succ])
   go_cut [7] (fun v7 wc => ∃ (kq : Nat) (x7_9 : Int), v7 = .int .i64 x7_9 ∧ Aside0 (palanquinref05_Put.j0 kq a1 (wrap64 ((wrap64 (20 + (a0_9.size : Int))) + (a1.size : Int))) x7_9 a0_0 a0_1 a0_2 a0_3 a0_4 a0_5 a0_6 a0_7 a0_8 a0_9 = some (r1, r2)) ∧ Aside0 (kq ≤ k) ∧ Aside0 (wc.heap[gb369]? = some (.cells #[.int .i64 a0_0, .int .i64 a0_1, .int .i64 a0_2, .int .i64 a0_3, .int .i64 a0_4, .bool a0_5, .bool a0_6, .string a0_7, .string a0_8, .string a0_9] 69 (0, 0))) ∧ Aside0 (Below w.heap.size w wc))
   case first =>
    have H := HC10.out
    clear HC10
    by_cases c15 : a0_5 = true
    ·subst c15
     rw [if_pos rfl] at H
     have H' := mA H
     clear H
     go_wp2
     go_meet
     case rel => exact ⟨_, (wrap64 (a0_2 + 16384)), (by first | rfl | (simp; done) | (simp [*]; done)), H', ⟨by first | omega | exact Nat.le_refl _⟩, ⟨by (with_reducible repeat (first | apply kN | apply kD | apply kA)); exact BK369.out⟩, ⟨by repeat (first | (with_reducible first | exact HB.out | apply bA | apply bN | apply bD | refine bS ?_ GE369.out) | exact HB.out)⟩⟩
    ·replace c15 := Bool.eq_false_iff.mpr c15
     subst c15
     rw [if_neg (show ¬ (false = true) by decide)] at H
     have H' := mA H
     clear H
     go_wp2
     go_meet
     case rel => exact ⟨_, (a0_2), (by first | rfl | (simp; done) | (simp [*]; done)), H', ⟨by first | omega | exact Nat.le_refl _⟩, ⟨by (with_reducible repeat (first | apply kN | apply kD | apply kA)); exact BK369.out⟩, ⟨by repeat (first | (with_reducible first | exact HB.out | apply bA | apply bN | apply bD | refine bS ?_ GE369.out) | exact HB.out)⟩⟩
   case rest =>
    clear HC10
    try clear c1
    try clear p2
    try clear c4
    try clear c5
    try clear c5b0
    try clear p6
    try clear c8
    try clear c11
    try clear c15
    try clear hcz12_0 hcz12_1 hcz12_2 hcz12_3 hcz12_4 hcz12_5 hcz12_6 hcz12_7 hcz12_8 hcz12_9
    try clear hcz14_0 hcz14_1 hcz14_2 hcz14_3 hcz14_4 hcz14_5 hcz14_6 hcz14_7 hcz14_8 hcz14_9
    try clear hcz7_0 hcz7_1 hcz7_2 hcz7_3 hcz7_4 hcz7_5 hcz7_6 hcz7_7 hcz7_8 hcz7_9
    try clear hcz9_0 hcz9_1 hcz9_2 hcz9_3 hcz9_4 hcz9_5 hcz9_6 hcz9_7 hcz9_8 hcz9_9
    try clear hfz12_0 hfz12_1 hfz12_2 hfz12_3 hfz12_4 hfz12_5 hfz12_6 hfz12_7 hfz12_8 hfz12_9
    try clear hfz14_0 hfz14_1 hfz14_2 hfz14_3 hfz14_4 hfz14_5 hfz14_6 hfz14_7 hfz14_8 hfz14_9
    try clear hfz7_0 hfz7_1 hfz7_2 hfz7_3 hfz7_4 hfz7_5 hfz7_6 hfz7_7 hfz7_8 hfz7_9
    try clear hfz9_0 hfz9_1 hfz9_2 hfz9_3 hfz9_4 hfz9_5 hfz9_6 hfz9_7 hfz9_8 hfz9_9
    obtain ⟨kq, x7_9, rfl, HA, HJ9, BK369, HB⟩ := hcut
    cases kq with
    | zero => exact absurd HA.out (by simp [palanquinref05_Put.j0])
    | succ kj9 =>
     have H := HA.out
     clear HA
     simp only [palanquinref05_Put.j0] at H
     have HC16 := mA H
     clear H
     obtain ⟨hcz17_0, hcz17_1, hcz17_2, hcz17_3, hcz17_4, hcz17_5, hcz17_6, hcz17_7, hcz17_8, hcz17_9⟩ := bc10 BK369.out
     obtain ⟨hfz17_0, hfz17_1, hfz17_2, hfz17_3, hfz17_4, hfz17_5, hfz17_6, hfz17_7, hfz17_8, hfz17_9⟩ := bf10 BK369.out
     go_upto_if 29 with (fail)
     go_cut [7] (fun v7 wc => ∃ (kq : Nat) (x7_15 : Int), v7 = .int .i64 x7_15 ∧ Aside0 (palanquinref05_Put.j1 kq a1 (wrap64 ((wrap64 (20 + (a0_9.size : Int))) + (a1.size : Int))) x7_15 a0_0 a0_1 a0_2 a0_3 a0_4 a0_5 a0_6 a0_7 a0_8 a0_9 = some (r1, r2)) ∧ Aside0 (kq ≤ kj9) ∧ Aside0 (wc.heap[gb369]? = some (.cells #[.int .i64 a0_0, .int .i64 a0_1, .int .i64 a0_2, .int .i64 a0_3, .int .i64 a0_4, .bool a0_5, .bool a0_6, .string a0_7, .string a0_8, .string a0_9] 69 (0, 0))) ∧ Aside0 (Below w.heap.size w wc))
     case first =>
      have H := HC16.out
      clear HC16
      by_cases c18 : a0_6 = true
      ·subst c18
       rw [if_pos rfl] at H
       have H' := mA H
       clear H
       go_wp2
       go_meet
       case rel => exact ⟨_, (wrap64 (x7_9 + 8192)), (by first | rfl | (simp; done) | (simp [*]; done)), H', ⟨by have := HJ9.out; first | omega | exact Nat.le_refl _⟩, ⟨by (with_reducible repeat (first | apply kN | apply kD | apply kA)); exact BK369.out⟩, ⟨by repeat (first | (with_reducible first | exact HB.out | apply bA | apply bN | apply bD | refine bS ?_ GE369.out) | exact HB.out)⟩⟩
      ·replace c18 := Bool.eq_false_iff.mpr c18
       subst c18
       rw [if_neg (show ¬ (false = true) by decide)] at H
       have H' := mA H
       clear H
       go_wp2
       go_meet
       case rel => exact ⟨_, (x7_9), (by first | rfl | (simp; done) | (simp [*]; done)), H', ⟨by have := HJ9.out; first | omega | exact Nat.le_refl _⟩, ⟨by (with_reducible repeat (first | apply kN | apply kD | apply kA)); exact BK369.out⟩, ⟨by repeat (first | (with_reducible first | exact HB.out | apply bA | apply bN | apply bD | refine bS ?_ GE369.out) | exact HB.out)⟩⟩
     case rest =>
      clear HC16
      try clear c1
      try clear p2
      try clear c4
      try clear c5
      try clear c5b0
      try clear p6
      try clear c8
      try clear c11
      try clear c15
      try clear c18
      try clear hcz12_0 hcz12_1 hcz12_2 hcz12_3 hcz12_4 hcz12_5 hcz12_6 hcz12_7 hcz12_8 hcz12_9
      try clear hcz14_0 hcz14_1 hcz14_2 hcz14_3 hcz14_4 hcz14_5 hcz14_6 hcz14_7 hcz14_8 hcz14_9
      try clear hcz17_0 hcz17_1 hcz17_2 hcz17_3 hcz17_4 hcz17_5 hcz17_6 hcz17_7 hcz17_8 hcz17_9
      try clear hcz7_0 hcz7_1 hcz7_2 hcz7_3 hcz7_4 hcz7_5 hcz7_6 hcz7_7 hcz7_8 hcz7_9
      try clear hcz9_0 hcz9_1 hcz9_2 hcz9_3 hcz9_4 hcz9_5 hcz9_6 hcz9_7 hcz9_8 hcz9_9
      try clear hfz12_0 hfz12_1 hfz12_2 hfz12_3 hfz12_4 hfz12_5 hfz12_6 hfz12_7 hfz12_8 hfz12_9
      try clear hfz14_0 hfz14_1 hfz14_2 hfz14_3 hfz14_4 hfz14_5 hfz14_6 hfz14_7 hfz14_8 hfz14_9
      try clear hfz17_0 hfz17_1 hfz17_2 hfz17_3 hfz17_4 hfz17_5 hfz17_6 hfz17_7 hfz17_8 hfz17_9
      try clear hfz7_0 hfz7_1 hfz7_2 hfz7_3 hfz7_4 hfz7_5 hfz7_6 hfz7_7 hfz7_8 hfz7_9
      try clear hfz9_0 hfz9_1 hfz9_2 hfz9_3 hfz9_4 hfz9_5 hfz9_6 hfz9_7 hfz9_8 hfz9_9
      try clear p2
      try clear p6
      obtain ⟨kq, x7_15, rfl, HA, HJ15, BK369, HB⟩ := hcut
      cases kq with
      | zero => exact absurd HA.out (by simp [palanquinref05_Put.j1])
      | succ kj15 =>
       have H := HA.out
       clear HA
       simp only [palanquinref05_Put.j1] at H
       replace H := Option.bind_eq_some_iff.mp H
       obtain ⟨t371, A190, H⟩ := H
       try dsimp +instances only at H
       have A19 := mA A190
       clear A190
       replace H := Option.bind_eq_some_iff.mp H
       obtain ⟨t372, A200, H⟩ := H
       try dsimp +instances only at H
       have A20 := mA A200
       clear A200
       by_cases c21 : t371.size + t372.size ≤ 9223372036854775807
       ·rw [if_pos c21] at H
        have c21b0 := eq_true c21
        have c21b1 : decide (t371.size + t372.size ≤ 9223372036854775807) = true := decide_eq_true c21
        try have c21b2 : (9223372036854775807 < t371.size + t372.size) = False := eq_false (Nat.not_lt.2 c21)
        replace H := Option.bind_eq_some_iff.mp H
        obtain ⟨t373, A220, H⟩ := H
        try dsimp +instances only at H
        have A22 := mA A220
        clear A220
        by_cases c23 : (t371 ++ t372).size + t373.size ≤ 9223372036854775807
        ·rw [if_pos c23] at H
         have c23b0 := eq_true c23
         have c23b1 : decide ((t371 ++ t372).size + t373.size ≤ 9223372036854775807) = true := decide_eq_true c23
         try have c23b2 : (9223372036854775807 < (t371 ++ t372).size + t373.size) = False := eq_false (Nat.not_lt.2 c23)
         try have c23b3 : (9223372036854775807 < (t371.size) + (t372.size) + t373.size) = False := eq_false (by have h_ := c23; simp only [ByteArray.size_append] at h_; omega)
         try have c23b4 : ((t371.size) + (t372.size) + t373.size ≤ 9223372036854775807) = True := eq_true (by have h_ := c23; simp only [ByteArray.size_append] at h_; omega)
         replace H := Option.bind_eq_some_iff.mp H
         obtain ⟨t374, A240, H⟩ := H
         try dsimp +instances only at H
         have A24 := mA A240
         clear A240
         by_cases c25 : ((t371 ++ t372) ++ t373).size + t374.size ≤ 9223372036854775807
         ·rw [if_pos c25] at H
          have c25b0 := eq_true c25
          have c25b1 : decide (((t371 ++ t372) ++ t373).size + t374.size ≤ 9223372036854775807) = true := decide_eq_true c25
          try have c25b2 : (9223372036854775807 < ((t371 ++ t372) ++ t373).size + t374.size) = False := eq_false (Nat.not_lt.2 c25)
          try have c25b3 : (9223372036854775807 < (t371.size) + (t372.size) + (t373.size) + t374.size) = False := eq_false (by have h_ := c25; simp only [ByteArray.size_append] at h_; omega)
          try have c25b4 : ((t371.size) + (t372.size) + (t373.size) + t374.size ≤ 9223372036854775807) = True := eq_true (by have h_ := c25; simp only [ByteArray.size_append] at h_; omega)
          replace H := Option.bind_eq_some_iff.mp H
          obtain ⟨t375, A260, H⟩ := H
          try dsimp +instances only at H
          have A26 := mA A260
          clear A260
          by_cases c27 : (((t371 ++ t372) ++ t373) ++ t374).size + t375.size ≤ 9223372036854775807
          ·rw [if_pos c27] at H
           have c27b0 := eq_true c27
           have c27b1 : decide ((((t371 ++ t372) ++ t373) ++ t374).size + t375.size ≤ 9223372036854775807) = true := decide_eq_true c27
           try have c27b2 : (9223372036854775807 < (((t371 ++ t372) ++ t373) ++ t374).size + t375.size) = False := eq_false (Nat.not_lt.2 c27)
           try have c27b3 : (9223372036854775807 < (t371.size) + (t372.size) + (t373.size) + (t374.size) + t375.size) = False := eq_false (by have h_ := c27; simp only [ByteArray.size_append] at h_; omega)
           try have c27b4 : ((t371.size) + (t372.size) + (t373.size) + (t374.size) + t375.size ≤ 9223372036854775807) = True := eq_true (by have h_ := c27; simp only [ByteArray.size_append] at h_; omega)
           replace H := Option.bind_eq_some_iff.mp H
           obtain ⟨t376, A280, H⟩ := H
           try dsimp +instances only at H
           have A28 := mA A280
           clear A280
           by_cases c29 : ((((t371 ++ t372) ++ t373) ++ t374) ++ t375).size + t376.size ≤ 9223372036854775807
           ·rw [if_pos c29] at H
            have c29b0 := eq_true c29
            have c29b1 : decide (((((t371 ++ t372) ++ t373) ++ t374) ++ t375).size + t376.size ≤ 9223372036854775807) = true := decide_eq_true c29
            try have c29b2 : (9223372036854775807 < ((((t371 ++ t372) ++ t373) ++ t374) ++ t375).size + t376.size) = False := eq_false (Nat.not_lt.2 c29)
            try have c29b3 : (9223372036854775807 < (t371.size) + (t372.size) + (t373.size) + (t374.size) + (t375.size) + t376.size) = False := eq_false (by have h_ := c29; simp only [ByteArray.size_append] at h_; omega)
            try have c29b4 : ((t371.size) + (t372.size) + (t373.size) + (t374.size) + (t375.size) + t376.size ≤ 9223372036854775807) = True := eq_true (by have h_ := c29; simp only [ByteArray.size_append] at h_; omega)
            replace H := Option.bind_eq_some_iff.mp H
            obtain ⟨t377, A300, H⟩ := H
            try dsimp +instances only at H
            have A30 := mA A300
            clear A300
            by_cases c31 : (((((t371 ++ t372) ++ t373) ++ t374) ++ t375) ++ t376).size + t377.size ≤ 9223372036854775807
            ·rw [if_pos c31] at H
             have c31b0 := eq_true c31
             have c31b1 : decide ((((((t371 ++ t372) ++ t373) ++ t374) ++ t375) ++ t376).size + t377.size ≤ 9223372036854775807) = true := decide_eq_true c31
             try have c31b2 : (9223372036854775807 < (((((t371 ++ t372) ++ t373) ++ t374) ++ t375) ++ t376).size + t377.size) = False := eq_false (Nat.not_lt.2 c31)
             try have c31b3 : (9223372036854775807 < (t371.size) + (t372.size) + (t373.size) + (t374.size) + (t375.size) + (t376.size) + t377.size) = False := eq_false (by have h_ := c31; simp only [ByteArray.size_append] at h_; omega)
             try have c31b4 : ((t371.size) + (t372.size) + (t373.size) + (t374.size) + (t375.size) + (t376.size) + t377.size ≤ 9223372036854775807) = True := eq_true (by have h_ := c31; simp only [ByteArray.size_append] at h_; omega)
             by_cases c32 : a0_7.size + a0_8.size ≤ 9223372036854775807
             ·rw [if_pos c32] at H
              have c32b0 := eq_true c32
              have c32b1 : decide (a0_7.size + a0_8.size ≤ 9223372036854775807) = true := decide_eq_true c32
              try have c32b2 : (9223372036854775807 < a0_7.size + a0_8.size) = False := eq_false (Nat.not_lt.2 c32)
              by_cases c33 : (a0_7 ++ a0_8).size + a0_9.size ≤ 9223372036854775807
              ·rw [if_pos c33] at H
               have c33b0 := eq_true c33
               have c33b1 : decide ((a0_7 ++ a0_8).size + a0_9.size ≤ 9223372036854775807) = true := decide_eq_true c33
               try have c33b2 : (9223372036854775807 < (a0_7 ++ a0_8).size + a0_9.size) = False := eq_false (Nat.not_lt.2 c33)
               try have c33b3 : (9223372036854775807 < (a0_7.size) + (a0_8.size) + a0_9.size) = False := eq_false (by have h_ := c33; simp only [ByteArray.size_append] at h_; omega)
               try have c33b4 : ((a0_7.size) + (a0_8.size) + a0_9.size ≤ 9223372036854775807) = True := eq_true (by have h_ := c33; simp only [ByteArray.size_append] at h_; omega)
               by_cases c34 : ((((((t371 ++ t372) ++ t373) ++ t374) ++ t375) ++ t376) ++ t377).size + 2 ≤ 9223372036854775807
               ·rw [if_pos c34] at H
                have c34b0 := eq_true c34
                have c34b1 : decide (((((((t371 ++ t372) ++ t373) ++ t374) ++ t375) ++ t376) ++ t377).size + 2 ≤ 9223372036854775807) = true := decide_eq_true c34
                try have c34b2 : (9223372036854775807 < ((((((t371 ++ t372) ++ t373) ++ t374) ++ t375) ++ t376) ++ t377).size + 2) = False := eq_false (Nat.not_lt.2 c34)
                try have c34b3 : (9223372036854775807 < (t371.size) + (t372.size) + (t373.size) + (t374.size) + (t375.size) + (t376.size) + (t377.size) + 2) = False := eq_false (by have h_ := c34; simp only [ByteArray.size_append] at h_; omega)
                try have c34b4 : ((t371.size) + (t372.size) + (t373.size) + (t374.size) + (t375.size) + (t376.size) + (t377.size) + 2 ≤ 9223372036854775807) = True := eq_true (by have h_ := c34; simp only [ByteArray.size_append] at h_; omega)
                by_cases c35 : (((((((t371 ++ t372) ++ t373) ++ t374) ++ t375) ++ t376) ++ t377) ++ (⟨#[0, 0]⟩ : ByteArray)).size + ((a0_7 ++ a0_8) ++ a0_9).size ≤ 9223372036854775807
                ·rw [if_pos c35] at H
                 have c35b0 := eq_true c35
                 have c35b1 : decide ((((((((t371 ++ t372) ++ t373) ++ t374) ++ t375) ++ t376) ++ t377) ++ (⟨#[0, 0]⟩ : ByteArray)).size + ((a0_7 ++ a0_8) ++ a0_9).size ≤ 9223372036854775807) = true := decide_eq_true c35
                 try have c35b2 : (9223372036854775807 < (((((((t371 ++ t372) ++ t373) ++ t374) ++ t375) ++ t376) ++ t377) ++ (⟨#[0, 0]⟩ : ByteArray)).size + ((a0_7 ++ a0_8) ++ a0_9).size) = False := eq_false (Nat.not_lt.2 c35)
                 try have c35b3 : (9223372036854775807 < (t371.size) + (t372.size) + (t373.size) + (t374.size) + (t375.size) + (t376.size) + (t377.size) + 2 + ((a0_7.size) + (a0_8.size) + (a0_9.size))) = False := eq_false (by have h_ := c35; simp only [ByteArray.size_append] at h_; have zl0_ : (⟨#[0, 0]⟩ : ByteArray).size = 2 := rfl; omega)
                 try have c35b4 : ((t371.size) + (t372.size) + (t373.size) + (t374.size) + (t375.size) + (t376.size) + (t377.size) + 2 + ((a0_7.size) + (a0_8.size) + (a0_9.size)) ≤ 9223372036854775807) = True := eq_true (by have h_ := c35; simp only [ByteArray.size_append] at h_; have zl0_ : (⟨#[0, 0]⟩ : ByteArray).size = 2 := rfl; omega)
                 replace H := Option.bind_eq_some_iff.mp H
                 obtain ⟨t378, A360, H⟩ := H
                 try dsimp +instances only at H
                 have A36 := mA A360
                 clear A360
                 replace H := Option.bind_eq_some_iff.mp H
                 obtain ⟨t379, A370, H⟩ := H
                 try dsimp +instances only at H
                 have A37 := mA A370
                 clear A370
                 by_cases c38 : ((((((t371 ++ t372) ++ t373) ++ t374) ++ t375) ++ t376) ++ t377).size + t379.size ≤ 9223372036854775807
                 ·rw [if_pos c38] at H
                  have c38b0 := eq_true c38
                  have c38b1 : decide (((((((t371 ++ t372) ++ t373) ++ t374) ++ t375) ++ t376) ++ t377).size + t379.size ≤ 9223372036854775807) = true := decide_eq_true c38
                  try have c38b2 : (9223372036854775807 < ((((((t371 ++ t372) ++ t373) ++ t374) ++ t375) ++ t376) ++ t377).size + t379.size) = False := eq_false (Nat.not_lt.2 c38)
                  try have c38b3 : (9223372036854775807 < (t371.size) + (t372.size) + (t373.size) + (t374.size) + (t375.size) + (t376.size) + (t377.size) + t379.size) = False := eq_false (by have h_ := c38; simp only [ByteArray.size_append] at h_; omega)
                  try have c38b4 : ((t371.size) + (t372.size) + (t373.size) + (t374.size) + (t375.size) + (t376.size) + (t377.size) + t379.size ≤ 9223372036854775807) = True := eq_true (by have h_ := c38; simp only [ByteArray.size_append] at h_; omega)
                  by_cases c39 : (((((((t371 ++ t372) ++ t373) ++ t374) ++ t375) ++ t376) ++ t377) ++ t379).size + ((a0_7 ++ a0_8) ++ a0_9).size ≤ 9223372036854775807
                  ·rw [if_pos c39] at H
                   have c39b0 := eq_true c39
                   have c39b1 : decide ((((((((t371 ++ t372) ++ t373) ++ t374) ++ t375) ++ t376) ++ t377) ++ t379).size + ((a0_7 ++ a0_8) ++ a0_9).size ≤ 9223372036854775807) = true := decide_eq_true c39
                   try have c39b2 : (9223372036854775807 < (((((((t371 ++ t372) ++ t373) ++ t374) ++ t375) ++ t376) ++ t377) ++ t379).size + ((a0_7 ++ a0_8) ++ a0_9).size) = False := eq_false (Nat.not_lt.2 c39)
                   try have c39b3 : (9223372036854775807 < (t371.size) + (t372.size) + (t373.size) + (t374.size) + (t375.size) + (t376.size) + (t377.size) + (t379.size) + ((a0_7.size) + (a0_8.size) + (a0_9.size))) = False := eq_false (by have h_ := c39; simp only [ByteArray.size_append] at h_; omega)
                   try have c39b4 : ((t371.size) + (t372.size) + (t373.size) + (t374.size) + (t375.size) + (t376.size) + (t377.size) + (t379.size) + ((a0_7.size) + (a0_8.size) + (a0_9.size)) ≤ 9223372036854775807) = True := eq_true (by have h_ := c39; simp only [ByteArray.size_append] at h_; omega)
                   by_cases c40 : ((((((((t371 ++ t372) ++ t373) ++ t374) ++ t375) ++ t376) ++ t377) ++ t379) ++ ((a0_7 ++ a0_8) ++ a0_9)).size + a1.size ≤ 9223372036854775807
                   ·rw [if_pos c40] at H
                    have c40b0 := eq_true c40
                    have c40b1 : decide (((((((((t371 ++ t372) ++ t373) ++ t374) ++ t375) ++ t376) ++ t377) ++ t379) ++ ((a0_7 ++ a0_8) ++ a0_9)).size + a1.size ≤ 9223372036854775807) = true := decide_eq_true c40
                    try have c40b2 : (9223372036854775807 < ((((((((t371 ++ t372) ++ t373) ++ t374) ++ t375) ++ t376) ++ t377) ++ t379) ++ ((a0_7 ++ a0_8) ++ a0_9)).size + a1.size) = False := eq_false (Nat.not_lt.2 c40)
                    try have c40b3 : (9223372036854775807 < (t371.size) + (t372.size) + (t373.size) + (t374.size) + (t375.size) + (t376.size) + (t377.size) + (t379.size) + ((a0_7.size) + (a0_8.size) + (a0_9.size)) + a1.size) = False := eq_false (by have h_ := c40; simp only [ByteArray.size_append] at h_; omega)
                    try have c40b4 : ((t371.size) + (t372.size) + (t373.size) + (t374.size) + (t375.size) + (t376.size) + (t377.size) + (t379.size) + ((a0_7.size) + (a0_8.size) + (a0_9.size)) + a1.size ≤ 9223372036854775807) = True := eq_true (by have h_ := c40; simp only [ByteArray.size_append] at h_; omega)
                    simp only [Option.some.injEq, Prod.mk.injEq] at H
                    obtain ⟨rfl, rfl⟩ := H
                    try go_wp2
                    have n0_ := mA (kD BK369.out)
                    have n1_ := mA (bD HB.out)
                    clear BK369
                    clear HB
                    have BK369 := n0_
                    have HB := n1_
                    clear n0_ n1_
                    refine start_ (n := 29) (S := fun w' => w'.cell? ⟨gb369, 0, none⟩ = some (.int .i64 a0_0) ∧ w'.cell? ⟨gb369, 1, none⟩ = some (.int .i64 a0_1) ∧ w'.cell? ⟨gb369, 2, none⟩ = some (.int .i64 a0_2) ∧ w'.cell? ⟨gb369, 3, none⟩ = some (.int .i64 a0_3) ∧ w'.cell? ⟨gb369, 4, none⟩ = some (.int .i64 a0_4) ∧ w'.cell? ⟨gb369, 5, none⟩ = some (.bool a0_5) ∧ w'.cell? ⟨gb369, 6, none⟩ = some (.bool a0_6) ∧ w'.cell? ⟨gb369, 7, none⟩ = some (.string a0_7) ∧ w'.cell? ⟨gb369, 8, none⟩ = some (.string a0_8) ∧ w'.cell? ⟨gb369, 9, none⟩ = some (.string a0_9)) (ds := []) (bv 29 0) (by kernel_rfl) rfl rfl ⟨(zC BK369.out 0).trans rfl, (zC BK369.out 1).trans rfl, (zC BK369.out 2).trans rfl, (zC BK369.out 3).trans rfl, (zC BK369.out 4).trans rfl, (zC BK369.out 5).trans rfl, (zC BK369.out 6).trans rfl, (zC BK369.out 7).trans rfl, (zC BK369.out 8).trans rfl, (zC BK369.out 9).trans rfl⟩ (fun hHeld => ?_); refine with_tabW palanquinref05_Put.tab11 palanquinref05_Put.bits11 (fun HT_ HW_ => ?_)
                    generalize wc.drew = w41 at BK369 HB hHeld ⊢
                    refine pure_ (i := 0) (N := some 32) (v := ?_) (a' := ?_) (bv 29 1) rfl rfl (any_of HT_.out (by kernel_rfl)) (fun _ _ _ h => h) (Or.inl ⟨by rfl, ?_⟩) ?_ ?_; rotate_left; (intro w'; go_simp; with_reducible rfl); rotate_left; (simp only [Act.put, List.setIfInBounds_toArray, List.set_cons_zero, List.set_cons_succ, i64_w, i32_w]; rfl)
                    refine pure_ (i := 6) (N := some 38) (v := ?_) (a' := ?_) (bv 29 65) rfl rfl (any_of HT_.out (by kernel_rfl)) (fun _ _ _ h => h) (Or.inl ⟨by rfl, ?_⟩) ?_ ?_; rotate_left; (intro w'; go_simp; with_reducible rfl); rotate_left; (simp only [Act.put, List.setIfInBounds_toArray, List.set_cons_zero, List.set_cons_succ, i64_w, i32_w]; rfl)
                    refine pure_ (i := 10) (N := some 42) (v := ?_) (a' := ?_) (bv 29 1089) rfl rfl (any_of HT_.out (by kernel_rfl)) (fun _ _ _ h => h) (Or.inl ⟨by rfl, ?_⟩) ?_ ?_; rotate_left; (intro w'; go_simp; with_reducible rfl); rotate_left; (simp only [Act.put, List.setIfInBounds_toArray, List.set_cons_zero, List.set_cons_succ, i64_w, i32_w]; rfl)
                    refine pure_ (i := 13) (N := some 45) (v := ?_) (a' := ?_) (bv 29 9281) rfl rfl (any_of HT_.out (by kernel_rfl)) (fun _ _ _ h => h) (Or.inl ⟨by rfl, ?_⟩) ?_ ?_; rotate_left; (intro w'; go_simp; with_reducible rfl); rotate_left; (simp only [Act.put, List.setIfInBounds_toArray, List.set_cons_zero, List.set_cons_succ, i64_w, i32_w]; rfl)
                    refine pure_ (i := 17) (N := some 49) (v := ?_) (a' := ?_) (bv 29 140353) rfl rfl (any_of HT_.out (by kernel_rfl)) (fun _ _ _ h => h) (Or.inl ⟨by rfl, ?_⟩) ?_ ?_; rotate_left; (intro w'; go_simp; with_reducible rfl); rotate_left; (simp only [Act.put, List.setIfInBounds_toArray, List.set_cons_zero, List.set_cons_succ, i64_w, i32_w]; rfl)
                    refine pure_ (i := 20) (N := some 52) (v := ?_) (a' := ?_) (bv 29 1188929) rfl rfl (any_of HT_.out (by kernel_rfl)) (fun _ _ _ h => h) (Or.inl ⟨by rfl, ?_⟩) ?_ ?_; rotate_left; (intro w'; go_simp; with_reducible rfl); rotate_left; (simp only [Act.put, List.setIfInBounds_toArray, List.set_cons_zero, List.set_cons_succ, i64_w, i32_w]; rfl)
                    refine pure_ (i := 24) (N := some 56) (v := ?_) (a' := ?_) (bv 29 17966145) rfl rfl (any_of HT_.out (by kernel_rfl)) (fun _ _ _ h => h) (Or.inl ⟨by rfl, ?_⟩) ?_ ?_; rotate_left; (intro w'; go_simp; with_reducible rfl); rotate_left; (simp only [Act.put, List.setIfInBounds_toArray, List.set_cons_zero, List.set_cons_succ, i64_w, i32_w]; rfl)
                    refine take_ (i := 1) (N := some 33) (v := ?_) (a' := ?_) (bv 29 17966147) rfl rfl (take_ofW HT_.out HW_.out (by kernel_rfl)) (fun _ _ _ h => h) (Or.inl ⟨by rfl, ?_⟩) hHeld ?_ ?_; rotate_left; (rintro w' ⟨s0, s1, s2, s3, s4, s5, s6, s7, s8, s9⟩; go_simp; with_reducible rfl); rotate_left; (simp only [Act.put, List.setIfInBounds_toArray, List.set_cons_zero, List.set_cons_succ, i64_w, i32_w]; rfl)
                    refine pure_ (i := 2) (N := some 34) (v := ?_) (a' := ?_) (bv 29 17966151) rfl rfl (any_of HT_.out (by kernel_rfl)) (fun _ _ _ h => h) (Or.inl ⟨by rfl, ?_⟩) ?_ ?_; rotate_left; (intro w'; go_simp; with_reducible rfl); rotate_left; (simp only [Act.put, List.setIfInBounds_toArray, List.set_cons_zero, List.set_cons_succ, i64_w, i32_w]; rfl)
                    refine pure_ (i := 3) (N := some 35) (v := ?_) (a' := ?_) (bv 29 17966159) rfl rfl (any_of HT_.out (by kernel_rfl)) (fun _ _ _ h => h) (Or.inl ⟨by rfl, ?_⟩) ?_ ?_; rotate_left; (intro w'; go_simp; with_reducible rfl); rotate_left; (simp only [Act.put, List.setIfInBounds_toArray, List.set_cons_zero, List.set_cons_succ, i64_w, i32_w]; rfl)
                    refine pure_ (i := 4) (N := some 36) (v := ?_) (a' := ?_) (bv 29 17966175) rfl rfl (any_of HT_.out (by kernel_rfl)) (fun _ _ _ h => h) (Or.inl ⟨by rfl, ?_⟩) ?_ ?_; rotate_left; (intro w'; go_simp; with_reducible rfl); rotate_left; (simp only [Act.put, List.setIfInBounds_toArray, List.set_cons_zero, List.set_cons_succ, i64_w, i32_w]; rfl)
                    refine take_ (i := 7) (N := some 39) (v := ?_) (a' := ?_) (bv 29 17966303) rfl rfl (take_ofW HT_.out HW_.out (by kernel_rfl)) (fun _ _ _ h => h) (Or.inl ⟨by rfl, ?_⟩) hHeld ?_ ?_; rotate_left; (rintro w' ⟨s0, s1, s2, s3, s4, s5, s6, s7, s8, s9⟩; go_simp; with_reducible rfl); rotate_left; (simp only [Act.put, List.setIfInBounds_toArray, List.set_cons_zero, List.set_cons_succ, i64_w, i32_w]; rfl)
                    refine take_ (i := 14) (N := some 46) (v := ?_) (a' := ?_) (bv 29 17982687) rfl rfl (take_ofW HT_.out HW_.out (by kernel_rfl)) (fun _ _ _ h => h) (Or.inl ⟨by rfl, ?_⟩) hHeld ?_ ?_; rotate_left; (rintro w' ⟨s0, s1, s2, s3, s4, s5, s6, s7, s8, s9⟩; go_simp; with_reducible rfl); rotate_left; (simp only [Act.put, List.setIfInBounds_toArray, List.set_cons_zero, List.set_cons_succ, i64_w, i32_w]; rfl)
                    refine take_ (i := 21) (N := some 53) (v := ?_) (a' := ?_) (bv 29 20079839) rfl rfl (take_ofW HT_.out HW_.out (by kernel_rfl)) (fun _ _ _ h => h) (Or.inl ⟨by rfl, ?_⟩) hHeld ?_ ?_; rotate_left; (rintro w' ⟨s0, s1, s2, s3, s4, s5, s6, s7, s8, s9⟩; go_simp; with_reducible rfl); rotate_left; (simp only [Act.put, List.setIfInBounds_toArray, List.set_cons_zero, List.set_cons_succ, i64_w, i32_w]; rfl)
                    refine take_ (i := 25) (N := some 57) (v := ?_) (a' := ?_) (bv 29 53634271) rfl rfl (take_ofW HT_.out HW_.out (by kernel_rfl)) (fun _ _ _ h => h) (Or.inl ⟨by rfl, ?_⟩) hHeld ?_ ?_; rotate_left; (rintro w' ⟨s0, s1, s2, s3, s4, s5, s6, s7, s8, s9⟩; go_simp; with_reducible rfl); rotate_left; (simp only [Act.put, List.setIfInBounds_toArray, List.set_cons_zero, List.set_cons_succ, i64_w, i32_w]; rfl)
                    refine one_ (i := 5) (N := some 37) (bv 29 53634303) rfl rfl (one_of HT_.out (by kernel_rfl)) (by decide) (fun K hK => ?_)
                    refine goes_ Tryd.func111 (by kernel_rfl) rfl #[.int .i64 (wrap64 (69 + (wrap64 ((a0_9.size : Int) / 4)))), .int .i64 1] (by rfl) rfl rfl (by (try simp only [List.map_toArray, List.map_cons, List.map_nil]); first | done | rfl | (simp only [List.length_drop, List.length_take]; rfl)) ?_
                    with_reducible refine (palanquinref05_num.calls kj15 (wrap64 (69 + (wrap64 ((a0_9.size : Int) / 4)))) 1 t371 _ A19.out).mono ?_
                    rintro e w42 ⟨rfl, hb⟩
                    refine ⟨_, rfl, ?_⟩
                    have n0_ := mA (blk_below (g := gb369) (o := .cells #[.int .i64 a0_0, .int .i64 a0_1, .int .i64 a0_2, .int .i64 a0_3, .int .i64 a0_4, .bool a0_5, .bool a0_6, .string a0_7, .string a0_8, .string a0_9] 69 (0, 0)) (by (with_reducible repeat (first | apply kN | apply kD | apply kA)); exact BK369.out) hb)
                    have n1_ := mA (bP (by repeat (first | (with_reducible first | exact HB.out | apply bA | apply bN | apply bD | refine bS ?_ GE369.out) | exact HB.out)) hb)
                    clear BK369
                    clear HB
                    have BK369 := n0_
                    have HB := n1_
                    clear n0_ n1_
                    (try clear hb)
                    (try clear hb2)
                    (try clear hk)
                    (try clear hi)
                    refine hK.out _ _ ⟨(zC BK369.out 0).trans rfl, (zC BK369.out 1).trans rfl, (zC BK369.out 2).trans rfl, (zC BK369.out 3).trans rfl, (zC BK369.out 4).trans rfl, (zC BK369.out 5).trans rfl, (zC BK369.out 6).trans rfl, (zC BK369.out 7).trans rfl, (zC BK369.out 8).trans rfl, (zC BK369.out 9).trans rfl⟩ (fun hHeld => ?_)
                    clear hK K
                    refine norm_ (a' := ?_) ?_ ?_
                    rotate_left
                    ·show Act.put _ (some 37) _ = _
                     simp only [Act.put, List.setIfInBounds_toArray, List.set_cons_zero, List.set_cons_succ, i64_w, i32_w]
                     rfl
                    refine one_ (i := 8) (N := some 40) (bv 29 53634559) rfl rfl (one_of HT_.out (by kernel_rfl)) (by decide) (fun K hK => ?_)
                    refine goes_ Tryd.func111 (by kernel_rfl) rfl #[.int .i64 a0_0, .int .i64 1] (by rfl) rfl rfl (by (try simp only [List.map_toArray, List.map_cons, List.map_nil]); first | done | rfl | (simp only [List.length_drop, List.length_take]; rfl)) ?_
                    with_reducible refine (palanquinref05_num.calls kj15 a0_0 1 t372 _ A20.out).mono ?_
                    rintro e w43 ⟨rfl, hb⟩
                    refine ⟨_, rfl, ?_⟩
                    have n0_ := mA (blk_below (g := gb369) (o := .cells #[.int .i64 a0_0, .int .i64 a0_1, .int .i64 a0_2, .int .i64 a0_3, .int .i64 a0_4, .bool a0_5, .bool a0_6, .string a0_7, .string a0_8, .string a0_9] 69 (0, 0)) (by (with_reducible repeat (first | apply kN | apply kD | apply kA)); exact BK369.out) hb)
                    have n1_ := mA (bP (by repeat (first | (with_reducible first | exact HB.out | apply bA | apply bN | apply bD | refine bS ?_ GE369.out) | exact HB.out)) hb)
                    clear BK369
                    clear HB
                    have BK369 := n0_
                    have HB := n1_
                    clear n0_ n1_
                    (try clear hb)
                    (try clear hb2)
                    (try clear hk)
                    (try clear hi)
                    refine hK.out _ _ ⟨(zC BK369.out 0).trans rfl, (zC BK369.out 1).trans rfl, (zC BK369.out 2).trans rfl, (zC BK369.out 3).trans rfl, (zC BK369.out 4).trans rfl, (zC BK369.out 5).trans rfl, (zC BK369.out 6).trans rfl, (zC BK369.out 7).trans rfl, (zC BK369.out 8).trans rfl, (zC BK369.out 9).trans rfl⟩ (fun hHeld => ?_)
                    clear hK K
                    refine norm_ (a' := ?_) ?_ ?_
                    rotate_left
                    ·show Act.put _ (some 40) _ = _
                     simp only [Act.put, List.setIfInBounds_toArray, List.set_cons_zero, List.set_cons_succ, i64_w, i32_w]
                     rfl
                    refine pure_ (i := 9) (N := some 41) (v := ?_) (a' := ?_) (bv 29 53635071) rfl rfl (any_of HT_.out (by kernel_rfl)) (fun _ _ _ h => h) (Or.inl ⟨by rfl, ?_⟩) ?_ ?_; rotate_left; (intro w'; go_simp; with_reducible rfl); rotate_left; (simp only [Act.put, List.setIfInBounds_toArray, List.set_cons_zero, List.set_cons_succ, i64_w, i32_w]; rfl)
                    refine one_ (i := 11) (N := some 43) (bv 29 53637119) rfl rfl (one_of HT_.out (by kernel_rfl)) (by decide) (fun K hK => ?_)
                    refine goes_ Tryd.func111 (by kernel_rfl) rfl #[.int .i64 (wrap64 ((wrap64 (20 + (a0_9.size : Int))) + (a1.size : Int))), .int .i64 2] (by rfl) rfl rfl (by (try simp only [List.map_toArray, List.map_cons, List.map_nil]); first | done | rfl | (simp only [List.length_drop, List.length_take]; rfl)) ?_
                    with_reducible refine (palanquinref05_num.calls kj15 (wrap64 ((wrap64 (20 + (a0_9.size : Int))) + (a1.size : Int))) 2 t373 _ A22.out).mono ?_
                    rintro e w44 ⟨rfl, hb⟩
                    refine ⟨_, rfl, ?_⟩
                    have n0_ := mA (blk_below (g := gb369) (o := .cells #[.int .i64 a0_0, .int .i64 a0_1, .int .i64 a0_2, .int .i64 a0_3, .int .i64 a0_4, .bool a0_5, .bool a0_6, .string a0_7, .string a0_8, .string a0_9] 69 (0, 0)) (by (with_reducible repeat (first | apply kN | apply kD | apply kA)); exact BK369.out) hb)
                    have n1_ := mA (bP (by repeat (first | (with_reducible first | exact HB.out | apply bA | apply bN | apply bD | refine bS ?_ GE369.out) | exact HB.out)) hb)
                    clear BK369
                    clear HB
                    have BK369 := n0_
                    have HB := n1_
                    clear n0_ n1_
                    (try clear hb)
                    (try clear hb2)
                    (try clear hk)
                    (try clear hi)
                    refine hK.out _ _ ⟨(zC BK369.out 0).trans rfl, (zC BK369.out 1).trans rfl, (zC BK369.out 2).trans rfl, (zC BK369.out 3).trans rfl, (zC BK369.out 4).trans rfl, (zC BK369.out 5).trans rfl, (zC BK369.out 6).trans rfl, (zC BK369.out 7).trans rfl, (zC BK369.out 8).trans rfl, (zC BK369.out 9).trans rfl⟩ (fun hHeld => ?_)
                    clear hK K
                    refine norm_ (a' := ?_) ?_ ?_
                    rotate_left
                    ·show Act.put _ (some 43) _ = _
                     simp only [Act.put, List.setIfInBounds_toArray, List.set_cons_zero, List.set_cons_succ, i64_w, i32_w]
                     rfl
                    refine pure_ (i := 12) (N := some 44) (v := ?_) (a' := ?_) (bv 29 53641215) rfl rfl (any_of HT_.out (by kernel_rfl)) (fun _ _ _ h => h) (Or.inl ⟨by rfl, ?_⟩) ?_ ?_; rotate_left; (intro w'; go_simp; with_reducible rfl); rotate_left; (simp only [Act.put, List.setIfInBounds_toArray, List.set_cons_zero, List.set_cons_succ, i64_w, i32_w]; rfl)
                    refine one_ (i := 15) (N := some 47) (bv 29 53673983) rfl rfl (one_of HT_.out (by kernel_rfl)) (by decide) (fun K hK => ?_)
                    refine goes_ Tryd.func111 (by kernel_rfl) rfl #[.int .i64 a0_1, .int .i64 2] (by rfl) rfl rfl (by (try simp only [List.map_toArray, List.map_cons, List.map_nil]); first | done | rfl | (simp only [List.length_drop, List.length_take]; rfl)) ?_
                    with_reducible refine (palanquinref05_num.calls kj15 a0_1 2 t374 _ A24.out).mono ?_
                    rintro e w45 ⟨rfl, hb⟩
                    refine ⟨_, rfl, ?_⟩
                    have n0_ := mA (blk_below (g := gb369) (o := .cells #[.int .i64 a0_0, .int .i64 a0_1, .int .i64 a0_2, .int .i64 a0_3, .int .i64 a0_4, .bool a0_5, .bool a0_6, .string a0_7, .string a0_8, .string a0_9] 69 (0, 0)) (by (with_reducible repeat (first | apply kN | apply kD | apply kA)); exact BK369.out) hb)
                    have n1_ := mA (bP (by repeat (first | (with_reducible first | exact HB.out | apply bA | apply bN | apply bD | refine bS ?_ GE369.out) | exact HB.out)) hb)
                    clear BK369
                    clear HB
                    have BK369 := n0_
                    have HB := n1_
                    clear n0_ n1_
                    (try clear hb)
                    (try clear hb2)
                    (try clear hk)
                    (try clear hi)
                    refine hK.out _ _ ⟨(zC BK369.out 0).trans rfl, (zC BK369.out 1).trans rfl, (zC BK369.out 2).trans rfl, (zC BK369.out 3).trans rfl, (zC BK369.out 4).trans rfl, (zC BK369.out 5).trans rfl, (zC BK369.out 6).trans rfl, (zC BK369.out 7).trans rfl, (zC BK369.out 8).trans rfl, (zC BK369.out 9).trans rfl⟩ (fun hHeld => ?_)
                    clear hK K
                    refine norm_ (a' := ?_) ?_ ?_
                    rotate_left
                    ·show Act.put _ (some 47) _ = _
                     simp only [Act.put, List.setIfInBounds_toArray, List.set_cons_zero, List.set_cons_succ, i64_w, i32_w]
                     rfl
                    refine pure_ (i := 16) (N := some 48) (v := ?_) (a' := ?_) (bv 29 53739519) rfl rfl (any_of HT_.out (by kernel_rfl)) (fun _ _ _ h => h) (Or.inl ⟨by rfl, ?_⟩) ?_ ?_; rotate_left; (intro w'; go_simp; with_reducible rfl); rotate_left; (simp only [Act.put, List.setIfInBounds_toArray, List.set_cons_zero, List.set_cons_succ, i64_w, i32_w]; rfl)
                    refine one_ (i := 18) (N := some 50) (bv 29 54001663) rfl rfl (one_of HT_.out (by kernel_rfl)) (by decide) (fun K hK => ?_)
                    refine goes_ Tryd.func111 (by kernel_rfl) rfl #[.int .i64 x7_15, .int .i64 2] (by rfl) rfl rfl (by (try simp only [List.map_toArray, List.map_cons, List.map_nil]); first | done | rfl | (simp only [List.length_drop, List.length_take]; rfl)) ?_
                    with_reducible refine (palanquinref05_num.calls kj15 x7_15 2 t375 _ A26.out).mono ?_
                    rintro e w46 ⟨rfl, hb⟩
                    refine ⟨_, rfl, ?_⟩
                    have n0_ := mA (blk_below (g := gb369) (o := .cells #[.int .i64 a0_0, .int .i64 a0_1, .int .i64 a0_2, .int .i64 a0_3, .int .i64 a0_4, .bool a0_5, .bool a0_6, .string a0_7, .string a0_8, .string a0_9] 69 (0, 0)) (by (with_reducible repeat (first | apply kN | apply kD | apply kA)); exact BK369.out) hb)
                    have n1_ := mA (bP (by repeat (first | (with_reducible first | exact HB.out | apply bA | apply bN | apply bD | refine bS ?_ GE369.out) | exact HB.out)) hb)
                    clear BK369
                    clear HB
                    have BK369 := n0_
                    have HB := n1_
                    clear n0_ n1_
                    (try clear hb)
                    (try clear hb2)
                    (try clear hk)
                    (try clear hi)
                    refine hK.out _ _ ⟨(zC BK369.out 0).trans rfl, (zC BK369.out 1).trans rfl, (zC BK369.out 2).trans rfl, (zC BK369.out 3).trans rfl, (zC BK369.out 4).trans rfl, (zC BK369.out 5).trans rfl, (zC BK369.out 6).trans rfl, (zC BK369.out 7).trans rfl, (zC BK369.out 8).trans rfl, (zC BK369.out 9).trans rfl⟩ (fun hHeld => ?_)
                    clear hK K
                    refine norm_ (a' := ?_) ?_ ?_
                    rotate_left
                    ·show Act.put _ (some 50) _ = _
                     simp only [Act.put, List.setIfInBounds_toArray, List.set_cons_zero, List.set_cons_succ, i64_w, i32_w]
                     rfl
                    refine pure_ (i := 19) (N := some 51) (v := ?_) (a' := ?_) (bv 29 54525951) rfl rfl (any_of HT_.out (by kernel_rfl)) (fun _ _ _ h => h) (Or.inl ⟨by rfl, ?_⟩) ?_ ?_; rotate_left; (intro w'; go_simp; with_reducible rfl); rotate_left; (simp only [Act.put, List.setIfInBounds_toArray, List.set_cons_zero, List.set_cons_succ, i64_w, i32_w]; rfl)
                    refine one_ (i := 22) (N := some 54) (bv 29 58720255) rfl rfl (one_of HT_.out (by kernel_rfl)) (by decide) (fun K hK => ?_)
                    refine goes_ Tryd.func111 (by kernel_rfl) rfl #[.int .i64 a0_3, .int .i64 1] (by rfl) rfl rfl (by (try simp only [List.map_toArray, List.map_cons, List.map_nil]); first | done | rfl | (simp only [List.length_drop, List.length_take]; rfl)) ?_
                    with_reducible refine (palanquinref05_num.calls kj15 a0_3 1 t376 _ A28.out).mono ?_
                    rintro e w47 ⟨rfl, hb⟩
                    refine ⟨_, rfl, ?_⟩
                    have n0_ := mA (blk_below (g := gb369) (o := .cells #[.int .i64 a0_0, .int .i64 a0_1, .int .i64 a0_2, .int .i64 a0_3, .int .i64 a0_4, .bool a0_5, .bool a0_6, .string a0_7, .string a0_8, .string a0_9] 69 (0, 0)) (by (with_reducible repeat (first | apply kN | apply kD | apply kA)); exact BK369.out) hb)
                    have n1_ := mA (bP (by repeat (first | (with_reducible first | exact HB.out | apply bA | apply bN | apply bD | refine bS ?_ GE369.out) | exact HB.out)) hb)
                    clear BK369
                    clear HB
                    have BK369 := n0_
                    have HB := n1_
                    clear n0_ n1_
                    (try clear hb)
                    (try clear hb2)
                    (try clear hk)
                    (try clear hi)
                    refine hK.out _ _ ⟨(zC BK369.out 0).trans rfl, (zC BK369.out 1).trans rfl, (zC BK369.out 2).trans rfl, (zC BK369.out 3).trans rfl, (zC BK369.out 4).trans rfl, (zC BK369.out 5).trans rfl, (zC BK369.out 6).trans rfl, (zC BK369.out 7).trans rfl, (zC BK369.out 8).trans rfl, (zC BK369.out 9).trans rfl⟩ (fun hHeld => ?_)
                    clear hK K
                    refine norm_ (a' := ?_) ?_ ?_
                    rotate_left
                    ·show Act.put _ (some 54) _ = _
                     simp only [Act.put, List.setIfInBounds_toArray, List.set_cons_zero, List.set_cons_succ, i64_w, i32_w]
                     rfl
                    refine pure_ (i := 23) (N := some 55) (v := ?_) (a' := ?_) (bv 29 67108863) rfl rfl (any_of HT_.out (by kernel_rfl)) (fun _ _ _ h => h) (Or.inl ⟨by rfl, ?_⟩) ?_ ?_; rotate_left; (intro w'; go_simp; with_reducible rfl); rotate_left; (simp only [Act.put, List.setIfInBounds_toArray, List.set_cons_zero, List.set_cons_succ, i64_w, i32_w]; rfl)
                    refine one_ (i := 26) (N := some 58) (bv 29 134217727) rfl rfl (one_of HT_.out (by kernel_rfl)) (by decide) (fun K hK => ?_)
                    refine goes_ Tryd.func111 (by kernel_rfl) rfl #[.int .i64 a0_4, .int .i64 1] (by rfl) rfl rfl (by (try simp only [List.map_toArray, List.map_cons, List.map_nil]); first | done | rfl | (simp only [List.length_drop, List.length_take]; rfl)) ?_
                    with_reducible refine (palanquinref05_num.calls kj15 a0_4 1 t377 _ A30.out).mono ?_
                    rintro e w48 ⟨rfl, hb⟩
                    refine ⟨_, rfl, ?_⟩
                    have n0_ := mA (blk_below (g := gb369) (o := .cells #[.int .i64 a0_0, .int .i64 a0_1, .int .i64 a0_2, .int .i64 a0_3, .int .i64 a0_4, .bool a0_5, .bool a0_6, .string a0_7, .string a0_8, .string a0_9] 69 (0, 0)) (by (with_reducible repeat (first | apply kN | apply kD | apply kA)); exact BK369.out) hb)
                    have n1_ := mA (bP (by repeat (first | (with_reducible first | exact HB.out | apply bA | apply bN | apply bD | refine bS ?_ GE369.out) | exact HB.out)) hb)
                    clear BK369
                    clear HB
                    have BK369 := n0_
                    have HB := n1_
                    clear n0_ n1_
                    (try clear hb)
                    (try clear hb2)
                    (try clear hk)
                    (try clear hi)
                    refine hK.out _ _ ⟨(zC BK369.out 0).trans rfl, (zC BK369.out 1).trans rfl, (zC BK369.out 2).trans rfl, (zC BK369.out 3).trans rfl, (zC BK369.out 4).trans rfl, (zC BK369.out 5).trans rfl, (zC BK369.out 6).trans rfl, (zC BK369.out 7).trans rfl, (zC BK369.out 8).trans rfl, (zC BK369.out 9).trans rfl⟩ (fun hHeld => ?_)
                    clear hK K
                    refine norm_ (a' := ?_) ?_ ?_
                    rotate_left
                    ·show Act.put _ (some 58) _ = _
                     simp only [Act.put, List.setIfInBounds_toArray, List.set_cons_zero, List.set_cons_succ, i64_w, i32_w]
                     rfl
                    refine pure_ (i := 27) (N := some 59) (v := ?_) (a' := ?_) (bv 29 268435455) rfl rfl (any_of HT_.out (by kernel_rfl)) (fun _ _ _ h => h) (Or.inl ⟨by rfl, ?_⟩) ?_ ?_; rotate_left; (intro w'; go_simp; with_reducible rfl); rotate_left; (simp only [Act.put, List.setIfInBounds_toArray, List.set_cons_zero, List.set_cons_succ, i64_w, i32_w]; rfl)
                    refine pure_ (i := 28) (N := some 8) (v := ?_) (a' := ?_) (bv 29 536870911) rfl rfl (any_of HT_.out (by kernel_rfl)) (fun _ _ _ h => h) (Or.inl ⟨by rfl, ?_⟩) ?_ ?_; rotate_left; (intro w'; go_simp; with_reducible rfl); rotate_left; (simp only [Act.put, List.setIfInBounds_toArray, List.set_cons_zero, List.set_cons_succ, i64_w, i32_w]; rfl)
                    refine done_ (done_of HT_.out (by kernel_rfl)) ?_
                    obtain ⟨hcz49_0, hcz49_1, hcz49_2, hcz49_3, hcz49_4, hcz49_5, hcz49_6, hcz49_7, hcz49_8, hcz49_9⟩ := bc10 BK369.out
                    obtain ⟨hfz49_0, hfz49_1, hfz49_2, hfz49_3, hfz49_4, hfz49_5, hfz49_6, hfz49_7, hfz49_8, hfz49_9⟩ := bf10 BK369.out
                    try go_wp2_with (first | ((with_reducible refine gate_callee (f := 62) rfl ?_); refine goesL_ (some 73) rfl rfl Tryd.func62 (by kernel_rfl) rfl #[.string ((((((((t371 ++ t372) ++ t373) ++ t374) ++ t375) ++ t376) ++ t377) ++ (⟨#[0, 0]⟩ : ByteArray)) ++ ((a0_7 ++ a0_8) ++ a0_9))] rfl (by (try simp only [List.map_toArray, List.map_cons, List.map_nil]); first | done | rfl | (simp only [List.length_drop, List.length_take]; rfl)) ?_; (with_reducible refine (palanquinref02_Sum.calls kj15 ((((((((t371 ++ t372) ++ t373) ++ t374) ++ t375) ++ t376) ++ t377) ++ (⟨#[0, 0]⟩ : ByteArray)) ++ ((a0_7 ++ a0_8) ++ a0_9)) t378 _ A36.out).mono ?_); rintro e w50 ⟨rfl, hb⟩; refine ⟨_, rfl, ?_⟩; have n0_ := mA (blk_below (g := gb369) (o := .cells #[.int .i64 a0_0, .int .i64 a0_1, .int .i64 a0_2, .int .i64 a0_3, .int .i64 a0_4, .bool a0_5, .bool a0_6, .string a0_7, .string a0_8, .string a0_9] 69 (0, 0)) (by (with_reducible repeat (first | apply kN | apply kD | apply kA)); exact BK369.out) hb); have n1_ := mA (bP (by repeat (first | (with_reducible first | exact HB.out | apply bA | apply bN | apply bD | refine bS ?_ GE369.out) | exact HB.out)) hb); clear BK369; clear HB; have BK369 := n0_; have HB := n1_; clear n0_ n1_; (try clear hb); (try clear hb2); (try clear hk); (try clear hi)) | ((with_reducible refine gate_callee (f := 111) rfl ?_); refine goesL_ (some 74) rfl rfl Tryd.func111 (by kernel_rfl) rfl #[.int .i64 t378, .int .i64 2] rfl (by (try simp only [List.map_toArray, List.map_cons, List.map_nil]); first | done | rfl | (simp only [List.length_drop, List.length_take]; rfl)) ?_; (with_reducible refine (palanquinref05_num.calls kj15 t378 2 t379 _ A37.out).mono ?_); rintro e w51 ⟨rfl, hb⟩; refine ⟨_, rfl, ?_⟩; have n0_ := mA (blk_below (g := gb369) (o := .cells #[.int .i64 a0_0, .int .i64 a0_1, .int .i64 a0_2, .int .i64 a0_3, .int .i64 a0_4, .bool a0_5, .bool a0_6, .string a0_7, .string a0_8, .string a0_9] 69 (0, 0)) (by (with_reducible repeat (first | apply kN | apply kD | apply kA)); exact BK369.out) hb); have n1_ := mA (bP (by repeat (first | (with_reducible first | exact HB.out | apply bA | apply bN | apply bD | refine bS ?_ GE369.out) | exact HB.out)) hb); clear BK369; clear HB; have BK369 := n0_; have HB := n1_; clear n0_ n1_; (try clear hb); (try clear hb2); (try clear hk); (try clear hi)))
                    go_ret2
                    exact ⟨by first | rfl | (simp [errW_none, errW_some] <;> rfl) | (simp [*, errW_none, errW_some] <;> rfl), by repeat (first | (with_reducible first | exact HB.out | apply bA | apply bN | apply bD | refine bS ?_ GE369.out) | exact HB.out)⟩
                   ·rw [if_neg c40] at H
                    exact absurd H (by simp)
                  ·rw [if_neg c39] at H
                   exact absurd H (by simp)
                 ·rw [if_neg c38] at H
                  exact absurd H (by simp)
                ·rw [if_neg c35] at H
                 exact absurd H (by simp)
               ·rw [if_neg c34] at H
                exact absurd H (by simp)
              ·rw [if_neg c33] at H
               exact absurd H (by simp)
             ·rw [if_neg c32] at H
              exact absurd H (by simp)
            ·rw [if_neg c31] at H
             exact absurd H (by simp)
           ·rw [if_neg c29] at H
            exact absurd H (by simp)
          ·rw [if_neg c27] at H
           exact absurd H (by simp)
         ·rw [if_neg c25] at H
          exact absurd H (by simp)
        ·rw [if_neg c23] at H
         exact absurd H (by simp)
       ·rw [if_neg c21] at H
        exact absurd H (by simp)
 ·replace c4 := Bool.eq_false_iff.mpr c4
  subst c4
  rw [if_neg (show ¬ (false = true) by decide)] at H
  simp only [Option.some.injEq, Prod.mk.injEq] at H
  obtain ⟨rfl, rfl⟩ := H
  go_enter Tryd.func82, Tryd.ntmps82
  go_wp2_with (first | ((with_reducible refine gate_dst (N := 2) rfl ?_); refine box_event ?hg (N := 2) ?hd (cs := #[.int .i64 a0_0, .int .i64 a0_1, .int .i64 a0_2, .int .i64 a0_3, .int .i64 a0_4, .bool a0_5, .bool a0_6, .string a0_7, .string a0_8, .string a0_9]) (t := 69) ?hr ?_; (case hd => rfl); (case hg => rfl); (case hr => first | (go_simp; done) | (go_simp; rfl)); intro gb369 hg w52 hbox hb; obtain ⟨n0_, nq_⟩ := bpr (by repeat (first | (with_reducible first | exact HB.out | apply bA | apply bN | apply bD) | exact HB.out)) hb; have n1_ := mA (hbox); have n2_ := mA ((by rw [hg]; exact nq_ : w.heap.size ≤ gb369)); have n3_ := mA ((by rw [hg]; exact nq_ : w.heap.size ≤ gb369)); clear HB; have HB := n0_; have BK369 := n1_; have GW369 := n2_; have GE369 := n3_; clear nq_; clear n0_ n1_ n2_ n3_; clear hb hbox hg; obtain ⟨hcz53_0, hcz53_1, hcz53_2, hcz53_3, hcz53_4, hcz53_5, hcz53_6, hcz53_7, hcz53_8, hcz53_9⟩ := bc10 BK369.out; obtain ⟨hfz53_0, hfz53_1, hfz53_2, hfz53_3, hfz53_4, hfz53_5, hfz53_6, hfz53_7, hfz53_8, hfz53_9⟩ := bf10 BK369.out) | ((with_reducible refine gate_callee (f := 110) rfl ?_); refine goesL_ (some 11) rfl rfl Tryd.func110 (by kernel_rfl) rfl #[.agg #[.int .i64 a0_0, .int .i64 a0_1, .int .i64 a0_2, .int .i64 a0_3, .int .i64 a0_4, .bool a0_5, .bool a0_6, .string a0_7, .string a0_8, .string a0_9]] rfl (by (try simp only [List.map_toArray, List.map_cons, List.map_nil]); first | done | rfl | (simp only [List.length_drop, List.length_take]; rfl)) ?_; (with_reducible refine (palanquinref05_Right.calls a0_0 a0_1 a0_2 a0_3 a0_4 a0_5 a0_6 a0_7 a0_8 a0_9 false _ A3.out).mono ?_); rintro e w54 ⟨rfl, hb⟩; refine ⟨_, rfl, ?_⟩; have n0_ := mA (blk_below (g := gb369) (o := .cells #[.int .i64 a0_0, .int .i64 a0_1, .int .i64 a0_2, .int .i64 a0_3, .int .i64 a0_4, .bool a0_5, .bool a0_6, .string a0_7, .string a0_8, .string a0_9] 69 (0, 0)) (by (with_reducible repeat (first | apply kN | apply kD | apply kA)); exact BK369.out) hb); have n1_ := mA (bP (by repeat (first | (with_reducible first | exact HB.out | apply bA | apply bN | apply bD | refine bS ?_ GE369.out) | exact HB.out)) hb); clear BK369; clear HB; have BK369 := n0_; have HB := n1_; clear n0_ n1_; (try clear hb); (try clear hb2); (try clear hk); (try clear hi)))
  go_ret2
  exact ⟨by first | rfl | (simp [errW_none, errW_some] <;> rfl) | (simp [*, errW_none, errW_some] <;> rfl), by repeat (first | (with_reducible first | exact HB.out | apply bA | apply bN | apply bD | refine bS ?_ GE369.out) | exact HB.out)⟩

end Go.Proofs.YtcmalglippmocaaDoor.G
end

section
namespace Go.Proofs.YtcmalglippmocaaDoor.G
open Go.RowKit Go.Proofs.YtcmalglippmocaaDoorW.PrintWords Go.Proofs.YtcmalglippmocaaDoorW.PrintLast Go.Proofs.YtcmalglippmocaaDoorW.PrintMore
attribute [local go_sem] max2_int min2_int max_two min_two max_three min_three max_four min_four

def palanquinref06_in.f (a0 : Int) (a1 : Int) (a2 : Int) : Option (Bool) := if a0 ≥ a1 then (some (decide (a0 ≤ a2))) else (some false)
set_option maxHeartbeats 8000000 in
set_option maxRecDepth 100000 in
theorem palanquinref06_in.calls (a0 : Int) (a1 : Int) (a2 : Int) (r : Bool) (w : World) (h : palanquinref06_in.f a0 a1 a2 = some r) :
  Calls Tryd.prog 136 #[.int .i64 a0, .int .i64 a1, .int .i64 a2] w fun e w' => e = .returned (.bool r) ∧ Drawn0 w w' := by
 have H : (if a0 ≥ a1 then (some (decide (a0 ≤ a2))) else (some false)) = some r := h
 clear h
 by_cases c4 : a0 ≥ a1
 ·rw [if_pos c4] at H
  have c4b0 : decide (a1 ≤ a0) = true := decide_eq_true c4
  clear c4
  obtain rfl := Option.some.inj H
  go_enter Tryd.func136, Tryd.ntmps136
  go_wp2
  go_ret
  exact ⟨by first | rfl | (simp; done) | (simp [*]; done), by repeat (first | exact Drawn0.refl _ | apply Drawn0.step)⟩
 ·rw [if_neg c4] at H
  have c4b0 : decide (a1 ≤ a0) = false := decide_eq_false c4
  clear c4
  obtain rfl := Option.some.inj H
  go_enter Tryd.func136, Tryd.ntmps136
  go_wp2
  go_ret
  exact ⟨by first | rfl | (simp; done) | (simp [*]; done), by repeat (first | exact Drawn0.refl _ | apply Drawn0.step)⟩

def palanquinref06_Right.f (a0_0 : Int) (a0_1 : Int) (a0_2 : Int) (a0_3 : Int) (a0_4 : ByteArray) (a0_5 : ByteArray) : Option (Bool) := (palanquinref06_in.f a0_0 0 255).bind fun t381 => (if t381 = true then ((palanquinref06_in.f a0_2 0 255).bind fun t382 => (if t382 = true then ((palanquinref06_in.f a0_3 0 255).bind fun t383 => (if t383 = true then ((palanquinref06_in.f a0_1 0 1048575).bind fun t384 => (if t384 = true then (if (a0_4.size : Int) = 16 then (some ((a0_5.size : Int) == 16)) else (some false)) else (some false))) else (some false))) else (some false))) else (some false))
set_option maxHeartbeats 8000000 in
set_option maxRecDepth 100000 in
theorem palanquinref06_Right.calls (a0_0 : Int) (a0_1 : Int) (a0_2 : Int) (a0_3 : Int) (a0_4 : ByteArray) (a0_5 : ByteArray) (r : Bool) (w : World) (h : palanquinref06_Right.f a0_0 a0_1 a0_2 a0_3 a0_4 a0_5 = some r) :
  Calls Tryd.prog 112 #[.agg #[.int .i64 a0_0, .int .i64 a0_1, .int .i64 a0_2, .int .i64 a0_3, .string a0_4, .string a0_5]] w fun e w' => e = .returned (.bool r) ∧ Below w.heap.size w w' := by
 have hu71 := Tryd.underlying71
 have HB := mA (Below.refl w.heap.size w)
 have H : ((palanquinref06_in.f a0_0 0 255).bind fun t381 => (if t381 = true then ((palanquinref06_in.f a0_2 0 255).bind fun t382 => (if t382 = true then ((palanquinref06_in.f a0_3 0 255).bind fun t383 => (if t383 = true then ((palanquinref06_in.f a0_1 0 1048575).bind fun t384 => (if t384 = true then (if (a0_4.size : Int) = 16 then (some ((a0_5.size : Int) == 16)) else (some false)) else (some false))) else (some false))) else (some false))) else (some false))) = some r := h
 clear h
 replace H := Option.bind_eq_some_iff.mp H
 obtain ⟨t381, A20, H⟩ := H
 try dsimp +instances only at H
 have A2 := mA A20
 clear A20
 by_cases c3 : t381 = true
 ·subst c3
  rw [if_pos rfl] at H
  replace H := Option.bind_eq_some_iff.mp H
  obtain ⟨t382, A40, H⟩ := H
  try dsimp +instances only at H
  have A4 := mA A40
  clear A40
  by_cases c5 : t382 = true
  ·subst c5
   rw [if_pos rfl] at H
   replace H := Option.bind_eq_some_iff.mp H
   obtain ⟨t383, A60, H⟩ := H
   try dsimp +instances only at H
   have A6 := mA A60
   clear A60
   by_cases c7 : t383 = true
   ·subst c7
    rw [if_pos rfl] at H
    replace H := Option.bind_eq_some_iff.mp H
    obtain ⟨t384, A80, H⟩ := H
    try dsimp +instances only at H
    have A8 := mA A80
    clear A80
    by_cases c9 : t384 = true
    ·subst c9
     rw [if_pos rfl] at H
     by_cases c10 : (a0_4.size : Int) = 16
     ·rw [if_pos c10] at H
      have c10b0 : ((a0_4.size : Int) == 16) = true := beq_iff_eq.mpr c10
      have c10b1 : ((a0_4.size : Int) != 16) = false := bne_eq_false_iff_eq.mpr c10
      clear c10
      obtain rfl := Option.some.inj H
      go_enter Tryd.func112, Tryd.ntmps112
      go_wp2_with (first | ((with_reducible refine gate_dst (N := 1) rfl ?_); (try (refine gate_guard (by rfl) ?_; dsimp only)); refine box_event ?hg (N := 1) ?hd (cs := #[.int .i64 a0_0, .int .i64 a0_1, .int .i64 a0_2, .int .i64 a0_3, .string a0_4, .string a0_5]) (t := 71) ?hr ?_; (case hd => rfl); (case hg => rfl); (case hr => first | (go_simp; done) | (go_simp; rfl)); intro gb380 hg w11 hbox hb; obtain ⟨n0_, nq_⟩ := bpr (by repeat (first | (with_reducible first | exact HB.out | apply bA | apply bN | apply bD) | exact HB.out)) hb; have n1_ := mA (hbox); have n2_ := mA ((by rw [hg]; exact nq_ : w.heap.size ≤ gb380)); have n3_ := mA ((by rw [hg]; exact nq_ : w.heap.size ≤ gb380)); clear HB; have HB := n0_; have BK380 := n1_; have GW380 := n2_; have GE380 := n3_; clear nq_; clear n0_ n1_ n2_ n3_; clear hb hbox hg; obtain ⟨hcz12_0, hcz12_1, hcz12_2, hcz12_3, hcz12_4, hcz12_5⟩ := bc6 BK380.out; obtain ⟨hfz12_0, hfz12_1, hfz12_2, hfz12_3, hfz12_4, hfz12_5⟩ := bf6 BK380.out) | ((with_reducible refine gate_callee (f := 136) rfl ?_); refine goesL_ (some 5) rfl rfl Tryd.func136 (by kernel_rfl) rfl #[.int .i64 a0_0, .int .i64 0, .int .i64 255] rfl (by (try simp only [List.map_toArray, List.map_cons, List.map_nil]); first | done | rfl | (simp only [List.length_drop, List.length_take]; rfl)) ?_; (with_reducible refine (palanquinref06_in.calls a0_0 0 255 true _ A2.out).mono ?_); rintro e w' ⟨rfl, ⟨nd, rfl⟩⟩; refine ⟨_, rfl, ?_⟩) | (go_at_call 136; (with_reducible refine (palanquinref06_in.calls a0_2 0 255 true _ A4.out).mono ?_); rintro e w' ⟨rfl, ⟨nd, rfl⟩⟩) | (go_at_call 136; (with_reducible refine (palanquinref06_in.calls a0_3 0 255 true _ A6.out).mono ?_); rintro e w' ⟨rfl, ⟨nd, rfl⟩⟩) | (go_at_call 136; (with_reducible refine (palanquinref06_in.calls a0_1 0 1048575 true _ A8.out).mono ?_); rintro e w' ⟨rfl, ⟨nd, rfl⟩⟩))
      go_ret
      exact ⟨by first | rfl | (simp [errW_none, errW_some] <;> rfl) | (simp [*, errW_none, errW_some] <;> rfl), by repeat (first | (with_reducible first | exact HB.out | apply bA | apply bN | apply bD | refine bS ?_ GE380.out) | exact HB.out)⟩
     ·rw [if_neg c10] at H
      have c10b0 : ((a0_4.size : Int) == 16) = false := beq_eq_false_iff_ne.mpr c10
      have c10b1 : ((a0_4.size : Int) != 16) = true := bne_iff_ne.mpr c10
      obtain rfl := Option.some.inj H
      go_enter Tryd.func112, Tryd.ntmps112
      go_wp2_with (first | ((with_reducible refine gate_dst (N := 1) rfl ?_); (try (refine gate_guard (by rfl) ?_; dsimp only)); refine box_event ?hg (N := 1) ?hd (cs := #[.int .i64 a0_0, .int .i64 a0_1, .int .i64 a0_2, .int .i64 a0_3, .string a0_4, .string a0_5]) (t := 71) ?hr ?_; (case hd => rfl); (case hg => rfl); (case hr => first | (go_simp; done) | (go_simp; rfl)); intro gb380 hg w13 hbox hb; obtain ⟨n0_, nq_⟩ := bpr (by repeat (first | (with_reducible first | exact HB.out | apply bA | apply bN | apply bD) | exact HB.out)) hb; have n1_ := mA (hbox); have n2_ := mA ((by rw [hg]; exact nq_ : w.heap.size ≤ gb380)); have n3_ := mA ((by rw [hg]; exact nq_ : w.heap.size ≤ gb380)); clear HB; have HB := n0_; have BK380 := n1_; have GW380 := n2_; have GE380 := n3_; clear nq_; clear n0_ n1_ n2_ n3_; clear hb hbox hg; obtain ⟨hcz14_0, hcz14_1, hcz14_2, hcz14_3, hcz14_4, hcz14_5⟩ := bc6 BK380.out; obtain ⟨hfz14_0, hfz14_1, hfz14_2, hfz14_3, hfz14_4, hfz14_5⟩ := bf6 BK380.out) | ((with_reducible refine gate_callee (f := 136) rfl ?_); refine goesL_ (some 5) rfl rfl Tryd.func136 (by kernel_rfl) rfl #[.int .i64 a0_0, .int .i64 0, .int .i64 255] rfl (by (try simp only [List.map_toArray, List.map_cons, List.map_nil]); first | done | rfl | (simp only [List.length_drop, List.length_take]; rfl)) ?_; (with_reducible refine (palanquinref06_in.calls a0_0 0 255 true _ A2.out).mono ?_); rintro e w' ⟨rfl, ⟨nd, rfl⟩⟩; refine ⟨_, rfl, ?_⟩) | (go_at_call 136; (with_reducible refine (palanquinref06_in.calls a0_2 0 255 true _ A4.out).mono ?_); rintro e w' ⟨rfl, ⟨nd, rfl⟩⟩) | (go_at_call 136; (with_reducible refine (palanquinref06_in.calls a0_3 0 255 true _ A6.out).mono ?_); rintro e w' ⟨rfl, ⟨nd, rfl⟩⟩) | (go_at_call 136; (with_reducible refine (palanquinref06_in.calls a0_1 0 1048575 true _ A8.out).mono ?_); rintro e w' ⟨rfl, ⟨nd, rfl⟩⟩))
      go_ret
      exact ⟨by first | rfl | (simp [errW_none, errW_some] <;> rfl) | (simp [*, errW_none, errW_some] <;> rfl), by repeat (first | (with_reducible first | exact HB.out | apply bA | apply bN | apply bD | refine bS ?_ GE380.out) | exact HB.out)⟩
    ·replace c9 := Bool.eq_false_iff.mpr c9
     subst c9
     rw [if_neg (show ¬ (false = true) by decide)] at H
     obtain rfl := Option.some.inj H
     go_enter Tryd.func112, Tryd.ntmps112
     go_wp2_with (first | ((with_reducible refine gate_dst (N := 1) rfl ?_); (try (refine gate_guard (by rfl) ?_; dsimp only)); refine box_event ?hg (N := 1) ?hd (cs := #[.int .i64 a0_0, .int .i64 a0_1, .int .i64 a0_2, .int .i64 a0_3, .string a0_4, .string a0_5]) (t := 71) ?hr ?_; (case hd => rfl); (case hg => rfl); (case hr => first | (go_simp; done) | (go_simp; rfl)); intro gb380 hg w15 hbox hb; obtain ⟨n0_, nq_⟩ := bpr (by repeat (first | (with_reducible first | exact HB.out | apply bA | apply bN | apply bD) | exact HB.out)) hb; have n1_ := mA (hbox); have n2_ := mA ((by rw [hg]; exact nq_ : w.heap.size ≤ gb380)); have n3_ := mA ((by rw [hg]; exact nq_ : w.heap.size ≤ gb380)); clear HB; have HB := n0_; have BK380 := n1_; have GW380 := n2_; have GE380 := n3_; clear nq_; clear n0_ n1_ n2_ n3_; clear hb hbox hg; obtain ⟨hcz16_0, hcz16_1, hcz16_2, hcz16_3, hcz16_4, hcz16_5⟩ := bc6 BK380.out; obtain ⟨hfz16_0, hfz16_1, hfz16_2, hfz16_3, hfz16_4, hfz16_5⟩ := bf6 BK380.out) | ((with_reducible refine gate_callee (f := 136) rfl ?_); refine goesL_ (some 5) rfl rfl Tryd.func136 (by kernel_rfl) rfl #[.int .i64 a0_0, .int .i64 0, .int .i64 255] rfl (by (try simp only [List.map_toArray, List.map_cons, List.map_nil]); first | done | rfl | (simp only [List.length_drop, List.length_take]; rfl)) ?_; (with_reducible refine (palanquinref06_in.calls a0_0 0 255 true _ A2.out).mono ?_); rintro e w' ⟨rfl, ⟨nd, rfl⟩⟩; refine ⟨_, rfl, ?_⟩) | (go_at_call 136; (with_reducible refine (palanquinref06_in.calls a0_2 0 255 true _ A4.out).mono ?_); rintro e w' ⟨rfl, ⟨nd, rfl⟩⟩) | (go_at_call 136; (with_reducible refine (palanquinref06_in.calls a0_3 0 255 true _ A6.out).mono ?_); rintro e w' ⟨rfl, ⟨nd, rfl⟩⟩) | (go_at_call 136; (with_reducible refine (palanquinref06_in.calls a0_1 0 1048575 false _ A8.out).mono ?_); rintro e w' ⟨rfl, ⟨nd, rfl⟩⟩))
     go_ret
     exact ⟨by first | rfl | (simp [errW_none, errW_some] <;> rfl) | (simp [*, errW_none, errW_some] <;> rfl), by repeat (first | (with_reducible first | exact HB.out | apply bA | apply bN | apply bD | refine bS ?_ GE380.out) | exact HB.out)⟩
   ·replace c7 := Bool.eq_false_iff.mpr c7
    subst c7
    rw [if_neg (show ¬ (false = true) by decide)] at H
    obtain rfl := Option.some.inj H
    go_enter Tryd.func112, Tryd.ntmps112
    go_wp2_with (first | ((with_reducible refine gate_dst (N := 1) rfl ?_); (try (refine gate_guard (by rfl) ?_; dsimp only)); refine box_event ?hg (N := 1) ?hd (cs := #[.int .i64 a0_0, .int .i64 a0_1, .int .i64 a0_2, .int .i64 a0_3, .string a0_4, .string a0_5]) (t := 71) ?hr ?_; (case hd => rfl); (case hg => rfl); (case hr => first | (go_simp; done) | (go_simp; rfl)); intro gb380 hg w17 hbox hb; obtain ⟨n0_, nq_⟩ := bpr (by repeat (first | (with_reducible first | exact HB.out | apply bA | apply bN | apply bD) | exact HB.out)) hb; have n1_ := mA (hbox); have n2_ := mA ((by rw [hg]; exact nq_ : w.heap.size ≤ gb380)); have n3_ := mA ((by rw [hg]; exact nq_ : w.heap.size ≤ gb380)); clear HB; have HB := n0_; have BK380 := n1_; have GW380 := n2_; have GE380 := n3_; clear nq_; clear n0_ n1_ n2_ n3_; clear hb hbox hg; obtain ⟨hcz18_0, hcz18_1, hcz18_2, hcz18_3, hcz18_4, hcz18_5⟩ := bc6 BK380.out; obtain ⟨hfz18_0, hfz18_1, hfz18_2, hfz18_3, hfz18_4, hfz18_5⟩ := bf6 BK380.out) | ((with_reducible refine gate_callee (f := 136) rfl ?_); refine goesL_ (some 5) rfl rfl Tryd.func136 (by kernel_rfl) rfl #[.int .i64 a0_0, .int .i64 0, .int .i64 255] rfl (by (try simp only [List.map_toArray, List.map_cons, List.map_nil]); first | done | rfl | (simp only [List.length_drop, List.length_take]; rfl)) ?_; (with_reducible refine (palanquinref06_in.calls a0_0 0 255 true _ A2.out).mono ?_); rintro e w' ⟨rfl, ⟨nd, rfl⟩⟩; refine ⟨_, rfl, ?_⟩) | (go_at_call 136; (with_reducible refine (palanquinref06_in.calls a0_2 0 255 true _ A4.out).mono ?_); rintro e w' ⟨rfl, ⟨nd, rfl⟩⟩) | (go_at_call 136; (with_reducible refine (palanquinref06_in.calls a0_3 0 255 false _ A6.out).mono ?_); rintro e w' ⟨rfl, ⟨nd, rfl⟩⟩))
    go_ret
    exact ⟨by first | rfl | (simp [errW_none, errW_some] <;> rfl) | (simp [*, errW_none, errW_some] <;> rfl), by repeat (first | (with_reducible first | exact HB.out | apply bA | apply bN | apply bD | refine bS ?_ GE380.out) | exact HB.out)⟩
  ·replace c5 := Bool.eq_false_iff.mpr c5
   subst c5
   rw [if_neg (show ¬ (false = true) by decide)] at H
   obtain rfl := Option.some.inj H
   go_enter Tryd.func112, Tryd.ntmps112
   go_wp2_with (first | ((with_reducible refine gate_dst (N := 1) rfl ?_); (try (refine gate_guard (by rfl) ?_; dsimp only)); refine box_event ?hg (N := 1) ?hd (cs := #[.int .i64 a0_0, .int .i64 a0_1, .int .i64 a0_2, .int .i64 a0_3, .string a0_4, .string a0_5]) (t := 71) ?hr ?_; (case hd => rfl); (case hg => rfl); (case hr => first | (go_simp; done) | (go_simp; rfl)); intro gb380 hg w19 hbox hb; obtain ⟨n0_, nq_⟩ := bpr (by repeat (first | (with_reducible first | exact HB.out | apply bA | apply bN | apply bD) | exact HB.out)) hb; have n1_ := mA (hbox); have n2_ := mA ((by rw [hg]; exact nq_ : w.heap.size ≤ gb380)); have n3_ := mA ((by rw [hg]; exact nq_ : w.heap.size ≤ gb380)); clear HB; have HB := n0_; have BK380 := n1_; have GW380 := n2_; have GE380 := n3_; clear nq_; clear n0_ n1_ n2_ n3_; clear hb hbox hg; obtain ⟨hcz20_0, hcz20_1, hcz20_2, hcz20_3, hcz20_4, hcz20_5⟩ := bc6 BK380.out; obtain ⟨hfz20_0, hfz20_1, hfz20_2, hfz20_3, hfz20_4, hfz20_5⟩ := bf6 BK380.out) | ((with_reducible refine gate_callee (f := 136) rfl ?_); refine goesL_ (some 5) rfl rfl Tryd.func136 (by kernel_rfl) rfl #[.int .i64 a0_0, .int .i64 0, .int .i64 255] rfl (by (try simp only [List.map_toArray, List.map_cons, List.map_nil]); first | done | rfl | (simp only [List.length_drop, List.length_take]; rfl)) ?_; (with_reducible refine (palanquinref06_in.calls a0_0 0 255 true _ A2.out).mono ?_); rintro e w' ⟨rfl, ⟨nd, rfl⟩⟩; refine ⟨_, rfl, ?_⟩) | (go_at_call 136; (with_reducible refine (palanquinref06_in.calls a0_2 0 255 false _ A4.out).mono ?_); rintro e w' ⟨rfl, ⟨nd, rfl⟩⟩))
   go_ret
   exact ⟨by first | rfl | (simp [errW_none, errW_some] <;> rfl) | (simp [*, errW_none, errW_some] <;> rfl), by repeat (first | (with_reducible first | exact HB.out | apply bA | apply bN | apply bD | refine bS ?_ GE380.out) | exact HB.out)⟩
 ·replace c3 := Bool.eq_false_iff.mpr c3
  subst c3
  rw [if_neg (show ¬ (false = true) by decide)] at H
  obtain rfl := Option.some.inj H
  go_enter Tryd.func112, Tryd.ntmps112
  go_wp2_with (first | ((with_reducible refine gate_dst (N := 1) rfl ?_); (try (refine gate_guard (by rfl) ?_; dsimp only)); refine box_event ?hg (N := 1) ?hd (cs := #[.int .i64 a0_0, .int .i64 a0_1, .int .i64 a0_2, .int .i64 a0_3, .string a0_4, .string a0_5]) (t := 71) ?hr ?_; (case hd => rfl); (case hg => rfl); (case hr => first | (go_simp; done) | (go_simp; rfl)); intro gb380 hg w21 hbox hb; obtain ⟨n0_, nq_⟩ := bpr (by repeat (first | (with_reducible first | exact HB.out | apply bA | apply bN | apply bD) | exact HB.out)) hb; have n1_ := mA (hbox); have n2_ := mA ((by rw [hg]; exact nq_ : w.heap.size ≤ gb380)); have n3_ := mA ((by rw [hg]; exact nq_ : w.heap.size ≤ gb380)); clear HB; have HB := n0_; have BK380 := n1_; have GW380 := n2_; have GE380 := n3_; clear nq_; clear n0_ n1_ n2_ n3_; clear hb hbox hg; obtain ⟨hcz22_0, hcz22_1, hcz22_2, hcz22_3, hcz22_4, hcz22_5⟩ := bc6 BK380.out; obtain ⟨hfz22_0, hfz22_1, hfz22_2, hfz22_3, hfz22_4, hfz22_5⟩ := bf6 BK380.out) | ((with_reducible refine gate_callee (f := 136) rfl ?_); refine goesL_ (some 5) rfl rfl Tryd.func136 (by kernel_rfl) rfl #[.int .i64 a0_0, .int .i64 0, .int .i64 255] rfl (by (try simp only [List.map_toArray, List.map_cons, List.map_nil]); first | done | rfl | (simp only [List.length_drop, List.length_take]; rfl)) ?_; (with_reducible refine (palanquinref06_in.calls a0_0 0 255 false _ A2.out).mono ?_); rintro e w' ⟨rfl, ⟨nd, rfl⟩⟩; refine ⟨_, rfl, ?_⟩))
  go_ret
  exact ⟨by first | rfl | (simp [errW_none, errW_some] <;> rfl) | (simp [*, errW_none, errW_some] <;> rfl), by repeat (first | (with_reducible first | exact HB.out | apply bA | apply bN | apply bD | refine bS ?_ GE380.out) | exact HB.out)⟩

def palanquinref06_Put.f (k : Nat) (a0_0 : Int) (a0_1 : Int) (a0_2 : Int) (a0_3 : Int) (a0_4 : ByteArray) (a0_5 : ByteArray) (a1 : ByteArray) : Option (ByteArray × Int) := (palanquinref06_Right.f a0_0 a0_1 a0_2 a0_3 a0_4 a0_5).bind fun t386 => (if t386 = true then (if (a1.size : Int) > 65535 then (some ((⟨#[]⟩ : ByteArray), 4)) else ((palanquinref01_Bytes.f k (IntKind.u64.wrap (wrap64 ((wrap64 ((wrap64 (1536 + a0_0)) * 1048576)) + a0_1))) 4).bind fun t387 => ((palanquinref01_Bytes.f k (IntKind.u64.wrap ((a1.size : Int))) 2).bind fun t388 => (if t387.size + t388.size ≤ 9223372036854775807 then ((palanquinref01_Bytes.f k (IntKind.u64.wrap (a0_2)) 1).bind fun t389 => (if (t387 ++ t388).size + t389.size ≤ 9223372036854775807 then ((palanquinref01_Bytes.f k (IntKind.u64.wrap (a0_3)) 1).bind fun t390 => (if ((t387 ++ t388) ++ t389).size + t390.size ≤ 9223372036854775807 then (if (((t387 ++ t388) ++ t389) ++ t390).size + a0_4.size ≤ 9223372036854775807 then (if ((((t387 ++ t388) ++ t389) ++ t390) ++ a0_4).size + a0_5.size ≤ 9223372036854775807 then (if (((((t387 ++ t388) ++ t389) ++ t390) ++ a0_4) ++ a0_5).size + a1.size ≤ 9223372036854775807 then (some ((((((t387 ++ t388) ++ t389) ++ t390) ++ a0_4) ++ a0_5) ++ a1, 0)) else (none)) else (none)) else (none)) else (none))) else (none))) else (none))))) else (some ((⟨#[]⟩ : ByteArray), 1)))
def palanquinref06_Put.T6 : Bool × List (List Nat × List Nat) := (true, [([], []), ([0], [0]), ([1], [1]), ([], []), ([3], [3]), ([4], [4]), ([5, 2], [5]), ([2, 6], [2, 6]), ([], []), ([8], [8]), ([9], [9]), ([10, 6], [10]), ([7, 11], [7, 11]), ([], []), ([13], [13]), ([14], [14]), ([15, 11], [15]), ([12, 16], [12, 16]), ([], []), ([18], [18]), ([17, 19], [17, 19]), ([], []), ([21], [21]), ([20, 22], [20, 22]), ([], []), ([23, 24], [23, 24]), ([25, 16, 0, 1, 2, 3, 4, 5, 6, 7, 8, 9, 10, 11, 12, 13, 14, 15, 16, 17, 18, 19, 20, 21, 22, 23, 24, 25], [25]), ([26, 0, 1, 2, 3, 4, 5, 6, 7, 8, 9, 10, 11, 12, 13, 14, 15, 16, 17, 18, 19, 20, 21, 22, 23, 24, 25, 26], [])])
def palanquinref06_Put.B6 : List Nat := [0, 1, 3, 0, 8, 24, 63, 127, 0, 256, 768, 1919, 4095, 0, 8192, 24576, 61311, 131071, 0, 262144, 1048575, 0, 2097152, 8388607, 0, 33554431, 67108863, 134217727]
theorem palanquinref06_Put.tab6 : rtab .any (opsOf Tryd.f83 6) = palanquinref06_Put.T6 := by kernel_rfl
theorem palanquinref06_Put.bits6 : waitsOk palanquinref06_Put.T6.2 palanquinref06_Put.B6 = true := by kernel_rfl
set_option maxHeartbeats 8000000 in
set_option maxRecDepth 100000 in
theorem palanquinref06_Put.calls (k : Nat) (a0_0 : Int) (a0_1 : Int) (a0_2 : Int) (a0_3 : Int) (a0_4 : ByteArray) (a0_5 : ByteArray) (a1 : ByteArray) (r1 : ByteArray) (r2 : Int) (w : World) (h : palanquinref06_Put.f k a0_0 a0_1 a0_2 a0_3 a0_4 a0_5 a1 = some (r1, r2)) :
  Calls Tryd.prog 83 #[.agg #[.int .i64 a0_0, .int .i64 a0_1, .int .i64 a0_2, .int .i64 a0_3, .string a0_4, .string a0_5], .string a1] w fun e w' => e = .returned (.tuple #[.string r1, .int .i64 r2]) ∧ Below w.heap.size w w' := by
 have hu71 := Tryd.underlying71
 have HB := mA (Below.refl w.heap.size w)
 have H : ((palanquinref06_Right.f a0_0 a0_1 a0_2 a0_3 a0_4 a0_5).bind fun t386 => (if t386 = true then (if (a1.size : Int) > 65535 then (some ((⟨#[]⟩ : ByteArray), 4)) else ((palanquinref01_Bytes.f k (IntKind.u64.wrap (wrap64 ((wrap64 ((wrap64 (1536 + a0_0)) * 1048576)) + a0_1))) 4).bind fun t387 => ((palanquinref01_Bytes.f k (IntKind.u64.wrap ((a1.size : Int))) 2).bind fun t388 => (if t387.size + t388.size ≤ 9223372036854775807 then ((palanquinref01_Bytes.f k (IntKind.u64.wrap (a0_2)) 1).bind fun t389 => (if (t387 ++ t388).size + t389.size ≤ 9223372036854775807 then ((palanquinref01_Bytes.f k (IntKind.u64.wrap (a0_3)) 1).bind fun t390 => (if ((t387 ++ t388) ++ t389).size + t390.size ≤ 9223372036854775807 then (if (((t387 ++ t388) ++ t389) ++ t390).size + a0_4.size ≤ 9223372036854775807 then (if ((((t387 ++ t388) ++ t389) ++ t390) ++ a0_4).size + a0_5.size ≤ 9223372036854775807 then (if (((((t387 ++ t388) ++ t389) ++ t390) ++ a0_4) ++ a0_5).size + a1.size ≤ 9223372036854775807 then (some ((((((t387 ++ t388) ++ t389) ++ t390) ++ a0_4) ++ a0_5) ++ a1, 0)) else (none)) else (none)) else (none)) else (none))) else (none))) else (none))))) else (some ((⟨#[]⟩ : ByteArray), 1)))) = some (r1, r2) := h
 clear h
 replace H := Option.bind_eq_some_iff.mp H
 obtain ⟨t386, A30, H⟩ := H
 try dsimp +instances only at H
 have A3 := mA A30
 clear A30
 by_cases c4 : t386 = true
 ·subst c4
  rw [if_pos rfl] at H
  by_cases c5 : (a1.size : Int) > 65535
  ·rw [if_pos c5] at H
   have c5b0 : decide (65535 < (a1.size : Int)) = true := decide_eq_true c5
   have c5b1 : decide (65535 < a1.size) = true := decide_eq_true (by omega)
   clear c5
   simp only [Option.some.injEq, Prod.mk.injEq] at H
   obtain ⟨rfl, rfl⟩ := H
   go_enter Tryd.func83, Tryd.ntmps83
   go_wp2_with (first | ((with_reducible refine gate_dst (N := 2) rfl ?_); refine box_event ?hg (N := 2) ?hd (cs := #[.int .i64 a0_0, .int .i64 a0_1, .int .i64 a0_2, .int .i64 a0_3, .string a0_4, .string a0_5]) (t := 71) ?hr ?_; (case hd => rfl); (case hg => rfl); (case hr => first | (go_simp; done) | (go_simp; rfl)); intro gb385 hg w6 hbox hb; obtain ⟨n0_, nq_⟩ := bpr (by repeat (first | (with_reducible first | exact HB.out | apply bA | apply bN | apply bD) | exact HB.out)) hb; have n1_ := mA (hbox); have n2_ := mA ((by rw [hg]; exact nq_ : w.heap.size ≤ gb385)); have n3_ := mA ((by rw [hg]; exact nq_ : w.heap.size ≤ gb385)); clear HB; have HB := n0_; have BK385 := n1_; have GW385 := n2_; have GE385 := n3_; clear nq_; clear n0_ n1_ n2_ n3_; clear hb hbox hg; obtain ⟨hcz7_0, hcz7_1, hcz7_2, hcz7_3, hcz7_4, hcz7_5⟩ := bc6 BK385.out; obtain ⟨hfz7_0, hfz7_1, hfz7_2, hfz7_3, hfz7_4, hfz7_5⟩ := bf6 BK385.out) | ((with_reducible refine gate_callee (f := 112) rfl ?_); refine goesL_ (some 8) rfl rfl Tryd.func112 (by kernel_rfl) rfl #[.agg #[.int .i64 a0_0, .int .i64 a0_1, .int .i64 a0_2, .int .i64 a0_3, .string a0_4, .string a0_5]] rfl (by (try simp only [List.map_toArray, List.map_cons, List.map_nil]); first | done | rfl | (simp only [List.length_drop, List.length_take]; rfl)) ?_; (with_reducible refine (palanquinref06_Right.calls a0_0 a0_1 a0_2 a0_3 a0_4 a0_5 true _ A3.out).mono ?_); rintro e w8 ⟨rfl, hb⟩; refine ⟨_, rfl, ?_⟩; have n0_ := mA (blk_below (g := gb385) (o := .cells #[.int .i64 a0_0, .int .i64 a0_1, .int .i64 a0_2, .int .i64 a0_3, .string a0_4, .string a0_5] 71 (0, 0)) (by (with_reducible repeat (first | apply kN | apply kD | apply kA)); exact BK385.out) hb); have n1_ := mA (bP (by repeat (first | (with_reducible first | exact HB.out | apply bA | apply bN | apply bD | refine bS ?_ GE385.out) | exact HB.out)) hb); clear BK385; clear HB; have BK385 := n0_; have HB := n1_; clear n0_ n1_; (try clear hb); (try clear hb2); (try clear hk); (try clear hi)))
   go_ret2
   exact ⟨by first | rfl | (simp [errW_none, errW_some] <;> rfl) | (simp [*, errW_none, errW_some] <;> rfl), by repeat (first | (with_reducible first | exact HB.out | apply bA | apply bN | apply bD | refine bS ?_ GE385.out) | exact HB.out)⟩
  ·rw [if_neg c5] at H
   have c5b0 : decide (65535 < (a1.size : Int)) = false := decide_eq_false c5
   have c5b1 : decide (65535 < a1.size) = false := decide_eq_false (by omega)
   clear c5
   replace H := Option.bind_eq_some_iff.mp H
   obtain ⟨t387, A90, H⟩ := H
   try dsimp +instances only at H
   have A9 := mA A90
   clear A90
   replace H := Option.bind_eq_some_iff.mp H
   obtain ⟨t388, A100, H⟩ := H
   try dsimp +instances only at H
   have A10 := mA A100
   clear A100
   by_cases c11 : t387.size + t388.size ≤ 9223372036854775807
   ·rw [if_pos c11] at H
    have c11b0 := eq_true c11
    have c11b1 : decide (t387.size + t388.size ≤ 9223372036854775807) = true := decide_eq_true c11
    try have c11b2 : (9223372036854775807 < t387.size + t388.size) = False := eq_false (Nat.not_lt.2 c11)
    replace H := Option.bind_eq_some_iff.mp H
    obtain ⟨t389, A120, H⟩ := H
    try dsimp +instances only at H
    have A12 := mA A120
    clear A120
    by_cases c13 : (t387 ++ t388).size + t389.size ≤ 9223372036854775807
    ·rw [if_pos c13] at H
     have c13b0 := eq_true c13
     have c13b1 : decide ((t387 ++ t388).size + t389.size ≤ 9223372036854775807) = true := decide_eq_true c13
     try have c13b2 : (9223372036854775807 < (t387 ++ t388).size + t389.size) = False := eq_false (Nat.not_lt.2 c13)
     try have c13b3 : (9223372036854775807 < (t387.size) + (t388.size) + t389.size) = False := eq_false (by have h_ := c13; simp only [ByteArray.size_append] at h_; omega)
     try have c13b4 : ((t387.size) + (t388.size) + t389.size ≤ 9223372036854775807) = True := eq_true (by have h_ := c13; simp only [ByteArray.size_append] at h_; omega)
     replace H := Option.bind_eq_some_iff.mp H
     obtain ⟨t390, A140, H⟩ := H
     try dsimp +instances only at H
     have A14 := mA A140
     clear A140
     by_cases c15 : ((t387 ++ t388) ++ t389).size + t390.size ≤ 9223372036854775807
     ·rw [if_pos c15] at H
      have c15b0 := eq_true c15
      have c15b1 : decide (((t387 ++ t388) ++ t389).size + t390.size ≤ 9223372036854775807) = true := decide_eq_true c15
      try have c15b2 : (9223372036854775807 < ((t387 ++ t388) ++ t389).size + t390.size) = False := eq_false (Nat.not_lt.2 c15)
      try have c15b3 : (9223372036854775807 < (t387.size) + (t388.size) + (t389.size) + t390.size) = False := eq_false (by have h_ := c15; simp only [ByteArray.size_append] at h_; omega)
      try have c15b4 : ((t387.size) + (t388.size) + (t389.size) + t390.size ≤ 9223372036854775807) = True := eq_true (by have h_ := c15; simp only [ByteArray.size_append] at h_; omega)
      by_cases c16 : (((t387 ++ t388) ++ t389) ++ t390).size + a0_4.size ≤ 9223372036854775807
      ·rw [if_pos c16] at H
       have c16b0 := eq_true c16
       have c16b1 : decide ((((t387 ++ t388) ++ t389) ++ t390).size + a0_4.size ≤ 9223372036854775807) = true := decide_eq_true c16
       try have c16b2 : (9223372036854775807 < (((t387 ++ t388) ++ t389) ++ t390).size + a0_4.size) = False := eq_false (Nat.not_lt.2 c16)
       try have c16b3 : (9223372036854775807 < (t387.size) + (t388.size) + (t389.size) + (t390.size) + a0_4.size) = False := eq_false (by have h_ := c16; simp only [ByteArray.size_append] at h_; omega)
       try have c16b4 : ((t387.size) + (t388.size) + (t389.size) + (t390.size) + a0_4.size ≤ 9223372036854775807) = True := eq_true (by have h_ := c16; simp only [ByteArray.size_append] at h_; omega)
       by_cases c17 : ((((t387 ++ t388) ++ t389) ++ t390) ++ a0_4).size + a0_5.size ≤ 9223372036854775807
       ·rw [if_pos c17] at H
        have c17b0 := eq_true c17
        have c17b1 : decide (((((t387 ++ t388) ++ t389) ++ t390) ++ a0_4).size + a0_5.size ≤ 9223372036854775807) = true := decide_eq_true c17
        try have c17b2 : (9223372036854775807 < ((((t387 ++ t388) ++ t389) ++ t390) ++ a0_4).size + a0_5.size) = False := eq_false (Nat.not_lt.2 c17)
        try have c17b3 : (9223372036854775807 < (t387.size) + (t388.size) + (t389.size) + (t390.size) + (a0_4.size) + a0_5.size) = False := eq_false (by have h_ := c17; simp only [ByteArray.size_append] at h_; omega)
        try have c17b4 : ((t387.size) + (t388.size) + (t389.size) + (t390.size) + (a0_4.size) + a0_5.size ≤ 9223372036854775807) = True := eq_true (by have h_ := c17; simp only [ByteArray.size_append] at h_; omega)
        by_cases c18 : (((((t387 ++ t388) ++ t389) ++ t390) ++ a0_4) ++ a0_5).size + a1.size ≤ 9223372036854775807
        ·rw [if_pos c18] at H
         have c18b0 := eq_true c18
         have c18b1 : decide ((((((t387 ++ t388) ++ t389) ++ t390) ++ a0_4) ++ a0_5).size + a1.size ≤ 9223372036854775807) = true := decide_eq_true c18
         try have c18b2 : (9223372036854775807 < (((((t387 ++ t388) ++ t389) ++ t390) ++ a0_4) ++ a0_5).size + a1.size) = False := eq_false (Nat.not_lt.2 c18)
         try have c18b3 : (9223372036854775807 < (t387.size) + (t388.size) + (t389.size) + (t390.size) + (a0_4.size) + (a0_5.size) + a1.size) = False := eq_false (by have h_ := c18; simp only [ByteArray.size_append] at h_; omega)
         try have c18b4 : ((t387.size) + (t388.size) + (t389.size) + (t390.size) + (a0_4.size) + (a0_5.size) + a1.size ≤ 9223372036854775807) = True := eq_true (by have h_ := c18; simp only [ByteArray.size_append] at h_; omega)
         simp only [Option.some.injEq, Prod.mk.injEq] at H
         obtain ⟨rfl, rfl⟩ := H
         go_enter Tryd.func83, Tryd.ntmps83
         try go_wp2_with (first | ((with_reducible refine gate_dst (N := 2) rfl ?_); refine box_event ?hg (N := 2) ?hd (cs := #[.int .i64 a0_0, .int .i64 a0_1, .int .i64 a0_2, .int .i64 a0_3, .string a0_4, .string a0_5]) (t := 71) ?hr ?_; (case hd => rfl); (case hg => rfl); (case hr => first | (go_simp; done) | (go_simp; rfl)); intro gb385 hg w19 hbox hb; obtain ⟨n0_, nq_⟩ := bpr (by repeat (first | (with_reducible first | exact HB.out | apply bA | apply bN | apply bD) | exact HB.out)) hb; have n1_ := mA (hbox); have n2_ := mA ((by rw [hg]; exact nq_ : w.heap.size ≤ gb385)); have n3_ := mA ((by rw [hg]; exact nq_ : w.heap.size ≤ gb385)); clear HB; have HB := n0_; have BK385 := n1_; have GW385 := n2_; have GE385 := n3_; clear nq_; clear n0_ n1_ n2_ n3_; clear hb hbox hg; obtain ⟨hcz20_0, hcz20_1, hcz20_2, hcz20_3, hcz20_4, hcz20_5⟩ := bc6 BK385.out; obtain ⟨hfz20_0, hfz20_1, hfz20_2, hfz20_3, hfz20_4, hfz20_5⟩ := bf6 BK385.out) | ((with_reducible refine gate_callee (f := 112) rfl ?_); refine goesL_ (some 8) rfl rfl Tryd.func112 (by kernel_rfl) rfl #[.agg #[.int .i64 a0_0, .int .i64 a0_1, .int .i64 a0_2, .int .i64 a0_3, .string a0_4, .string a0_5]] rfl (by (try simp only [List.map_toArray, List.map_cons, List.map_nil]); first | done | rfl | (simp only [List.length_drop, List.length_take]; rfl)) ?_; (with_reducible refine (palanquinref06_Right.calls a0_0 a0_1 a0_2 a0_3 a0_4 a0_5 true _ A3.out).mono ?_); rintro e w21 ⟨rfl, hb⟩; refine ⟨_, rfl, ?_⟩; have n0_ := mA (blk_below (g := gb385) (o := .cells #[.int .i64 a0_0, .int .i64 a0_1, .int .i64 a0_2, .int .i64 a0_3, .string a0_4, .string a0_5] 71 (0, 0)) (by (with_reducible repeat (first | apply kN | apply kD | apply kA)); exact BK385.out) hb); have n1_ := mA (bP (by repeat (first | (with_reducible first | exact HB.out | apply bA | apply bN | apply bD | refine bS ?_ GE385.out) | exact HB.out)) hb); clear BK385; clear HB; have BK385 := n0_; have HB := n1_; clear n0_ n1_; (try clear hb); (try clear hb2); (try clear hk); (try clear hi); obtain ⟨hcz22_0, hcz22_1, hcz22_2, hcz22_3, hcz22_4, hcz22_5⟩ := bc6 BK385.out; obtain ⟨hfz22_0, hfz22_1, hfz22_2, hfz22_3, hfz22_4, hfz22_5⟩ := bf6 BK385.out))
         have n0_ := mA (kD BK385.out)
         have n1_ := mA (bD HB.out)
         clear BK385
         clear HB
         have BK385 := n0_
         have HB := n1_
         clear n0_ n1_
         refine start_ (n := 28) (S := fun w' => w'.cell? ⟨gb385, 0, none⟩ = some (.int .i64 a0_0) ∧ w'.cell? ⟨gb385, 1, none⟩ = some (.int .i64 a0_1) ∧ w'.cell? ⟨gb385, 2, none⟩ = some (.int .i64 a0_2) ∧ w'.cell? ⟨gb385, 3, none⟩ = some (.int .i64 a0_3) ∧ w'.cell? ⟨gb385, 4, none⟩ = some (.string a0_4) ∧ w'.cell? ⟨gb385, 5, none⟩ = some (.string a0_5)) (ds := []) (bv 28 0) (by kernel_rfl) rfl rfl ⟨(zC BK385.out 0).trans rfl, (zC BK385.out 1).trans rfl, (zC BK385.out 2).trans rfl, (zC BK385.out 3).trans rfl, (zC BK385.out 4).trans rfl, (zC BK385.out 5).trans rfl⟩ (fun hHeld => ?_); refine with_tabW palanquinref06_Put.tab6 palanquinref06_Put.bits6 (fun HT_ HW_ => ?_)
         generalize w21.drew = w23 at BK385 HB hHeld ⊢
         refine pure_ (i := 0) (N := some 20) (v := ?_) (a' := ?_) (bv 28 1) rfl rfl (any_of HT_.out (by kernel_rfl)) (fun _ _ _ h => h) (Or.inl ⟨by rfl, ?_⟩) ?_ ?_; rotate_left; (intro w'; go_simp; with_reducible rfl); rotate_left; (simp only [Act.put, List.setIfInBounds_toArray, List.set_cons_zero, List.set_cons_succ, i64_w, i32_w]; rfl)
         refine pure_ (i := 1) (N := some 21) (v := ?_) (a' := ?_) (bv 28 3) rfl rfl (any_of HT_.out (by kernel_rfl)) (fun _ _ _ h => h) (Or.inl ⟨by rfl, ?_⟩) ?_ ?_; rotate_left; (intro w'; go_simp; with_reducible rfl); rotate_left; (simp only [Act.put, List.setIfInBounds_toArray, List.set_cons_zero, List.set_cons_succ, i64_w, i32_w]; rfl)
         refine pure_ (i := 3) (N := some 23) (v := ?_) (a' := ?_) (bv 28 11) rfl rfl (any_of HT_.out (by kernel_rfl)) (fun _ _ _ h => h) (Or.inl ⟨by rfl, ?_⟩) ?_ ?_; rotate_left; (intro w'; go_simp; with_reducible rfl); rotate_left; (simp only [Act.put, List.setIfInBounds_toArray, List.set_cons_zero, List.set_cons_succ, i64_w, i32_w]; rfl)
         refine pure_ (i := 4) (N := some 24) (v := ?_) (a' := ?_) (bv 28 27) rfl rfl (any_of HT_.out (by kernel_rfl)) (fun _ _ _ h => h) (Or.inl ⟨by rfl, ?_⟩) ?_ ?_; rotate_left; (intro w'; go_simp; with_reducible rfl); rotate_left; (simp only [Act.put, List.setIfInBounds_toArray, List.set_cons_zero, List.set_cons_succ, i64_w, i32_w]; rfl)
         refine pure_ (i := 5) (N := some 25) (v := ?_) (a' := ?_) (bv 28 59) rfl rfl (any_of HT_.out (by kernel_rfl)) (fun _ _ _ h => h) (Or.inl ⟨by rfl, ?_⟩) ?_ ?_; rotate_left; (intro w'; go_simp; with_reducible rfl); rotate_left; (simp only [Act.put, List.setIfInBounds_toArray, List.set_cons_zero, List.set_cons_succ, i64_w, i32_w]; rfl)
         refine pure_ (i := 8) (N := some 28) (v := ?_) (a' := ?_) (bv 28 315) rfl rfl (any_of HT_.out (by kernel_rfl)) (fun _ _ _ h => h) (Or.inl ⟨by rfl, ?_⟩) ?_ ?_; rotate_left; (intro w'; go_simp; with_reducible rfl); rotate_left; (simp only [Act.put, List.setIfInBounds_toArray, List.set_cons_zero, List.set_cons_succ, i64_w, i32_w]; rfl)
         refine pure_ (i := 13) (N := some 33) (v := ?_) (a' := ?_) (bv 28 8507) rfl rfl (any_of HT_.out (by kernel_rfl)) (fun _ _ _ h => h) (Or.inl ⟨by rfl, ?_⟩) ?_ ?_; rotate_left; (intro w'; go_simp; with_reducible rfl); rotate_left; (simp only [Act.put, List.setIfInBounds_toArray, List.set_cons_zero, List.set_cons_succ, i64_w, i32_w]; rfl)
         refine pure_ (i := 18) (N := some 38) (v := ?_) (a' := ?_) (bv 28 270651) rfl rfl (any_of HT_.out (by kernel_rfl)) (fun _ _ _ h => h) (Or.inl ⟨by rfl, ?_⟩) ?_ ?_; rotate_left; (intro w'; go_simp; with_reducible rfl); rotate_left; (simp only [Act.put, List.setIfInBounds_toArray, List.set_cons_zero, List.set_cons_succ, i64_w, i32_w]; rfl)
         refine pure_ (i := 21) (N := some 41) (v := ?_) (a' := ?_) (bv 28 2367803) rfl rfl (any_of HT_.out (by kernel_rfl)) (fun _ _ _ h => h) (Or.inl ⟨by rfl, ?_⟩) ?_ ?_; rotate_left; (intro w'; go_simp; with_reducible rfl); rotate_left; (simp only [Act.put, List.setIfInBounds_toArray, List.set_cons_zero, List.set_cons_succ, i64_w, i32_w]; rfl)
         refine pure_ (i := 24) (N := some 44) (v := ?_) (a' := ?_) (bv 28 19145019) rfl rfl (any_of HT_.out (by kernel_rfl)) (fun _ _ _ h => h) (Or.inl ⟨by rfl, ?_⟩) ?_ ?_; rotate_left; (intro w'; go_simp; with_reducible rfl); rotate_left; (simp only [Act.put, List.setIfInBounds_toArray, List.set_cons_zero, List.set_cons_succ, i64_w, i32_w]; rfl)
         refine take_ (i := 9) (N := some 29) (v := ?_) (a' := ?_) (bv 28 19145531) rfl rfl (take_ofW HT_.out HW_.out (by kernel_rfl)) (fun _ _ _ h => h) (Or.inl ⟨by rfl, ?_⟩) hHeld ?_ ?_; rotate_left; (rintro w' ⟨s0, s1, s2, s3, s4, s5⟩; go_simp; with_reducible rfl); rotate_left; (simp only [Act.put, List.setIfInBounds_toArray, List.set_cons_zero, List.set_cons_succ, i64_w, i32_w]; rfl)
         refine pure_ (i := 10) (N := some 30) (v := ?_) (a' := ?_) (bv 28 19146555) rfl rfl (any_of HT_.out (by kernel_rfl)) (fun _ _ _ h => h) (Or.inl ⟨by rfl, ?_⟩) ?_ ?_; rotate_left; (intro w'; go_simp; with_reducible rfl); rotate_left; (simp only [Act.put, List.setIfInBounds_toArray, List.set_cons_zero, List.set_cons_succ, i64_w, i32_w]; rfl)
         refine take_ (i := 14) (N := some 34) (v := ?_) (a' := ?_) (bv 28 19162939) rfl rfl (take_ofW HT_.out HW_.out (by kernel_rfl)) (fun _ _ _ h => h) (Or.inl ⟨by rfl, ?_⟩) hHeld ?_ ?_; rotate_left; (rintro w' ⟨s0, s1, s2, s3, s4, s5⟩; go_simp; with_reducible rfl); rotate_left; (simp only [Act.put, List.setIfInBounds_toArray, List.set_cons_zero, List.set_cons_succ, i64_w, i32_w]; rfl)
         refine pure_ (i := 15) (N := some 35) (v := ?_) (a' := ?_) (bv 28 19195707) rfl rfl (any_of HT_.out (by kernel_rfl)) (fun _ _ _ h => h) (Or.inl ⟨by rfl, ?_⟩) ?_ ?_; rotate_left; (intro w'; go_simp; with_reducible rfl); rotate_left; (simp only [Act.put, List.setIfInBounds_toArray, List.set_cons_zero, List.set_cons_succ, i64_w, i32_w]; rfl)
         refine take_ (i := 19) (N := some 39) (v := ?_) (a' := ?_) (bv 28 19719995) rfl rfl (take_ofW HT_.out HW_.out (by kernel_rfl)) (fun _ _ _ h => h) (Or.inl ⟨by rfl, ?_⟩) hHeld ?_ ?_; rotate_left; (rintro w' ⟨s0, s1, s2, s3, s4, s5⟩; go_simp; with_reducible rfl); rotate_left; (simp only [Act.put, List.setIfInBounds_toArray, List.set_cons_zero, List.set_cons_succ, i64_w, i32_w]; rfl)
         refine take_ (i := 22) (N := some 42) (v := ?_) (a' := ?_) (bv 28 23914299) rfl rfl (take_ofW HT_.out HW_.out (by kernel_rfl)) (fun _ _ _ h => h) (Or.inl ⟨by rfl, ?_⟩) hHeld ?_ ?_; rotate_left; (rintro w' ⟨s0, s1, s2, s3, s4, s5⟩; go_simp; with_reducible rfl); rotate_left; (simp only [Act.put, List.setIfInBounds_toArray, List.set_cons_zero, List.set_cons_succ, i64_w, i32_w]; rfl)
         refine one_ (i := 2) (N := some 22) (bv 28 23914303) rfl rfl (one_of HT_.out (by kernel_rfl)) (by decide) (fun K hK => ?_)
         refine goes_ Tryd.func61 (by kernel_rfl) rfl #[.int .u64 (IntKind.u64.wrap (wrap64 ((wrap64 ((wrap64 (1536 + a0_0)) * 1048576)) + a0_1))), .int .i64 4] (by rfl) rfl rfl (by (try simp only [List.map_toArray, List.map_cons, List.map_nil]); first | done | rfl | (simp only [List.length_drop, List.length_take]; rfl)) ?_
         with_reducible refine (palanquinref01_Bytes.calls k (IntKind.u64.wrap (wrap64 ((wrap64 ((wrap64 (1536 + a0_0)) * 1048576)) + a0_1))) 4 t387 _ A9.out).mono ?_
         rintro e w24 ⟨rfl, hb⟩
         refine ⟨_, rfl, ?_⟩
         have n0_ := mA (blk_below (g := gb385) (o := .cells #[.int .i64 a0_0, .int .i64 a0_1, .int .i64 a0_2, .int .i64 a0_3, .string a0_4, .string a0_5] 71 (0, 0)) (by (with_reducible repeat (first | apply kN | apply kD | apply kA)); exact BK385.out) hb)
         have n1_ := mA (bP (by repeat (first | (with_reducible first | exact HB.out | apply bA | apply bN | apply bD | refine bS ?_ GE385.out) | exact HB.out)) hb)
         clear BK385
         clear HB
         have BK385 := n0_
         have HB := n1_
         clear n0_ n1_
         (try clear hb)
         (try clear hb2)
         (try clear hk)
         (try clear hi)
         refine hK.out _ _ ⟨(zC BK385.out 0).trans rfl, (zC BK385.out 1).trans rfl, (zC BK385.out 2).trans rfl, (zC BK385.out 3).trans rfl, (zC BK385.out 4).trans rfl, (zC BK385.out 5).trans rfl⟩ (fun hHeld => ?_)
         clear hK K
         refine norm_ (a' := ?_) ?_ ?_
         rotate_left
         ·show Act.put _ (some 22) _ = _
          simp only [Act.put, List.setIfInBounds_toArray, List.set_cons_zero, List.set_cons_succ, i64_w, i32_w]
          rfl
         refine one_ (i := 6) (N := some 26) (bv 28 23914367) rfl rfl (one_of HT_.out (by kernel_rfl)) (by decide) (fun K hK => ?_)
         refine goes_ Tryd.func61 (by kernel_rfl) rfl #[.int .u64 (IntKind.u64.wrap ((a1.size : Int))), .int .i64 2] (by rfl) rfl rfl (by (try simp only [List.map_toArray, List.map_cons, List.map_nil]); first | done | rfl | (simp only [List.length_drop, List.length_take]; rfl)) ?_
         with_reducible refine (palanquinref01_Bytes.calls k (IntKind.u64.wrap ((a1.size : Int))) 2 t388 _ A10.out).mono ?_
         rintro e w25 ⟨rfl, hb⟩
         refine ⟨_, rfl, ?_⟩
         have n0_ := mA (blk_below (g := gb385) (o := .cells #[.int .i64 a0_0, .int .i64 a0_1, .int .i64 a0_2, .int .i64 a0_3, .string a0_4, .string a0_5] 71 (0, 0)) (by (with_reducible repeat (first | apply kN | apply kD | apply kA)); exact BK385.out) hb)
         have n1_ := mA (bP (by repeat (first | (with_reducible first | exact HB.out | apply bA | apply bN | apply bD | refine bS ?_ GE385.out) | exact HB.out)) hb)
         clear BK385
         clear HB
         have BK385 := n0_
         have HB := n1_
         clear n0_ n1_
         (try clear hb)
         (try clear hb2)
         (try clear hk)
         (try clear hi)
         refine hK.out _ _ ⟨(zC BK385.out 0).trans rfl, (zC BK385.out 1).trans rfl, (zC BK385.out 2).trans rfl, (zC BK385.out 3).trans rfl, (zC BK385.out 4).trans rfl, (zC BK385.out 5).trans rfl⟩ (fun hHeld => ?_)
         clear hK K
         refine norm_ (a' := ?_) ?_ ?_
         rotate_left
         ·show Act.put _ (some 26) _ = _
          simp only [Act.put, List.setIfInBounds_toArray, List.set_cons_zero, List.set_cons_succ, i64_w, i32_w]
          rfl
         refine pure_ (i := 7) (N := some 27) (v := ?_) (a' := ?_) (bv 28 23914495) rfl rfl (any_of HT_.out (by kernel_rfl)) (fun _ _ _ h => h) (Or.inl ⟨by rfl, ?_⟩) ?_ ?_; rotate_left; (intro w'; go_simp; with_reducible rfl); rotate_left; (simp only [Act.put, List.setIfInBounds_toArray, List.set_cons_zero, List.set_cons_succ, i64_w, i32_w]; rfl)
         refine one_ (i := 11) (N := some 31) (bv 28 23916543) rfl rfl (one_of HT_.out (by kernel_rfl)) (by decide) (fun K hK => ?_)
         refine goes_ Tryd.func61 (by kernel_rfl) rfl #[.int .u64 (IntKind.u64.wrap (a0_2)), .int .i64 1] (by rfl) rfl rfl (by (try simp only [List.map_toArray, List.map_cons, List.map_nil]); first | done | rfl | (simp only [List.length_drop, List.length_take]; rfl)) ?_
         with_reducible refine (palanquinref01_Bytes.calls k (IntKind.u64.wrap (a0_2)) 1 t389 _ A12.out).mono ?_
         rintro e w26 ⟨rfl, hb⟩
         refine ⟨_, rfl, ?_⟩
         have n0_ := mA (blk_below (g := gb385) (o := .cells #[.int .i64 a0_0, .int .i64 a0_1, .int .i64 a0_2, .int .i64 a0_3, .string a0_4, .string a0_5] 71 (0, 0)) (by (with_reducible repeat (first | apply kN | apply kD | apply kA)); exact BK385.out) hb)
         have n1_ := mA (bP (by repeat (first | (with_reducible first | exact HB.out | apply bA | apply bN | apply bD | refine bS ?_ GE385.out) | exact HB.out)) hb)
         clear BK385
         clear HB
         have BK385 := n0_
         have HB := n1_
         clear n0_ n1_
         (try clear hb)
         (try clear hb2)
         (try clear hk)
         (try clear hi)
         refine hK.out _ _ ⟨(zC BK385.out 0).trans rfl, (zC BK385.out 1).trans rfl, (zC BK385.out 2).trans rfl, (zC BK385.out 3).trans rfl, (zC BK385.out 4).trans rfl, (zC BK385.out 5).trans rfl⟩ (fun hHeld => ?_)
         clear hK K
         refine norm_ (a' := ?_) ?_ ?_
         rotate_left
         ·show Act.put _ (some 31) _ = _
          simp only [Act.put, List.setIfInBounds_toArray, List.set_cons_zero, List.set_cons_succ, i64_w, i32_w]
          rfl
         refine pure_ (i := 12) (N := some 32) (v := ?_) (a' := ?_) (bv 28 23920639) rfl rfl (any_of HT_.out (by kernel_rfl)) (fun _ _ _ h => h) (Or.inl ⟨by rfl, ?_⟩) ?_ ?_; rotate_left; (intro w'; go_simp; with_reducible rfl); rotate_left; (simp only [Act.put, List.setIfInBounds_toArray, List.set_cons_zero, List.set_cons_succ, i64_w, i32_w]; rfl)
         refine one_ (i := 16) (N := some 36) (bv 28 23986175) rfl rfl (one_of HT_.out (by kernel_rfl)) (by decide) (fun K hK => ?_)
         refine goes_ Tryd.func61 (by kernel_rfl) rfl #[.int .u64 (IntKind.u64.wrap (a0_3)), .int .i64 1] (by rfl) rfl rfl (by (try simp only [List.map_toArray, List.map_cons, List.map_nil]); first | done | rfl | (simp only [List.length_drop, List.length_take]; rfl)) ?_
         with_reducible refine (palanquinref01_Bytes.calls k (IntKind.u64.wrap (a0_3)) 1 t390 _ A14.out).mono ?_
         rintro e w27 ⟨rfl, hb⟩
         refine ⟨_, rfl, ?_⟩
         have n0_ := mA (blk_below (g := gb385) (o := .cells #[.int .i64 a0_0, .int .i64 a0_1, .int .i64 a0_2, .int .i64 a0_3, .string a0_4, .string a0_5] 71 (0, 0)) (by (with_reducible repeat (first | apply kN | apply kD | apply kA)); exact BK385.out) hb)
         have n1_ := mA (bP (by repeat (first | (with_reducible first | exact HB.out | apply bA | apply bN | apply bD | refine bS ?_ GE385.out) | exact HB.out)) hb)
         clear BK385
         clear HB
         have BK385 := n0_
         have HB := n1_
         clear n0_ n1_
         (try clear hb)
         (try clear hb2)
         (try clear hk)
         (try clear hi)
         refine hK.out _ _ ⟨(zC BK385.out 0).trans rfl, (zC BK385.out 1).trans rfl, (zC BK385.out 2).trans rfl, (zC BK385.out 3).trans rfl, (zC BK385.out 4).trans rfl, (zC BK385.out 5).trans rfl⟩ (fun hHeld => ?_)
         clear hK K
         refine norm_ (a' := ?_) ?_ ?_
         rotate_left
         ·show Act.put _ (some 36) _ = _
          simp only [Act.put, List.setIfInBounds_toArray, List.set_cons_zero, List.set_cons_succ, i64_w, i32_w]
          rfl
         refine pure_ (i := 17) (N := some 37) (v := ?_) (a' := ?_) (bv 28 24117247) rfl rfl (any_of HT_.out (by kernel_rfl)) (fun _ _ _ h => h) (Or.inl ⟨by rfl, ?_⟩) ?_ ?_; rotate_left; (intro w'; go_simp; with_reducible rfl); rotate_left; (simp only [Act.put, List.setIfInBounds_toArray, List.set_cons_zero, List.set_cons_succ, i64_w, i32_w]; rfl)
         refine pure_ (i := 20) (N := some 40) (v := ?_) (a' := ?_) (bv 28 25165823) rfl rfl (any_of HT_.out (by kernel_rfl)) (fun _ _ _ h => h) (Or.inl ⟨by rfl, ?_⟩) ?_ ?_; rotate_left; (intro w'; go_simp; with_reducible rfl); rotate_left; (simp only [Act.put, List.setIfInBounds_toArray, List.set_cons_zero, List.set_cons_succ, i64_w, i32_w]; rfl)
         refine pure_ (i := 23) (N := some 43) (v := ?_) (a' := ?_) (bv 28 33554431) rfl rfl (any_of HT_.out (by kernel_rfl)) (fun _ _ _ h => h) (Or.inl ⟨by rfl, ?_⟩) ?_ ?_; rotate_left; (intro w'; go_simp; with_reducible rfl); rotate_left; (simp only [Act.put, List.setIfInBounds_toArray, List.set_cons_zero, List.set_cons_succ, i64_w, i32_w]; rfl)
         refine pure_ (i := 25) (N := some 45) (v := ?_) (a' := ?_) (bv 28 67108863) rfl rfl (any_of HT_.out (by kernel_rfl)) (fun _ _ _ h => h) (Or.inl ⟨by rfl, ?_⟩) ?_ ?_; rotate_left; (intro w'; go_simp; with_reducible rfl); rotate_left; (simp only [Act.put, List.setIfInBounds_toArray, List.set_cons_zero, List.set_cons_succ, i64_w, i32_w]; rfl)
         refine pure_ (i := 26) (N := some 4) (v := ?_) (a' := ?_) (bv 28 134217727) rfl rfl (any_of HT_.out (by kernel_rfl)) (fun _ _ _ h => h) (Or.inl ⟨by rfl, ?_⟩) ?_ ?_; rotate_left; (intro w'; go_simp; with_reducible rfl); rotate_left; (simp only [Act.put, List.setIfInBounds_toArray, List.set_cons_zero, List.set_cons_succ, i64_w, i32_w]; rfl)
         refine pure_ (i := 27) (N := some 5) (v := ?_) (a' := ?_) (bv 28 268435455) rfl rfl (any_of HT_.out (by kernel_rfl)) (fun _ _ _ h => h) (Or.inl ⟨by rfl, ?_⟩) ?_ ?_; rotate_left; (intro w'; go_simp; with_reducible rfl); rotate_left; (simp only [Act.put, List.setIfInBounds_toArray, List.set_cons_zero, List.set_cons_succ, i64_w, i32_w]; rfl)
         refine done_ (done_of HT_.out (by kernel_rfl)) ?_
         try go_wp2
         go_ret2
         exact ⟨by first | rfl | (simp [errW_none, errW_some] <;> rfl) | (simp [*, errW_none, errW_some] <;> rfl), by repeat (first | (with_reducible first | exact HB.out | apply bA | apply bN | apply bD | refine bS ?_ GE385.out) | exact HB.out)⟩
        ·rw [if_neg c18] at H
         exact absurd H (by simp)
       ·rw [if_neg c17] at H
        exact absurd H (by simp)
      ·rw [if_neg c16] at H
       exact absurd H (by simp)
     ·rw [if_neg c15] at H
      exact absurd H (by simp)
    ·rw [if_neg c13] at H
     exact absurd H (by simp)
   ·rw [if_neg c11] at H
    exact absurd H (by simp)
 ·replace c4 := Bool.eq_false_iff.mpr c4
  subst c4
  rw [if_neg (show ¬ (false = true) by decide)] at H
  simp only [Option.some.injEq, Prod.mk.injEq] at H
  obtain ⟨rfl, rfl⟩ := H
  go_enter Tryd.func83, Tryd.ntmps83
  go_wp2_with (first | ((with_reducible refine gate_dst (N := 2) rfl ?_); refine box_event ?hg (N := 2) ?hd (cs := #[.int .i64 a0_0, .int .i64 a0_1, .int .i64 a0_2, .int .i64 a0_3, .string a0_4, .string a0_5]) (t := 71) ?hr ?_; (case hd => rfl); (case hg => rfl); (case hr => first | (go_simp; done) | (go_simp; rfl)); intro gb385 hg w28 hbox hb; obtain ⟨n0_, nq_⟩ := bpr (by repeat (first | (with_reducible first | exact HB.out | apply bA | apply bN | apply bD) | exact HB.out)) hb; have n1_ := mA (hbox); have n2_ := mA ((by rw [hg]; exact nq_ : w.heap.size ≤ gb385)); have n3_ := mA ((by rw [hg]; exact nq_ : w.heap.size ≤ gb385)); clear HB; have HB := n0_; have BK385 := n1_; have GW385 := n2_; have GE385 := n3_; clear nq_; clear n0_ n1_ n2_ n3_; clear hb hbox hg; obtain ⟨hcz29_0, hcz29_1, hcz29_2, hcz29_3, hcz29_4, hcz29_5⟩ := bc6 BK385.out; obtain ⟨hfz29_0, hfz29_1, hfz29_2, hfz29_3, hfz29_4, hfz29_5⟩ := bf6 BK385.out) | ((with_reducible refine gate_callee (f := 112) rfl ?_); refine goesL_ (some 8) rfl rfl Tryd.func112 (by kernel_rfl) rfl #[.agg #[.int .i64 a0_0, .int .i64 a0_1, .int .i64 a0_2, .int .i64 a0_3, .string a0_4, .string a0_5]] rfl (by (try simp only [List.map_toArray, List.map_cons, List.map_nil]); first | done | rfl | (simp only [List.length_drop, List.length_take]; rfl)) ?_; (with_reducible refine (palanquinref06_Right.calls a0_0 a0_1 a0_2 a0_3 a0_4 a0_5 false _ A3.out).mono ?_); rintro e w30 ⟨rfl, hb⟩; refine ⟨_, rfl, ?_⟩; have n0_ := mA (blk_below (g := gb385) (o := .cells #[.int .i64 a0_0, .int .i64 a0_1, .int .i64 a0_2, .int .i64 a0_3, .string a0_4, .string a0_5] 71 (0, 0)) (by (with_reducible repeat (first | apply kN | apply kD | apply kA)); exact BK385.out) hb); have n1_ := mA (bP (by repeat (first | (with_reducible first | exact HB.out | apply bA | apply bN | apply bD | refine bS ?_ GE385.out) | exact HB.out)) hb); clear BK385; clear HB; have BK385 := n0_; have HB := n1_; clear n0_ n1_; (try clear hb); (try clear hb2); (try clear hk); (try clear hi)))
  go_ret2
  exact ⟨by first | rfl | (simp [errW_none, errW_some] <;> rfl) | (simp [*, errW_none, errW_some] <;> rfl), by repeat (first | (with_reducible first | exact HB.out | apply bA | apply bN | apply bD | refine bS ?_ GE385.out) | exact HB.out)⟩

end Go.Proofs.YtcmalglippmocaaDoor.G
end
