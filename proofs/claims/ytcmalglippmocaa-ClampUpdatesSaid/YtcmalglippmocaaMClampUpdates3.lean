/- Texts of this session, joined: each is a section. -/
import Derived.Test.YtcmalglippmocaaMClampUpdates2
set_option linter.unusedVariables false
set_option linter.unusedSimpArgs false
section
namespace Go.Proofs.Ytcmalglippmocaa.G
open Go.RowKit Go.Proofs.YtcmalglippmocaaW.PrintWords Go.Proofs.YtcmalglippmocaaW.PrintLast Go.Proofs.YtcmalglippmocaaW.PrintMore
attribute [local go_sem] max2_int min2_int max_two min_two max_three min_three max_four min_four

mutual
def palanquinref05_Put.j0 : Nat → ByteArray → Int → Int → Int → Int → Int → Int → Int → Bool → Bool → ByteArray → ByteArray → ByteArray → Option (ByteArray × Int)
 | 0, _, _, _, _, _, _, _, _, _, _, _, _, _ => none
 | k + 1, x1, x6, x7, x141000, x141001, x141002, x141003, x141004, x141005, x141006, x141007, x141008, x141009 => if x141006 = true then (palanquinref05_Put.j1 k x1 x6 (wrap64 (x7 + 8192)) x141000 x141001 x141002 x141003 x141004 x141005 x141006 x141007 x141008 x141009) else (palanquinref05_Put.j1 k x1 x6 x7 x141000 x141001 x141002 x141003 x141004 x141005 x141006 x141007 x141008 x141009)
def palanquinref05_Put.j1 : Nat → ByteArray → Int → Int → Int → Int → Int → Int → Int → Bool → Bool → ByteArray → ByteArray → ByteArray → Option (ByteArray × Int)
 | 0, _, _, _, _, _, _, _, _, _, _, _, _, _ => none
 | k + 1, x1, x6, x7, x141000, x141001, x141002, x141003, x141004, x141005, x141006, x141007, x141008, x141009 => (palanquinref05_num.f k (wrap64 (69 + (wrap64 ((x141009.size : Int) / 4)))) 1).bind fun t142 => ((palanquinref05_num.f k x141000 1).bind fun t143 => (if t142.size + t143.size ≤ 9223372036854775807 then ((palanquinref05_num.f k x6 2).bind fun t144 => (if (t142 ++ t143).size + t144.size ≤ 9223372036854775807 then ((palanquinref05_num.f k x141001 2).bind fun t145 => (if ((t142 ++ t143) ++ t144).size + t145.size ≤ 9223372036854775807 then ((palanquinref05_num.f k x7 2).bind fun t146 => (if (((t142 ++ t143) ++ t144) ++ t145).size + t146.size ≤ 9223372036854775807 then ((palanquinref05_num.f k x141003 1).bind fun t147 => (if ((((t142 ++ t143) ++ t144) ++ t145) ++ t146).size + t147.size ≤ 9223372036854775807 then ((palanquinref05_num.f k x141004 1).bind fun t148 => (if (((((t142 ++ t143) ++ t144) ++ t145) ++ t146) ++ t147).size + t148.size ≤ 9223372036854775807 then (if x141007.size + x141008.size ≤ 9223372036854775807 then (if (x141007 ++ x141008).size + x141009.size ≤ 9223372036854775807 then (if ((((((t142 ++ t143) ++ t144) ++ t145) ++ t146) ++ t147) ++ t148).size + 2 ≤ 9223372036854775807 then (if (((((((t142 ++ t143) ++ t144) ++ t145) ++ t146) ++ t147) ++ t148) ++ (⟨#[0, 0]⟩ : ByteArray)).size + ((x141007 ++ x141008) ++ x141009).size ≤ 9223372036854775807 then ((palanquinref02_Sum.f k ((((((((t142 ++ t143) ++ t144) ++ t145) ++ t146) ++ t147) ++ t148) ++ (⟨#[0, 0]⟩ : ByteArray)) ++ ((x141007 ++ x141008) ++ x141009))).bind fun t149 => ((palanquinref05_num.f k t149 2).bind fun t150 => (if ((((((t142 ++ t143) ++ t144) ++ t145) ++ t146) ++ t147) ++ t148).size + t150.size ≤ 9223372036854775807 then (if (((((((t142 ++ t143) ++ t144) ++ t145) ++ t146) ++ t147) ++ t148) ++ t150).size + ((x141007 ++ x141008) ++ x141009).size ≤ 9223372036854775807 then (if ((((((((t142 ++ t143) ++ t144) ++ t145) ++ t146) ++ t147) ++ t148) ++ t150) ++ ((x141007 ++ x141008) ++ x141009)).size + x1.size ≤ 9223372036854775807 then (some (((((((((t142 ++ t143) ++ t144) ++ t145) ++ t146) ++ t147) ++ t148) ++ t150) ++ ((x141007 ++ x141008) ++ x141009)) ++ x1, 0)) else (none)) else (none)) else (none)))) else (none)) else (none)) else (none)) else (none)) else (none))) else (none))) else (none))) else (none))) else (none))) else (none)))
end
def palanquinref05_Put.f (k : Nat) (a0_0 : Int) (a0_1 : Int) (a0_2 : Int) (a0_3 : Int) (a0_4 : Int) (a0_5 : Bool) (a0_6 : Bool) (a0_7 : ByteArray) (a0_8 : ByteArray) (a0_9 : ByteArray) (a1 : ByteArray) : Option (ByteArray × Int) := (palanquinref05_Right.f a0_0 a0_1 a0_2 a0_3 a0_4 a0_5 a0_6 a0_7 a0_8 a0_9).bind fun t141 => (if t141 = true then (if (wrap64 ((wrap64 (20 + (a0_9.size : Int))) + (a1.size : Int))) > 65535 then (some ((⟨#[]⟩ : ByteArray), 4)) else (if a0_5 = true then (palanquinref05_Put.j0 k a1 (wrap64 ((wrap64 (20 + (a0_9.size : Int))) + (a1.size : Int))) (wrap64 (a0_2 + 16384)) a0_0 a0_1 a0_2 a0_3 a0_4 a0_5 a0_6 a0_7 a0_8 a0_9) else (palanquinref05_Put.j0 k a1 (wrap64 ((wrap64 (20 + (a0_9.size : Int))) + (a1.size : Int))) a0_2 a0_0 a0_1 a0_2 a0_3 a0_4 a0_5 a0_6 a0_7 a0_8 a0_9))) else (some ((⟨#[]⟩ : ByteArray), 1)))
def palanquinref05_Put.T11 : Bool × List (List Nat × List Nat) := (true, [([], []), ([0], [0]), ([1], [1]), ([2], [2]), ([3], [3]), ([4], [4]), ([], []), ([6], [6]), ([7, 5], [7]), ([5, 8], [5, 8]), ([], []), ([10, 8], [10]), ([9, 11], [9, 11]), ([], []), ([13], [13]), ([14, 11], [14]), ([12, 15], [12, 15]), ([], []), ([17, 15], [17]), ([16, 18], [16, 18]), ([], []), ([20], [20]), ([21, 18], [21]), ([19, 22], [19, 22]), ([], []), ([24], [24]), ([25, 22], [25]), ([23, 26], [23, 26]), ([27, 26, 0, 1, 2, 3, 4, 5, 6, 7, 8, 9, 10, 11, 12, 13, 14, 15, 16, 17, 18, 19, 20, 21, 22, 23, 24, 25, 26, 27], [27])])
def palanquinref05_Put.B11 : List Nat := [0, 1, 3, 7, 15, 31, 0, 64, 255, 511, 0, 1535, 4095, 0, 8192, 28159, 65535, 0, 191999, 524287, 0, 1048576, 3599871, 8388607, 0, 16777216, 58125823, 134217727, 268435455]
theorem palanquinref05_Put.tab11 : rtab .any (opsOf Try.f23 11) = palanquinref05_Put.T11 := by kernel_rfl
theorem palanquinref05_Put.bits11 : waitsOk palanquinref05_Put.T11.2 palanquinref05_Put.B11 = true := by kernel_rfl
set_option maxHeartbeats 8000000 in
set_option maxRecDepth 100000 in
theorem palanquinref05_Put.calls (k : Nat) (a0_0 : Int) (a0_1 : Int) (a0_2 : Int) (a0_3 : Int) (a0_4 : Int) (a0_5 : Bool) (a0_6 : Bool) (a0_7 : ByteArray) (a0_8 : ByteArray) (a0_9 : ByteArray) (a1 : ByteArray) (r1 : ByteArray) (r2 : Int) (w : World) (h : palanquinref05_Put.f k a0_0 a0_1 a0_2 a0_3 a0_4 a0_5 a0_6 a0_7 a0_8 a0_9 a1 = some (r1, r2)) :
  Calls Try.prog 23 #[.agg #[.int .i64 a0_0, .int .i64 a0_1, .int .i64 a0_2, .int .i64 a0_3, .int .i64 a0_4, .bool a0_5, .bool a0_6, .string a0_7, .string a0_8, .string a0_9], .string a1] w fun e w' => e = .returned (.tuple #[.string r1, .int .i64 r2]) ∧ Below w.heap.size w w' := by
 have hu50 := Try.underlying50
 have HB := mA (Below.refl w.heap.size w)
 have H : ((palanquinref05_Right.f a0_0 a0_1 a0_2 a0_3 a0_4 a0_5 a0_6 a0_7 a0_8 a0_9).bind fun t141 => (if t141 = true then (if (wrap64 ((wrap64 (20 + (a0_9.size : Int))) + (a1.size : Int))) > 65535 then (some ((⟨#[]⟩ : ByteArray), 4)) else (if a0_5 = true then (palanquinref05_Put.j0 k a1 (wrap64 ((wrap64 (20 + (a0_9.size : Int))) + (a1.size : Int))) (wrap64 (a0_2 + 16384)) a0_0 a0_1 a0_2 a0_3 a0_4 a0_5 a0_6 a0_7 a0_8 a0_9) else (palanquinref05_Put.j0 k a1 (wrap64 ((wrap64 (20 + (a0_9.size : Int))) + (a1.size : Int))) a0_2 a0_0 a0_1 a0_2 a0_3 a0_4 a0_5 a0_6 a0_7 a0_8 a0_9))) else (some ((⟨#[]⟩ : ByteArray), 1)))) = some (r1, r2) := h
 clear h
 replace H := Option.bind_eq_some_iff.mp H
 obtain ⟨t141, A30, H⟩ := H
 try dsimp +instances only at H
 have A3 := mA A30
 clear A30
 by_cases c4 : t141 = true
 ·subst c4
  rw [if_pos rfl] at H
  by_cases c5 : (wrap64 ((wrap64 (20 + (a0_9.size : Int))) + (a1.size : Int))) > 65535
  ·rw [if_pos c5] at H
   have c5b0 : decide (65535 < (wrap64 ((wrap64 (20 + (a0_9.size : Int))) + (a1.size : Int)))) = true := decide_eq_true c5
   clear c5
   simp only [Option.some.injEq, Prod.mk.injEq] at H
   obtain ⟨rfl, rfl⟩ := H
   go_enter Try.func23, Try.ntmps23
   go_wp2_with (first | ((with_reducible refine gate_dst (N := 2) rfl ?_); refine box_event ?hg (N := 2) ?hd (cs := #[.int .i64 a0_0, .int .i64 a0_1, .int .i64 a0_2, .int .i64 a0_3, .int .i64 a0_4, .bool a0_5, .bool a0_6, .string a0_7, .string a0_8, .string a0_9]) (t := 50) ?hr ?_; (case hd => rfl); (case hg => rfl); (case hr => first | (go_simp; done) | (go_simp; rfl)); intro gb140 hg w6 hbox hb; obtain ⟨n0_, nq_⟩ := bpr (by repeat (first | (with_reducible first | exact HB.out | apply bA | apply bN | apply bD) | exact HB.out)) hb; have n1_ := mA (hbox); have n2_ := mA ((by rw [hg]; exact nq_ : w.heap.size ≤ gb140)); have n3_ := mA ((by rw [hg]; exact nq_ : w.heap.size ≤ gb140)); clear HB; have HB := n0_; have BK140 := n1_; have GW140 := n2_; have GE140 := n3_; clear nq_; clear n0_ n1_ n2_ n3_; clear hb hbox hg; obtain ⟨hcz7_0, hcz7_1, hcz7_2, hcz7_3, hcz7_4, hcz7_5, hcz7_6, hcz7_7, hcz7_8, hcz7_9⟩ := bc10 BK140.out; obtain ⟨hfz7_0, hfz7_1, hfz7_2, hfz7_3, hfz7_4, hfz7_5, hfz7_6, hfz7_7, hfz7_8, hfz7_9⟩ := bf10 BK140.out) | ((with_reducible refine gate_callee (f := 44) rfl ?_); refine goesL_ (some 11) rfl rfl Try.func44 (by kernel_rfl) rfl #[.agg #[.int .i64 a0_0, .int .i64 a0_1, .int .i64 a0_2, .int .i64 a0_3, .int .i64 a0_4, .bool a0_5, .bool a0_6, .string a0_7, .string a0_8, .string a0_9]] rfl (by (try simp only [List.map_toArray, List.map_cons, List.map_nil]); first | done | rfl | (simp only [List.length_drop, List.length_take]; rfl)) ?_; (with_reducible refine (palanquinref05_Right.calls a0_0 a0_1 a0_2 a0_3 a0_4 a0_5 a0_6 a0_7 a0_8 a0_9 true _ A3.out).mono ?_); rintro e w8 ⟨rfl, hb⟩; refine ⟨_, rfl, ?_⟩; have n0_ := mA (blk_below (g := gb140) (o := .cells #[.int .i64 a0_0, .int .i64 a0_1, .int .i64 a0_2, .int .i64 a0_3, .int .i64 a0_4, .bool a0_5, .bool a0_6, .string a0_7, .string a0_8, .string a0_9] 50 (0, 0)) (by (with_reducible repeat (first | apply kN | apply kD | apply kA)); exact BK140.out) hb); have n1_ := mA (bP (by repeat (first | (with_reducible first | exact HB.out | apply bA | apply bN | apply bD | refine bS ?_ GE140.out) | exact HB.out)) hb); clear BK140; clear HB; have BK140 := n0_; have HB := n1_; clear n0_ n1_; (try clear hb); (try clear hb2); (try clear hk); (try clear hi); obtain ⟨hcz9_0, hcz9_1, hcz9_2, hcz9_3, hcz9_4, hcz9_5, hcz9_6, hcz9_7, hcz9_8, hcz9_9⟩ := bc10 BK140.out; obtain ⟨hfz9_0, hfz9_1, hfz9_2, hfz9_3, hfz9_4, hfz9_5, hfz9_6, hfz9_7, hfz9_8, hfz9_9⟩ := bf10 BK140.out))
   go_ret2
   exact ⟨by first | rfl | (simp [errW_none, errW_some] <;> rfl) | (simp [*, errW_none, errW_some] <;> rfl), by repeat (first | (with_reducible first | exact HB.out | apply bA | apply bN | apply bD | refine bS ?_ GE140.out) | exact HB.out)⟩
  ·rw [if_neg c5] at H
   have c5b0 : decide (65535 < (wrap64 ((wrap64 (20 + (a0_9.size : Int))) + (a1.size : Int)))) = false := decide_eq_false c5
   clear c5
   have HC10 := mA H
   clear H
   go_enter Try.func23, Try.ntmps23
   go_upto_if 25 with (first | ((with_reducible refine gate_dst (N := 2) rfl ?_); refine box_event ?hg (N := 2) ?hd (cs := #[.int .i64 a0_0, .int .i64 a0_1, .int .i64 a0_2, .int .i64 a0_3, .int .i64 a0_4, .bool a0_5, .bool a0_6, .string a0_7, .string a0_8, .string a0_9]) (t := 50) ?hr ?_; (case hd => rfl); (case hg => rfl); (case hr => first | (go_simp; done) | (go_simp; rfl)); intro gb140 hg w11 hbox hb; obtain ⟨n0_, nq_⟩ := bpr (by repeat (first | (with_reducible first | exact HB.out | apply bA | apply bN | apply bD) | exact HB.out)) hb; have n1_ := mA (hbox); have n2_ := mA ((by rw [hg]; exact nq_ : w.heap.size ≤ gb140)); have n3_ := mA ((by rw [hg]; exact nq_ : w.heap.size ≤ gb140)); clear HB; have HB := n0_; have BK140 := n1_; have GW140 := n2_; have GE140 := n3_; clear nq_; clear n0_ n1_ n2_ n3_; clear hb hbox hg; obtain ⟨hcz12_0, hcz12_1, hcz12_2, hcz12_3, hcz12_4, hcz12_5, hcz12_6, hcz12_7, hcz12_8, hcz12_9⟩ := bc10 BK140.out; obtain ⟨hfz12_0, hfz12_1, hfz12_2, hfz12_3, hfz12_4, hfz12_5, hfz12_6, hfz12_7, hfz12_8, hfz12_9⟩ := bf10 BK140.out) | ((with_reducible refine gate_callee (f := 44) rfl ?_); refine goesL_ (some 11) rfl rfl Try.func44 (by kernel_rfl) rfl #[.agg #[.int .i64 a0_0, .int .i64 a0_1, .int .i64 a0_2, .int .i64 a0_3, .int .i64 a0_4, .bool a0_5, .bool a0_6, .string a0_7, .string a0_8, .string a0_9]] rfl (by (try simp only [List.map_toArray, List.map_cons, List.map_nil]); first | done | rfl | (simp only [List.length_drop, List.length_take]; rfl)) ?_; (with_reducible refine (palanquinref05_Right.calls a0_0 a0_1 a0_2 a0_3 a0_4 a0_5 a0_6 a0_7 a0_8 a0_9 true _ A3.out).mono ?_); rintro e w13 ⟨rfl, hb⟩; refine ⟨_, rfl, ?_⟩; have n0_ := mA (blk_below (g := gb140) (o := .cells #[.int .i64 a0_0, .int .i64 a0_1, .int .i64 a0_2, .int .i64 a0_3, .int .i64 a0_4, .bool a0_5, .bool a0_6, .string a0_7, .string a0_8, .string a0_9] 50 (0, 0)) (by (with_reducible repeat (first | apply kN | apply kD | apply kA)); exact BK140.out) hb); have n1_ := mA (bP (by repeat (first | (with_reducible first | exact HB.out | apply bA | apply bN | apply bD | refine bS ?_ GE140.out) | exact HB.out)) hb); clear BK140; clear HB; have BK140 := n0_; have HB := n1_; clear n0_ n1_; (try clear hb); (try clear hb2); (try clear hk); (try clear hi); obtain ⟨hcz14_0, hcz14_1, hcz14_2, hcz14_3, hcz14_4, hcz14_5, hcz14_6, hcz14_7, hcz14_8, hcz14_9⟩ := bc10 BK140.out; obtain ⟨hfz14_0, hfz14_1, hfz14_2, hfz14_3, hfz14_4, hfz14_5, hfz14_6, hfz14_7, hfz14_8, hfz14_9⟩ := bf10 BK140.out))
   (try simp only [Act.put, List.setIfInBounds_toArray, List.set_cons_zero, List.set_cons_succ])
   go_cut [7] (fun v7 wc => ∃ (kq : Nat) (x7_9 : Int), v7 = .int .i64 x7_9 ∧ Aside0 (palanquinref05_Put.j0 kq a1 (wrap64 ((wrap64 (20 + (a0_9.size : Int))) + (a1.size : Int))) x7_9 a0_0 a0_1 a0_2 a0_3 a0_4 a0_5 a0_6 a0_7 a0_8 a0_9 = some (r1, r2)) ∧ Aside0 (kq ≤ k) ∧ Aside0 (wc.heap[gb140]? = some (.cells #[.int .i64 a0_0, .int .i64 a0_1, .int .i64 a0_2, .int .i64 a0_3, .int .i64 a0_4, .bool a0_5, .bool a0_6, .string a0_7, .string a0_8, .string a0_9] 50 (0, 0))) ∧ Aside0 (Below w.heap.size w wc))
   case first =>
    have H := HC10.out
    clear HC10
    by_cases c15 : a0_5 = true
    ·subst c15
     rw [if_pos rfl] at H
     have H' := mA H
     clear H
     go_wp2
     go_meet
     case rel => exact ⟨_, (wrap64 (a0_2 + 16384)), (by first | rfl | (simp; done) | (simp [*]; done)), H', ⟨by first | omega | exact Nat.le_refl _⟩, ⟨by (with_reducible repeat (first | apply kN | apply kD | apply kA)); exact BK140.out⟩, ⟨by repeat (first | (with_reducible first | exact HB.out | apply bA | apply bN | apply bD | refine bS ?_ GE140.out) | exact HB.out)⟩⟩
    ·replace c15 := Bool.eq_false_iff.mpr c15
     subst c15
     rw [if_neg (show ¬ (false = true) by decide)] at H
     have H' := mA H
     clear H
     go_wp2
     go_meet
     case rel => exact ⟨_, (a0_2), (by first | rfl | (simp; done) | (simp [*]; done)), H', ⟨by first | omega | exact Nat.le_refl _⟩, ⟨by (with_reducible repeat (first | apply kN | apply kD | apply kA)); exact BK140.out⟩, ⟨by repeat (first | (with_reducible first | exact HB.out | apply bA | apply bN | apply bD | refine bS ?_ GE140.out) | exact HB.out)⟩⟩
   case rest =>
    clear HC10
    try clear c1
    try clear c2
    try clear p2
    try clear c4
    try clear c5
    try clear c5b0
    try clear p6
    try clear c15
    try clear hcz12_0 hcz12_1 hcz12_2 hcz12_3 hcz12_4 hcz12_5 hcz12_6 hcz12_7 hcz12_8 hcz12_9
    try clear hcz14_0 hcz14_1 hcz14_2 hcz14_3 hcz14_4 hcz14_5 hcz14_6 hcz14_7 hcz14_8 hcz14_9
    try clear hcz7_0 hcz7_1 hcz7_2 hcz7_3 hcz7_4 hcz7_5 hcz7_6 hcz7_7 hcz7_8 hcz7_9
    try clear hcz9_0 hcz9_1 hcz9_2 hcz9_3 hcz9_4 hcz9_5 hcz9_6 hcz9_7 hcz9_8 hcz9_9
    try clear hfz12_0 hfz12_1 hfz12_2 hfz12_3 hfz12_4 hfz12_5 hfz12_6 hfz12_7 hfz12_8 hfz12_9
    try clear hfz14_0 hfz14_1 hfz14_2 hfz14_3 hfz14_4 hfz14_5 hfz14_6 hfz14_7 hfz14_8 hfz14_9
    try clear hfz7_0 hfz7_1 hfz7_2 hfz7_3 hfz7_4 hfz7_5 hfz7_6 hfz7_7 hfz7_8 hfz7_9
    try clear hfz9_0 hfz9_1 hfz9_2 hfz9_3 hfz9_4 hfz9_5 hfz9_6 hfz9_7 hfz9_8 hfz9_9
    obtain ⟨kq, x7_9, rfl, HA, HJ9, BK140, HB⟩ := hcut
    cases kq with
    | zero => exact absurd HA.out (by simp [palanquinref05_Put.j0])
    | succ kj9 =>
     have H := HA.out
     clear HA
     simp only [palanquinref05_Put.j0] at H
     have HC16 := mA H
     clear H
     obtain ⟨hcz17_0, hcz17_1, hcz17_2, hcz17_3, hcz17_4, hcz17_5, hcz17_6, hcz17_7, hcz17_8, hcz17_9⟩ := bc10 BK140.out
     obtain ⟨hfz17_0, hfz17_1, hfz17_2, hfz17_3, hfz17_4, hfz17_5, hfz17_6, hfz17_7, hfz17_8, hfz17_9⟩ := bf10 BK140.out
     go_upto_if 29 with (fail)
     go_cut [7] (fun v7 wc => ∃ (kq : Nat) (x7_15 : Int), v7 = .int .i64 x7_15 ∧ Aside0 (palanquinref05_Put.j1 kq a1 (wrap64 ((wrap64 (20 + (a0_9.size : Int))) + (a1.size : Int))) x7_15 a0_0 a0_1 a0_2 a0_3 a0_4 a0_5 a0_6 a0_7 a0_8 a0_9 = some (r1, r2)) ∧ Aside0 (kq ≤ kj9) ∧ Aside0 (wc.heap[gb140]? = some (.cells #[.int .i64 a0_0, .int .i64 a0_1, .int .i64 a0_2, .int .i64 a0_3, .int .i64 a0_4, .bool a0_5, .bool a0_6, .string a0_7, .string a0_8, .string a0_9] 50 (0, 0))) ∧ Aside0 (Below w.heap.size w wc))
     case first =>
      have H := HC16.out
      clear HC16
      by_cases c18 : a0_6 = true
      ·subst c18
       rw [if_pos rfl] at H
       have H' := mA H
       clear H
       go_wp2
       go_meet
       case rel => exact ⟨_, (wrap64 (x7_9 + 8192)), (by first | rfl | (simp; done) | (simp [*]; done)), H', ⟨by have := HJ9.out; first | omega | exact Nat.le_refl _⟩, ⟨by (with_reducible repeat (first | apply kN | apply kD | apply kA)); exact BK140.out⟩, ⟨by repeat (first | (with_reducible first | exact HB.out | apply bA | apply bN | apply bD | refine bS ?_ GE140.out) | exact HB.out)⟩⟩
      ·replace c18 := Bool.eq_false_iff.mpr c18
       subst c18
       rw [if_neg (show ¬ (false = true) by decide)] at H
       have H' := mA H
       clear H
       go_wp2
       go_meet
       case rel => exact ⟨_, (x7_9), (by first | rfl | (simp; done) | (simp [*]; done)), H', ⟨by have := HJ9.out; first | omega | exact Nat.le_refl _⟩, ⟨by (with_reducible repeat (first | apply kN | apply kD | apply kA)); exact BK140.out⟩, ⟨by repeat (first | (with_reducible first | exact HB.out | apply bA | apply bN | apply bD | refine bS ?_ GE140.out) | exact HB.out)⟩⟩
     case rest =>
      clear HC16
      try clear c1
      try clear c2
      try clear p2
      try clear c4
      try clear c5
      try clear c5b0
      try clear p6
      try clear c15
      try clear c18
      try clear hcz12_0 hcz12_1 hcz12_2 hcz12_3 hcz12_4 hcz12_5 hcz12_6 hcz12_7 hcz12_8 hcz12_9
      try clear hcz14_0 hcz14_1 hcz14_2 hcz14_3 hcz14_4 hcz14_5 hcz14_6 hcz14_7 hcz14_8 hcz14_9
      try clear hcz17_0 hcz17_1 hcz17_2 hcz17_3 hcz17_4 hcz17_5 hcz17_6 hcz17_7 hcz17_8 hcz17_9
      try clear hcz7_0 hcz7_1 hcz7_2 hcz7_3 hcz7_4 hcz7_5 hcz7_6 hcz7_7 hcz7_8 hcz7_9
      try clear hcz9_0 hcz9_1 hcz9_2 hcz9_3 hcz9_4 hcz9_5 hcz9_6 hcz9_7 hcz9_8 hcz9_9
      try clear hfz12_0 hfz12_1 hfz12_2 hfz12_3 hfz12_4 hfz12_5 hfz12_6 hfz12_7 hfz12_8 hfz12_9
      try clear hfz14_0 hfz14_1 hfz14_2 hfz14_3 hfz14_4 hfz14_5 hfz14_6 hfz14_7 hfz14_8 hfz14_9
      try clear hfz17_0 hfz17_1 hfz17_2 hfz17_3 hfz17_4 hfz17_5 hfz17_6 hfz17_7 hfz17_8 hfz17_9
      try clear hfz7_0 hfz7_1 hfz7_2 hfz7_3 hfz7_4 hfz7_5 hfz7_6 hfz7_7 hfz7_8 hfz7_9
      try clear hfz9_0 hfz9_1 hfz9_2 hfz9_3 hfz9_4 hfz9_5 hfz9_6 hfz9_7 hfz9_8 hfz9_9
      try clear p2
      try clear p6
      obtain ⟨kq, x7_15, rfl, HA, HJ15, BK140, HB⟩ := hcut
      cases kq with
      | zero => exact absurd HA.out (by simp [palanquinref05_Put.j1])
      | succ kj15 =>
       have H := HA.out
       clear HA
       simp only [palanquinref05_Put.j1] at H
       replace H := Option.bind_eq_some_iff.mp H
       obtain ⟨t142, A190, H⟩ := H
       try dsimp +instances only at H
       have A19 := mA A190
       clear A190
       replace H := Option.bind_eq_some_iff.mp H
       obtain ⟨t143, A200, H⟩ := H
       try dsimp +instances only at H
       have A20 := mA A200
       clear A200
       by_cases c21 : t142.size + t143.size ≤ 9223372036854775807
       ·rw [if_pos c21] at H
        have c21b0 := eq_true c21
        have c21b1 : decide (t142.size + t143.size ≤ 9223372036854775807) = true := decide_eq_true c21
        try have c21b2 : (9223372036854775807 < t142.size + t143.size) = False := eq_false (Nat.not_lt.2 c21)
        replace H := Option.bind_eq_some_iff.mp H
        obtain ⟨t144, A220, H⟩ := H
        try dsimp +instances only at H
        have A22 := mA A220
        clear A220
        by_cases c23 : (t142 ++ t143).size + t144.size ≤ 9223372036854775807
        ·rw [if_pos c23] at H
         have c23b0 := eq_true c23
         have c23b1 : decide ((t142 ++ t143).size + t144.size ≤ 9223372036854775807) = true := decide_eq_true c23
         try have c23b2 : (9223372036854775807 < (t142 ++ t143).size + t144.size) = False := eq_false (Nat.not_lt.2 c23)
         try have c23b3 : (9223372036854775807 < (t142.size) + (t143.size) + t144.size) = False := eq_false (by have h_ := c23; simp only [ByteArray.size_append] at h_; omega)
         try have c23b4 : ((t142.size) + (t143.size) + t144.size ≤ 9223372036854775807) = True := eq_true (by have h_ := c23; simp only [ByteArray.size_append] at h_; omega)
         replace H := Option.bind_eq_some_iff.mp H
         obtain ⟨t145, A240, H⟩ := H
         try dsimp +instances only at H
         have A24 := mA A240
         clear A240
         by_cases c25 : ((t142 ++ t143) ++ t144).size + t145.size ≤ 9223372036854775807
         ·rw [if_pos c25] at H
          have c25b0 := eq_true c25
          have c25b1 : decide (((t142 ++ t143) ++ t144).size + t145.size ≤ 9223372036854775807) = true := decide_eq_true c25
          try have c25b2 : (9223372036854775807 < ((t142 ++ t143) ++ t144).size + t145.size) = False := eq_false (Nat.not_lt.2 c25)
          try have c25b3 : (9223372036854775807 < (t142.size) + (t143.size) + (t144.size) + t145.size) = False := eq_false (by have h_ := c25; simp only [ByteArray.size_append] at h_; omega)
          try have c25b4 : ((t142.size) + (t143.size) + (t144.size) + t145.size ≤ 9223372036854775807) = True := eq_true (by have h_ := c25; simp only [ByteArray.size_append] at h_; omega)
          replace H := Option.bind_eq_some_iff.mp H
          obtain ⟨t146, A260, H⟩ := H
          try dsimp +instances only at H
          have A26 := mA A260
          clear A260
          by_cases c27 : (((t142 ++ t143) ++ t144) ++ t145).size + t146.size ≤ 9223372036854775807
          ·rw [if_pos c27] at H
           have c27b0 := eq_true c27
           have c27b1 : decide ((((t142 ++ t143) ++ t144) ++ t145).size + t146.size ≤ 9223372036854775807) = true := decide_eq_true c27
           try have c27b2 : (9223372036854775807 < (((t142 ++ t143) ++ t144) ++ t145).size + t146.size) = False := eq_false (Nat.not_lt.2 c27)
           try have c27b3 : (9223372036854775807 < (t142.size) + (t143.size) + (t144.size) + (t145.size) + t146.size) = False := eq_false (by have h_ := c27; simp only [ByteArray.size_append] at h_; omega)
           try have c27b4 : ((t142.size) + (t143.size) + (t144.size) + (t145.size) + t146.size ≤ 9223372036854775807) = True := eq_true (by have h_ := c27; simp only [ByteArray.size_append] at h_; omega)
           replace H := Option.bind_eq_some_iff.mp H
           obtain ⟨t147, A280, H⟩ := H
           try dsimp +instances only at H
           have A28 := mA A280
           clear A280
           by_cases c29 : ((((t142 ++ t143) ++ t144) ++ t145) ++ t146).size + t147.size ≤ 9223372036854775807
           ·rw [if_pos c29] at H
            have c29b0 := eq_true c29
            have c29b1 : decide (((((t142 ++ t143) ++ t144) ++ t145) ++ t146).size + t147.size ≤ 9223372036854775807) = true := decide_eq_true c29
            try have c29b2 : (9223372036854775807 < ((((t142 ++ t143) ++ t144) ++ t145) ++ t146).size + t147.size) = False := eq_false (Nat.not_lt.2 c29)
            try have c29b3 : (9223372036854775807 < (t142.size) + (t143.size) + (t144.size) + (t145.size) + (t146.size) + t147.size) = False := eq_false (by have h_ := c29; simp only [ByteArray.size_append] at h_; omega)
            try have c29b4 : ((t142.size) + (t143.size) + (t144.size) + (t145.size) + (t146.size) + t147.size ≤ 9223372036854775807) = True := eq_true (by have h_ := c29; simp only [ByteArray.size_append] at h_; omega)
            replace H := Option.bind_eq_some_iff.mp H
            obtain ⟨t148, A300, H⟩ := H
            try dsimp +instances only at H
            have A30 := mA A300
            clear A300
            by_cases c31 : (((((t142 ++ t143) ++ t144) ++ t145) ++ t146) ++ t147).size + t148.size ≤ 9223372036854775807
            ·rw [if_pos c31] at H
             have c31b0 := eq_true c31
             have c31b1 : decide ((((((t142 ++ t143) ++ t144) ++ t145) ++ t146) ++ t147).size + t148.size ≤ 9223372036854775807) = true := decide_eq_true c31
             try have c31b2 : (9223372036854775807 < (((((t142 ++ t143) ++ t144) ++ t145) ++ t146) ++ t147).size + t148.size) = False := eq_false (Nat.not_lt.2 c31)
             try have c31b3 : (9223372036854775807 < (t142.size) + (t143.size) + (t144.size) + (t145.size) + (t146.size) + (t147.size) + t148.size) = False := eq_false (by have h_ := c31; simp only [ByteArray.size_append] at h_; omega)
             try have c31b4 : ((t142.size) + (t143.size) + (t144.size) + (t145.size) + (t146.size) + (t147.size) + t148.size ≤ 9223372036854775807) = True := eq_true (by have h_ := c31; simp only [ByteArray.size_append] at h_; omega)
             by_cases c32 : a0_7.size + a0_8.size ≤ 9223372036854775807
             ·rw [if_pos c32] at H
              have c32b0 := eq_true c32
              have c32b1 : decide (a0_7.size + a0_8.size ≤ 9223372036854775807) = true := decide_eq_true c32
              try have c32b2 : (9223372036854775807 < a0_7.size + a0_8.size) = False := eq_false (Nat.not_lt.2 c32)
              by_cases c33 : (a0_7 ++ a0_8).size + a0_9.size ≤ 9223372036854775807
              ·rw [if_pos c33] at H
               have c33b0 := eq_true c33
               have c33b1 : decide ((a0_7 ++ a0_8).size + a0_9.size ≤ 9223372036854775807) = true := decide_eq_true c33
               try have c33b2 : (9223372036854775807 < (a0_7 ++ a0_8).size + a0_9.size) = False := eq_false (Nat.not_lt.2 c33)
               try have c33b3 : (9223372036854775807 < (a0_7.size) + (a0_8.size) + a0_9.size) = False := eq_false (by have h_ := c33; simp only [ByteArray.size_append] at h_; omega)
               try have c33b4 : ((a0_7.size) + (a0_8.size) + a0_9.size ≤ 9223372036854775807) = True := eq_true (by have h_ := c33; simp only [ByteArray.size_append] at h_; omega)
               by_cases c34 : ((((((t142 ++ t143) ++ t144) ++ t145) ++ t146) ++ t147) ++ t148).size + 2 ≤ 9223372036854775807
               ·rw [if_pos c34] at H
                have c34b0 := eq_true c34
                have c34b1 : decide (((((((t142 ++ t143) ++ t144) ++ t145) ++ t146) ++ t147) ++ t148).size + 2 ≤ 9223372036854775807) = true := decide_eq_true c34
                try have c34b2 : (9223372036854775807 < ((((((t142 ++ t143) ++ t144) ++ t145) ++ t146) ++ t147) ++ t148).size + 2) = False := eq_false (Nat.not_lt.2 c34)
                try have c34b3 : (9223372036854775807 < (t142.size) + (t143.size) + (t144.size) + (t145.size) + (t146.size) + (t147.size) + (t148.size) + 2) = False := eq_false (by have h_ := c34; simp only [ByteArray.size_append] at h_; omega)
                try have c34b4 : ((t142.size) + (t143.size) + (t144.size) + (t145.size) + (t146.size) + (t147.size) + (t148.size) + 2 ≤ 9223372036854775807) = True := eq_true (by have h_ := c34; simp only [ByteArray.size_append] at h_; omega)
                by_cases c35 : (((((((t142 ++ t143) ++ t144) ++ t145) ++ t146) ++ t147) ++ t148) ++ (⟨#[0, 0]⟩ : ByteArray)).size + ((a0_7 ++ a0_8) ++ a0_9).size ≤ 9223372036854775807
                ·rw [if_pos c35] at H
                 have c35b0 := eq_true c35
                 have c35b1 : decide ((((((((t142 ++ t143) ++ t144) ++ t145) ++ t146) ++ t147) ++ t148) ++ (⟨#[0, 0]⟩ : ByteArray)).size + ((a0_7 ++ a0_8) ++ a0_9).size ≤ 9223372036854775807) = true := decide_eq_true c35
                 try have c35b2 : (9223372036854775807 < (((((((t142 ++ t143) ++ t144) ++ t145) ++ t146) ++ t147) ++ t148) ++ (⟨#[0, 0]⟩ : ByteArray)).size + ((a0_7 ++ a0_8) ++ a0_9).size) = False := eq_false (Nat.not_lt.2 c35)
                 try have c35b3 : (9223372036854775807 < (t142.size) + (t143.size) + (t144.size) + (t145.size) + (t146.size) + (t147.size) + (t148.size) + 2 + ((a0_7.size) + (a0_8.size) + (a0_9.size))) = False := eq_false (by have h_ := c35; simp only [ByteArray.size_append] at h_; have zl0_ : (⟨#[0, 0]⟩ : ByteArray).size = 2 := rfl; omega)
                 try have c35b4 : ((t142.size) + (t143.size) + (t144.size) + (t145.size) + (t146.size) + (t147.size) + (t148.size) + 2 + ((a0_7.size) + (a0_8.size) + (a0_9.size)) ≤ 9223372036854775807) = True := eq_true (by have h_ := c35; simp only [ByteArray.size_append] at h_; have zl0_ : (⟨#[0, 0]⟩ : ByteArray).size = 2 := rfl; omega)
                 replace H := Option.bind_eq_some_iff.mp H
                 obtain ⟨t149, A360, H⟩ := H
                 try dsimp +instances only at H
                 have A36 := mA A360
                 clear A360
                 replace H := Option.bind_eq_some_iff.mp H
                 obtain ⟨t150, A370, H⟩ := H
                 try dsimp +instances only at H
                 have A37 := mA A370
                 clear A370
                 by_cases c38 : ((((((t142 ++ t143) ++ t144) ++ t145) ++ t146) ++ t147) ++ t148).size + t150.size ≤ 9223372036854775807
                 ·rw [if_pos c38] at H
                  have c38b0 := eq_true c38
                  have c38b1 : decide (((((((t142 ++ t143) ++ t144) ++ t145) ++ t146) ++ t147) ++ t148).size + t150.size ≤ 9223372036854775807) = true := decide_eq_true c38
                  try have c38b2 : (9223372036854775807 < ((((((t142 ++ t143) ++ t144) ++ t145) ++ t146) ++ t147) ++ t148).size + t150.size) = False := eq_false (Nat.not_lt.2 c38)
                  try have c38b3 : (9223372036854775807 < (t142.size) + (t143.size) + (t144.size) + (t145.size) + (t146.size) + (t147.size) + (t148.size) + t150.size) = False := eq_false (by have h_ := c38; simp only [ByteArray.size_append] at h_; omega)
                  try have c38b4 : ((t142.size) + (t143.size) + (t144.size) + (t145.size) + (t146.size) + (t147.size) + (t148.size) + t150.size ≤ 9223372036854775807) = True := eq_true (by have h_ := c38; simp only [ByteArray.size_append] at h_; omega)
                  by_cases c39 : (((((((t142 ++ t143) ++ t144) ++ t145) ++ t146) ++ t147) ++ t148) ++ t150).size + ((a0_7 ++ a0_8) ++ a0_9).size ≤ 9223372036854775807
                  ·rw [if_pos c39] at H
                   have c39b0 := eq_true c39
                   have c39b1 : decide ((((((((t142 ++ t143) ++ t144) ++ t145) ++ t146) ++ t147) ++ t148) ++ t150).size + ((a0_7 ++ a0_8) ++ a0_9).size ≤ 9223372036854775807) = true := decide_eq_true c39
                   try have c39b2 : (9223372036854775807 < (((((((t142 ++ t143) ++ t144) ++ t145) ++ t146) ++ t147) ++ t148) ++ t150).size + ((a0_7 ++ a0_8) ++ a0_9).size) = False := eq_false (Nat.not_lt.2 c39)
                   try have c39b3 : (9223372036854775807 < (t142.size) + (t143.size) + (t144.size) + (t145.size) + (t146.size) + (t147.size) + (t148.size) + (t150.size) + ((a0_7.size) + (a0_8.size) + (a0_9.size))) = False := eq_false (by have h_ := c39; simp only [ByteArray.size_append] at h_; omega)
                   try have c39b4 : ((t142.size) + (t143.size) + (t144.size) + (t145.size) + (t146.size) + (t147.size) + (t148.size) + (t150.size) + ((a0_7.size) + (a0_8.size) + (a0_9.size)) ≤ 9223372036854775807) = True := eq_true (by have h_ := c39; simp only [ByteArray.size_append] at h_; omega)
                   by_cases c40 : ((((((((t142 ++ t143) ++ t144) ++ t145) ++ t146) ++ t147) ++ t148) ++ t150) ++ ((a0_7 ++ a0_8) ++ a0_9)).size + a1.size ≤ 9223372036854775807
                   ·rw [if_pos c40] at H
                    have c40b0 := eq_true c40
                    have c40b1 : decide (((((((((t142 ++ t143) ++ t144) ++ t145) ++ t146) ++ t147) ++ t148) ++ t150) ++ ((a0_7 ++ a0_8) ++ a0_9)).size + a1.size ≤ 9223372036854775807) = true := decide_eq_true c40
                    try have c40b2 : (9223372036854775807 < ((((((((t142 ++ t143) ++ t144) ++ t145) ++ t146) ++ t147) ++ t148) ++ t150) ++ ((a0_7 ++ a0_8) ++ a0_9)).size + a1.size) = False := eq_false (Nat.not_lt.2 c40)
                    try have c40b3 : (9223372036854775807 < (t142.size) + (t143.size) + (t144.size) + (t145.size) + (t146.size) + (t147.size) + (t148.size) + (t150.size) + ((a0_7.size) + (a0_8.size) + (a0_9.size)) + a1.size) = False := eq_false (by have h_ := c40; simp only [ByteArray.size_append] at h_; omega)
                    try have c40b4 : ((t142.size) + (t143.size) + (t144.size) + (t145.size) + (t146.size) + (t147.size) + (t148.size) + (t150.size) + ((a0_7.size) + (a0_8.size) + (a0_9.size)) + a1.size ≤ 9223372036854775807) = True := eq_true (by have h_ := c40; simp only [ByteArray.size_append] at h_; omega)
                    simp only [Option.some.injEq, Prod.mk.injEq] at H
                    obtain ⟨rfl, rfl⟩ := H
                    try go_wp2
                    have n0_ := mA (kD BK140.out)
                    have n1_ := mA (bD HB.out)
                    clear BK140
                    clear HB
                    have BK140 := n0_
                    have HB := n1_
                    clear n0_ n1_
                    refine start_ (n := 29) (S := fun w' => w'.cell? ⟨gb140, 0, none⟩ = some (.int .i64 a0_0) ∧ w'.cell? ⟨gb140, 1, none⟩ = some (.int .i64 a0_1) ∧ w'.cell? ⟨gb140, 2, none⟩ = some (.int .i64 a0_2) ∧ w'.cell? ⟨gb140, 3, none⟩ = some (.int .i64 a0_3) ∧ w'.cell? ⟨gb140, 4, none⟩ = some (.int .i64 a0_4) ∧ w'.cell? ⟨gb140, 5, none⟩ = some (.bool a0_5) ∧ w'.cell? ⟨gb140, 6, none⟩ = some (.bool a0_6) ∧ w'.cell? ⟨gb140, 7, none⟩ = some (.string a0_7) ∧ w'.cell? ⟨gb140, 8, none⟩ = some (.string a0_8) ∧ w'.cell? ⟨gb140, 9, none⟩ = some (.string a0_9)) (ds := []) (bv 29 0) (by kernel_rfl) rfl rfl ⟨(zC BK140.out 0).trans rfl, (zC BK140.out 1).trans rfl, (zC BK140.out 2).trans rfl, (zC BK140.out 3).trans rfl, (zC BK140.out 4).trans rfl, (zC BK140.out 5).trans rfl, (zC BK140.out 6).trans rfl, (zC BK140.out 7).trans rfl, (zC BK140.out 8).trans rfl, (zC BK140.out 9).trans rfl⟩ (fun hHeld => ?_); refine with_tabW palanquinref05_Put.tab11 palanquinref05_Put.bits11 (fun HT_ HW_ => ?_)
                    generalize wc.drew = w41 at BK140 HB hHeld ⊢
                    refine pure_ (i := 0) (N := some 32) (v := ?_) (a' := ?_) (bv 29 1) rfl rfl (any_of HT_.out (by kernel_rfl)) (fun _ _ _ h => h) (Or.inl ⟨by rfl, ?_⟩) ?_ ?_; rotate_left; (intro w'; go_simp; with_reducible rfl); rotate_left; (simp only [Act.put, List.setIfInBounds_toArray, List.set_cons_zero, List.set_cons_succ, i64_w, i32_w]; rfl)
                    refine pure_ (i := 6) (N := some 38) (v := ?_) (a' := ?_) (bv 29 65) rfl rfl (any_of HT_.out (by kernel_rfl)) (fun _ _ _ h => h) (Or.inl ⟨by rfl, ?_⟩) ?_ ?_; rotate_left; (intro w'; go_simp; with_reducible rfl); rotate_left; (simp only [Act.put, List.setIfInBounds_toArray, List.set_cons_zero, List.set_cons_succ, i64_w, i32_w]; rfl)
                    refine pure_ (i := 10) (N := some 42) (v := ?_) (a' := ?_) (bv 29 1089) rfl rfl (any_of HT_.out (by kernel_rfl)) (fun _ _ _ h => h) (Or.inl ⟨by rfl, ?_⟩) ?_ ?_; rotate_left; (intro w'; go_simp; with_reducible rfl); rotate_left; (simp only [Act.put, List.setIfInBounds_toArray, List.set_cons_zero, List.set_cons_succ, i64_w, i32_w]; rfl)
                    refine pure_ (i := 13) (N := some 45) (v := ?_) (a' := ?_) (bv 29 9281) rfl rfl (any_of HT_.out (by kernel_rfl)) (fun _ _ _ h => h) (Or.inl ⟨by rfl, ?_⟩) ?_ ?_; rotate_left; (intro w'; go_simp; with_reducible rfl); rotate_left; (simp only [Act.put, List.setIfInBounds_toArray, List.set_cons_zero, List.set_cons_succ, i64_w, i32_w]; rfl)
                    refine pure_ (i := 17) (N := some 49) (v := ?_) (a' := ?_) (bv 29 140353) rfl rfl (any_of HT_.out (by kernel_rfl)) (fun _ _ _ h => h) (Or.inl ⟨by rfl, ?_⟩) ?_ ?_; rotate_left; (intro w'; go_simp; with_reducible rfl); rotate_left; (simp only [Act.put, List.setIfInBounds_toArray, List.set_cons_zero, List.set_cons_succ, i64_w, i32_w]; rfl)
                    refine pure_ (i := 20) (N := some 52) (v := ?_) (a' := ?_) (bv 29 1188929) rfl rfl (any_of HT_.out (by kernel_rfl)) (fun _ _ _ h => h) (Or.inl ⟨by rfl, ?_⟩) ?_ ?_; rotate_left; (intro w'; go_simp; with_reducible rfl); rotate_left; (simp only [Act.put, List.setIfInBounds_toArray, List.set_cons_zero, List.set_cons_succ, i64_w, i32_w]; rfl)
                    refine pure_ (i := 24) (N := some 56) (v := ?_) (a' := ?_) (bv 29 17966145) rfl rfl (any_of HT_.out (by kernel_rfl)) (fun _ _ _ h => h) (Or.inl ⟨by rfl, ?_⟩) ?_ ?_; rotate_left; (intro w'; go_simp; with_reducible rfl); rotate_left; (simp only [Act.put, List.setIfInBounds_toArray, List.set_cons_zero, List.set_cons_succ, i64_w, i32_w]; rfl)
                    refine take_ (i := 1) (N := some 33) (v := ?_) (a' := ?_) (bv 29 17966147) rfl rfl (take_ofW HT_.out HW_.out (by kernel_rfl)) (fun _ _ _ h => h) (Or.inl ⟨by rfl, ?_⟩) hHeld ?_ ?_; rotate_left; (rintro w' ⟨s0, s1, s2, s3, s4, s5, s6, s7, s8, s9⟩; go_simp; with_reducible rfl); rotate_left; (simp only [Act.put, List.setIfInBounds_toArray, List.set_cons_zero, List.set_cons_succ, i64_w, i32_w]; rfl)
                    refine pure_ (i := 2) (N := some 34) (v := ?_) (a' := ?_) (bv 29 17966151) rfl rfl (any_of HT_.out (by kernel_rfl)) (fun _ _ _ h => h) (Or.inl ⟨by rfl, ?_⟩) ?_ ?_; rotate_left; (intro w'; go_simp; with_reducible rfl); rotate_left; (simp only [Act.put, List.setIfInBounds_toArray, List.set_cons_zero, List.set_cons_succ, i64_w, i32_w]; rfl)
                    refine pure_ (i := 3) (N := some 35) (v := ?_) (a' := ?_) (bv 29 17966159) rfl rfl (any_of HT_.out (by kernel_rfl)) (fun _ _ _ h => h) (Or.inl ⟨by rfl, ?_⟩) ?_ ?_; rotate_left; (intro w'; go_simp; with_reducible rfl); rotate_left; (simp only [Act.put, List.setIfInBounds_toArray, List.set_cons_zero, List.set_cons_succ, i64_w, i32_w]; rfl)
                    refine pure_ (i := 4) (N := some 36) (v := ?_) (a' := ?_) (bv 29 17966175) rfl rfl (any_of HT_.out (by kernel_rfl)) (fun _ _ _ h => h) (Or.inl ⟨by rfl, ?_⟩) ?_ ?_; rotate_left; (intro w'; go_simp; with_reducible rfl); rotate_left; (simp only [Act.put, List.setIfInBounds_toArray, List.set_cons_zero, List.set_cons_succ, i64_w, i32_w]; rfl)
                    refine take_ (i := 7) (N := some 39) (v := ?_) (a' := ?_) (bv 29 17966303) rfl rfl (take_ofW HT_.out HW_.out (by kernel_rfl)) (fun _ _ _ h => h) (Or.inl ⟨by rfl, ?_⟩) hHeld ?_ ?_; rotate_left; (rintro w' ⟨s0, s1, s2, s3, s4, s5, s6, s7, s8, s9⟩; go_simp; with_reducible rfl); rotate_left; (simp only [Act.put, List.setIfInBounds_toArray, List.set_cons_zero, List.set_cons_succ, i64_w, i32_w]; rfl)
                    refine take_ (i := 14) (N := some 46) (v := ?_) (a' := ?_) (bv 29 17982687) rfl rfl (take_ofW HT_.out HW_.out (by kernel_rfl)) (fun _ _ _ h => h) (Or.inl ⟨by rfl, ?_⟩) hHeld ?_ ?_; rotate_left; (rintro w' ⟨s0, s1, s2, s3, s4, s5, s6, s7, s8, s9⟩; go_simp; with_reducible rfl); rotate_left; (simp only [Act.put, List.setIfInBounds_toArray, List.set_cons_zero, List.set_cons_succ, i64_w, i32_w]; rfl)
                    refine take_ (i := 21) (N := some 53) (v := ?_) (a' := ?_) (bv 29 20079839) rfl rfl (take_ofW HT_.out HW_.out (by kernel_rfl)) (fun _ _ _ h => h) (Or.inl ⟨by rfl, ?_⟩) hHeld ?_ ?_; rotate_left; (rintro w' ⟨s0, s1, s2, s3, s4, s5, s6, s7, s8, s9⟩; go_simp; with_reducible rfl); rotate_left; (simp only [Act.put, List.setIfInBounds_toArray, List.set_cons_zero, List.set_cons_succ, i64_w, i32_w]; rfl)
                    refine take_ (i := 25) (N := some 57) (v := ?_) (a' := ?_) (bv 29 53634271) rfl rfl (take_ofW HT_.out HW_.out (by kernel_rfl)) (fun _ _ _ h => h) (Or.inl ⟨by rfl, ?_⟩) hHeld ?_ ?_; rotate_left; (rintro w' ⟨s0, s1, s2, s3, s4, s5, s6, s7, s8, s9⟩; go_simp; with_reducible rfl); rotate_left; (simp only [Act.put, List.setIfInBounds_toArray, List.set_cons_zero, List.set_cons_succ, i64_w, i32_w]; rfl)
                    refine one_ (i := 5) (N := some 37) (bv 29 53634303) rfl rfl (one_of HT_.out (by kernel_rfl)) (by decide) (fun K hK => ?_)
                    refine goes_ Try.func45 (by kernel_rfl) rfl #[.int .i64 (wrap64 (69 + (wrap64 ((a0_9.size : Int) / 4)))), .int .i64 1] (by rfl) rfl rfl (by (try simp only [List.map_toArray, List.map_cons, List.map_nil]); first | done | rfl | (simp only [List.length_drop, List.length_take]; rfl)) ?_
                    with_reducible refine (palanquinref05_num.calls kj15 (wrap64 (69 + (wrap64 ((a0_9.size : Int) / 4)))) 1 t142 _ A19.out).mono ?_
                    rintro e w42 ⟨rfl, hb⟩
                    refine ⟨_, rfl, ?_⟩
                    have n0_ := mA (blk_below (g := gb140) (o := .cells #[.int .i64 a0_0, .int .i64 a0_1, .int .i64 a0_2, .int .i64 a0_3, .int .i64 a0_4, .bool a0_5, .bool a0_6, .string a0_7, .string a0_8, .string a0_9] 50 (0, 0)) (by (with_reducible repeat (first | apply kN | apply kD | apply kA)); exact BK140.out) hb)
                    have n1_ := mA (bP (by repeat (first | (with_reducible first | exact HB.out | apply bA | apply bN | apply bD | refine bS ?_ GE140.out) | exact HB.out)) hb)
                    clear BK140
                    clear HB
                    have BK140 := n0_
                    have HB := n1_
                    clear n0_ n1_
                    (try clear hb)
                    (try clear hb2)
                    (try clear hk)
                    (try clear hi)
                    refine hK.out _ _ ⟨(zC BK140.out 0).trans rfl, (zC BK140.out 1).trans rfl, (zC BK140.out 2).trans rfl, (zC BK140.out 3).trans rfl, (zC BK140.out 4).trans rfl, (zC BK140.out 5).trans rfl, (zC BK140.out 6).trans rfl, (zC BK140.out 7).trans rfl, (zC BK140.out 8).trans rfl, (zC BK140.out 9).trans rfl⟩ (fun hHeld => ?_)
                    clear hK K
                    refine norm_ (a' := ?_) ?_ ?_
                    rotate_left
                    ·show Act.put _ (some 37) _ = _
                     simp only [Act.put, List.setIfInBounds_toArray, List.set_cons_zero, List.set_cons_succ, i64_w, i32_w]
                     rfl
                    refine one_ (i := 8) (N := some 40) (bv 29 53634559) rfl rfl (one_of HT_.out (by kernel_rfl)) (by decide) (fun K hK => ?_)
                    refine goes_ Try.func45 (by kernel_rfl) rfl #[.int .i64 a0_0, .int .i64 1] (by rfl) rfl rfl (by (try simp only [List.map_toArray, List.map_cons, List.map_nil]); first | done | rfl | (simp only [List.length_drop, List.length_take]; rfl)) ?_
                    with_reducible refine (palanquinref05_num.calls kj15 a0_0 1 t143 _ A20.out).mono ?_
                    rintro e w43 ⟨rfl, hb⟩
                    refine ⟨_, rfl, ?_⟩
                    have n0_ := mA (blk_below (g := gb140) (o := .cells #[.int .i64 a0_0, .int .i64 a0_1, .int .i64 a0_2, .int .i64 a0_3, .int .i64 a0_4, .bool a0_5, .bool a0_6, .string a0_7, .string a0_8, .string a0_9] 50 (0, 0)) (by (with_reducible repeat (first | apply kN | apply kD | apply kA)); exact BK140.out) hb)
                    have n1_ := mA (bP (by repeat (first | (with_reducible first | exact HB.out | apply bA | apply bN | apply bD | refine bS ?_ GE140.out) | exact HB.out)) hb)
                    clear BK140
                    clear HB
                    have BK140 := n0_
                    have HB := n1_
                    clear n0_ n1_
                    (try clear hb)
                    (try clear hb2)
                    (try clear hk)
                    (try clear hi)
                    refine hK.out _ _ ⟨(zC BK140.out 0).trans rfl, (zC BK140.out 1).trans rfl, (zC BK140.out 2).trans rfl, (zC BK140.out 3).trans rfl, (zC BK140.out 4).trans rfl, (zC BK140.out 5).trans rfl, (zC BK140.out 6).trans rfl, (zC BK140.out 7).trans rfl, (zC BK140.out 8).trans rfl, (zC BK140.out 9).trans rfl⟩ (fun hHeld => ?_)
                    clear hK K
                    refine norm_ (a' := ?_) ?_ ?_
                    rotate_left
                    ·show Act.put _ (some 40) _ = _
                     simp only [Act.put, List.setIfInBounds_toArray, List.set_cons_zero, List.set_cons_succ, i64_w, i32_w]
                     rfl
                    refine pure_ (i := 9) (N := some 41) (v := ?_) (a' := ?_) (bv 29 53635071) rfl rfl (any_of HT_.out (by kernel_rfl)) (fun _ _ _ h => h) (Or.inl ⟨by rfl, ?_⟩) ?_ ?_; rotate_left; (intro w'; go_simp; with_reducible rfl); rotate_left; (simp only [Act.put, List.setIfInBounds_toArray, List.set_cons_zero, List.set_cons_succ, i64_w, i32_w]; rfl)
                    refine one_ (i := 11) (N := some 43) (bv 29 53637119) rfl rfl (one_of HT_.out (by kernel_rfl)) (by decide) (fun K hK => ?_)
                    refine goes_ Try.func45 (by kernel_rfl) rfl #[.int .i64 (wrap64 ((wrap64 (20 + (a0_9.size : Int))) + (a1.size : Int))), .int .i64 2] (by rfl) rfl rfl (by (try simp only [List.map_toArray, List.map_cons, List.map_nil]); first | done | rfl | (simp only [List.length_drop, List.length_take]; rfl)) ?_
                    with_reducible refine (palanquinref05_num.calls kj15 (wrap64 ((wrap64 (20 + (a0_9.size : Int))) + (a1.size : Int))) 2 t144 _ A22.out).mono ?_
                    rintro e w44 ⟨rfl, hb⟩
                    refine ⟨_, rfl, ?_⟩
                    have n0_ := mA (blk_below (g := gb140) (o := .cells #[.int .i64 a0_0, .int .i64 a0_1, .int .i64 a0_2, .int .i64 a0_3, .int .i64 a0_4, .bool a0_5, .bool a0_6, .string a0_7, .string a0_8, .string a0_9] 50 (0, 0)) (by (with_reducible repeat (first | apply kN | apply kD | apply kA)); exact BK140.out) hb)
                    have n1_ := mA (bP (by repeat (first | (with_reducible first | exact HB.out | apply bA | apply bN | apply bD | refine bS ?_ GE140.out) | exact HB.out)) hb)
                    clear BK140
                    clear HB
                    have BK140 := n0_
                    have HB := n1_
                    clear n0_ n1_
                    (try clear hb)
                    (try clear hb2)
                    (try clear hk)
                    (try clear hi)
                    refine hK.out _ _ ⟨(zC BK140.out 0).trans rfl, (zC BK140.out 1).trans rfl, (zC BK140.out 2).trans rfl, (zC BK140.out 3).trans rfl, (zC BK140.out 4).trans rfl, (zC BK140.out 5).trans rfl, (zC BK140.out 6).trans rfl, (zC BK140.out 7).trans rfl, (zC BK140.out 8).trans rfl, (zC BK140.out 9).trans rfl⟩ (fun hHeld => ?_)
                    clear hK K
                    refine norm_ (a' := ?_) ?_ ?_
                    rotate_left
                    ·show Act.put _ (some 43) _ = _
                     simp only [Act.put, List.setIfInBounds_toArray, List.set_cons_zero, List.set_cons_succ, i64_w, i32_w]
                     rfl
                    refine pure_ (i := 12) (N := some 44) (v := ?_) (a' := ?_) (bv 29 53641215) rfl rfl (any_of HT_.out (by kernel_rfl)) (fun _ _ _ h => h) (Or.inl ⟨by rfl, ?_⟩) ?_ ?_; rotate_left; (intro w'; go_simp; with_reducible rfl); rotate_left; (simp only [Act.put, List.setIfInBounds_toArray, List.set_cons_zero, List.set_cons_succ, i64_w, i32_w]; rfl)
                    refine one_ (i := 15) (N := some 47) (bv 29 53673983) rfl rfl (one_of HT_.out (by kernel_rfl)) (by decide) (fun K hK => ?_)
                    refine goes_ Try.func45 (by kernel_rfl) rfl #[.int .i64 a0_1, .int .i64 2] (by rfl) rfl rfl (by (try simp only [List.map_toArray, List.map_cons, List.map_nil]); first | done | rfl | (simp only [List.length_drop, List.length_take]; rfl)) ?_
                    with_reducible refine (palanquinref05_num.calls kj15 a0_1 2 t145 _ A24.out).mono ?_
                    rintro e w45 ⟨rfl, hb⟩
                    refine ⟨_, rfl, ?_⟩
                    have n0_ := mA (blk_below (g := gb140) (o := .cells #[.int .i64 a0_0, .int .i64 a0_1, .int .i64 a0_2, .int .i64 a0_3, .int .i64 a0_4, .bool a0_5, .bool a0_6, .string a0_7, .string a0_8, .string a0_9] 50 (0, 0)) (by (with_reducible repeat (first | apply kN | apply kD | apply kA)); exact BK140.out) hb)
                    have n1_ := mA (bP (by repeat (first | (with_reducible first | exact HB.out | apply bA | apply bN | apply bD | refine bS ?_ GE140.out) | exact HB.out)) hb)
                    clear BK140
                    clear HB
                    have BK140 := n0_
                    have HB := n1_
                    clear n0_ n1_
                    (try clear hb)
                    (try clear hb2)
                    (try clear hk)
                    (try clear hi)
                    refine hK.out _ _ ⟨(zC BK140.out 0).trans rfl, (zC BK140.out 1).trans rfl, (zC BK140.out 2).trans rfl, (zC BK140.out 3).trans rfl, (zC BK140.out 4).trans rfl, (zC BK140.out 5).trans rfl, (zC BK140.out 6).trans rfl, (zC BK140.out 7).trans rfl, (zC BK140.out 8).trans rfl, (zC BK140.out 9).trans rfl⟩ (fun hHeld => ?_)
                    clear hK K
                    refine norm_ (a' := ?_) ?_ ?_
                    rotate_left
                    ·show Act.put _ (some 47) _ = _
                     simp only [Act.put, List.setIfInBounds_toArray, List.set_cons_zero, List.set_cons_succ, i64_w, i32_w]
                     rfl
                    refine pure_ (i := 16) (N := some 48) (v := ?_) (a' := ?_) (bv 29 53739519) rfl rfl (any_of HT_.out (by kernel_rfl)) (fun _ _ _ h => h) (Or.inl ⟨by rfl, ?_⟩) ?_ ?_; rotate_left; (intro w'; go_simp; with_reducible rfl); rotate_left; (simp only [Act.put, List.setIfInBounds_toArray, List.set_cons_zero, List.set_cons_succ, i64_w, i32_w]; rfl)
                    refine one_ (i := 18) (N := some 50) (bv 29 54001663) rfl rfl (one_of HT_.out (by kernel_rfl)) (by decide) (fun K hK => ?_)
                    refine goes_ Try.func45 (by kernel_rfl) rfl #[.int .i64 x7_15, .int .i64 2] (by rfl) rfl rfl (by (try simp only [List.map_toArray, List.map_cons, List.map_nil]); first | done | rfl | (simp only [List.length_drop, List.length_take]; rfl)) ?_
                    with_reducible refine (palanquinref05_num.calls kj15 x7_15 2 t146 _ A26.out).mono ?_
                    rintro e w46 ⟨rfl, hb⟩
                    refine ⟨_, rfl, ?_⟩
                    have n0_ := mA (blk_below (g := gb140) (o := .cells #[.int .i64 a0_0, .int .i64 a0_1, .int .i64 a0_2, .int .i64 a0_3, .int .i64 a0_4, .bool a0_5, .bool a0_6, .string a0_7, .string a0_8, .string a0_9] 50 (0, 0)) (by (with_reducible repeat (first | apply kN | apply kD | apply kA)); exact BK140.out) hb)
                    have n1_ := mA (bP (by repeat (first | (with_reducible first | exact HB.out | apply bA | apply bN | apply bD | refine bS ?_ GE140.out) | exact HB.out)) hb)
                    clear BK140
                    clear HB
                    have BK140 := n0_
                    have HB := n1_
                    clear n0_ n1_
                    (try clear hb)
                    (try clear hb2)
                    (try clear hk)
                    (try clear hi)
                    refine hK.out _ _ ⟨(zC BK140.out 0).trans rfl, (zC BK140.out 1).trans rfl, (zC BK140.out 2).trans rfl, (zC BK140.out 3).trans rfl, (zC BK140.out 4).trans rfl, (zC BK140.out 5).trans rfl, (zC BK140.out 6).trans rfl, (zC BK140.out 7).trans rfl, (zC BK140.out 8).trans rfl, (zC BK140.out 9).trans rfl⟩ (fun hHeld => ?_)
                    clear hK K
                    refine norm_ (a' := ?_) ?_ ?_
                    rotate_left
                    ·show Act.put _ (some 50) _ = _
                     simp only [Act.put, List.setIfInBounds_toArray, List.set_cons_zero, List.set_cons_succ, i64_w, i32_w]
                     rfl
                    refine pure_ (i := 19) (N := some 51) (v := ?_) (a' := ?_) (bv 29 54525951) rfl rfl (any_of HT_.out (by kernel_rfl)) (fun _ _ _ h => h) (Or.inl ⟨by rfl, ?_⟩) ?_ ?_; rotate_left; (intro w'; go_simp; with_reducible rfl); rotate_left; (simp only [Act.put, List.setIfInBounds_toArray, List.set_cons_zero, List.set_cons_succ, i64_w, i32_w]; rfl)
                    refine one_ (i := 22) (N := some 54) (bv 29 58720255) rfl rfl (one_of HT_.out (by kernel_rfl)) (by decide) (fun K hK => ?_)
                    refine goes_ Try.func45 (by kernel_rfl) rfl #[.int .i64 a0_3, .int .i64 1] (by rfl) rfl rfl (by (try simp only [List.map_toArray, List.map_cons, List.map_nil]); first | done | rfl | (simp only [List.length_drop, List.length_take]; rfl)) ?_
                    with_reducible refine (palanquinref05_num.calls kj15 a0_3 1 t147 _ A28.out).mono ?_
                    rintro e w47 ⟨rfl, hb⟩
                    refine ⟨_, rfl, ?_⟩
                    have n0_ := mA (blk_below (g := gb140) (o := .cells #[.int .i64 a0_0, .int .i64 a0_1, .int .i64 a0_2, .int .i64 a0_3, .int .i64 a0_4, .bool a0_5, .bool a0_6, .string a0_7, .string a0_8, .string a0_9] 50 (0, 0)) (by (with_reducible repeat (first | apply kN | apply kD | apply kA)); exact BK140.out) hb)
                    have n1_ := mA (bP (by repeat (first | (with_reducible first | exact HB.out | apply bA | apply bN | apply bD | refine bS ?_ GE140.out) | exact HB.out)) hb)
                    clear BK140
                    clear HB
                    have BK140 := n0_
                    have HB := n1_
                    clear n0_ n1_
                    (try clear hb)
                    (try clear hb2)
                    (try clear hk)
                    (try clear hi)
                    refine hK.out _ _ ⟨(zC BK140.out 0).trans rfl, (zC BK140.out 1).trans rfl, (zC BK140.out 2).trans rfl, (zC BK140.out 3).trans rfl, (zC BK140.out 4).trans rfl, (zC BK140.out 5).trans rfl, (zC BK140.out 6).trans rfl, (zC BK140.out 7).trans rfl, (zC BK140.out 8).trans rfl, (zC BK140.out 9).trans rfl⟩ (fun hHeld => ?_)
                    clear hK K
                    refine norm_ (a' := ?_) ?_ ?_
                    rotate_left
                    ·show Act.put _ (some 54) _ = _
                     simp only [Act.put, List.setIfInBounds_toArray, List.set_cons_zero, List.set_cons_succ, i64_w, i32_w]
                     rfl
                    refine pure_ (i := 23) (N := some 55) (v := ?_) (a' := ?_) (bv 29 67108863) rfl rfl (any_of HT_.out (by kernel_rfl)) (fun _ _ _ h => h) (Or.inl ⟨by rfl, ?_⟩) ?_ ?_; rotate_left; (intro w'; go_simp; with_reducible rfl); rotate_left; (simp only [Act.put, List.setIfInBounds_toArray, List.set_cons_zero, List.set_cons_succ, i64_w, i32_w]; rfl)
                    refine one_ (i := 26) (N := some 58) (bv 29 134217727) rfl rfl (one_of HT_.out (by kernel_rfl)) (by decide) (fun K hK => ?_)
                    refine goes_ Try.func45 (by kernel_rfl) rfl #[.int .i64 a0_4, .int .i64 1] (by rfl) rfl rfl (by (try simp only [List.map_toArray, List.map_cons, List.map_nil]); first | done | rfl | (simp only [List.length_drop, List.length_take]; rfl)) ?_
                    with_reducible refine (palanquinref05_num.calls kj15 a0_4 1 t148 _ A30.out).mono ?_
                    rintro e w48 ⟨rfl, hb⟩
                    refine ⟨_, rfl, ?_⟩
                    have n0_ := mA (blk_below (g := gb140) (o := .cells #[.int .i64 a0_0, .int .i64 a0_1, .int .i64 a0_2, .int .i64 a0_3, .int .i64 a0_4, .bool a0_5, .bool a0_6, .string a0_7, .string a0_8, .string a0_9] 50 (0, 0)) (by (with_reducible repeat (first | apply kN | apply kD | apply kA)); exact BK140.out) hb)
                    have n1_ := mA (bP (by repeat (first | (with_reducible first | exact HB.out | apply bA | apply bN | apply bD | refine bS ?_ GE140.out) | exact HB.out)) hb)
                    clear BK140
                    clear HB
                    have BK140 := n0_
                    have HB := n1_
                    clear n0_ n1_
                    (try clear hb)
                    (try clear hb2)
                    (try clear hk)
                    (try clear hi)
                    refine hK.out _ _ ⟨(zC BK140.out 0).trans rfl, (zC BK140.out 1).trans rfl, (zC BK140.out 2).trans rfl, (zC BK140.out 3).trans rfl, (zC BK140.out 4).trans rfl, (zC BK140.out 5).trans rfl, (zC BK140.out 6).trans rfl, (zC BK140.out 7).trans rfl, (zC BK140.out 8).trans rfl, (zC BK140.out 9).trans rfl⟩ (fun hHeld => ?_)
                    clear hK K
                    refine norm_ (a' := ?_) ?_ ?_
                    rotate_left
                    ·show Act.put _ (some 58) _ = _
                     simp only [Act.put, List.setIfInBounds_toArray, List.set_cons_zero, List.set_cons_succ, i64_w, i32_w]
                     rfl
                    refine pure_ (i := 27) (N := some 59) (v := ?_) (a' := ?_) (bv 29 268435455) rfl rfl (any_of HT_.out (by kernel_rfl)) (fun _ _ _ h => h) (Or.inl ⟨by rfl, ?_⟩) ?_ ?_; rotate_left; (intro w'; go_simp; with_reducible rfl); rotate_left; (simp only [Act.put, List.setIfInBounds_toArray, List.set_cons_zero, List.set_cons_succ, i64_w, i32_w]; rfl)
                    refine pure_ (i := 28) (N := some 8) (v := ?_) (a' := ?_) (bv 29 536870911) rfl rfl (any_of HT_.out (by kernel_rfl)) (fun _ _ _ h => h) (Or.inl ⟨by rfl, ?_⟩) ?_ ?_; rotate_left; (intro w'; go_simp; with_reducible rfl); rotate_left; (simp only [Act.put, List.setIfInBounds_toArray, List.set_cons_zero, List.set_cons_succ, i64_w, i32_w]; rfl)
                    refine done_ (done_of HT_.out (by kernel_rfl)) ?_
                    obtain ⟨hcz49_0, hcz49_1, hcz49_2, hcz49_3, hcz49_4, hcz49_5, hcz49_6, hcz49_7, hcz49_8, hcz49_9⟩ := bc10 BK140.out
                    obtain ⟨hfz49_0, hfz49_1, hfz49_2, hfz49_3, hfz49_4, hfz49_5, hfz49_6, hfz49_7, hfz49_8, hfz49_9⟩ := bf10 BK140.out
                    try go_wp2_with (first | ((with_reducible refine gate_callee (f := 32) rfl ?_); refine goesL_ (some 73) rfl rfl Try.func32 (by kernel_rfl) rfl #[.string ((((((((t142 ++ t143) ++ t144) ++ t145) ++ t146) ++ t147) ++ t148) ++ (⟨#[0, 0]⟩ : ByteArray)) ++ ((a0_7 ++ a0_8) ++ a0_9))] rfl (by (try simp only [List.map_toArray, List.map_cons, List.map_nil]); first | done | rfl | (simp only [List.length_drop, List.length_take]; rfl)) ?_; (with_reducible refine (palanquinref02_Sum.calls kj15 ((((((((t142 ++ t143) ++ t144) ++ t145) ++ t146) ++ t147) ++ t148) ++ (⟨#[0, 0]⟩ : ByteArray)) ++ ((a0_7 ++ a0_8) ++ a0_9)) t149 _ A36.out).mono ?_); rintro e w50 ⟨rfl, hb⟩; refine ⟨_, rfl, ?_⟩; have n0_ := mA (blk_below (g := gb140) (o := .cells #[.int .i64 a0_0, .int .i64 a0_1, .int .i64 a0_2, .int .i64 a0_3, .int .i64 a0_4, .bool a0_5, .bool a0_6, .string a0_7, .string a0_8, .string a0_9] 50 (0, 0)) (by (with_reducible repeat (first | apply kN | apply kD | apply kA)); exact BK140.out) hb); have n1_ := mA (bP (by repeat (first | (with_reducible first | exact HB.out | apply bA | apply bN | apply bD | refine bS ?_ GE140.out) | exact HB.out)) hb); clear BK140; clear HB; have BK140 := n0_; have HB := n1_; clear n0_ n1_; (try clear hb); (try clear hb2); (try clear hk); (try clear hi)) | ((with_reducible refine gate_callee (f := 45) rfl ?_); refine goesL_ (some 74) rfl rfl Try.func45 (by kernel_rfl) rfl #[.int .i64 t149, .int .i64 2] rfl (by (try simp only [List.map_toArray, List.map_cons, List.map_nil]); first | done | rfl | (simp only [List.length_drop, List.length_take]; rfl)) ?_; (with_reducible refine (palanquinref05_num.calls kj15 t149 2 t150 _ A37.out).mono ?_); rintro e w51 ⟨rfl, hb⟩; refine ⟨_, rfl, ?_⟩; have n0_ := mA (blk_below (g := gb140) (o := .cells #[.int .i64 a0_0, .int .i64 a0_1, .int .i64 a0_2, .int .i64 a0_3, .int .i64 a0_4, .bool a0_5, .bool a0_6, .string a0_7, .string a0_8, .string a0_9] 50 (0, 0)) (by (with_reducible repeat (first | apply kN | apply kD | apply kA)); exact BK140.out) hb); have n1_ := mA (bP (by repeat (first | (with_reducible first | exact HB.out | apply bA | apply bN | apply bD | refine bS ?_ GE140.out) | exact HB.out)) hb); clear BK140; clear HB; have BK140 := n0_; have HB := n1_; clear n0_ n1_; (try clear hb); (try clear hb2); (try clear hk); (try clear hi)))
                    go_ret2
                    exact ⟨by first | rfl | (simp [errW_none, errW_some] <;> rfl) | (simp [*, errW_none, errW_some] <;> rfl), by repeat (first | (with_reducible first | exact HB.out | apply bA | apply bN | apply bD | refine bS ?_ GE140.out) | exact HB.out)⟩
                   ·rw [if_neg c40] at H
                    exact absurd H (by simp)
                  ·rw [if_neg c39] at H
                   exact absurd H (by simp)
                 ·rw [if_neg c38] at H
                  exact absurd H (by simp)
                ·rw [if_neg c35] at H
                 exact absurd H (by simp)
               ·rw [if_neg c34] at H
                exact absurd H (by simp)
              ·rw [if_neg c33] at H
               exact absurd H (by simp)
             ·rw [if_neg c32] at H
              exact absurd H (by simp)
            ·rw [if_neg c31] at H
             exact absurd H (by simp)
           ·rw [if_neg c29] at H
            exact absurd H (by simp)
          ·rw [if_neg c27] at H
           exact absurd H (by simp)
         ·rw [if_neg c25] at H
          exact absurd H (by simp)
        ·rw [if_neg c23] at H
         exact absurd H (by simp)
       ·rw [if_neg c21] at H
        exact absurd H (by simp)
 ·replace c4 := Bool.eq_false_iff.mpr c4
  subst c4
  rw [if_neg (show ¬ (false = true) by decide)] at H
  simp only [Option.some.injEq, Prod.mk.injEq] at H
  obtain ⟨rfl, rfl⟩ := H
  go_enter Try.func23, Try.ntmps23
  go_wp2_with (first | ((with_reducible refine gate_dst (N := 2) rfl ?_); refine box_event ?hg (N := 2) ?hd (cs := #[.int .i64 a0_0, .int .i64 a0_1, .int .i64 a0_2, .int .i64 a0_3, .int .i64 a0_4, .bool a0_5, .bool a0_6, .string a0_7, .string a0_8, .string a0_9]) (t := 50) ?hr ?_; (case hd => rfl); (case hg => rfl); (case hr => first | (go_simp; done) | (go_simp; rfl)); intro gb140 hg w52 hbox hb; obtain ⟨n0_, nq_⟩ := bpr (by repeat (first | (with_reducible first | exact HB.out | apply bA | apply bN | apply bD) | exact HB.out)) hb; have n1_ := mA (hbox); have n2_ := mA ((by rw [hg]; exact nq_ : w.heap.size ≤ gb140)); have n3_ := mA ((by rw [hg]; exact nq_ : w.heap.size ≤ gb140)); clear HB; have HB := n0_; have BK140 := n1_; have GW140 := n2_; have GE140 := n3_; clear nq_; clear n0_ n1_ n2_ n3_; clear hb hbox hg; obtain ⟨hcz53_0, hcz53_1, hcz53_2, hcz53_3, hcz53_4, hcz53_5, hcz53_6, hcz53_7, hcz53_8, hcz53_9⟩ := bc10 BK140.out; obtain ⟨hfz53_0, hfz53_1, hfz53_2, hfz53_3, hfz53_4, hfz53_5, hfz53_6, hfz53_7, hfz53_8, hfz53_9⟩ := bf10 BK140.out) | ((with_reducible refine gate_callee (f := 44) rfl ?_); refine goesL_ (some 11) rfl rfl Try.func44 (by kernel_rfl) rfl #[.agg #[.int .i64 a0_0, .int .i64 a0_1, .int .i64 a0_2, .int .i64 a0_3, .int .i64 a0_4, .bool a0_5, .bool a0_6, .string a0_7, .string a0_8, .string a0_9]] rfl (by (try simp only [List.map_toArray, List.map_cons, List.map_nil]); first | done | rfl | (simp only [List.length_drop, List.length_take]; rfl)) ?_; (with_reducible refine (palanquinref05_Right.calls a0_0 a0_1 a0_2 a0_3 a0_4 a0_5 a0_6 a0_7 a0_8 a0_9 false _ A3.out).mono ?_); rintro e w54 ⟨rfl, hb⟩; refine ⟨_, rfl, ?_⟩; have n0_ := mA (blk_below (g := gb140) (o := .cells #[.int .i64 a0_0, .int .i64 a0_1, .int .i64 a0_2, .int .i64 a0_3, .int .i64 a0_4, .bool a0_5, .bool a0_6, .string a0_7, .string a0_8, .string a0_9] 50 (0, 0)) (by (with_reducible repeat (first | apply kN | apply kD | apply kA)); exact BK140.out) hb); have n1_ := mA (bP (by repeat (first | (with_reducible first | exact HB.out | apply bA | apply bN | apply bD | refine bS ?_ GE140.out) | exact HB.out)) hb); clear BK140; clear HB; have BK140 := n0_; have HB := n1_; clear n0_ n1_; (try clear hb); (try clear hb2); (try clear hk); (try clear hi)))
  go_ret2
  exact ⟨by first | rfl | (simp [errW_none, errW_some] <;> rfl) | (simp [*, errW_none, errW_some] <;> rfl), by repeat (first | (with_reducible first | exact HB.out | apply bA | apply bN | apply bD | refine bS ?_ GE140.out) | exact HB.out)⟩

end Go.Proofs.Ytcmalglippmocaa.G
end

section
namespace Go.Proofs.Ytcmalglippmocaa.G
open Go.RowKit Go.Proofs.YtcmalglippmocaaW.PrintWords Go.Proofs.YtcmalglippmocaaW.PrintLast Go.Proofs.YtcmalglippmocaaW.PrintMore
attribute [local go_sem] max2_int min2_int max_two min_two max_three min_three max_four min_four

def palanquinref06_Get.f (k : Nat) (a0 : ByteArray) : Option (Int × Int × Int × Int × ByteArray × ByteArray × ByteArray × Int) := if (a0.size : Int) < 40 then (some (0, 0, 0, 0, (⟨#[]⟩ : ByteArray), (⟨#[]⟩ : ByteArray), (⟨#[]⟩ : ByteArray), 2)) else (if 0 ≤ 4 then (if 4 ≤ (a0.size : Int) then ((palanquinref01_Value.f k (a0.extract 0 4)).bind fun t191 => (if (wrap64 (Int.tdiv (wrap64 (Int.tdiv (wrap64 (t191)) 1048576)) 256)) = 6 then (if 4 ≤ 6 then (if 6 ≤ (a0.size : Int) then ((palanquinref01_Value.f k (a0.extract 4 6)).bind fun t192 => (if (wrap64 ((wrap64 (t192)) + 40)) = (a0.size : Int) then (if 6 < (a0.size : Int) then (if 7 < (a0.size : Int) then (if 8 ≤ 24 then (if 24 ≤ (a0.size : Int) then (if 24 ≤ 40 then (if 40 ≤ (a0.size : Int) then (some (Int.tmod (wrap64 (Int.tdiv (wrap64 (t191)) 1048576)) 256, Int.tmod (wrap64 (t191)) 1048576, wrap64 (bt a0 6), wrap64 (bt a0 7), a0.extract 8 24, a0.extract 24 40, a0.extract 40 a0.size, 0)) else (none)) else (none)) else (none)) else (none)) else (none)) else (none)) else (some (0, 0, 0, 0, (⟨#[]⟩ : ByteArray), (⟨#[]⟩ : ByteArray), (⟨#[]⟩ : ByteArray), 4)))) else (none)) else (none)) else (some (0, 0, 0, 0, (⟨#[]⟩ : ByteArray), (⟨#[]⟩ : ByteArray), (⟨#[]⟩ : ByteArray), 3)))) else (none)) else (none))
def palanquinref06_Get.T8 : Bool × List (List Nat × List Nat) := (true, [([], []), ([0], [0]), ([1], [1]), ([], []), ([3], [3]), ([], []), ([5], [5]), ([6], [6]), ([], []), ([8], [8]), ([9], [9]), ([], []), ([11], [11]), ([], []), ([13], [13]), ([2, 4, 7, 10, 12, 14], [2, 4, 7, 10, 12, 14]), ([], []), ([16], [16]), ([15, 0, 1, 2, 3, 4, 5, 6, 7, 8, 9, 10, 11, 12, 13, 14, 15], [15]), ([17, 18, 0, 1, 2, 3, 4, 5, 6, 7, 8, 9, 10, 11, 12, 13, 14, 15, 16, 17, 18], [17]), ([19, 0, 1, 2, 3, 4, 5, 6, 7, 8, 9, 10, 11, 12, 13, 14, 15, 16, 17, 18, 19], [])])
def palanquinref06_Get.B8 : List Nat := [0, 1, 3, 0, 8, 0, 32, 96, 0, 256, 768, 0, 2048, 0, 8192, 32767, 0, 65536, 65535, 524287, 1048575]
theorem palanquinref06_Get.tab8 : rtab .any (opsOf Try.f52 8) = palanquinref06_Get.T8 := by kernel_rfl
theorem palanquinref06_Get.bits8 : waitsOk palanquinref06_Get.T8.2 palanquinref06_Get.B8 = true := by kernel_rfl
set_option maxHeartbeats 8000000 in
set_option maxRecDepth 100000 in
theorem palanquinref06_Get.calls (k : Nat) (a0 : ByteArray) (r1 : Int) (r2 : Int) (r3 : Int) (r4 : Int) (r5 : ByteArray) (r6 : ByteArray) (r7 : ByteArray) (r8 : Int) (w : World) (h : palanquinref06_Get.f k a0 = some (r1, r2, r3, r4, r5, r6, r7, r8)) :
  Calls Try.prog 52 #[.string a0] w fun e w' => e = .returned (.tuple #[.agg #[.int .i64 r1, .int .i64 r2, .int .i64 r3, .int .i64 r4, .string r5, .string r6], .string r7, .int .i64 r8]) ∧ Below w.heap.size w w' := by
 have hu53 := Try.underlying53
 have HB := mA (Below.refl w.heap.size w)
 have H : (if (a0.size : Int) < 40 then (some (0, 0, 0, 0, (⟨#[]⟩ : ByteArray), (⟨#[]⟩ : ByteArray), (⟨#[]⟩ : ByteArray), 2)) else (if 0 ≤ 4 then (if 4 ≤ (a0.size : Int) then ((palanquinref01_Value.f k (a0.extract 0 4)).bind fun t191 => (if (wrap64 (Int.tdiv (wrap64 (Int.tdiv (wrap64 (t191)) 1048576)) 256)) = 6 then (if 4 ≤ 6 then (if 6 ≤ (a0.size : Int) then ((palanquinref01_Value.f k (a0.extract 4 6)).bind fun t192 => (if (wrap64 ((wrap64 (t192)) + 40)) = (a0.size : Int) then (if 6 < (a0.size : Int) then (if 7 < (a0.size : Int) then (if 8 ≤ 24 then (if 24 ≤ (a0.size : Int) then (if 24 ≤ 40 then (if 40 ≤ (a0.size : Int) then (some (Int.tmod (wrap64 (Int.tdiv (wrap64 (t191)) 1048576)) 256, Int.tmod (wrap64 (t191)) 1048576, wrap64 (bt a0 6), wrap64 (bt a0 7), a0.extract 8 24, a0.extract 24 40, a0.extract 40 a0.size, 0)) else (none)) else (none)) else (none)) else (none)) else (none)) else (none)) else (some (0, 0, 0, 0, (⟨#[]⟩ : ByteArray), (⟨#[]⟩ : ByteArray), (⟨#[]⟩ : ByteArray), 4)))) else (none)) else (none)) else (some (0, 0, 0, 0, (⟨#[]⟩ : ByteArray), (⟨#[]⟩ : ByteArray), (⟨#[]⟩ : ByteArray), 3)))) else (none)) else (none))) = some (r1, r2, r3, r4, r5, r6, r7, r8) := h
 clear h
 by_cases c2 : (a0.size : Int) < 40
 ·rw [if_pos c2] at H
  have c2b0 : decide ((a0.size : Int) < 40) = true := decide_eq_true c2
  have c2b1 : decide (a0.size < 40) = true := decide_eq_true (by omega)
  clear c2
  simp only [Option.some.injEq, Prod.mk.injEq] at H
  obtain ⟨rfl, rfl, rfl, rfl, rfl, rfl, rfl, rfl⟩ := H
  go_enter Try.func52, Try.ntmps52
  go_wp2_with (first | ((with_reducible refine gate_dst (N := 2) rfl ?_); refine box_event ?hg (N := 2) ?hd (cs := #[.int .i64 0, .int .i64 0, .int .i64 0, .int .i64 0, .string ⟨#[]⟩, .string ⟨#[]⟩]) (t := 53) ?hr ?_; (case hd => rfl); (case hg => rfl); (case hr => first | (go_simp; done) | (go_simp; rfl)); intro gb190 hg w3 hbox hb; obtain ⟨n0_, nq_⟩ := bpr (by repeat (first | (with_reducible first | exact HB.out | apply bA | apply bN | apply bD) | exact HB.out)) hb; have n1_ := mA (hbox); have n2_ := mA ((by rw [hg]; exact nq_ : w.heap.size ≤ gb190)); have n3_ := mA ((by rw [hg]; exact nq_ : w.heap.size ≤ gb190)); clear HB; have HB := n0_; have BK190 := n1_; have GW190 := n2_; have GE190 := n3_; clear nq_; clear n0_ n1_ n2_ n3_; clear hb hbox hg; obtain ⟨hcz4_0, hcz4_1, hcz4_2, hcz4_3, hcz4_4, hcz4_5⟩ := bc6 BK190.out; obtain ⟨hfz4_0, hfz4_1, hfz4_2, hfz4_3, hfz4_4, hfz4_5⟩ := bf6 BK190.out))
  refine bodyPost_ret (results_ctt rfl _ _ gb190 53 #[.int .i64 0, .int .i64 0, .int .i64 0, .int .i64 0, .string ⟨#[]⟩, .string ⟨#[]⟩] (0, 0) _ rfl (by (with_reducible repeat (first | apply kN | apply kD | apply kA)); refine blk_put (cs := #[.int .i64 0, .int .i64 0, .int .i64 0, .int .i64 0, .string ⟨#[]⟩, .string ⟨#[]⟩]) ?_ 5 _ (by first | rfl | (simp [*]; done)); (with_reducible repeat (first | apply kN | apply kD | apply kA)); refine blk_put (cs := #[.int .i64 0, .int .i64 0, .int .i64 0, .int .i64 0, .string ⟨#[]⟩, .string ⟨#[]⟩]) ?_ 4 _ (by first | rfl | (simp [*]; done)); (with_reducible repeat (first | apply kN | apply kD | apply kA)); refine blk_put (cs := #[.int .i64 0, .int .i64 0, .int .i64 0, .int .i64 0, .string ⟨#[]⟩, .string ⟨#[]⟩]) ?_ 3 _ (by first | rfl | (simp [*]; done)); (with_reducible repeat (first | apply kN | apply kD | apply kA)); refine blk_put (cs := #[.int .i64 0, .int .i64 0, .int .i64 0, .int .i64 0, .string ⟨#[]⟩, .string ⟨#[]⟩]) ?_ 2 _ (by first | rfl | (simp [*]; done)); (with_reducible repeat (first | apply kN | apply kD | apply kA)); refine blk_put (cs := #[.int .i64 0, .int .i64 0, .int .i64 0, .int .i64 0, .string ⟨#[]⟩, .string ⟨#[]⟩]) ?_ 1 _ (by first | rfl | (simp [*]; done)); (with_reducible repeat (first | apply kN | apply kD | apply kA)); refine blk_put (cs := #[.int .i64 0, .int .i64 0, .int .i64 0, .int .i64 0, .string ⟨#[]⟩, .string ⟨#[]⟩]) ?_ 0 _ (by first | rfl | (simp [*]; done)); (with_reducible repeat (first | apply kN | apply kD | apply kA)); exact BK190.out) Try.underlying53 rfl (by kernel_rfl)) rfl ?_
  exact ⟨by first | rfl | (simp [errW_none, errW_some] <;> rfl) | (simp [*, errW_none, errW_some] <;> rfl), by repeat (first | (with_reducible first | exact HB.out | apply bA | apply bN | apply bD | refine bS ?_ GE190.out) | exact HB.out)⟩
 ·rw [if_neg c2] at H
  have c2b0 : decide ((a0.size : Int) < 40) = false := decide_eq_false c2
  have c2b1 : decide (a0.size < 40) = false := decide_eq_false (by omega)
  clear c2
  by_cases c5 : 0 ≤ 4
  ·rw [if_pos c5] at H
   have c5b0 := eq_true c5
   have c5b1 : decide (0 ≤ 4) = true := decide_eq_true c5
   clear c5
   by_cases c6 : 4 ≤ (a0.size : Int)
   ·rw [if_pos c6] at H
    have c6b0 := eq_true c6
    have c6b1 : decide (4 ≤ (a0.size : Int)) = true := decide_eq_true c6
    clear c6
    replace H := Option.bind_eq_some_iff.mp H
    obtain ⟨t191, A70, H⟩ := H
    try dsimp +instances only at H
    have A7 := mA A70
    clear A70
    by_cases c8 : (wrap64 (Int.tdiv (wrap64 (Int.tdiv (wrap64 (t191)) 1048576)) 256)) = 6
    ·rw [if_pos c8] at H
     have c8b0 : ((wrap64 (Int.tdiv (wrap64 (Int.tdiv (wrap64 (t191)) 1048576)) 256)) == 6) = true := beq_iff_eq.mpr c8
     have c8b1 : ((wrap64 (Int.tdiv (wrap64 (Int.tdiv (wrap64 (t191)) 1048576)) 256)) != 6) = false := bne_eq_false_iff_eq.mpr c8
     clear c8
     by_cases c9 : 4 ≤ 6
     ·rw [if_pos c9] at H
      have c9b0 := eq_true c9
      have c9b1 : decide (4 ≤ 6) = true := decide_eq_true c9
      clear c9
      by_cases c10 : 6 ≤ (a0.size : Int)
      ·rw [if_pos c10] at H
       have c10b0 := eq_true c10
       have c10b1 : decide (6 ≤ (a0.size : Int)) = true := decide_eq_true c10
       clear c10
       replace H := Option.bind_eq_some_iff.mp H
       obtain ⟨t192, A110, H⟩ := H
       try dsimp +instances only at H
       have A11 := mA A110
       clear A110
       by_cases c12 : (wrap64 ((wrap64 (t192)) + 40)) = (a0.size : Int)
       ·rw [if_pos c12] at H
        have c12b0 : ((wrap64 ((wrap64 (t192)) + 40)) == (a0.size : Int)) = true := beq_iff_eq.mpr c12
        have c12b1 : ((wrap64 ((wrap64 (t192)) + 40)) != (a0.size : Int)) = false := bne_eq_false_iff_eq.mpr c12
        clear c12
        by_cases c13 : 6 < (a0.size : Int)
        ·rw [if_pos c13] at H
         have c13b0 : decide (6 < (a0.size : Int)) = true := decide_eq_true c13
         have c13b1 : decide (6 < a0.size) = true := decide_eq_true (by omega)
         clear c13
         by_cases c15 : 7 < (a0.size : Int)
         ·rw [if_pos c15] at H
          have c15b0 : decide (7 < (a0.size : Int)) = true := decide_eq_true c15
          have c15b1 : decide (7 < a0.size) = true := decide_eq_true (by omega)
          clear c15
          by_cases c17 : 8 ≤ 24
          ·rw [if_pos c17] at H
           have c17b0 := eq_true c17
           have c17b1 : decide (8 ≤ 24) = true := decide_eq_true c17
           clear c17
           by_cases c18 : 24 ≤ (a0.size : Int)
           ·rw [if_pos c18] at H
            have c18b0 := eq_true c18
            have c18b1 : decide (24 ≤ (a0.size : Int)) = true := decide_eq_true c18
            clear c18
            by_cases c19 : 24 ≤ 40
            ·rw [if_pos c19] at H
             have c19b0 := eq_true c19
             have c19b1 : decide (24 ≤ 40) = true := decide_eq_true c19
             clear c19
             by_cases c20 : 40 ≤ (a0.size : Int)
             ·rw [if_pos c20] at H
              have c20b0 := eq_true c20
              have c20b1 : decide (40 ≤ (a0.size : Int)) = true := decide_eq_true c20
              clear c20
              have c21b0 := eq_true (of_decide_eq_true (by first | (with_reducible assumption) | assumption) : 40 ≤ (a0.size : Int))
              simp only [Option.some.injEq, Prod.mk.injEq] at H
              obtain ⟨rfl, rfl, rfl, rfl, rfl, rfl, rfl, rfl⟩ := H
              go_enter Try.func52, Try.ntmps52
              try go_wp2_with (first | ((with_reducible refine gate_dst (N := 2) rfl ?_); refine box_event ?hg (N := 2) ?hd (cs := #[.int .i64 0, .int .i64 0, .int .i64 0, .int .i64 0, .string ⟨#[]⟩, .string ⟨#[]⟩]) (t := 53) ?hr ?_; (case hd => rfl); (case hg => rfl); (case hr => first | (go_simp; done) | (go_simp; rfl)); intro gb190 hg w22 hbox hb; obtain ⟨n0_, nq_⟩ := bpr (by repeat (first | (with_reducible first | exact HB.out | apply bA | apply bN | apply bD) | exact HB.out)) hb; have n1_ := mA (hbox); have n2_ := mA ((by rw [hg]; exact nq_ : w.heap.size ≤ gb190)); have n3_ := mA ((by rw [hg]; exact nq_ : w.heap.size ≤ gb190)); clear HB; have HB := n0_; have BK190 := n1_; have GW190 := n2_; have GE190 := n3_; clear nq_; clear n0_ n1_ n2_ n3_; clear hb hbox hg) | ((with_reducible refine gate_callee (f := 54) rfl ?_); refine goesL_ (some 12) rfl rfl Try.func54 (by kernel_rfl) rfl #[.string (a0.extract 0 4)] rfl (by (try simp only [List.map_toArray, List.map_cons, List.map_nil]); first | done | rfl | (simp only [List.length_drop, List.length_take]; rfl)) ?_; (with_reducible refine (palanquinref01_Value.calls k (a0.extract 0 4) t191 _ A7.out).mono ?_); rintro e w' ⟨rfl, ⟨nd, rfl⟩⟩; refine ⟨_, rfl, ?_⟩; (try (rw [drewN_self w22]; generalize hq_ : World.drewN w22 _ = w22; have n0_ : Aside0 (w22.heap[gb190]? = some (.cells #[.int .i64 0, .int .i64 0, .int .i64 0, .int .i64 0, .string ⟨#[]⟩, .string ⟨#[]⟩] 53 (0, 0))) := ⟨by rw [← hq_]; exact (by (with_reducible repeat (first | apply kN | apply kD | apply kA)); exact BK190.out)⟩; have n1_ : Aside0 (Below w.heap.size w w22) := ⟨by rw [← hq_]; exact (by repeat (first | (with_reducible first | exact HB.out | apply bA | apply bN | apply bD | refine bS ?_ GE190.out) | exact HB.out))⟩; clear BK190 HB hq_; have BK190 := n0_; have HB := n1_; clear n0_ n1_))) | ((with_reducible refine gate_callee (f := 54) rfl ?_); refine goesL_ (some 21) rfl rfl Try.func54 (by kernel_rfl) rfl #[.string (a0.extract 4 6)] rfl (by (try simp only [List.map_toArray, List.map_cons, List.map_nil]); first | done | rfl | (simp only [List.length_drop, List.length_take]; rfl)) ?_; (with_reducible refine (palanquinref01_Value.calls k (a0.extract 4 6) t192 _ A11.out).mono ?_); rintro e w' ⟨rfl, ⟨nd, rfl⟩⟩; refine ⟨_, rfl, ?_⟩; (try (rw [drewN_self w22]; generalize hq_ : World.drewN w22 _ = w22; have n0_ : Aside0 (w22.heap[gb190]? = some (.cells #[.int .i64 0, .int .i64 0, .int .i64 0, .int .i64 0, .string ⟨#[]⟩, .string ⟨#[]⟩] 53 (0, 0))) := ⟨by rw [← hq_]; exact (by (with_reducible repeat (first | apply kN | apply kD | apply kA)); exact BK190.out)⟩; have n1_ : Aside0 (Below w.heap.size w w22) := ⟨by rw [← hq_]; exact (by repeat (first | (with_reducible first | exact HB.out | apply bA | apply bN | apply bD | refine bS ?_ GE190.out) | exact HB.out))⟩; clear BK190 HB hq_; have BK190 := n0_; have HB := n1_; clear n0_ n1_))))
              have n0_ := mA (kD BK190.out)
              have n1_ := mA (bD HB.out)
              clear BK190
              clear HB
              have BK190 := n0_
              have HB := n1_
              clear n0_ n1_
              have p14 : 0 ≤ (6 : Int) := (by omega)
              have q14 : 6 < a0.size := (by have : (6 : Int) < (a0.size : Int) := of_decide_eq_true (by first | (with_reducible assumption) | assumption); omega)
              have hx14 : ∀ h : 6 < a0.size, ((a0[6]'h).toNat : Int) = bt a0 6 := bt_at a0 6
              clear p14
              have qi14 : (6 < (a0.size : Int)) = True := eq_true (of_decide_eq_true (by first | (with_reducible assumption) | assumption))
              replace q14 := eq_true q14
              have p16 : 0 ≤ (7 : Int) := (by omega)
              have q16 : 7 < a0.size := (by have : (7 : Int) < (a0.size : Int) := of_decide_eq_true (by first | (with_reducible assumption) | assumption); omega)
              have hx16 : ∀ h : 7 < a0.size, ((a0[7]'h).toNat : Int) = bt a0 7 := bt_at a0 7
              clear p16
              have qi16 : (7 < (a0.size : Int)) = True := eq_true (of_decide_eq_true (by first | (with_reducible assumption) | assumption))
              replace q16 := eq_true q16
              refine start_ (n := 21) (S := fun w' => True) (ds := []) (bv 21 0) (by kernel_rfl) rfl rfl trivial (fun hHeld => ?_); refine with_tabW palanquinref06_Get.tab8 palanquinref06_Get.bits8 (fun HT_ HW_ => ?_)
              generalize w22.drew = w23 at BK190 HB hHeld ⊢
              refine pure_ (i := 0) (N := some 28) (v := ?_) (a' := ?_) (bv 21 1) rfl rfl (any_of HT_.out (by kernel_rfl)) (fun _ _ _ h => h) (Or.inl ⟨by rfl, ?_⟩) ?_ ?_; rotate_left; (intro w'; go_simp; with_reducible rfl); rotate_left; (simp only [Act.put, List.setIfInBounds_toArray, List.set_cons_zero, List.set_cons_succ, i64_w, i32_w]; rfl)
              refine pure_ (i := 1) (N := some 29) (v := ?_) (a' := ?_) (bv 21 3) rfl rfl (any_of HT_.out (by kernel_rfl)) (fun _ _ _ h => h) (Or.inl ⟨by rfl, ?_⟩) ?_ ?_; rotate_left; (intro w'; go_simp; with_reducible rfl); rotate_left; (simp only [Act.put, List.setIfInBounds_toArray, List.set_cons_zero, List.set_cons_succ, i64_w, i32_w]; rfl)
              refine pure_ (i := 2) (N := some 30) (v := ?_) (a' := ?_) (bv 21 7) rfl rfl (any_of HT_.out (by kernel_rfl)) (fun _ _ _ h => h) (Or.inl ⟨by rfl, ?_⟩) ?_ ?_; rotate_left; (intro w'; go_simp; with_reducible rfl); rotate_left; (simp only [Act.put, List.setIfInBounds_toArray, List.set_cons_zero, List.set_cons_succ, i64_w, i32_w]; rfl)
              refine pure_ (i := 3) (N := some 31) (v := ?_) (a' := ?_) (bv 21 15) rfl rfl (any_of HT_.out (by kernel_rfl)) (fun _ _ _ h => h) (Or.inl ⟨by rfl, ?_⟩) ?_ ?_; rotate_left; (intro w'; go_simp; with_reducible rfl); rotate_left; (simp only [Act.put, List.setIfInBounds_toArray, List.set_cons_zero, List.set_cons_succ, i64_w, i32_w]; rfl)
              refine pure_ (i := 4) (N := some 32) (v := ?_) (a' := ?_) (bv 21 31) rfl rfl (any_of HT_.out (by kernel_rfl)) (fun _ _ _ h => h) (Or.inl ⟨by rfl, ?_⟩) ?_ ?_; rotate_left; (intro w'; go_simp; with_reducible rfl); rotate_left; (simp only [Act.put, List.setIfInBounds_toArray, List.set_cons_zero, List.set_cons_succ, i64_w, i32_w]; rfl)
              refine pure_ (i := 5) (N := some 33) (v := ?_) (a' := ?_) (bv 21 63) rfl rfl (any_of HT_.out (by kernel_rfl)) (fun _ _ _ h => h) (Or.inl ⟨by rfl, ?_⟩) ?_ ?_; rotate_left; (intro w'; go_simp; with_reducible rfl); rotate_left; (simp only [Act.put, List.setIfInBounds_toArray, List.set_cons_zero, List.set_cons_succ, i64_w, i32_w]; rfl)
              refine pure_ (i := 8) (N := some 36) (v := ?_) (a' := ?_) (bv 21 319) rfl rfl (any_of HT_.out (by kernel_rfl)) (fun _ _ _ h => h) (Or.inl ⟨by rfl, ?_⟩) ?_ ?_; rotate_left; (intro w'; go_simp; with_reducible rfl); rotate_left; (simp only [Act.put, List.setIfInBounds_toArray, List.set_cons_zero, List.set_cons_succ, i64_w, i32_w]; rfl)
              refine pure_ (i := 11) (N := some 39) (v := ?_) (a' := ?_) (bv 21 2367) rfl rfl (any_of HT_.out (by kernel_rfl)) (fun _ _ _ h => h) (Or.inl ⟨by rfl, ?_⟩) ?_ ?_; rotate_left; (intro w'; go_simp; with_reducible rfl); rotate_left; (simp only [Act.put, List.setIfInBounds_toArray, List.set_cons_zero, List.set_cons_succ, i64_w, i32_w]; rfl)
              refine pure_ (i := 12) (N := some 40) (v := ?_) (a' := ?_) (bv 21 6463) rfl rfl (any_of HT_.out (by kernel_rfl)) (fun _ _ _ h => h) (Or.inl ⟨by rfl, ?_⟩) ?_ ?_; rotate_left; (intro w'; go_simp; with_reducible rfl); rotate_left; (simp only [Act.put, List.setIfInBounds_toArray, List.set_cons_zero, List.set_cons_succ, i64_w, i32_w]; rfl)
              refine pure_ (i := 13) (N := some 41) (v := ?_) (a' := ?_) (bv 21 14655) rfl rfl (any_of HT_.out (by kernel_rfl)) (fun _ _ _ h => h) (Or.inl ⟨by rfl, ?_⟩) ?_ ?_; rotate_left; (intro w'; go_simp; with_reducible rfl); rotate_left; (simp only [Act.put, List.setIfInBounds_toArray, List.set_cons_zero, List.set_cons_succ, i64_w, i32_w]; rfl)
              refine pure_ (i := 14) (N := some 42) (v := ?_) (a' := ?_) (bv 21 31039) rfl rfl (any_of HT_.out (by kernel_rfl)) (fun _ _ _ h => h) (Or.inl ⟨by rfl, ?_⟩) ?_ ?_; rotate_left; (intro w'; go_simp; with_reducible rfl); rotate_left; (simp only [Act.put, List.setIfInBounds_toArray, List.set_cons_zero, List.set_cons_succ, i64_w, i32_w]; rfl)
              refine pure_ (i := 16) (N := some 44) (v := ?_) (a' := ?_) (bv 21 96575) rfl rfl (any_of HT_.out (by kernel_rfl)) (fun _ _ _ h => h) (Or.inl ⟨by rfl, ?_⟩) ?_ ?_; rotate_left; (intro w'; go_simp; with_reducible rfl); rotate_left; (simp only [Act.put, List.setIfInBounds_toArray, List.set_cons_zero, List.set_cons_succ, i64_w, i32_w]; rfl)
              refine pure_ (i := 17) (N := some 45) (v := ?_) (a' := ?_) (bv 21 227647) rfl rfl (any_of HT_.out (by kernel_rfl)) (fun _ _ _ h => h) (Or.inl ⟨by rfl, ?_⟩) ?_ ?_; rotate_left; (intro w'; go_simp; with_reducible rfl); rotate_left; (simp only [Act.put, List.setIfInBounds_toArray, List.set_cons_zero, List.set_cons_succ, i64_w, i32_w]; rfl)
              refine take_ (i := 6) (N := some 34) (v := ?_) (a' := ?_) (bv 21 227711) rfl rfl (take_ofW HT_.out HW_.out (by kernel_rfl)) (fun _ _ _ h => h) (Or.inl ⟨by rfl, ?_⟩) hHeld ?_ ?_
              rotate_left
              ·intro w' _
               go_simp
               with_reducible rfl
              rotate_left
              ·simp only [Act.put, List.setIfInBounds_toArray, List.set_cons_zero, List.set_cons_succ, i64_w, i32_w]
               rfl
              refine pure_ (i := 7) (N := some 35) (v := ?_) (a' := ?_) (bv 21 227839) rfl rfl (any_of HT_.out (by kernel_rfl)) (fun _ _ _ h => h) (Or.inl ⟨by rfl, ?_⟩) ?_ ?_; rotate_left; (intro w'; go_simp; with_reducible rfl); rotate_left; (simp only [Act.put, List.setIfInBounds_toArray, List.set_cons_zero, List.set_cons_succ, i64_w, i32_w]; rfl)
              refine take_ (i := 9) (N := some 37) (v := ?_) (a' := ?_) (bv 21 228351) rfl rfl (take_ofW HT_.out HW_.out (by kernel_rfl)) (fun _ _ _ h => h) (Or.inl ⟨by rfl, ?_⟩) hHeld ?_ ?_
              rotate_left
              ·intro w' _
               go_simp
               with_reducible rfl
              rotate_left
              ·simp only [Act.put, List.setIfInBounds_toArray, List.set_cons_zero, List.set_cons_succ, i64_w, i32_w]
               rfl
              refine pure_ (i := 10) (N := some 38) (v := ?_) (a' := ?_) (bv 21 229375) rfl rfl (any_of HT_.out (by kernel_rfl)) (fun _ _ _ h => h) (Or.inl ⟨by rfl, ?_⟩) ?_ ?_; rotate_left; (intro w'; go_simp; with_reducible rfl); rotate_left; (simp only [Act.put, List.setIfInBounds_toArray, List.set_cons_zero, List.set_cons_succ, i64_w, i32_w]; rfl)
              refine pure_ (i := 15) (N := some 43) (v := ?_) (a' := ?_) (bv 21 262143) rfl rfl (any_of HT_.out (by kernel_rfl)) (fun _ _ _ h => h) (Or.inl ⟨by rfl, ?_⟩) ?_ ?_; rotate_left; (intro w'; go_simp; with_reducible rfl); rotate_left; (simp only [Act.put, List.setIfInBounds_toArray, List.set_cons_zero, List.set_cons_succ, i64_w, i32_w]; rfl)
              refine one_ (i := 18) (N := none) (bv 21 524287) rfl rfl (one_of HT_.out (by kernel_rfl)) (by decide) (fun K hK => ?_)
              have hs24 : w23.cell? ⟨gb190, 0, none⟩ = some (.int .i64 0) := (zC BK190.out 0).trans rfl
              have hfs24 := zF BK190.out 0
              have hs25 : w23.cell? ⟨gb190, 1, none⟩ = some (.int .i64 0) := (zC BK190.out 1).trans rfl
              have hfs25 := zF BK190.out 1
              have hs26 : w23.cell? ⟨gb190, 2, none⟩ = some (.int .i64 0) := (zC BK190.out 2).trans rfl
              have hfs26 := zF BK190.out 2
              have hs27 : w23.cell? ⟨gb190, 3, none⟩ = some (.int .i64 0) := (zC BK190.out 3).trans rfl
              have hfs27 := zF BK190.out 3
              have hs28 : w23.cell? ⟨gb190, 4, none⟩ = some (.string ⟨#[]⟩) := (zC BK190.out 4).trans rfl
              have hfs28 := zF BK190.out 4
              have hs29 : w23.cell? ⟨gb190, 5, none⟩ = some (.string ⟨#[]⟩) := (zC BK190.out 5).trans rfl
              have hfs29 := zF BK190.out 5
              refine skip_ (w1 := ?_) (by rfl) rfl ?_ ?_
              rotate_left
              ·go_simp
               rfl
              refine hK.out _ _ trivial (fun hHeld => ?_)
              clear hK K
              refine pure_ (i := 19) (N := some 3) (v := ?_) (a' := ?_) (bv 21 1048575) rfl rfl (any_of HT_.out (by kernel_rfl)) (fun _ _ _ h => h) (Or.inl ⟨by rfl, ?_⟩) ?_ ?_; rotate_left; (intro w'; go_simp; with_reducible rfl); rotate_left; (simp only [Act.put, List.setIfInBounds_toArray, List.set_cons_zero, List.set_cons_succ, i64_w, i32_w]; rfl)
              refine pure_ (i := 20) (N := some 4) (v := ?_) (a' := ?_) (bv 21 2097151) rfl rfl (any_of HT_.out (by kernel_rfl)) (fun _ _ _ h => h) (Or.inl ⟨by rfl, ?_⟩) ?_ ?_; rotate_left; (intro w'; go_simp; with_reducible rfl); rotate_left; (simp only [Act.put, List.setIfInBounds_toArray, List.set_cons_zero, List.set_cons_succ, i64_w, i32_w]; rfl)
              refine done_ (done_of HT_.out (by kernel_rfl)) ?_
              try go_wp2
              refine bodyPost_ret (results_ctt rfl _ _ gb190 53 #[.int .i64 (Int.tmod (wrap64 (Int.tdiv (wrap64 (t191)) 1048576)) 256), .int .i64 (Int.tmod (wrap64 (t191)) 1048576), .int .i64 (wrap64 (bt a0 6)), .int .i64 (wrap64 (bt a0 7)), .string (a0.extract 8 24), .string (a0.extract 24 40)] (0, 0) _ rfl (by (with_reducible repeat (first | apply kN | apply kD | apply kA)); refine blk_put (cs := #[.int .i64 (Int.tmod (wrap64 (Int.tdiv (wrap64 (t191)) 1048576)) 256), .int .i64 (Int.tmod (wrap64 (t191)) 1048576), .int .i64 (wrap64 (bt a0 6)), .int .i64 (wrap64 (bt a0 7)), .string (a0.extract 8 24), .string ⟨#[]⟩]) ?_ 5 _ (by first | rfl | (simp [*]; done)); (with_reducible repeat (first | apply kN | apply kD | apply kA)); refine blk_put (cs := #[.int .i64 (Int.tmod (wrap64 (Int.tdiv (wrap64 (t191)) 1048576)) 256), .int .i64 (Int.tmod (wrap64 (t191)) 1048576), .int .i64 (wrap64 (bt a0 6)), .int .i64 (wrap64 (bt a0 7)), .string ⟨#[]⟩, .string ⟨#[]⟩]) ?_ 4 _ (by first | rfl | (simp [*]; done)); (with_reducible repeat (first | apply kN | apply kD | apply kA)); refine blk_put (cs := #[.int .i64 (Int.tmod (wrap64 (Int.tdiv (wrap64 (t191)) 1048576)) 256), .int .i64 (Int.tmod (wrap64 (t191)) 1048576), .int .i64 (wrap64 (bt a0 6)), .int .i64 0, .string ⟨#[]⟩, .string ⟨#[]⟩]) ?_ 3 _ (by first | rfl | (simp [*]; done)); (with_reducible repeat (first | apply kN | apply kD | apply kA)); refine blk_put (cs := #[.int .i64 (Int.tmod (wrap64 (Int.tdiv (wrap64 (t191)) 1048576)) 256), .int .i64 (Int.tmod (wrap64 (t191)) 1048576), .int .i64 0, .int .i64 0, .string ⟨#[]⟩, .string ⟨#[]⟩]) ?_ 2 _ (by first | rfl | (simp [*]; done)); (with_reducible repeat (first | apply kN | apply kD | apply kA)); refine blk_put (cs := #[.int .i64 (Int.tmod (wrap64 (Int.tdiv (wrap64 (t191)) 1048576)) 256), .int .i64 0, .int .i64 0, .int .i64 0, .string ⟨#[]⟩, .string ⟨#[]⟩]) ?_ 1 _ (by first | rfl | (simp [*]; done)); (with_reducible repeat (first | apply kN | apply kD | apply kA)); refine blk_put (cs := #[.int .i64 0, .int .i64 0, .int .i64 0, .int .i64 0, .string ⟨#[]⟩, .string ⟨#[]⟩]) ?_ 0 _ (by first | rfl | (simp [*]; done)); (with_reducible repeat (first | apply kN | apply kD | apply kA)); exact BK190.out) Try.underlying53 rfl (by kernel_rfl)) rfl ?_
              exact ⟨by first | rfl | (simp [errW_none, errW_some] <;> rfl) | (simp [*, errW_none, errW_some] <;> rfl), by repeat (first | (with_reducible first | exact HB.out | apply bA | apply bN | apply bD | refine bS ?_ GE190.out) | exact HB.out)⟩
             ·rw [if_neg c20] at H
              exact absurd H (by simp)
            ·rw [if_neg c19] at H
             exact absurd H (by simp)
           ·rw [if_neg c18] at H
            exact absurd H (by simp)
          ·rw [if_neg c17] at H
           exact absurd H (by simp)
         ·rw [if_neg c15] at H
          exact absurd H (by simp)
        ·rw [if_neg c13] at H
         exact absurd H (by simp)
       ·rw [if_neg c12] at H
        have c12b0 : ((wrap64 ((wrap64 (t192)) + 40)) == (a0.size : Int)) = false := beq_eq_false_iff_ne.mpr c12
        have c12b1 : ((wrap64 ((wrap64 (t192)) + 40)) != (a0.size : Int)) = true := bne_iff_ne.mpr c12
        simp only [Option.some.injEq, Prod.mk.injEq] at H
        obtain ⟨rfl, rfl, rfl, rfl, rfl, rfl, rfl, rfl⟩ := H
        go_enter Try.func52, Try.ntmps52
        go_wp2_with (first | ((with_reducible refine gate_dst (N := 2) rfl ?_); refine box_event ?hg (N := 2) ?hd (cs := #[.int .i64 0, .int .i64 0, .int .i64 0, .int .i64 0, .string ⟨#[]⟩, .string ⟨#[]⟩]) (t := 53) ?hr ?_; (case hd => rfl); (case hg => rfl); (case hr => first | (go_simp; done) | (go_simp; rfl)); intro gb190 hg w30 hbox hb; obtain ⟨n0_, nq_⟩ := bpr (by repeat (first | (with_reducible first | exact HB.out | apply bA | apply bN | apply bD) | exact HB.out)) hb; have n1_ := mA (hbox); have n2_ := mA ((by rw [hg]; exact nq_ : w.heap.size ≤ gb190)); have n3_ := mA ((by rw [hg]; exact nq_ : w.heap.size ≤ gb190)); clear HB; have HB := n0_; have BK190 := n1_; have GW190 := n2_; have GE190 := n3_; clear nq_; clear n0_ n1_ n2_ n3_; clear hb hbox hg) | ((with_reducible refine gate_callee (f := 54) rfl ?_); refine goesL_ (some 12) rfl rfl Try.func54 (by kernel_rfl) rfl #[.string (a0.extract 0 4)] rfl (by (try simp only [List.map_toArray, List.map_cons, List.map_nil]); first | done | rfl | (simp only [List.length_drop, List.length_take]; rfl)) ?_; (with_reducible refine (palanquinref01_Value.calls k (a0.extract 0 4) t191 _ A7.out).mono ?_); rintro e w' ⟨rfl, ⟨nd, rfl⟩⟩; refine ⟨_, rfl, ?_⟩; (try (rw [drewN_self w30]; generalize hq_ : World.drewN w30 _ = w30; have n0_ : Aside0 (w30.heap[gb190]? = some (.cells #[.int .i64 0, .int .i64 0, .int .i64 0, .int .i64 0, .string ⟨#[]⟩, .string ⟨#[]⟩] 53 (0, 0))) := ⟨by rw [← hq_]; exact (by (with_reducible repeat (first | apply kN | apply kD | apply kA)); exact BK190.out)⟩; have n1_ : Aside0 (Below w.heap.size w w30) := ⟨by rw [← hq_]; exact (by repeat (first | (with_reducible first | exact HB.out | apply bA | apply bN | apply bD | refine bS ?_ GE190.out) | exact HB.out))⟩; clear BK190 HB hq_; have BK190 := n0_; have HB := n1_; clear n0_ n1_))) | ((with_reducible refine gate_callee (f := 54) rfl ?_); refine goesL_ (some 21) rfl rfl Try.func54 (by kernel_rfl) rfl #[.string (a0.extract 4 6)] rfl (by (try simp only [List.map_toArray, List.map_cons, List.map_nil]); first | done | rfl | (simp only [List.length_drop, List.length_take]; rfl)) ?_; (with_reducible refine (palanquinref01_Value.calls k (a0.extract 4 6) t192 _ A11.out).mono ?_); rintro e w' ⟨rfl, ⟨nd, rfl⟩⟩; refine ⟨_, rfl, ?_⟩; (try (rw [drewN_self w30]; generalize hq_ : World.drewN w30 _ = w30; have n0_ : Aside0 (w30.heap[gb190]? = some (.cells #[.int .i64 0, .int .i64 0, .int .i64 0, .int .i64 0, .string ⟨#[]⟩, .string ⟨#[]⟩] 53 (0, 0))) := ⟨by rw [← hq_]; exact (by (with_reducible repeat (first | apply kN | apply kD | apply kA)); exact BK190.out)⟩; have n1_ : Aside0 (Below w.heap.size w w30) := ⟨by rw [← hq_]; exact (by repeat (first | (with_reducible first | exact HB.out | apply bA | apply bN | apply bD | refine bS ?_ GE190.out) | exact HB.out))⟩; clear BK190 HB hq_; have BK190 := n0_; have HB := n1_; clear n0_ n1_)); obtain ⟨hcz31_0, hcz31_1, hcz31_2, hcz31_3, hcz31_4, hcz31_5⟩ := bc6 BK190.out; obtain ⟨hfz31_0, hfz31_1, hfz31_2, hfz31_3, hfz31_4, hfz31_5⟩ := bf6 BK190.out))
        refine bodyPost_ret (results_ctt rfl _ _ gb190 53 #[.int .i64 0, .int .i64 0, .int .i64 0, .int .i64 0, .string ⟨#[]⟩, .string ⟨#[]⟩] (0, 0) _ rfl (by (with_reducible repeat (first | apply kN | apply kD | apply kA)); refine blk_put (cs := #[.int .i64 0, .int .i64 0, .int .i64 0, .int .i64 0, .string ⟨#[]⟩, .string ⟨#[]⟩]) ?_ 5 _ (by first | rfl | (simp [*]; done)); (with_reducible repeat (first | apply kN | apply kD | apply kA)); refine blk_put (cs := #[.int .i64 0, .int .i64 0, .int .i64 0, .int .i64 0, .string ⟨#[]⟩, .string ⟨#[]⟩]) ?_ 4 _ (by first | rfl | (simp [*]; done)); (with_reducible repeat (first | apply kN | apply kD | apply kA)); refine blk_put (cs := #[.int .i64 0, .int .i64 0, .int .i64 0, .int .i64 0, .string ⟨#[]⟩, .string ⟨#[]⟩]) ?_ 3 _ (by first | rfl | (simp [*]; done)); (with_reducible repeat (first | apply kN | apply kD | apply kA)); refine blk_put (cs := #[.int .i64 0, .int .i64 0, .int .i64 0, .int .i64 0, .string ⟨#[]⟩, .string ⟨#[]⟩]) ?_ 2 _ (by first | rfl | (simp [*]; done)); (with_reducible repeat (first | apply kN | apply kD | apply kA)); refine blk_put (cs := #[.int .i64 0, .int .i64 0, .int .i64 0, .int .i64 0, .string ⟨#[]⟩, .string ⟨#[]⟩]) ?_ 1 _ (by first | rfl | (simp [*]; done)); (with_reducible repeat (first | apply kN | apply kD | apply kA)); refine blk_put (cs := #[.int .i64 0, .int .i64 0, .int .i64 0, .int .i64 0, .string ⟨#[]⟩, .string ⟨#[]⟩]) ?_ 0 _ (by first | rfl | (simp [*]; done)); (with_reducible repeat (first | apply kN | apply kD | apply kA)); exact BK190.out) Try.underlying53 rfl (by kernel_rfl)) rfl ?_
        exact ⟨by first | rfl | (simp [errW_none, errW_some] <;> rfl) | (simp [*, errW_none, errW_some] <;> rfl), by repeat (first | (with_reducible first | exact HB.out | apply bA | apply bN | apply bD | refine bS ?_ GE190.out) | exact HB.out)⟩
      ·rw [if_neg c10] at H
       exact absurd H (by simp)
     ·rw [if_neg c9] at H
      exact absurd H (by simp)
    ·rw [if_neg c8] at H
     have c8b0 : ((wrap64 (Int.tdiv (wrap64 (Int.tdiv (wrap64 (t191)) 1048576)) 256)) == 6) = false := beq_eq_false_iff_ne.mpr c8
     have c8b1 : ((wrap64 (Int.tdiv (wrap64 (Int.tdiv (wrap64 (t191)) 1048576)) 256)) != 6) = true := bne_iff_ne.mpr c8
     simp only [Option.some.injEq, Prod.mk.injEq] at H
     obtain ⟨rfl, rfl, rfl, rfl, rfl, rfl, rfl, rfl⟩ := H
     go_enter Try.func52, Try.ntmps52
     go_wp2_with (first | ((with_reducible refine gate_dst (N := 2) rfl ?_); refine box_event ?hg (N := 2) ?hd (cs := #[.int .i64 0, .int .i64 0, .int .i64 0, .int .i64 0, .string ⟨#[]⟩, .string ⟨#[]⟩]) (t := 53) ?hr ?_; (case hd => rfl); (case hg => rfl); (case hr => first | (go_simp; done) | (go_simp; rfl)); intro gb190 hg w32 hbox hb; obtain ⟨n0_, nq_⟩ := bpr (by repeat (first | (with_reducible first | exact HB.out | apply bA | apply bN | apply bD) | exact HB.out)) hb; have n1_ := mA (hbox); have n2_ := mA ((by rw [hg]; exact nq_ : w.heap.size ≤ gb190)); have n3_ := mA ((by rw [hg]; exact nq_ : w.heap.size ≤ gb190)); clear HB; have HB := n0_; have BK190 := n1_; have GW190 := n2_; have GE190 := n3_; clear nq_; clear n0_ n1_ n2_ n3_; clear hb hbox hg) | ((with_reducible refine gate_callee (f := 54) rfl ?_); refine goesL_ (some 12) rfl rfl Try.func54 (by kernel_rfl) rfl #[.string (a0.extract 0 4)] rfl (by (try simp only [List.map_toArray, List.map_cons, List.map_nil]); first | done | rfl | (simp only [List.length_drop, List.length_take]; rfl)) ?_; (with_reducible refine (palanquinref01_Value.calls k (a0.extract 0 4) t191 _ A7.out).mono ?_); rintro e w' ⟨rfl, ⟨nd, rfl⟩⟩; refine ⟨_, rfl, ?_⟩; (try (rw [drewN_self w32]; generalize hq_ : World.drewN w32 _ = w32; have n0_ : Aside0 (w32.heap[gb190]? = some (.cells #[.int .i64 0, .int .i64 0, .int .i64 0, .int .i64 0, .string ⟨#[]⟩, .string ⟨#[]⟩] 53 (0, 0))) := ⟨by rw [← hq_]; exact (by (with_reducible repeat (first | apply kN | apply kD | apply kA)); exact BK190.out)⟩; have n1_ : Aside0 (Below w.heap.size w w32) := ⟨by rw [← hq_]; exact (by repeat (first | (with_reducible first | exact HB.out | apply bA | apply bN | apply bD | refine bS ?_ GE190.out) | exact HB.out))⟩; clear BK190 HB hq_; have BK190 := n0_; have HB := n1_; clear n0_ n1_)); obtain ⟨hcz33_0, hcz33_1, hcz33_2, hcz33_3, hcz33_4, hcz33_5⟩ := bc6 BK190.out; obtain ⟨hfz33_0, hfz33_1, hfz33_2, hfz33_3, hfz33_4, hfz33_5⟩ := bf6 BK190.out))
     refine bodyPost_ret (results_ctt rfl _ _ gb190 53 #[.int .i64 0, .int .i64 0, .int .i64 0, .int .i64 0, .string ⟨#[]⟩, .string ⟨#[]⟩] (0, 0) _ rfl (by (with_reducible repeat (first | apply kN | apply kD | apply kA)); refine blk_put (cs := #[.int .i64 0, .int .i64 0, .int .i64 0, .int .i64 0, .string ⟨#[]⟩, .string ⟨#[]⟩]) ?_ 5 _ (by first | rfl | (simp [*]; done)); (with_reducible repeat (first | apply kN | apply kD | apply kA)); refine blk_put (cs := #[.int .i64 0, .int .i64 0, .int .i64 0, .int .i64 0, .string ⟨#[]⟩, .string ⟨#[]⟩]) ?_ 4 _ (by first | rfl | (simp [*]; done)); (with_reducible repeat (first | apply kN | apply kD | apply kA)); refine blk_put (cs := #[.int .i64 0, .int .i64 0, .int .i64 0, .int .i64 0, .string ⟨#[]⟩, .string ⟨#[]⟩]) ?_ 3 _ (by first | rfl | (simp [*]; done)); (with_reducible repeat (first | apply kN | apply kD | apply kA)); refine blk_put (cs := #[.int .i64 0, .int .i64 0, .int .i64 0, .int .i64 0, .string ⟨#[]⟩, .string ⟨#[]⟩]) ?_ 2 _ (by first | rfl | (simp [*]; done)); (with_reducible repeat (first | apply kN | apply kD | apply kA)); refine blk_put (cs := #[.int .i64 0, .int .i64 0, .int .i64 0, .int .i64 0, .string ⟨#[]⟩, .string ⟨#[]⟩]) ?_ 1 _ (by first | rfl | (simp [*]; done)); (with_reducible repeat (first | apply kN | apply kD | apply kA)); refine blk_put (cs := #[.int .i64 0, .int .i64 0, .int .i64 0, .int .i64 0, .string ⟨#[]⟩, .string ⟨#[]⟩]) ?_ 0 _ (by first | rfl | (simp [*]; done)); (with_reducible repeat (first | apply kN | apply kD | apply kA)); exact BK190.out) Try.underlying53 rfl (by kernel_rfl)) rfl ?_
     exact ⟨by first | rfl | (simp [errW_none, errW_some] <;> rfl) | (simp [*, errW_none, errW_some] <;> rfl), by repeat (first | (with_reducible first | exact HB.out | apply bA | apply bN | apply bD | refine bS ?_ GE190.out) | exact HB.out)⟩
   ·rw [if_neg c6] at H
    exact absurd H (by simp)
  ·rw [if_neg c5] at H
   exact absurd H (by simp)

end Go.Proofs.Ytcmalglippmocaa.G
end
