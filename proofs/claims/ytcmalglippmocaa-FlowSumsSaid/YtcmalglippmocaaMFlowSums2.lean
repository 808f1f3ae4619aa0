/- Texts of this session, joined: each is a section. -/
import Derived.Test.YtcmalglippmocaaMFlowSums1
set_option linter.unusedVariables false
set_option linter.unusedSimpArgs false
section
namespace Go.Proofs.Ytcmalglippmocaa.G
open Go.RowKit Go.Proofs.YtcmalglippmocaaW.PrintWords Go.Proofs.YtcmalglippmocaaW.PrintLast Go.Proofs.YtcmalglippmocaaW.PrintMore
attribute [local go_sem] max2_int min2_int max_two min_two max_three min_three max_four min_four   -- for this text's walks alone
set_option linter.unusedVariables false
set_option linter.unusedSimpArgs false

mutual
def palanquinref05_Put.j0 : Nat → ByteArray → Int → Int → Int → Int → Int → Int → Int → Bool → Bool → ByteArray → ByteArray → ByteArray → Option (ByteArray × Int)
 | 0, _, _, _, _, _, _, _, _, _, _, _, _, _ => none
 | k + 1, x1, x6, x7, x141000, x141001, x141002, x141003, x141004, x141005, x141006, x141007, x141008, x141009 => if x141006 = true then (palanquinref05_Put.j1 k x1 x6 (wrap64 (x7 + 8192)) x141000 x141001 x141002 x141003 x141004 x141005 x141006 x141007 x141008 x141009) else (palanquinref05_Put.j1 k x1 x6 x7 x141000 x141001 x141002 x141003 x141004 x141005 x141006 x141007 x141008 x141009)
def palanquinref05_Put.j1 : Nat → ByteArray → Int → Int → Int → Int → Int → Int → Int → Bool → Bool → ByteArray → ByteArray → ByteArray → Option (ByteArray × Int)
 | 0, _, _, _, _, _, _, _, _, _, _, _, _, _ => none
 | k + 1, x1, x6, x7, x141000, x141001, x141002, x141003, x141004, x141005, x141006, x141007, x141008, x141009 => (palanquinref05_num.f k (wrap64 (69 + (wrap64 ((x141009.size : Int) / 4)))) 1).bind fun t142 => ((palanquinref05_num.f k x141000 1).bind fun t143 => (if t142.size + t143.size ≤ 9223372036854775807 then ((palanquinref05_num.f k x6 2).bind fun t144 => (if (t142 ++ t143).size + t144.size ≤ 9223372036854775807 then ((palanquinref05_num.f k x141001 2).bind fun t145 => (if ((t142 ++ t143) ++ t144).size + t145.size ≤ 9223372036854775807 then ((palanquinref05_num.f k x7 2).bind fun t146 => (if (((t142 ++ t143) ++ t144) ++ t145).size + t146.size ≤ 9223372036854775807 then ((palanquinref05_num.f k x141003 1).bind fun t147 => (if ((((t142 ++ t143) ++ t144) ++ t145) ++ t146).size + t147.size ≤ 9223372036854775807 then ((palanquinref05_num.f k x141004 1).bind fun t148 => (if (((((t142 ++ t143) ++ t144) ++ t145) ++ t146) ++ t147).size + t148.size ≤ 9223372036854775807 then (if x141007.size + x141008.size ≤ 9223372036854775807 then (if (x141007 ++ x141008).size + x141009.size ≤ 9223372036854775807 then (if ((((((t142 ++ t143) ++ t144) ++ t145) ++ t146) ++ t147) ++ t148).size + 2 ≤ 9223372036854775807 then (if (((((((t142 ++ t143) ++ t144) ++ t145) ++ t146) ++ t147) ++ t148) ++ (⟨#[0, 0]⟩ : ByteArray)).size + ((x141007 ++ x141008) ++ x141009).size ≤ 9223372036854775807 then ((palanquinref02_Sum.f k ((((((((t142 ++ t143) ++ t144) ++ t145) ++ t146) ++ t147) ++ t148) ++ (⟨#[0, 0]⟩ : ByteArray)) ++ ((x141007 ++ x141008) ++ x141009))).bind fun t149 => ((palanquinref05_num.f k t149 2).bind fun t150 => (if ((((((t142 ++ t143) ++ t144) ++ t145) ++ t146) ++ t147) ++ t148).size + t150.size ≤ 9223372036854775807 then (if (((((((t142 ++ t143) ++ t144) ++ t145) ++ t146) ++ t147) ++ t148) ++ t150).size + ((x141007 ++ x141008) ++ x141009).size ≤ 9223372036854775807 then (if ((((((((t142 ++ t143) ++ t144) ++ t145) ++ t146) ++ t147) ++ t148) ++ t150) ++ ((x141007 ++ x141008) ++ x141009)).size + x1.size ≤ 9223372036854775807 then (some (((((((((t142 ++ t143) ++ t144) ++ t145) ++ t146) ++ t147) ++ t148) ++ t150) ++ ((x141007 ++ x141008) ++ x141009)) ++ x1, 0)) else (none)) else (none)) else (none)))) else (none)) else (none)) else (none)) else (none)) else (none))) else (none))) else (none))) else (none))) else (none))) else (none)))
end
def palanquinref05_Put.f (k : Nat) (a0_0 : Int) (a0_1 : Int) (a0_2 : Int) (a0_3 : Int) (a0_4 : Int) (a0_5 : Bool) (a0_6 : Bool) (a0_7 : ByteArray) (a0_8 : ByteArray) (a0_9 : ByteArray) (a1 : ByteArray) : Option (ByteArray × Int) := (palanquinref05_Right.f a0_0 a0_1 a0_2 a0_3 a0_4 a0_5 a0_6 a0_7 a0_8 a0_9).bind fun t141 => (if t141 = true then (if (wrap64 ((wrap64 (20 + (a0_9.size : Int))) + (a1.size : Int))) > 65535 then (some ((⟨#[]⟩ : ByteArray), 4)) else (if a0_5 = true then (palanquinref05_Put.j0 k a1 (wrap64 ((wrap64 (20 + (a0_9.size : Int))) + (a1.size : Int))) (wrap64 (a0_2 + 16384)) a0_0 a0_1 a0_2 a0_3 a0_4 a0_5 a0_6 a0_7 a0_8 a0_9) else (palanquinref05_Put.j0 k a1 (wrap64 ((wrap64 (20 + (a0_9.size : Int))) + (a1.size : Int))) a0_2 a0_0 a0_1 a0_2 a0_3 a0_4 a0_5 a0_6 a0_7 a0_8 a0_9))) else (some ((⟨#[]⟩ : ByteArray), 1)))
def palanquinref05_Put.T11 : Bool × List (List Nat × List Nat) := (true, [([], []), ([0], [0]), ([1], [1]), ([2], [2]), ([3], [3]), ([4], [4]), ([], []), ([6], [6]), ([7, 5], [7]), ([5, 8], [5, 8]), ([], []), ([10, 8], [10]), ([9, 11], [9, 11]), ([], []), ([13], [13]), ([14, 11], [14]), ([12, 15], [12, 15]), ([], []), ([17, 15], [17]), ([16, 18], [16, 18]), ([], []), ([20], [20]), ([21, 18], [21]), ([19, 22], [19, 22]), ([], []), ([24], [24]), ([25, 22], [25]), ([23, 26], [23, 26]), ([27, 26, 0, 1, 2, 3, 4, 5, 6, 7, 8, 9, 10, 11, 12, 13, 14, 15, 16, 17, 18, 19, 20, 21, 22, 23, 24, 25, 26, 27], [27])])
def palanquinref05_Put.B11 : List Nat := [0, 1, 3, 7, 15, 31, 0, 64, 255, 511, 0, 1535, 4095, 0, 8192, 28159, 65535, 0, 191999, 524287, 0, 1048576, 3599871, 8388607, 0, 16777216, 58125823, 134217727, 268435455]
theorem palanquinref05_Put.tab11 : rtab .any (opsOf Try.f23 11) = palanquinref05_Put.T11 := by kernel_rfl
theorem palanquinref05_Put.bits11 : waitsOk palanquinref05_Put.T11.2 palanquinref05_Put.B11 = true := by kernel_rfl
set_option maxHeartbeats 8000000 in
set_option maxRecDepth 100000 in
theorem palanquinref05_Put.calls (k : Nat) (a0_0 : Int) (a0_1 : Int) (a0_2 : Int) (a0_3 : Int) (a0_4 : Int) (a0_5 : Bool) (a0_6 : Bool) (a0_7 : ByteArray) (a0_8 : ByteArray) (a0_9 : ByteArray) (a1 : ByteArray) (r1 : ByteArray) (r2 : Int) (w : World) (h : palanquinref05_Put.f k a0_0 a0_1 a0_2 a0_3 a0_4 a0_5 a0_6 a0_7 a0_8 a0_9 a1 = some (r1, r2)) :
  Calls Try.prog 23 #[.agg #[.int .i64 a0_0, .int .i64 a0_1, .int .i64 a0_2, .int .i64 a0_3, .int .i64 a0_4, .bool a0_5, .bool a0_6, .string a0_7, .string a0_8, .string a0_9], .string a1] w fun e w' => e = .returned (.tuple #[.string r1, .int .i64 r2]) ∧ Below w.heap.size w w' := by
 have hu50 := Try.underlying50
 have HB := mA (Below.refl w.heap.size w)
 have H : ((palanquinref05_Right.f a0_0 a0_1 a0_2 a0_3 a0_4 a0_5 a0_6 a0_7 a0_8 a0_9).bind fun t141 => (if t141 = true then (if (wrap64 ((wrap64 (20 + (a0_9.size : Int))) + (a1.size : Int))) > 65535 then (some ((⟨#[]⟩ : ByteArray), 4)) else (if a0_5 = true then (palanquinref05_Put.j0 k a1 (wrap64 ((wrap64 (20 + (a0_9.size : Int))) + (a1.size : Int))) (wrap64 (a0_2 + 16384)) a0_0 a0_1 a0_2 a0_3 a0_4 a0_5 a0_6 a0_7 a0_8 a0_9) else (palanquinref05_Put.j0 k a1 (wrap64 ((wrap64 (20 + (a0_9.size : Int))) + (a1.size : Int))) a0_2 a0_0 a0_1 a0_2 a0_3 a0_4 a0_5 a0_6 a0_7 a0_8 a0_9))) else (some ((⟨#[]⟩ : ByteArray), 1)))) = some (r1, r2) := h
 clear h
 replace H := Option.bind_eq_some_iff.mp H
 obtain ⟨t141, A30, H⟩ := H
 replace H : (if t141 = true then (if (wrap64 ((wrap64 (20 + (a0_9.size : Int))) + (a1.size : Int))) > 65535 then (some ((⟨#[]⟩ : ByteArray), 4)) else (if a0_5 = true then (palanquinref05_Put.j0 k a1 (wrap64 ((wrap64 (20 + (a0_9.size : Int))) + (a1.size : Int))) (wrap64 (a0_2 + 16384)) a0_0 a0_1 a0_2 a0_3 a0_4 a0_5 a0_6 a0_7 a0_8 a0_9) else (palanquinref05_Put.j0 k a1 (wrap64 ((wrap64 (20 + (a0_9.size : Int))) + (a1.size : Int))) a0_2 a0_0 a0_1 a0_2 a0_3 a0_4 a0_5 a0_6 a0_7 a0_8 a0_9))) else (some ((⟨#[]⟩ : ByteArray), 1))) = some (r1, r2) := H
 have A3 := mA A30
 clear A30
 by_cases c4 : t141 = true
 ·subst c4
  have H1 : (if (wrap64 ((wrap64 (20 + (a0_9.size : Int))) + (a1.size : Int))) > 65535 then (some ((⟨#[]⟩ : ByteArray), 4)) else (if a0_5 = true then (palanquinref05_Put.j0 k a1 (wrap64 ((wrap64 (20 + (a0_9.size : Int))) + (a1.size : Int))) (wrap64 (a0_2 + 16384)) a0_0 a0_1 a0_2 a0_3 a0_4 a0_5 a0_6 a0_7 a0_8 a0_9) else (palanquinref05_Put.j0 k a1 (wrap64 ((wrap64 (20 + (a0_9.size : Int))) + (a1.size : Int))) a0_2 a0_0 a0_1 a0_2 a0_3 a0_4 a0_5 a0_6 a0_7 a0_8 a0_9))) = some (r1, r2) := by rw [if_pos rfl] at H; exact H
  clear H
  have H := H1
  clear H1
  by_cases c5 : (wrap64 ((wrap64 (20 + (a0_9.size : Int))) + (a1.size : Int))) > 65535
  ·rw [if_pos c5] at H
   have c5b0 : decide (65535 < (wrap64 ((wrap64 (20 + (a0_9.size : Int))) + (a1.size : Int)))) = true := decide_eq_true c5
   clear c5
   simp only [Option.some.injEq, Prod.mk.injEq] at H
   obtain ⟨rfl, rfl⟩ := H
   go_enter Try.func23, Try.ntmps23
   go_wp2_with (first | ((with_reducible refine gate_dst (N := 2) rfl ?_); refine box_event ?hg (N := 2) ?hd (cs := #[.int .i64 a0_0, .int .i64 a0_1, .int .i64 a0_2, .int .i64 a0_3, .int .i64 a0_4, .bool a0_5, .bool a0_6, .string a0_7, .string a0_8, .string a0_9]) (t := 50) ?hr ?_; (case hd => rfl); (case hg => rfl); (case hr => first | (go_simp; done) | (go_simp; rfl)); intro gb140 hg w6 hbox hb; obtain ⟨n0_, nq_⟩ := bpr (by repeat (first | (with_reducible first | exact HB.out | apply bA | apply bN | apply bD) | exact HB.out)) hb; have n1_ := mA (hbox); have n2_ := mA ((by rw [hg]; exact nq_ : w.heap.size ≤ gb140)); have n3_ := mA ((by rw [hg]; exact nq_ : w.heap.size ≤ gb140)); clear HB; have HB := n0_; have BK140 := n1_; have GW140 := n2_; have GE140 := n3_; clear nq_; clear n0_ n1_ n2_ n3_; clear hb hbox hg; obtain ⟨hcz7_0, hcz7_1, hcz7_2, hcz7_3, hcz7_4, hcz7_5, hcz7_6, hcz7_7, hcz7_8, hcz7_9⟩ := bc10 BK140.out; obtain ⟨hfz7_0, hfz7_1, hfz7_2, hfz7_3, hfz7_4, hfz7_5, hfz7_6, hfz7_7, hfz7_8, hfz7_9⟩ := bf10 BK140.out) | ((with_reducible refine gate_callee (f := 44) rfl ?_); refine goesL_ (some 11) rfl rfl Try.func44 (by kernel_rfl) rfl #[.agg #[.int .i64 a0_0, .int .i64 a0_1, .int .i64 a0_2, .int .i64 a0_3, .int .i64 a0_4, .bool a0_5, .bool a0_6, .string a0_7, .string a0_8, .string a0_9]] rfl (by (try simp only [List.map_toArray, List.map_cons, List.map_nil]); first | done | rfl | (simp only [List.length_drop, List.length_take]; rfl)) ?_; (with_reducible refine (palanquinref05_Right.calls a0_0 a0_1 a0_2 a0_3 a0_4 a0_5 a0_6 a0_7 a0_8 a0_9 true _ A3.out).mono ?_); rintro e w8 ⟨rfl, hb⟩; refine ⟨_, rfl, ?_⟩; have n0_ := mA (blk_below (g := gb140) (o := .cells #[.int .i64 a0_0, .int .i64 a0_1, .int .i64 a0_2, .int .i64 a0_3, .int .i64 a0_4, .bool a0_5, .bool a0_6, .string a0_7, .string a0_8, .string a0_9] 50 (0, 0)) (by (with_reducible repeat (first | apply kN | apply kD | apply kA)); exact BK140.out) hb); have n1_ := mA (bP (by repeat (first | (with_reducible first | exact HB.out | apply bA | apply bN | apply bD | refine bS ?_ GE140.out) | exact HB.out)) hb); clear BK140; clear HB; have BK140 := n0_; have HB := n1_; clear n0_ n1_; (try clear hb); (try clear hb2); (try clear hk); (try clear hi); obtain ⟨hcz9_0, hcz9_1, hcz9_2, hcz9_3, hcz9_4, hcz9_5, hcz9_6, hcz9_7, hcz9_8, hcz9_9⟩ := bc10 BK140.out; obtain ⟨hfz9_0, hfz9_1, hfz9_2, hfz9_3, hfz9_4, hfz9_5, hfz9_6, hfz9_7, hfz9_8, hfz9_9⟩ := bf10 BK140.out))
   go_ret2
   exact ⟨by first | rfl | (simp [errW_none, errW_some] <;> rfl) | (simp [*, errW_none, errW_some] <;> rfl), by repeat (first | (with_reducible first | exact HB.out | apply bA | apply bN | apply bD | refine bS ?_ GE140.out) | exact HB.out)⟩
  ·rw [if_neg c5] at H
   have c5b0 : decide (65535 < (wrap64 ((wrap64 (20 + (a0_9.size : Int))) + (a1.size : Int)))) = false := decide_eq_false c5
   clear c5
   have HC10 := mA H
   clear H
   go_enter Try.func23, Try.ntmps23
   go_upto_if 25 with (first | ((with_reducible refine gate_dst (N := 2) rfl ?_); refine box_event ?hg (N := 2) ?hd (cs := #[.int .i64 a0_0, .int .i64 a0_1, .int .i64 a0_2, .int .i64 a0_3, .int .i64 a0_4, .bool a0_5, .bool a0_6, .string a0_7, .string a0_8, .string a0_9]) (t := 50) ?hr ?_; (case hd => rfl); (case hg => rfl); (case hr => first | (go_simp; done) | (go_simp; rfl)); intro gb140 hg w11 hbox hb; obtain ⟨n0_, nq_⟩ := bpr (by repeat (first | (with_reducible first | exact HB.out | apply bA | apply bN | apply bD) | exact HB.out)) hb; have n1_ := mA (hbox); have n2_ := mA ((by rw [hg]; exact nq_ : w.heap.size ≤ gb140)); have n3_ := mA ((by rw [hg]; exact nq_ : w.heap.size ≤ gb140)); clear HB; have HB := n0_; have BK140 := n1_; have GW140 := n2_; have GE140 := n3_; clear nq_; clear n0_ n1_ n2_ n3_; clear hb hbox hg; obtain ⟨hcz12_0, hcz12_1, hcz12_2, hcz12_3, hcz12_4, hcz12_5, hcz12_6, hcz12_7, hcz12_8, hcz12_9⟩ := bc10 BK140.out; obtain ⟨hfz12_0, hfz12_1, hfz12_2, hfz12_3, hfz12_4, hfz12_5, hfz12_6, hfz12_7, hfz12_8, hfz12_9⟩ := bf10 BK140.out) | ((with_reducible refine gate_callee (f := 44) rfl ?_); refine goesL_ (some 11) rfl rfl Try.func44 (by kernel_rfl) rfl #[.agg #[.int .i64 a0_0, .int .i64 a0_1, .int .i64 a0_2, .int .i64 a0_3, .int .i64 a0_4, .bool a0_5, .bool a0_6, .string a0_7, .string a0_8, .string a0_9]] rfl (by (try simp only [List.map_toArray, List.map_cons, List.map_nil]); first | done | rfl | (simp only [List.length_drop, List.length_take]; rfl)) ?_; (with_reducible refine (palanquinref05_Right.calls a0_0 a0_1 a0_2 a0_3 a0_4 a0_5 a0_6 a0_7 a0_8 a0_9 true _ A3.out).mono ?_); rintro e w13 ⟨rfl, hb⟩; refine ⟨_, rfl, ?_⟩; have n0_ := mA (blk_below (g := gb140) (o := .cells #[.int .i64 a0_0, .int .i64 a0_1, .int .i64 a0_2, .int .i64 a0_3, .int .i64 a0_4, .bool a0_5, .bool a0_6, .string a0_7, .string a0_8, .string a0_9] 50 (0, 0)) (by (with_reducible repeat (first | apply kN | apply kD | apply kA)); exact BK140.out) hb); have n1_ := mA (bP (by repeat (first | (with_reducible first | exact HB.out | apply bA | apply bN | apply bD | refine bS ?_ GE140.out) | exact HB.out)) hb); clear BK140; clear HB; have BK140 := n0_; have HB := n1_; clear n0_ n1_; (try clear hb); (try clear hb2); (try clear hk); (try clear hi); obtain ⟨hcz14_0, hcz14_1, hcz14_2, hcz14_3, hcz14_4, hcz14_5, hcz14_6, hcz14_7, hcz14_8, hcz14_9⟩ := bc10 BK140.out; obtain ⟨hfz14_0, hfz14_1, hfz14_2, hfz14_3, hfz14_4, hfz14_5, hfz14_6, hfz14_7, hfz14_8, hfz14_9⟩ := bf10 BK140.out))
   (try simp only [Act.put, List.setIfInBounds_toArray, List.set_cons_zero, List.set_cons_succ])
   go_cut [7] (fun v7 wc => ∃ (kq : Nat) (x7_9 : Int), v7 = .int .i64 x7_9 ∧ Aside0 (palanquinref05_Put.j0 kq a1 (wrap64 ((wrap64 (20 + (a0_9.size : Int))) + (a1.size : Int))) x7_9 a0_0 a0_1 a0_2 a0_3 a0_4 a0_5 a0_6 a0_7 a0_8 a0_9 = some (r1, r2)) ∧ Aside0 (kq ≤ k) ∧ Aside0 (wc.heap[gb140]? = some (.cells #[.int .i64 a0_0, .int .i64 a0_1, .int .i64 a0_2, .int .i64 a0_3, .int .i64 a0_4, .bool a0_5, .bool a0_6, .string a0_7, .string a0_8, .string a0_9] 50 (0, 0))) ∧ Aside0 (Below w.heap.size w wc))
   case first =>
    have H := HC10.out
    clear HC10
    by_cases c15 : a0_5 = true
    ·subst c15
     have H1 : (palanquinref05_Put.j0 k a1 (wrap64 ((wrap64 (20 + (a0_9.size : Int))) + (a1.size : Int))) (wrap64 (a0_2 + 16384)) a0_0 a0_1 a0_2 a0_3 a0_4 true a0_6 a0_7 a0_8 a0_9) = some (r1, r2) := by rw [if_pos rfl] at H; exact H
     clear H
     have H := H1
     clear H1
     have H' := mA H
     clear H
     go_wp2
     go_meet
     case rel => exact ⟨_, (wrap64 (a0_2 + 16384)), (by first | rfl | (simp; done) | (simp [*]; done)), H', ⟨by first | omega | exact Nat.le_refl _⟩, ⟨by (with_reducible repeat (first | apply kN | apply kD | apply kA)); exact BK140.out⟩, ⟨by repeat (first | (with_reducible first | exact HB.out | apply bA | apply bN | apply bD | refine bS ?_ GE140.out) | exact HB.out)⟩⟩
    ·replace c15 := Bool.eq_false_iff.mpr c15
     subst c15
     have H1 : (palanquinref05_Put.j0 k a1 (wrap64 ((wrap64 (20 + (a0_9.size : Int))) + (a1.size : Int))) a0_2 a0_0 a0_1 a0_2 a0_3 a0_4 false a0_6 a0_7 a0_8 a0_9) = some (r1, r2) := by rw [if_neg (show ¬ (false = true) by decide)] at H; exact H
     clear H
     have H := H1
     clear H1
     have H' := mA H
     clear H
     go_wp2
     go_meet
     case rel => exact ⟨_, (a0_2), (by first | rfl | (simp; done) | (simp [*]; done)), H', ⟨by first | omega | exact Nat.le_refl _⟩, ⟨by (with_reducible repeat (first | apply kN | apply kD | apply kA)); exact BK140.out⟩, ⟨by repeat (first | (with_reducible first | exact HB.out | apply bA | apply bN | apply bD | refine bS ?_ GE140.out) | exact HB.out)⟩⟩
   case rest =>
    clear HC10
    try clear c1
    try clear c2
    try clear p2
    try clear c4
    try clear c5
    try clear c5b0
    try clear p6
    try clear c15
    try clear hcz12_0 hcz12_1 hcz12_2 hcz12_3 hcz12_4 hcz12_5 hcz12_6 hcz12_7 hcz12_8 hcz12_9
    try clear hcz14_0 hcz14_1 hcz14_2 hcz14_3 hcz14_4 hcz14_5 hcz14_6 hcz14_7 hcz14_8 hcz14_9
    try clear hcz7_0 hcz7_1 hcz7_2 hcz7_3 hcz7_4 hcz7_5 hcz7_6 hcz7_7 hcz7_8 hcz7_9
    try clear hcz9_0 hcz9_1 hcz9_2 hcz9_3 hcz9_4 hcz9_5 hcz9_6 hcz9_7 hcz9_8 hcz9_9
    try clear hfz12_0 hfz12_1 hfz12_2 hfz12_3 hfz12_4 hfz12_5 hfz12_6 hfz12_7 hfz12_8 hfz12_9
    try clear hfz14_0 hfz14_1 hfz14_2 hfz14_3 hfz14_4 hfz14_5 hfz14_6 hfz14_7 hfz14_8 hfz14_9
    try clear hfz7_0 hfz7_1 hfz7_2 hfz7_3 hfz7_4 hfz7_5 hfz7_6 hfz7_7 hfz7_8 hfz7_9
    try clear hfz9_0 hfz9_1 hfz9_2 hfz9_3 hfz9_4 hfz9_5 hfz9_6 hfz9_7 hfz9_8 hfz9_9
    obtain ⟨kq, x7_9, rfl, HA, HJ9, BK140, HB⟩ := hcut
    cases kq with
    | zero => exact absurd HA.out (by simp [palanquinref05_Put.j0])
    | succ kj9 =>
     have H := HA.out
     clear HA
     simp only [palanquinref05_Put.j0] at H
     have HC16 := mA H
     clear H
     obtain ⟨hcz17_0, hcz17_1, hcz17_2, hcz17_3, hcz17_4, hcz17_5, hcz17_6, hcz17_7, hcz17_8, hcz17_9⟩ := bc10 BK140.out
     obtain ⟨hfz17_0, hfz17_1, hfz17_2, hfz17_3, hfz17_4, hfz17_5, hfz17_6, hfz17_7, hfz17_8, hfz17_9⟩ := bf10 BK140.out
     go_upto_if 29 with (fail)
     go_cut [7] (fun v7 wc => ∃ (kq : Nat) (x7_15 : Int), v7 = .int .i64 x7_15 ∧ Aside0 (palanquinref05_Put.j1 kq a1 (wrap64 ((wrap64 (20 + (a0_9.size : Int))) + (a1.size : Int))) x7_15 a0_0 a0_1 a0_2 a0_3 a0_4 a0_5 a0_6 a0_7 a0_8 a0_9 = some (r1, r2)) ∧ Aside0 (kq ≤ kj9) ∧ Aside0 (wc.heap[gb140]? = some (.cells #[.int .i64 a0_0, .int .i64 a0_1, .int .i64 a0_2, .int .i64 a0_3, .int .i64 a0_4, .bool a0_5, .bool a0_6, .string a0_7, .string a0_8, .string a0_9] 50 (0, 0))) ∧ Aside0 (Below w.heap.size w wc))
     case first =>
      have H := HC16.out
      clear HC16
      by_cases c18 : a0_6 = true
      ·subst c18
       have H1 : (palanquinref05_Put.j1 kj9 a1 (wrap64 ((wrap64 (20 + (a0_9.size : Int))) + (a1.size : Int))) (wrap64 (x7_9 + 8192)) a0_0 a0_1 a0_2 a0_3 a0_4 a0_5 true a0_7 a0_8 a0_9) = some (r1, r2) := by rw [if_pos rfl] at H; exact H
       clear H
       have H := H1
       clear H1
       have H' := mA H
       clear H
       go_wp2
       go_meet
       case rel => exact ⟨_, (wrap64 (x7_9 + 8192)), (by first | rfl | (simp; done) | (simp [*]; done)), H', ⟨by have := HJ9.out; first | omega | exact Nat.le_refl _⟩, ⟨by (with_reducible repeat (first | apply kN | apply kD | apply kA)); exact BK140.out⟩, ⟨by repeat (first | (with_reducible first | exact HB.out | apply bA | apply bN | apply bD | refine bS ?_ GE140.out) | exact HB.out)⟩⟩
      ·replace c18 := Bool.eq_false_iff.mpr c18
       subst c18
       have H1 : (palanquinref05_Put.j1 kj9 a1 (wrap64 ((wrap64 (20 + (a0_9.size : Int))) + (a1.size : Int))) x7_9 a0_0 a0_1 a0_2 a0_3 a0_4 a0_5 false a0_7 a0_8 a0_9) = some (r1, r2) := by rw [if_neg (show ¬ (false = true) by decide)] at H; exact H
       clear H
       have H := H1
       clear H1
       have H' := mA H
       clear H
       go_wp2
       go_meet
       case rel => exact ⟨_, (x7_9), (by first | rfl | (simp; done) | (simp [*]; done)), H', ⟨by have := HJ9.out; first | omega | exact Nat.le_refl _⟩, ⟨by (with_reducible repeat (first | apply kN | apply kD | apply kA)); exact BK140.out⟩, ⟨by repeat (first | (with_reducible first | exact HB.out | apply bA | apply bN | apply bD | refine bS ?_ GE140.out) | exact HB.out)⟩⟩
     case rest =>
      clear HC16
      try clear c1
      try clear c2
      try clear p2
      try clear c4
      try clear c5
      try clear c5b0
      try clear p6
      try clear c15
      try clear c18
      try clear hcz12_0 hcz12_1 hcz12_2 hcz12_3 hcz12_4 hcz12_5 hcz12_6 hcz12_7 hcz12_8 hcz12_9
      try clear hcz14_0 hcz14_1 hcz14_2 hcz14_3 hcz14_4 hcz14_5 hcz14_6 hcz14_7 hcz14_8 hcz14_9
      try clear hcz17_0 hcz17_1 hcz17_2 hcz17_3 hcz17_4 hcz17_5 hcz17_6 hcz17_7 hcz17_8 hcz17_9
      try clear hcz7_0 hcz7_1 hcz7_2 hcz7_3 hcz7_4 hcz7_5 hcz7_6 hcz7_7 hcz7_8 hcz7_9
      try clear hcz9_0 hcz9_1 hcz9_2 hcz9_3 hcz9_4 hcz9_5 hcz9_6 hcz9_7 hcz9_8 hcz9_9
      try clear hfz12_0 hfz12_1 hfz12_2 hfz12_3 hfz12_4 hfz12_5 hfz12_6 hfz12_7 hfz12_8 hfz12_9
      try clear hfz14_0 hfz14_1 hfz14_2 hfz14_3 hfz14_4 hfz14_5 hfz14_6 hfz14_7 hfz14_8 hfz14_9
      try clear hfz17_0 hfz17_1 hfz17_2 hfz17_3 hfz17_4 hfz17_5 hfz17_6 hfz17_7 hfz17_8 hfz17_9
      try clear hfz7_0 hfz7_1 hfz7_2 hfz7_3 hfz7_4 hfz7_5 hfz7_6 hfz7_7 hfz7_8 hfz7_9
      try clear hfz9_0 hfz9_1 hfz9_2 hfz9_3 hfz9_4 hfz9_5 hfz9_6 hfz9_7 hfz9_8 hfz9_9
      try clear p2
      try clear p6
      obtain ⟨kq, x7_15, rfl, HA, HJ15, BK140, HB⟩ := hcut
      cases kq with
      | zero => exact absurd HA.out (by simp [palanquinref05_Put.j1])
      | succ kj15 =>
       have H := HA.out
       clear HA
       simp only [palanquinref05_Put.j1] at H
       replace H := Option.bind_eq_some_iff.mp H
       obtain ⟨t142, A190, H⟩ := H
       replace H : ((palanquinref05_num.f kj15 a0_0 1).bind fun t143 => (if t142.size + t143.size ≤ 9223372036854775807 then ((palanquinref05_num.f kj15 (wrap64 ((wrap64 (20 + (a0_9.size : Int))) + (a1.size : Int))) 2).bind fun t144 => (if (t142 ++ t143).size + t144.size ≤ 9223372036854775807 then ((palanquinref05_num.f kj15 a0_1 2).bind fun t145 => (if ((t142 ++ t143) ++ t144).size + t145.size ≤ 9223372036854775807 then ((palanquinref05_num.f kj15 x7_15 2).bind fun t146 => (if (((t142 ++ t143) ++ t144) ++ t145).size + t146.size ≤ 9223372036854775807 then ((palanquinref05_num.f kj15 a0_3 1).bind fun t147 => (if ((((t142 ++ t143) ++ t144) ++ t145) ++ t146).size + t147.size ≤ 9223372036854775807 then ((palanquinref05_num.f kj15 a0_4 1).bind fun t148 => (if (((((t142 ++ t143) ++ t144) ++ t145) ++ t146) ++ t147).size + t148.size ≤ 9223372036854775807 then (if a0_7.size + a0_8.size ≤ 9223372036854775807 then (if (a0_7 ++ a0_8).size + a0_9.size ≤ 9223372036854775807 then (if ((((((t142 ++ t143) ++ t144) ++ t145) ++ t146) ++ t147) ++ t148).size + 2 ≤ 9223372036854775807 then (if (((((((t142 ++ t143) ++ t144) ++ t145) ++ t146) ++ t147) ++ t148) ++ (⟨#[0, 0]⟩ : ByteArray)).size + ((a0_7 ++ a0_8) ++ a0_9).size ≤ 9223372036854775807 then ((palanquinref02_Sum.f kj15 ((((((((t142 ++ t143) ++ t144) ++ t145) ++ t146) ++ t147) ++ t148) ++ (⟨#[0, 0]⟩ : ByteArray)) ++ ((a0_7 ++ a0_8) ++ a0_9))).bind fun t149 => ((palanquinref05_num.f kj15 t149 2).bind fun t150 => (if ((((((t142 ++ t143) ++ t144) ++ t145) ++ t146) ++ t147) ++ t148).size + t150.size ≤ 9223372036854775807 then (if (((((((t142 ++ t143) ++ t144) ++ t145) ++ t146) ++ t147) ++ t148) ++ t150).size + ((a0_7 ++ a0_8) ++ a0_9).size ≤ 9223372036854775807 then (if ((((((((t142 ++ t143) ++ t144) ++ t145) ++ t146) ++ t147) ++ t148) ++ t150) ++ ((a0_7 ++ a0_8) ++ a0_9)).size + a1.size ≤ 9223372036854775807 then (some (((((((((t142 ++ t143) ++ t144) ++ t145) ++ t146) ++ t147) ++ t148) ++ t150) ++ ((a0_7 ++ a0_8) ++ a0_9)) ++ a1, 0)) else (none)) else (none)) else (none)))) else (none)) else (none)) else (none)) else (none)) else (none))) else (none))) else (none))) else (none))) else (none))) else (none))) = some (r1, r2) := H
       have A19 := mA A190
       clear A190
       replace H := Option.bind_eq_some_iff.mp H
       obtain ⟨t143, A200, H⟩ := H
       replace H : (if t142.size + t143.size ≤ 9223372036854775807 then ((palanquinref05_num.f kj15 (wrap64 ((wrap64 (20 + (a0_9.size : Int))) + (a1.size : Int))) 2).bind fun t144 => (if (t142 ++ t143).size + t144.size ≤ 9223372036854775807 then ((palanquinref05_num.f kj15 a0_1 2).bind fun t145 => (if ((t142 ++ t143) ++ t144).size + t145.size ≤ 9223372036854775807 then ((palanquinref05_num.f kj15 x7_15 2).bind fun t146 => (if (((t142 ++ t143) ++ t144) ++ t145).size + t146.size ≤ 9223372036854775807 then ((palanquinref05_num.f kj15 a0_3 1).bind fun t147 => (if ((((t142 ++ t143) ++ t144) ++ t145) ++ t146).size + t147.size ≤ 9223372036854775807 then ((palanquinref05_num.f kj15 a0_4 1).bind fun t148 => (if (((((t142 ++ t143) ++ t144) ++ t145) ++ t146) ++ t147).size + t148.size ≤ 9223372036854775807 then (if a0_7.size + a0_8.size ≤ 9223372036854775807 then (if (a0_7 ++ a0_8).size + a0_9.size ≤ 9223372036854775807 then (if ((((((t142 ++ t143) ++ t144) ++ t145) ++ t146) ++ t147) ++ t148).size + 2 ≤ 9223372036854775807 then (if (((((((t142 ++ t143) ++ t144) ++ t145) ++ t146) ++ t147) ++ t148) ++ (⟨#[0, 0]⟩ : ByteArray)).size + ((a0_7 ++ a0_8) ++ a0_9).size ≤ 9223372036854775807 then ((palanquinref02_Sum.f kj15 ((((((((t142 ++ t143) ++ t144) ++ t145) ++ t146) ++ t147) ++ t148) ++ (⟨#[0, 0]⟩ : ByteArray)) ++ ((a0_7 ++ a0_8) ++ a0_9))).bind fun t149 => ((palanquinref05_num.f kj15 t149 2).bind fun t150 => (if ((((((t142 ++ t143) ++ t144) ++ t145) ++ t146) ++ t147) ++ t148).size + t150.size ≤ 9223372036854775807 then (if (((((((t142 ++ t143) ++ t144) ++ t145) ++ t146) ++ t147) ++ t148) ++ t150).size + ((a0_7 ++ a0_8) ++ a0_9).size ≤ 9223372036854775807 then (if ((((((((t142 ++ t143) ++ t144) ++ t145) ++ t146) ++ t147) ++ t148) ++ t150) ++ ((a0_7 ++ a0_8) ++ a0_9)).size + a1.size ≤ 9223372036854775807 then (some (((((((((t142 ++ t143) ++ t144) ++ t145) ++ t146) ++ t147) ++ t148) ++ t150) ++ ((a0_7 ++ a0_8) ++ a0_9)) ++ a1, 0)) else (none)) else (none)) else (none)))) else (none)) else (none)) else (none)) else (none)) else (none))) else (none))) else (none))) else (none))) else (none))) else (none)) = some (r1, r2) := H
       have A20 := mA A200
       clear A200
       by_cases c21 : t142.size + t143.size ≤ 9223372036854775807
       ·rw [if_pos c21] at H
        have c21b0 := eq_true c21
        have c21b1 : decide (t142.size + t143.size ≤ 9223372036854775807) = true := decide_eq_true c21
        try have c21b2 : (9223372036854775807 < t142.size + t143.size) = False := eq_false (Nat.not_lt.2 c21)
        replace H := Option.bind_eq_some_iff.mp H
        obtain ⟨t144, A220, H⟩ := H
        replace H : (if (t142 ++ t143).size + t144.size ≤ 9223372036854775807 then ((palanquinref05_num.f kj15 a0_1 2).bind fun t145 => (if ((t142 ++ t143) ++ t144).size + t145.size ≤ 9223372036854775807 then ((palanquinref05_num.f kj15 x7_15 2).bind fun t146 => (if (((t142 ++ t143) ++ t144) ++ t145).size + t146.size ≤ 9223372036854775807 then ((palanquinref05_num.f kj15 a0_3 1).bind fun t147 => (if ((((t142 ++ t143) ++ t144) ++ t145) ++ t146).size + t147.size ≤ 9223372036854775807 then ((palanquinref05_num.f kj15 a0_4 1).bind fun t148 => (if (((((t142 ++ t143) ++ t144) ++ t145) ++ t146) ++ t147).size + t148.size ≤ 9223372036854775807 then (if a0_7.size + a0_8.size ≤ 9223372036854775807 then (if (a0_7 ++ a0_8).size + a0_9.size ≤ 9223372036854775807 then (if ((((((t142 ++ t143) ++ t144) ++ t145) ++ t146) ++ t147) ++ t148).size + 2 ≤ 9223372036854775807 then (if (((((((t142 ++ t143) ++ t144) ++ t145) ++ t146) ++ t147) ++ t148) ++ (⟨#[0, 0]⟩ : ByteArray)).size + ((a0_7 ++ a0_8) ++ a0_9).size ≤ 9223372036854775807 then ((palanquinref02_Sum.f kj15 ((((((((t142 ++ t143) ++ t144) ++ t145) ++ t146) ++ t147) ++ t148) ++ (⟨#[0, 0]⟩ : ByteArray)) ++ ((a0_7 ++ a0_8) ++ a0_9))).bind fun t149 => ((palanquinref05_num.f kj15 t149 2).bind fun t150 => (if ((((((t142 ++ t143) ++ t144) ++ t145) ++ t146) ++ t147) ++ t148).size + t150.size ≤ 9223372036854775807 then (if (((((((t142 ++ t143) ++ t144) ++ t145) ++ t146) ++ t147) ++ t148) ++ t150).size + ((a0_7 ++ a0_8) ++ a0_9).size ≤ 9223372036854775807 then (if ((((((((t142 ++ t143) ++ t144) ++ t145) ++ t146) ++ t147) ++ t148) ++ t150) ++ ((a0_7 ++ a0_8) ++ a0_9)).size + a1.size ≤ 9223372036854775807 then (some (((((((((t142 ++ t143) ++ t144) ++ t145) ++ t146) ++ t147) ++ t148) ++ t150) ++ ((a0_7 ++ a0_8) ++ a0_9)) ++ a1, 0)) else (none)) else (none)) else (none)))) else (none)) else (none)) else (none)) else (none)) else (none))) else (none))) else (none))) else (none))) else (none)) = some (r1, r2) := H
        have A22 := mA A220
        clear A220
        by_cases c23 : (t142 ++ t143).size + t144.size ≤ 9223372036854775807
        ·rw [if_pos c23] at H
         have c23b0 := eq_true c23
         have c23b1 : decide ((t142 ++ t143).size + t144.size ≤ 9223372036854775807) = true := decide_eq_true c23
         try have c23b2 : (9223372036854775807 < (t142 ++ t143).size + t144.size) = False := eq_false (Nat.not_lt.2 c23)
         try have c23b3 : (9223372036854775807 < (t142.size) + (t143.size) + t144.size) = False := eq_false (by have h_ := c23; simp only [ByteArray.size_append] at h_; omega)
         try have c23b4 : ((t142.size) + (t143.size) + t144.size ≤ 9223372036854775807) = True := eq_true (by have h_ := c23; simp only [ByteArray.size_append] at h_; omega)
         replace H := Option.bind_eq_some_iff.mp H
         obtain ⟨t145, A240, H⟩ := H
         replace H : (if ((t142 ++ t143) ++ t144).size + t145.size ≤ 9223372036854775807 then ((palanquinref05_num.f kj15 x7_15 2).bind fun t146 => (if (((t142 ++ t143) ++ t144) ++ t145).size + t146.size ≤ 9223372036854775807 then ((palanquinref05_num.f kj15 a0_3 1).bind fun t147 => (if ((((t142 ++ t143) ++ t144) ++ t145) ++ t146).size + t147.size ≤ 9223372036854775807 then ((palanquinref05_num.f kj15 a0_4 1).bind fun t148 => (if (((((t142 ++ t143) ++ t144) ++ t145) ++ t146) ++ t147).size + t148.size ≤ 9223372036854775807 then (if a0_7.size + a0_8.size ≤ 9223372036854775807 then (if (a0_7 ++ a0_8).size + a0_9.size ≤ 9223372036854775807 then (if ((((((t142 ++ t143) ++ t144) ++ t145) ++ t146) ++ t147) ++ t148).size + 2 ≤ 9223372036854775807 then (if (((((((t142 ++ t143) ++ t144) ++ t145) ++ t146) ++ t147) ++ t148) ++ (⟨#[0, 0]⟩ : ByteArray)).size + ((a0_7 ++ a0_8) ++ a0_9).size ≤ 9223372036854775807 then ((palanquinref02_Sum.f kj15 ((((((((t142 ++ t143) ++ t144) ++ t145) ++ t146) ++ t147) ++ t148) ++ (⟨#[0, 0]⟩ : ByteArray)) ++ ((a0_7 ++ a0_8) ++ a0_9))).bind fun t149 => ((palanquinref05_num.f kj15 t149 2).bind fun t150 => (if ((((((t142 ++ t143) ++ t144) ++ t145) ++ t146) ++ t147) ++ t148).size + t150.size ≤ 9223372036854775807 then (if (((((((t142 ++ t143) ++ t144) ++ t145) ++ t146) ++ t147) ++ t148) ++ t150).size + ((a0_7 ++ a0_8) ++ a0_9).size ≤ 9223372036854775807 then (if ((((((((t142 ++ t143) ++ t144) ++ t145) ++ t146) ++ t147) ++ t148) ++ t150) ++ ((a0_7 ++ a0_8) ++ a0_9)).size + a1.size ≤ 9223372036854775807 then (some (((((((((t142 ++ t143) ++ t144) ++ t145) ++ t146) ++ t147) ++ t148) ++ t150) ++ ((a0_7 ++ a0_8) ++ a0_9)) ++ a1, 0)) else (none)) else (none)) else (none)))) else (none)) else (none)) else (none)) else (none)) else (none))) else (none))) else (none))) else (none)) = some (r1, r2) := H
         have A24 := mA A240
         clear A240
         by_cases c25 : ((t142 ++ t143) ++ t144).size + t145.size ≤ 9223372036854775807
         ·rw [if_pos c25] at H
          have c25b0 := eq_true c25
          have c25b1 : decide (((t142 ++ t143) ++ t144).size + t145.size ≤ 9223372036854775807) = true := decide_eq_true c25
          try have c25b2 : (9223372036854775807 < ((t142 ++ t143) ++ t144).size + t145.size) = False := eq_false (Nat.not_lt.2 c25)
          try have c25b3 : (9223372036854775807 < (t142.size) + (t143.size) + (t144.size) + t145.size) = False := eq_false (by have h_ := c25; simp only [ByteArray.size_append] at h_; omega)
          try have c25b4 : ((t142.size) + (t143.size) + (t144.size) + t145.size ≤ 9223372036854775807) = True := eq_true (by have h_ := c25; simp only [ByteArray.size_append] at h_; omega)
          replace H := Option.bind_eq_some_iff.mp H
          obtain ⟨t146, A260, H⟩ := H
          replace H : (if (((t142 ++ t143) ++ t144) ++ t145).size + t146.size ≤ 9223372036854775807 then ((palanquinref05_num.f kj15 a0_3 1).bind fun t147 => (if ((((t142 ++ t143) ++ t144) ++ t145) ++ t146).size + t147.size ≤ 9223372036854775807 then ((palanquinref05_num.f kj15 a0_4 1).bind fun t148 => (if (((((t142 ++ t143) ++ t144) ++ t145) ++ t146) ++ t147).size + t148.size ≤ 9223372036854775807 then (if a0_7.size + a0_8.size ≤ 9223372036854775807 then (if (a0_7 ++ a0_8).size + a0_9.size ≤ 9223372036854775807 then (if ((((((t142 ++ t143) ++ t144) ++ t145) ++ t146) ++ t147) ++ t148).size + 2 ≤ 9223372036854775807 then (if (((((((t142 ++ t143) ++ t144) ++ t145) ++ t146) ++ t147) ++ t148) ++ (⟨#[0, 0]⟩ : ByteArray)).size + ((a0_7 ++ a0_8) ++ a0_9).size ≤ 9223372036854775807 then ((palanquinref02_Sum.f kj15 ((((((((t142 ++ t143) ++ t144) ++ t145) ++ t146) ++ t147) ++ t148) ++ (⟨#[0, 0]⟩ : ByteArray)) ++ ((a0_7 ++ a0_8) ++ a0_9))).bind fun t149 => ((palanquinref05_num.f kj15 t149 2).bind fun t150 => (if ((((((t142 ++ t143) ++ t144) ++ t145) ++ t146) ++ t147) ++ t148).size + t150.size ≤ 9223372036854775807 then (if (((((((t142 ++ t143) ++ t144) ++ t145) ++ t146) ++ t147) ++ t148) ++ t150).size + ((a0_7 ++ a0_8) ++ a0_9).size ≤ 9223372036854775807 then (if ((((((((t142 ++ t143) ++ t144) ++ t145) ++ t146) ++ t147) ++ t148) ++ t150) ++ ((a0_7 ++ a0_8) ++ a0_9)).size + a1.size ≤ 9223372036854775807 then (some (((((((((t142 ++ t143) ++ t144) ++ t145) ++ t146) ++ t147) ++ t148) ++ t150) ++ ((a0_7 ++ a0_8) ++ a0_9)) ++ a1, 0)) else (none)) else (none)) else (none)))) else (none)) else (none)) else (none)) else (none)) else (none))) else (none))) else (none)) = some (r1, r2) := H
          have A26 := mA A260
          clear A260
          by_cases c27 : (((t142 ++ t143) ++ t144) ++ t145).size + t146.size ≤ 9223372036854775807
          ·rw [if_pos c27] at H
           have c27b0 := eq_true c27
           have c27b1 : decide ((((t142 ++ t143) ++ t144) ++ t145).size + t146.size ≤ 9223372036854775807) = true := decide_eq_true c27
           try have c27b2 : (9223372036854775807 < (((t142 ++ t143) ++ t144) ++ t145).size + t146.size) = False := eq_false (Nat.not_lt.2 c27)
           try have c27b3 : (9223372036854775807 < (t142.size) + (t143.size) + (t144.size) + (t145.size) + t146.size) = False := eq_false (by have h_ := c27; simp only [ByteArray.size_append] at h_; omega)
           try have c27b4 : ((t142.size) + (t143.size) + (t144.size) + (t145.size) + t146.size ≤ 9223372036854775807) = True := eq_true (by have h_ := c27; simp only [ByteArray.size_append] at h_; omega)
           replace H := Option.bind_eq_some_iff.mp H
           obtain ⟨t147, A280, H⟩ := H
           replace H : (if ((((t142 ++ t143) ++ t144) ++ t145) ++ t146).size + t147.size ≤ 9223372036854775807 then ((palanquinref05_num.f kj15 a0_4 1).bind fun t148 => (if (((((t142 ++ t143) ++ t144) ++ t145) ++ t146) ++ t147).size + t148.size ≤ 9223372036854775807 then (if a0_7.size + a0_8.size ≤ 9223372036854775807 then (if (a0_7 ++ a0_8).size + a0_9.size ≤ 9223372036854775807 then (if ((((((t142 ++ t143) ++ t144) ++ t145) ++ t146) ++ t147) ++ t148).size + 2 ≤ 9223372036854775807 then (if (((((((t142 ++ t143) ++ t144) ++ t145) ++ t146) ++ t147) ++ t148) ++ (⟨#[0, 0]⟩ : ByteArray)).size + ((a0_7 ++ a0_8) ++ a0_9).size ≤ 9223372036854775807 then ((palanquinref02_Sum.f kj15 ((((((((t142 ++ t143) ++ t144) ++ t145) ++ t146) ++ t147) ++ t148) ++ (⟨#[0, 0]⟩ : ByteArray)) ++ ((a0_7 ++ a0_8) ++ a0_9))).bind fun t149 => ((palanquinref05_num.f kj15 t149 2).bind fun t150 => (if ((((((t142 ++ t143) ++ t144) ++ t145) ++ t146) ++ t147) ++ t148).size + t150.size ≤ 9223372036854775807 then (if (((((((t142 ++ t143) ++ t144) ++ t145) ++ t146) ++ t147) ++ t148) ++ t150).size + ((a0_7 ++ a0_8) ++ a0_9).size ≤ 9223372036854775807 then (if ((((((((t142 ++ t143) ++ t144) ++ t145) ++ t146) ++ t147) ++ t148) ++ t150) ++ ((a0_7 ++ a0_8) ++ a0_9)).size + a1.size ≤ 9223372036854775807 then (some (((((((((t142 ++ t143) ++ t144) ++ t145) ++ t146) ++ t147) ++ t148) ++ t150) ++ ((a0_7 ++ a0_8) ++ a0_9)) ++ a1, 0)) else (none)) else (none)) else (none)))) else (none)) else (none)) else (none)) else (none)) else (none))) else (none)) = some (r1, r2) := H
           have A28 := mA A280
           clear A280
           by_cases c29 : ((((t142 ++ t143) ++ t144) ++ t145) ++ t146).size + t147.size ≤ 9223372036854775807
           ·rw [if_pos c29] at H
            have c29b0 := eq_true c29
            have c29b1 : decide (((((t142 ++ t143) ++ t144) ++ t145) ++ t146).size + t147.size ≤ 9223372036854775807) = true := decide_eq_true c29
            try have c29b2 : (9223372036854775807 < ((((t142 ++ t143) ++ t144) ++ t145) ++ t146).size + t147.size) = False := eq_false (Nat.not_lt.2 c29)
            try have c29b3 : (9223372036854775807 < (t142.size) + (t143.size) + (t144.size) + (t145.size) + (t146.size) + t147.size) = False := eq_false (by have h_ := c29; simp only [ByteArray.size_append] at h_; omega)
            try have c29b4 : ((t142.size) + (t143.size) + (t144.size) + (t145.size) + (t146.size) + t147.size ≤ 9223372036854775807) = True := eq_true (by have h_ := c29; simp only [ByteArray.size_append] at h_; omega)
            replace H := Option.bind_eq_some_iff.mp H
            obtain ⟨t148, A300, H⟩ := H
            replace H : (if (((((t142 ++ t143) ++ t144) ++ t145) ++ t146) ++ t147).size + t148.size ≤ 9223372036854775807 then (if a0_7.size + a0_8.size ≤ 9223372036854775807 then (if (a0_7 ++ a0_8).size + a0_9.size ≤ 9223372036854775807 then (if ((((((t142 ++ t143) ++ t144) ++ t145) ++ t146) ++ t147) ++ t148).size + 2 ≤ 9223372036854775807 then (if (((((((t142 ++ t143) ++ t144) ++ t145) ++ t146) ++ t147) ++ t148) ++ (⟨#[0, 0]⟩ : ByteArray)).size + ((a0_7 ++ a0_8) ++ a0_9).size ≤ 9223372036854775807 then ((palanquinref02_Sum.f kj15 ((((((((t142 ++ t143) ++ t144) ++ t145) ++ t146) ++ t147) ++ t148) ++ (⟨#[0, 0]⟩ : ByteArray)) ++ ((a0_7 ++ a0_8) ++ a0_9))).bind fun t149 => ((palanquinref05_num.f kj15 t149 2).bind fun t150 => (if ((((((t142 ++ t143) ++ t144) ++ t145) ++ t146) ++ t147) ++ t148).size + t150.size ≤ 9223372036854775807 then (if (((((((t142 ++ t143) ++ t144) ++ t145) ++ t146) ++ t147) ++ t148) ++ t150).size + ((a0_7 ++ a0_8) ++ a0_9).size ≤ 9223372036854775807 then (if ((((((((t142 ++ t143) ++ t144) ++ t145) ++ t146) ++ t147) ++ t148) ++ t150) ++ ((a0_7 ++ a0_8) ++ a0_9)).size + a1.size ≤ 9223372036854775807 then (some (((((((((t142 ++ t143) ++ t144) ++ t145) ++ t146) ++ t147) ++ t148) ++ t150) ++ ((a0_7 ++ a0_8) ++ a0_9)) ++ a1, 0)) else (none)) else (none)) else (none)))) else (none)) else (none)) else (none)) else (none)) else (none)) = some (r1, r2) := H
            have A30 := mA A300
            clear A300
            by_cases c31 : (((((t142 ++ t143) ++ t144) ++ t145) ++ t146) ++ t147).size + t148.size ≤ 9223372036854775807
            ·rw [if_pos c31] at H
             have c31b0 := eq_true c31
             have c31b1 : decide ((((((t142 ++ t143) ++ t144) ++ t145) ++ t146) ++ t147).size + t148.size ≤ 9223372036854775807) = true := decide_eq_true c31
             try have c31b2 : (9223372036854775807 < (((((t142 ++ t143) ++ t144) ++ t145) ++ t146) ++ t147).size + t148.size) = False := eq_false (Nat.not_lt.2 c31)
             try have c31b3 : (9223372036854775807 < (t142.size) + (t143.size) + (t144.size) + (t145.size) + (t146.size) + (t147.size) + t148.size) = False := eq_false (by have h_ := c31; simp only [ByteArray.size_append] at h_; omega)
             try have c31b4 : ((t142.size) + (t143.size) + (t144.size) + (t145.size) + (t146.size) + (t147.size) + t148.size ≤ 9223372036854775807) = True := eq_true (by have h_ := c31; simp only [ByteArray.size_append] at h_; omega)
             by_cases c32 : a0_7.size + a0_8.size ≤ 9223372036854775807
             ·rw [if_pos c32] at H
              have c32b0 := eq_true c32
              have c32b1 : decide (a0_7.size + a0_8.size ≤ 9223372036854775807) = true := decide_eq_true c32
              try have c32b2 : (9223372036854775807 < a0_7.size + a0_8.size) = False := eq_false (Nat.not_lt.2 c32)
              by_cases c33 : (a0_7 ++ a0_8).size + a0_9.size ≤ 9223372036854775807
              ·rw [if_pos c33] at H
               have c33b0 := eq_true c33
               have c33b1 : decide ((a0_7 ++ a0_8).size + a0_9.size ≤ 9223372036854775807) = true := decide_eq_true c33
               try have c33b2 : (9223372036854775807 < (a0_7 ++ a0_8).size + a0_9.size) = False := eq_false (Nat.not_lt.2 c33)
               try have c33b3 : (9223372036854775807 < (a0_7.size) + (a0_8.size) + a0_9.size) = False := eq_false (by have h_ := c33; simp only [ByteArray.size_append] at h_; omega)
               try have c33b4 : ((a0_7.size) + (a0_8.size) + a0_9.size ≤ 9223372036854775807) = True := eq_true (by have h_ := c33; simp only [ByteArray.size_append] at h_; omega)
               by_cases c34 : ((((((t142 ++ t143) ++ t144) ++ t145) ++ t146) ++ t147) ++ t148).size + 2 ≤ 9223372036854775807
               ·rw [if_pos c34] at H
                have c34b0 := eq_true c34
                have c34b1 : decide (((((((t142 ++ t143) ++ t144) ++ t145) ++ t146) ++ t147) ++ t148).size + 2 ≤ 9223372036854775807) = true := decide_eq_true c34
                try have c34b2 : (9223372036854775807 < ((((((t142 ++ t143) ++ t144) ++ t145) ++ t146) ++ t147) ++ t148).size + 2) = False := eq_false (Nat.not_lt.2 c34)
                try have c34b3 : (9223372036854775807 < (t142.size) + (t143.size) + (t144.size) + (t145.size) + (t146.size) + (t147.size) + (t148.size) + 2) = False := eq_false (by have h_ := c34; simp only [ByteArray.size_append] at h_; omega)
                try have c34b4 : ((t142.size) + (t143.size) + (t144.size) + (t145.size) + (t146.size) + (t147.size) + (t148.size) + 2 ≤ 9223372036854775807) = True := eq_true (by have h_ := c34; simp only [ByteArray.size_append] at h_; omega)
                by_cases c35 : (((((((t142 ++ t143) ++ t144) ++ t145) ++ t146) ++ t147) ++ t148) ++ (⟨#[0, 0]⟩ : ByteArray)).size + ((a0_7 ++ a0_8) ++ a0_9).size ≤ 9223372036854775807
                ·rw [if_pos c35] at H
                 have c35b0 := eq_true c35
                 have c35b1 : decide ((((((((t142 ++ t143) ++ t144) ++ t145) ++ t146) ++ t147) ++ t148) ++ (⟨#[0, 0]⟩ : ByteArray)).size + ((a0_7 ++ a0_8) ++ a0_9).size ≤ 9223372036854775807) = true := decide_eq_true c35
                 try have c35b2 : (9223372036854775807 < (((((((t142 ++ t143) ++ t144) ++ t145) ++ t146) ++ t147) ++ t148) ++ (⟨#[0, 0]⟩ : ByteArray)).size + ((a0_7 ++ a0_8) ++ a0_9).size) = False := eq_false (Nat.not_lt.2 c35)
                 try have c35b3 : (9223372036854775807 < (t142.size) + (t143.size) + (t144.size) + (t145.size) + (t146.size) + (t147.size) + (t148.size) + 2 + ((a0_7.size) + (a0_8.size) + (a0_9.size))) = False := eq_false (by have h_ := c35; simp only [ByteArray.size_append] at h_; have zl0_ : (⟨#[0, 0]⟩ : ByteArray).size = 2 := rfl; omega)
                 try have c35b4 : ((t142.size) + (t143.size) + (t144.size) + (t145.size) + (t146.size) + (t147.size) + (t148.size) + 2 + ((a0_7.size) + (a0_8.size) + (a0_9.size)) ≤ 9223372036854775807) = True := eq_true (by have h_ := c35; simp only [ByteArray.size_append] at h_; have zl0_ : (⟨#[0, 0]⟩ : ByteArray).size = 2 := rfl; omega)
                 replace H := Option.bind_eq_some_iff.mp H
                 obtain ⟨t149, A360, H⟩ := H
                 replace H : ((palanquinref05_num.f kj15 t149 2).bind fun t150 => (if ((((((t142 ++ t143) ++ t144) ++ t145) ++ t146) ++ t147) ++ t148).size + t150.size ≤ 9223372036854775807 then (if (((((((t142 ++ t143) ++ t144) ++ t145) ++ t146) ++ t147) ++ t148) ++ t150).size + ((a0_7 ++ a0_8) ++ a0_9).size ≤ 9223372036854775807 then (if ((((((((t142 ++ t143) ++ t144) ++ t145) ++ t146) ++ t147) ++ t148) ++ t150) ++ ((a0_7 ++ a0_8) ++ a0_9)).size + a1.size ≤ 9223372036854775807 then (some (((((((((t142 ++ t143) ++ t144) ++ t145) ++ t146) ++ t147) ++ t148) ++ t150) ++ ((a0_7 ++ a0_8) ++ a0_9)) ++ a1, 0)) else (none)) else (none)) else (none))) = some (r1, r2) := H
                 have A36 := mA A360
                 clear A360
                 replace H := Option.bind_eq_some_iff.mp H
                 obtain ⟨t150, A370, H⟩ := H
                 replace H : (if ((((((t142 ++ t143) ++ t144) ++ t145) ++ t146) ++ t147) ++ t148).size + t150.size ≤ 9223372036854775807 then (if (((((((t142 ++ t143) ++ t144) ++ t145) ++ t146) ++ t147) ++ t148) ++ t150).size + ((a0_7 ++ a0_8) ++ a0_9).size ≤ 9223372036854775807 then (if ((((((((t142 ++ t143) ++ t144) ++ t145) ++ t146) ++ t147) ++ t148) ++ t150) ++ ((a0_7 ++ a0_8) ++ a0_9)).size + a1.size ≤ 9223372036854775807 then (some (((((((((t142 ++ t143) ++ t144) ++ t145) ++ t146) ++ t147) ++ t148) ++ t150) ++ ((a0_7 ++ a0_8) ++ a0_9)) ++ a1, 0)) else (none)) else (none)) else (none)) = some (r1, r2) := H
                 have A37 := mA A370
                 clear A370
                 by_cases c38 : ((((((t142 ++ t143) ++ t144) ++ t145) ++ t146) ++ t147) ++ t148).size + t150.size ≤ 9223372036854775807
                 ·rw [if_pos c38] at H
                  have c38b0 := eq_true c38
                  have c38b1 : decide (((((((t142 ++ t143) ++ t144) ++ t145) ++ t146) ++ t147) ++ t148).size + t150.size ≤ 9223372036854775807) = true := decide_eq_true c38
                  try have c38b2 : (9223372036854775807 < ((((((t142 ++ t143) ++ t144) ++ t145) ++ t146) ++ t147) ++ t148).size + t150.size) = False := eq_false (Nat.not_lt.2 c38)
                  try have c38b3 : (9223372036854775807 < (t142.size) + (t143.size) + (t144.size) + (t145.size) + (t146.size) + (t147.size) + (t148.size) + t150.size) = False := eq_false (by have h_ := c38; simp only [ByteArray.size_append] at h_; omega)
                  try have c38b4 : ((t142.size) + (t143.size) + (t144.size) + (t145.size) + (t146.size) + (t147.size) + (t148.size) + t150.size ≤ 9223372036854775807) = True := eq_true (by have h_ := c38; simp only [ByteArray.size_append] at h_; omega)
                  by_cases c39 : (((((((t142 ++ t143) ++ t144) ++ t145) ++ t146) ++ t147) ++ t148) ++ t150).size + ((a0_7 ++ a0_8) ++ a0_9).size ≤ 9223372036854775807
                  ·rw [if_pos c39] at H
                   have c39b0 := eq_true c39
                   have c39b1 : decide ((((((((t142 ++ t143) ++ t144) ++ t145) ++ t146) ++ t147) ++ t148) ++ t150).size + ((a0_7 ++ a0_8) ++ a0_9).size ≤ 9223372036854775807) = true := decide_eq_true c39
                   try have c39b2 : (9223372036854775807 < (((((((t142 ++ t143) ++ t144) ++ t145) ++ t146) ++ t147) ++ t148) ++ t150).size + ((a0_7 ++ a0_8) ++ a0_9).size) = False := eq_false (Nat.not_lt.2 c39)
                   try have c39b3 : (9223372036854775807 < (t142.size) + (t143.size) + (t144.size) + (t145.size) + (t146.size) + (t147.size) + (t148.size) + (t150.size) + ((a0_7.size) + (a0_8.size) + (a0_9.size))) = False := eq_false (by have h_ := c39; simp only [ByteArray.size_append] at h_; omega)
                   try have c39b4 : ((t142.size) + (t143.size) + (t144.size) + (t145.size) + (t146.size) + (t147.size) + (t148.size) + (t150.size) + ((a0_7.size) + (a0_8.size) + (a0_9.size)) ≤ 9223372036854775807) = True := eq_true (by have h_ := c39; simp only [ByteArray.size_append] at h_; omega)
                   by_cases c40 : ((((((((t142 ++ t143) ++ t144) ++ t145) ++ t146) ++ t147) ++ t148) ++ t150) ++ ((a0_7 ++ a0_8) ++ a0_9)).size + a1.size ≤ 9223372036854775807
                   ·rw [if_pos c40] at H
                    have c40b0 := eq_true c40
                    have c40b1 : decide (((((((((t142 ++ t143) ++ t144) ++ t145) ++ t146) ++ t147) ++ t148) ++ t150) ++ ((a0_7 ++ a0_8) ++ a0_9)).size + a1.size ≤ 9223372036854775807) = true := decide_eq_true c40
                    try have c40b2 : (9223372036854775807 < ((((((((t142 ++ t143) ++ t144) ++ t145) ++ t146) ++ t147) ++ t148) ++ t150) ++ ((a0_7 ++ a0_8) ++ a0_9)).size + a1.size) = False := eq_false (Nat.not_lt.2 c40)
                    try have c40b3 : (9223372036854775807 < (t142.size) + (t143.size) + (t144.size) + (t145.size) + (t146.size) + (t147.size) + (t148.size) + (t150.size) + ((a0_7.size) + (a0_8.size) + (a0_9.size)) + a1.size) = False := eq_false (by have h_ := c40; simp only [ByteArray.size_append] at h_; omega)
                    try have c40b4 : ((t142.size) + (t143.size) + (t144.size) + (t145.size) + (t146.size) + (t147.size) + (t148.size) + (t150.size) + ((a0_7.size) + (a0_8.size) + (a0_9.size)) + a1.size ≤ 9223372036854775807) = True := eq_true (by have h_ := c40; simp only [ByteArray.size_append] at h_; omega)
                    simp only [Option.some.injEq, Prod.mk.injEq] at H
                    obtain ⟨rfl, rfl⟩ := H
                    try go_wp2
                    have n0_ := mA (kD BK140.out)
                    have n1_ := mA (bD HB.out)
                    clear BK140
                    clear HB
                    have BK140 := n0_
                    have HB := n1_
                    clear n0_ n1_
                    refine start_ (n := 29) (S := fun w' => w'.cell? ⟨gb140, 0, none⟩ = some (.int .i64 a0_0) ∧ w'.cell? ⟨gb140, 1, none⟩ = some (.int .i64 a0_1) ∧ w'.cell? ⟨gb140, 2, none⟩ = some (.int .i64 a0_2) ∧ w'.cell? ⟨gb140, 3, none⟩ = some (.int .i64 a0_3) ∧ w'.cell? ⟨gb140, 4, none⟩ = some (.int .i64 a0_4) ∧ w'.cell? ⟨gb140, 5, none⟩ = some (.bool a0_5) ∧ w'.cell? ⟨gb140, 6, none⟩ = some (.bool a0_6) ∧ w'.cell? ⟨gb140, 7, none⟩ = some (.string a0_7) ∧ w'.cell? ⟨gb140, 8, none⟩ = some (.string a0_8) ∧ w'.cell? ⟨gb140, 9, none⟩ = some (.string a0_9)) (ds := []) (bv 29 0) (by kernel_rfl) rfl rfl ⟨(zC BK140.out 0).trans rfl, (zC BK140.out 1).trans rfl, (zC BK140.out 2).trans rfl, (zC BK140.out 3).trans rfl, (zC BK140.out 4).trans rfl, (zC BK140.out 5).trans rfl, (zC BK140.out 6).trans rfl, (zC BK140.out 7).trans rfl, (zC BK140.out 8).trans rfl, (zC BK140.out 9).trans rfl⟩ (fun hHeld => ?_); refine with_tabW palanquinref05_Put.tab11 palanquinref05_Put.bits11 (fun HT_ HW_ => ?_)
                    generalize wc.drew = w41 at BK140 HB hHeld ⊢
                    refine pure_ (i := 0) (N := some 32) (v := ?_) (a' := ?_) (bv 29 1) rfl rfl (any_of HT_.out (by kernel_rfl)) (fun _ _ _ h => h) (Or.inl ⟨by rfl, ?_⟩) ?_ ?_; rotate_left; (intro w'; go_simp; with_reducible rfl); rotate_left; (simp only [Act.put, List.setIfInBounds_toArray, List.set_cons_zero, List.set_cons_succ, i64_w, i32_w]; rfl)
                    refine pure_ (i := 6) (N := some 38) (v := ?_) (a' := ?_) (bv 29 65) rfl rfl (any_of HT_.out (by kernel_rfl)) (fun _ _ _ h => h) (Or.inl ⟨by rfl, ?_⟩) ?_ ?_; rotate_left; (intro w'; go_simp; with_reducible rfl); rotate_left; (simp only [Act.put, List.setIfInBounds_toArray, List.set_cons_zero, List.set_cons_succ, i64_w, i32_w]; rfl)
                    refine pure_ (i := 10) (N := some 42) (v := ?_) (a' := ?_) (bv 29 1089) rfl rfl (any_of HT_.out (by kernel_rfl)) (fun _ _ _ h => h) (Or.inl ⟨by rfl, ?_⟩) ?_ ?_; rotate_left; (intro w'; go_simp; with_reducible rfl); rotate_left; (simp only [Act.put, List.setIfInBounds_toArray, List.set_cons_zero, List.set_cons_succ, i64_w, i32_w]; rfl)
                    refine pure_ (i := 13) (N := some 45) (v := ?_) (a' := ?_) (bv 29 9281) rfl rfl (any_of HT_.out (by kernel_rfl)) (fun _ _ _ h => h) (Or.inl ⟨by rfl, ?_⟩) ?_ ?_; rotate_left; (intro w'; go_simp; with_reducible rfl); rotate_left; (simp only [Act.put, List.setIfInBounds_toArray, List.set_cons_zero, List.set_cons_succ, i64_w, i32_w]; rfl)
                    refine pure_ (i := 17) (N := some 49) (v := ?_) (a' := ?_) (bv 29 140353) rfl rfl (any_of HT_.out (by kernel_rfl)) (fun _ _ _ h => h) (Or.inl ⟨by rfl, ?_⟩) ?_ ?_; rotate_left; (intro w'; go_simp; with_reducible rfl); rotate_left; (simp only [Act.put, List.setIfInBounds_toArray, List.set_cons_zero, List.set_cons_succ, i64_w, i32_w]; rfl)
                    refine pure_ (i := 20) (N := some 52) (v := ?_) (a' := ?_) (bv 29 1188929) rfl rfl (any_of HT_.out (by kernel_rfl)) (fun _ _ _ h => h) (Or.inl ⟨by rfl, ?_⟩) ?_ ?_; rotate_left; (intro w'; go_simp; with_reducible rfl); rotate_left; (simp only [Act.put, List.setIfInBounds_toArray, List.set_cons_zero, List.set_cons_succ, i64_w, i32_w]; rfl)
                    refine pure_ (i := 24) (N := some 56) (v := ?_) (a' := ?_) (bv 29 17966145) rfl rfl (any_of HT_.out (by kernel_rfl)) (fun _ _ _ h => h) (Or.inl ⟨by rfl, ?_⟩) ?_ ?_; rotate_left; (intro w'; go_simp; with_reducible rfl); rotate_left; (simp only [Act.put, List.setIfInBounds_toArray, List.set_cons_zero, List.set_cons_succ, i64_w, i32_w]; rfl)
                    refine take_ (i := 1) (N := some 33) (v := ?_) (a' := ?_) (bv 29 17966147) rfl rfl (take_ofW HT_.out HW_.out (by kernel_rfl)) (fun _ _ _ h => h) (Or.inl ⟨by rfl, ?_⟩) hHeld ?_ ?_; rotate_left; (rintro w' ⟨s0, s1, s2, s3, s4, s5, s6, s7, s8, s9⟩; go_simp; with_reducible rfl); rotate_left; (simp only [Act.put, List.setIfInBounds_toArray, List.set_cons_zero, List.set_cons_succ, i64_w, i32_w]; rfl)
                    refine pure_ (i := 2) (N := some 34) (v := ?_) (a' := ?_) (bv 29 17966151) rfl rfl (any_of HT_.out (by kernel_rfl)) (fun _ _ _ h => h) (Or.inl ⟨by rfl, ?_⟩) ?_ ?_; rotate_left; (intro w'; go_simp; with_reducible rfl); rotate_left; (simp only [Act.put, List.setIfInBounds_toArray, List.set_cons_zero, List.set_cons_succ, i64_w, i32_w]; rfl)
                    refine pure_ (i := 3) (N := some 35) (v := ?_) (a' := ?_) (bv 29 17966159) rfl rfl (any_of HT_.out (by kernel_rfl)) (fun _ _ _ h => h) (Or.inl ⟨by rfl, ?_⟩) ?_ ?_; rotate_left; (intro w'; go_simp; with_reducible rfl); rotate_left; (simp only [Act.put, List.setIfInBounds_toArray, List.set_cons_zero, List.set_cons_succ, i64_w, i32_w]; rfl)
                    refine pure_ (i := 4) (N := some 36) (v := ?_) (a' := ?_) (bv 29 17966175) rfl rfl (any_of HT_.out (by kernel_rfl)) (fun _ _ _ h => h) (Or.inl ⟨by rfl, ?_⟩) ?_ ?_; rotate_left; (intro w'; go_simp; with_reducible rfl); rotate_left; (simp only [Act.put, List.setIfInBounds_toArray, List.set_cons_zero, List.set_cons_succ, i64_w, i32_w]; rfl)
                    refine take_ (i := 7) (N := some 39) (v := ?_) (a' := ?_) (bv 29 17966303) rfl rfl (take_ofW HT_.out HW_.out (by kernel_rfl)) (fun _ _ _ h => h) (Or.inl ⟨by rfl, ?_⟩) hHeld ?_ ?_; rotate_left; (rintro w' ⟨s0, s1, s2, s3, s4, s5, s6, s7, s8, s9⟩; go_simp; with_reducible rfl); rotate_left; (simp only [Act.put, List.setIfInBounds_toArray, List.set_cons_zero, List.set_cons_succ, i64_w, i32_w]; rfl)
                    refine take_ (i := 14) (N := some 46) (v := ?_) (a' := ?_) (bv 29 17982687) rfl rfl (take_ofW HT_.out HW_.out (by kernel_rfl)) (fun _ _ _ h => h) (Or.inl ⟨by rfl, ?_⟩) hHeld ?_ ?_; rotate_left; (rintro w' ⟨s0, s1, s2, s3, s4, s5, s6, s7, s8, s9⟩; go_simp; with_reducible rfl); rotate_left; (simp only [Act.put, List.setIfInBounds_toArray, List.set_cons_zero, List.set_cons_succ, i64_w, i32_w]; rfl)
                    refine take_ (i := 21) (N := some 53) (v := ?_) (a' := ?_) (bv 29 20079839) rfl rfl (take_ofW HT_.out HW_.out (by kernel_rfl)) (fun _ _ _ h => h) (Or.inl ⟨by rfl, ?_⟩) hHeld ?_ ?_; rotate_left; (rintro w' ⟨s0, s1, s2, s3, s4, s5, s6, s7, s8, s9⟩; go_simp; with_reducible rfl); rotate_left; (simp only [Act.put, List.setIfInBounds_toArray, List.set_cons_zero, List.set_cons_succ, i64_w, i32_w]; rfl)
                    refine take_ (i := 25) (N := some 57) (v := ?_) (a' := ?_) (bv 29 53634271) rfl rfl (take_ofW HT_.out HW_.out (by kernel_rfl)) (fun _ _ _ h => h) (Or.inl ⟨by rfl, ?_⟩) hHeld ?_ ?_; rotate_left; (rintro w' ⟨s0, s1, s2, s3, s4, s5, s6, s7, s8, s9⟩; go_simp; with_reducible rfl); rotate_left; (simp only [Act.put, List.setIfInBounds_toArray, List.set_cons_zero, List.set_cons_succ, i64_w, i32_w]; rfl)
                    refine one_ (i := 5) (N := some 37) (bv 29 53634303) rfl rfl (one_of HT_.out (by kernel_rfl)) (by decide) (fun K hK => ?_)
                    refine goes_ Try.func45 (by kernel_rfl) rfl #[.int .i64 (wrap64 (69 + (wrap64 ((a0_9.size : Int) / 4)))), .int .i64 1] (by rfl) rfl rfl (by (try simp only [List.map_toArray, List.map_cons, List.map_nil]); first | done | rfl | (simp only [List.length_drop, List.length_take]; rfl)) ?_
                    with_reducible refine (palanquinref05_num.calls kj15 (wrap64 (69 + (wrap64 ((a0_9.size : Int) / 4)))) 1 t142 _ A19.out).mono ?_
                    rintro e w42 ⟨rfl, hb⟩
                    refine ⟨_, rfl, ?_⟩
                    have n0_ := mA (blk_below (g := gb140) (o := .cells #[.int .i64 a0_0, .int .i64 a0_1, .int .i64 a0_2, .int .i64 a0_3, .int .i64 a0_4, .bool a0_5, .bool a0_6, .string a0_7, .string a0_8, .string a0_9] 50 (0, 0)) (by (with_reducible repeat (first | apply kN | apply kD | apply kA)); exact BK140.out) hb)
                    have n1_ := mA (bP (by repeat (first | (with_reducible first | exact HB.out | apply bA | apply bN | apply bD | refine bS ?_ GE140.out) | exact HB.out)) hb)
                    clear BK140
                    clear HB
                    have BK140 := n0_
                    have HB := n1_
                    clear n0_ n1_
                    (try clear hb)
                    (try clear hb2)
                    (try clear hk)
                    (try clear hi)
                    refine hK.out _ _ ⟨(zC BK140.out 0).trans rfl, (zC BK140.out 1).trans rfl, (zC BK140.out 2).trans rfl, (zC BK140.out 3).trans rfl, (zC BK140.out 4).trans rfl, (zC BK140.out 5).trans rfl, (zC BK140.out 6).trans rfl, (zC BK140.out 7).trans rfl, (zC BK140.out 8).trans rfl, (zC BK140.out 9).trans rfl⟩ (fun hHeld => ?_)
                    clear hK K
                    refine norm_ (a' := ?_) ?_ ?_
                    rotate_left
                    ·show Act.put _ (some 37) _ = _
                     simp only [Act.put, List.setIfInBounds_toArray, List.set_cons_zero, List.set_cons_succ, i64_w, i32_w]
                     rfl
                    refine one_ (i := 8) (N := some 40) (bv 29 53634559) rfl rfl (one_of HT_.out (by kernel_rfl)) (by decide) (fun K hK => ?_)
                    refine goes_ Try.func45 (by kernel_rfl) rfl #[.int .i64 a0_0, .int .i64 1] (by rfl) rfl rfl (by (try simp only [List.map_toArray, List.map_cons, List.map_nil]); first | done | rfl | (simp only [List.length_drop, List.length_take]; rfl)) ?_
                    with_reducible refine (palanquinref05_num.calls kj15 a0_0 1 t143 _ A20.out).mono ?_
                    rintro e w43 ⟨rfl, hb⟩
                    refine ⟨_, rfl, ?_⟩
                    have n0_ := mA (blk_below (g := gb140) (o := .cells #[.int .i64 a0_0, .int .i64 a0_1, .int .i64 a0_2, .int .i64 a0_3, .int .i64 a0_4, .bool a0_5, .bool a0_6, .string a0_7, .string a0_8, .string a0_9] 50 (0, 0)) (by (with_reducible repeat (first | apply kN | apply kD | apply kA)); exact BK140.out) hb)
                    have n1_ := mA (bP (by repeat (first | (with_reducible first | exact HB.out | apply bA | apply bN | apply bD | refine bS ?_ GE140.out) | exact HB.out)) hb)
                    clear BK140
                    clear HB
                    have BK140 := n0_
                    have HB := n1_
                    clear n0_ n1_
                    (try clear hb)
                    (try clear hb2)
                    (try clear hk)
                    (try clear hi)
                    refine hK.out _ _ ⟨(zC BK140.out 0).trans rfl, (zC BK140.out 1).trans rfl, (zC BK140.out 2).trans rfl, (zC BK140.out 3).trans rfl, (zC BK140.out 4).trans rfl, (zC BK140.out 5).trans rfl, (zC BK140.out 6).trans rfl, (zC BK140.out 7).trans rfl, (zC BK140.out 8).trans rfl, (zC BK140.out 9).trans rfl⟩ (fun hHeld => ?_)
                    clear hK K
                    refine norm_ (a' := ?_) ?_ ?_
                    rotate_left
                    ·show Act.put _ (some 40) _ = _
                     simp only [Act.put, List.setIfInBounds_toArray, List.set_cons_zero, List.set_cons_succ, i64_w, i32_w]
                     rfl
                    refine pure_ (i := 9) (N := some 41) (v := ?_) (a' := ?_) (bv 29 53635071) rfl rfl (any_of HT_.out (by kernel_rfl)) (fun _ _ _ h => h) (Or.inl ⟨by rfl, ?_⟩) ?_ ?_; rotate_left; (intro w'; go_simp; with_reducible rfl); rotate_left; (simp only [Act.put, List.setIfInBounds_toArray, List.set_cons_zero, List.set_cons_succ, i64_w, i32_w]; rfl)
                    refine one_ (i := 11) (N := some 43) (bv 29 53637119) rfl rfl (one_of HT_.out (by kernel_rfl)) (by decide) (fun K hK => ?_)
                    refine goes_ Try.func45 (by kernel_rfl) rfl #[.int .i64 (wrap64 ((wrap64 (20 + (a0_9.size : Int))) + (a1.size : Int))), .int .i64 2] (by rfl) rfl rfl (by (try simp only [List.map_toArray, List.map_cons, List.map_nil]); first | done | rfl | (simp only [List.length_drop, List.length_take]; rfl)) ?_
                    with_reducible refine (palanquinref05_num.calls kj15 (wrap64 ((wrap64 (20 + (a0_9.size : Int))) + (a1.size : Int))) 2 t144 _ A22.out).mono ?_
                    rintro e w44 ⟨rfl, hb⟩
                    refine ⟨_, rfl, ?_⟩
                    have n0_ := mA (blk_below (g := gb140) (o := .cells #[.int .i64 a0_0, .int .i64 a0_1, .int .i64 a0_2, .int .i64 a0_3, .int .i64 a0_4, .bool a0_5, .bool a0_6, .string a0_7, .string a0_8, .string a0_9] 50 (0, 0)) (by (with_reducible repeat (first | apply kN | apply kD | apply kA)); exact BK140.out) hb)
                    have n1_ := mA (bP (by repeat (first | (with_reducible first | exact HB.out | apply bA | apply bN | apply bD | refine bS ?_ GE140.out) | exact HB.out)) hb)
                    clear BK140
                    clear HB
                    have BK140 := n0_
                    have HB := n1_
                    clear n0_ n1_
                    (try clear hb)
                    (try clear hb2)
                    (try clear hk)
                    (try clear hi)
                    refine hK.out _ _ ⟨(zC BK140.out 0).trans rfl, (zC BK140.out 1).trans rfl, (zC BK140.out 2).trans rfl, (zC BK140.out 3).trans rfl, (zC BK140.out 4).trans rfl, (zC BK140.out 5).trans rfl, (zC BK140.out 6).trans rfl, (zC BK140.out 7).trans rfl, (zC BK140.out 8).trans rfl, (zC BK140.out 9).trans rfl⟩ (fun hHeld => ?_)
                    clear hK K
                    refine norm_ (a' := ?_) ?_ ?_
                    rotate_left
                    ·show Act.put _ (some 43) _ = _
                     simp only [Act.put, List.setIfInBounds_toArray, List.set_cons_zero, List.set_cons_succ, i64_w, i32_w]
                     rfl
                    refine pure_ (i := 12) (N := some 44) (v := ?_) (a' := ?_) (bv 29 53641215) rfl rfl (any_of HT_.out (by kernel_rfl)) (fun _ _ _ h => h) (Or.inl ⟨by rfl, ?_⟩) ?_ ?_; rotate_left; (intro w'; go_simp; with_reducible rfl); rotate_left; (simp only [Act.put, List.setIfInBounds_toArray, List.set_cons_zero, List.set_cons_succ, i64_w, i32_w]; rfl)
                    refine one_ (i := 15) (N := some 47) (bv 29 53673983) rfl rfl (one_of HT_.out (by kernel_rfl)) (by decide) (fun K hK => ?_)
                    refine goes_ Try.func45 (by kernel_rfl) rfl #[.int .i64 a0_1, .int .i64 2] (by rfl) rfl rfl (by (try simp only [List.map_toArray, List.map_cons, List.map_nil]); first | done | rfl | (simp only [List.length_drop, List.length_take]; rfl)) ?_
                    with_reducible refine (palanquinref05_num.calls kj15 a0_1 2 t145 _ A24.out).mono ?_
                    rintro e w45 ⟨rfl, hb⟩
                    refine ⟨_, rfl, ?_⟩
                    have n0_ := mA (blk_below (g := gb140) (o := .cells #[.int .i64 a0_0, .int .i64 a0_1, .int .i64 a0_2, .int .i64 a0_3, .int .i64 a0_4, .bool a0_5, .bool a0_6, .string a0_7, .string a0_8, .string a0_9] 50 (0, 0)) (by (with_reducible repeat (first | apply kN | apply kD | apply kA)); exact BK140.out) hb)
                    have n1_ := mA (bP (by repeat (first | (with_reducible first | exact HB.out | apply bA | apply bN | apply bD | refine bS ?_ GE140.out) | exact HB.out)) hb)
                    clear BK140
                    clear HB
                    have BK140 := n0_
                    have HB := n1_
                    clear n0_ n1_
                    (try clear hb)
                    (try clear hb2)
                    (try clear hk)
                    (try clear hi)
                    refine hK.out _ _ ⟨(zC BK140.out 0).trans rfl, (zC BK140.out 1).trans rfl, (zC BK140.out 2).trans rfl, (zC BK140.out 3).trans rfl, (zC BK140.out 4).trans rfl, (zC BK140.out 5).trans rfl, (zC BK140.out 6).trans rfl, (zC BK140.out 7).trans rfl, (zC BK140.out 8).trans rfl, (zC BK140.out 9).trans rfl⟩ (fun hHeld => ?_)
                    clear hK K
                    refine norm_ (a' := ?_) ?_ ?_
                    rotate_left
                    ·show Act.put _ (some 47) _ = _
                     simp only [Act.put, List.setIfInBounds_toArray, List.set_cons_zero, List.set_cons_succ, i64_w, i32_w]
                     rfl
                    refine pure_ (i := 16) (N := some 48) (v := ?_) (a' := ?_) (bv 29 53739519) rfl rfl (any_of HT_.out (by kernel_rfl)) (fun _ _ _ h => h) (Or.inl ⟨by rfl, ?_⟩) ?_ ?_; rotate_left; (intro w'; go_simp; with_reducible rfl); rotate_left; (simp only [Act.put, List.setIfInBounds_toArray, List.set_cons_zero, List.set_cons_succ, i64_w, i32_w]; rfl)
                    refine one_ (i := 18) (N := some 50) (bv 29 54001663) rfl rfl (one_of HT_.out (by kernel_rfl)) (by decide) (fun K hK => ?_)
                    refine goes_ Try.func45 (by kernel_rfl) rfl #[.int .i64 x7_15, .int .i64 2] (by rfl) rfl rfl (by (try simp only [List.map_toArray, List.map_cons, List.map_nil]); first | done | rfl | (simp only [List.length_drop, List.length_take]; rfl)) ?_
                    with_reducible refine (palanquinref05_num.calls kj15 x7_15 2 t146 _ A26.out).mono ?_
                    rintro e w46 ⟨rfl, hb⟩
                    refine ⟨_, rfl, ?_⟩
                    have n0_ := mA (blk_below (g := gb140) (o := .cells #[.int .i64 a0_0, .int .i64 a0_1, .int .i64 a0_2, .int .i64 a0_3, .int .i64 a0_4, .bool a0_5, .bool a0_6, .string a0_7, .string a0_8, .string a0_9] 50 (0, 0)) (by (with_reducible repeat (first | apply kN | apply kD | apply kA)); exact BK140.out) hb)
                    have n1_ := mA (bP (by repeat (first | (with_reducible first | exact HB.out | apply bA | apply bN | apply bD | refine bS ?_ GE140.out) | exact HB.out)) hb)
                    clear BK140
                    clear HB
                    have BK140 := n0_
                    have HB := n1_
                    clear n0_ n1_
                    (try clear hb)
                    (try clear hb2)
                    (try clear hk)
                    (try clear hi)
                    refine hK.out _ _ ⟨(zC BK140.out 0).trans rfl, (zC BK140.out 1).trans rfl, (zC BK140.out 2).trans rfl, (zC BK140.out 3).trans rfl, (zC BK140.out 4).trans rfl, (zC BK140.out 5).trans rfl, (zC BK140.out 6).trans rfl, (zC BK140.out 7).trans rfl, (zC BK140.out 8).trans rfl, (zC BK140.out 9).trans rfl⟩ (fun hHeld => ?_)
                    clear hK K
                    refine norm_ (a' := ?_) ?_ ?_
                    rotate_left
                    ·show Act.put _ (some 50) _ = _
                     simp only [Act.put, List.setIfInBounds_toArray, List.set_cons_zero, List.set_cons_succ, i64_w, i32_w]
                     rfl
                    refine pure_ (i := 19) (N := some 51) (v := ?_) (a' := ?_) (bv 29 54525951) rfl rfl (any_of HT_.out (by kernel_rfl)) (fun _ _ _ h => h) (Or.inl ⟨by rfl, ?_⟩) ?_ ?_; rotate_left; (intro w'; go_simp; with_reducible rfl); rotate_left; (simp only [Act.put, List.setIfInBounds_toArray, List.set_cons_zero, List.set_cons_succ, i64_w, i32_w]; rfl)
                    refine one_ (i := 22) (N := some 54) (bv 29 58720255) rfl rfl (one_of HT_.out (by kernel_rfl)) (by decide) (fun K hK => ?_)
                    refine goes_ Try.func45 (by kernel_rfl) rfl #[.int .i64 a0_3, .int .i64 1] (by rfl) rfl rfl (by (try simp only [List.map_toArray, List.map_cons, List.map_nil]); first | done | rfl | (simp only [List.length_drop, List.length_take]; rfl)) ?_
                    with_reducible refine (palanquinref05_num.calls kj15 a0_3 1 t147 _ A28.out).mono ?_
                    rintro e w47 ⟨rfl, hb⟩
                    refine ⟨_, rfl, ?_⟩
                    have n0_ := mA (blk_below (g := gb140) (o := .cells #[.int .i64 a0_0, .int .i64 a0_1, .int .i64 a0_2, .int .i64 a0_3, .int .i64 a0_4, .bool a0_5, .bool a0_6, .string a0_7, .string a0_8, .string a0_9] 50 (0, 0)) (by (with_reducible repeat (first | apply kN | apply kD | apply kA)); exact BK140.out) hb)
                    have n1_ := mA (bP (by repeat (first | (with_reducible first | exact HB.out | apply bA | apply bN | apply bD | refine bS ?_ GE140.out) | exact HB.out)) hb)
                    clear BK140
                    clear HB
                    have BK140 := n0_
                    have HB := n1_
                    clear n0_ n1_
                    (try clear hb)
                    (try clear hb2)
                    (try clear hk)
                    (try clear hi)
                    refine hK.out _ _ ⟨(zC BK140.out 0).trans rfl, (zC BK140.out 1).trans rfl, (zC BK140.out 2).trans rfl, (zC BK140.out 3).trans rfl, (zC BK140.out 4).trans rfl, (zC BK140.out 5).trans rfl, (zC BK140.out 6).trans rfl, (zC BK140.out 7).trans rfl, (zC BK140.out 8).trans rfl, (zC BK140.out 9).trans rfl⟩ (fun hHeld => ?_)
                    clear hK K
                    refine norm_ (a' := ?_) ?_ ?_
                    rotate_left
                    ·show Act.put _ (some 54) _ = _
                     simp only [Act.put, List.setIfInBounds_toArray, List.set_cons_zero, List.set_cons_succ, i64_w, i32_w]
                     rfl
                    refine pure_ (i := 23) (N := some 55) (v := ?_) (a' := ?_) (bv 29 67108863) rfl rfl (any_of HT_.out (by kernel_rfl)) (fun _ _ _ h => h) (Or.inl ⟨by rfl, ?_⟩) ?_ ?_; rotate_left; (intro w'; go_simp; with_reducible rfl); rotate_left; (simp only [Act.put, List.setIfInBounds_toArray, List.set_cons_zero, List.set_cons_succ, i64_w, i32_w]; rfl)
                    refine one_ (i := 26) (N := some 58) (bv 29 134217727) rfl rfl (one_of HT_.out (by kernel_rfl)) (by decide) (fun K hK => ?_)
                    refine goes_ Try.func45 (by kernel_rfl) rfl #[.int .i64 a0_4, .int .i64 1] (by rfl) rfl rfl (by (try simp only [List.map_toArray, List.map_cons, List.map_nil]); first | done | rfl | (simp only [List.length_drop, List.length_take]; rfl)) ?_
                    with_reducible refine (palanquinref05_num.calls kj15 a0_4 1 t148 _ A30.out).mono ?_
                    rintro e w48 ⟨rfl, hb⟩
                    refine ⟨_, rfl, ?_⟩
                    have n0_ := mA (blk_below (g := gb140) (o := .cells #[.int .i64 a0_0, .int .i64 a0_1, .int .i64 a0_2, .int .i64 a0_3, .int .i64 a0_4, .bool a0_5, .bool a0_6, .string a0_7, .string a0_8, .string a0_9] 50 (0, 0)) (by (with_reducible repeat (first | apply kN | apply kD | apply kA)); exact BK140.out) hb)
                    have n1_ := mA (bP (by repeat (first | (with_reducible first | exact HB.out | apply bA | apply bN | apply bD | refine bS ?_ GE140.out) | exact HB.out)) hb)
                    clear BK140
                    clear HB
                    have BK140 := n0_
                    have HB := n1_
                    clear n0_ n1_
                    (try clear hb)
                    (try clear hb2)
                    (try clear hk)
                    (try clear hi)
                    refine hK.out _ _ ⟨(zC BK140.out 0).trans rfl, (zC BK140.out 1).trans rfl, (zC BK140.out 2).trans rfl, (zC BK140.out 3).trans rfl, (zC BK140.out 4).trans rfl, (zC BK140.out 5).trans rfl, (zC BK140.out 6).trans rfl, (zC BK140.out 7).trans rfl, (zC BK140.out 8).trans rfl, (zC BK140.out 9).trans rfl⟩ (fun hHeld => ?_)
                    clear hK K
                    refine norm_ (a' := ?_) ?_ ?_
                    rotate_left
                    ·show Act.put _ (some 58) _ = _
                     simp only [Act.put, List.setIfInBounds_toArray, List.set_cons_zero, List.set_cons_succ, i64_w, i32_w]
                     rfl
                    refine pure_ (i := 27) (N := some 59) (v := ?_) (a' := ?_) (bv 29 268435455) rfl rfl (any_of HT_.out (by kernel_rfl)) (fun _ _ _ h => h) (Or.inl ⟨by rfl, ?_⟩) ?_ ?_; rotate_left; (intro w'; go_simp; with_reducible rfl); rotate_left; (simp only [Act.put, List.setIfInBounds_toArray, List.set_cons_zero, List.set_cons_succ, i64_w, i32_w]; rfl)
                    refine pure_ (i := 28) (N := some 8) (v := ?_) (a' := ?_) (bv 29 536870911) rfl rfl (any_of HT_.out (by kernel_rfl)) (fun _ _ _ h => h) (Or.inl ⟨by rfl, ?_⟩) ?_ ?_; rotate_left; (intro w'; go_simp; with_reducible rfl); rotate_left; (simp only [Act.put, List.setIfInBounds_toArray, List.set_cons_zero, List.set_cons_succ, i64_w, i32_w]; rfl)
                    refine done_ (done_of HT_.out (by kernel_rfl)) ?_
                    obtain ⟨hcz49_0, hcz49_1, hcz49_2, hcz49_3, hcz49_4, hcz49_5, hcz49_6, hcz49_7, hcz49_8, hcz49_9⟩ := bc10 BK140.out
                    obtain ⟨hfz49_0, hfz49_1, hfz49_2, hfz49_3, hfz49_4, hfz49_5, hfz49_6, hfz49_7, hfz49_8, hfz49_9⟩ := bf10 BK140.out
                    try go_wp2_with (first | ((with_reducible refine gate_callee (f := 32) rfl ?_); refine goesL_ (some 73) rfl rfl Try.func32 (by kernel_rfl) rfl #[.string ((((((((t142 ++ t143) ++ t144) ++ t145) ++ t146) ++ t147) ++ t148) ++ (⟨#[0, 0]⟩ : ByteArray)) ++ ((a0_7 ++ a0_8) ++ a0_9))] rfl (by (try simp only [List.map_toArray, List.map_cons, List.map_nil]); first | done | rfl | (simp only [List.length_drop, List.length_take]; rfl)) ?_; (with_reducible refine (palanquinref02_Sum.calls kj15 ((((((((t142 ++ t143) ++ t144) ++ t145) ++ t146) ++ t147) ++ t148) ++ (⟨#[0, 0]⟩ : ByteArray)) ++ ((a0_7 ++ a0_8) ++ a0_9)) t149 _ A36.out).mono ?_); rintro e w50 ⟨rfl, hb⟩; refine ⟨_, rfl, ?_⟩; have n0_ := mA (blk_below (g := gb140) (o := .cells #[.int .i64 a0_0, .int .i64 a0_1, .int .i64 a0_2, .int .i64 a0_3, .int .i64 a0_4, .bool a0_5, .bool a0_6, .string a0_7, .string a0_8, .string a0_9] 50 (0, 0)) (by (with_reducible repeat (first | apply kN | apply kD | apply kA)); exact BK140.out) hb); have n1_ := mA (bP (by repeat (first | (with_reducible first | exact HB.out | apply bA | apply bN | apply bD | refine bS ?_ GE140.out) | exact HB.out)) hb); clear BK140; clear HB; have BK140 := n0_; have HB := n1_; clear n0_ n1_; (try clear hb); (try clear hb2); (try clear hk); (try clear hi)) | ((with_reducible refine gate_callee (f := 45) rfl ?_); refine goesL_ (some 74) rfl rfl Try.func45 (by kernel_rfl) rfl #[.int .i64 t149, .int .i64 2] rfl (by (try simp only [List.map_toArray, List.map_cons, List.map_nil]); first | done | rfl | (simp only [List.length_drop, List.length_take]; rfl)) ?_; (with_reducible refine (palanquinref05_num.calls kj15 t149 2 t150 _ A37.out).mono ?_); rintro e w51 ⟨rfl, hb⟩; refine ⟨_, rfl, ?_⟩; have n0_ := mA (blk_below (g := gb140) (o := .cells #[.int .i64 a0_0, .int .i64 a0_1, .int .i64 a0_2, .int .i64 a0_3, .int .i64 a0_4, .bool a0_5, .bool a0_6, .string a0_7, .string a0_8, .string a0_9] 50 (0, 0)) (by (with_reducible repeat (first | apply kN | apply kD | apply kA)); exact BK140.out) hb); have n1_ := mA (bP (by repeat (first | (with_reducible first | exact HB.out | apply bA | apply bN | apply bD | refine bS ?_ GE140.out) | exact HB.out)) hb); clear BK140; clear HB; have BK140 := n0_; have HB := n1_; clear n0_ n1_; (try clear hb); (try clear hb2); (try clear hk); (try clear hi)))
                    go_ret2
                    exact ⟨by first | rfl | (simp [errW_none, errW_some] <;> rfl) | (simp [*, errW_none, errW_some] <;> rfl), by repeat (first | (with_reducible first | exact HB.out | apply bA | apply bN | apply bD | refine bS ?_ GE140.out) | exact HB.out)⟩
                   ·rw [if_neg c40] at H
                    exact absurd H (by simp)
                  ·rw [if_neg c39] at H
                   exact absurd H (by simp)
                 ·rw [if_neg c38] at H
                  exact absurd H (by simp)
                ·rw [if_neg c35] at H
                 exact absurd H (by simp)
               ·rw [if_neg c34] at H
                exact absurd H (by simp)
              ·rw [if_neg c33] at H
               exact absurd H (by simp)
             ·rw [if_neg c32] at H
              exact absurd H (by simp)
            ·rw [if_neg c31] at H
             exact absurd H (by simp)
           ·rw [if_neg c29] at H
            exact absurd H (by simp)
          ·rw [if_neg c27] at H
           exact absurd H (by simp)
         ·rw [if_neg c25] at H
          exact absurd H (by simp)
        ·rw [if_neg c23] at H
         exact absurd H (by simp)
       ·rw [if_neg c21] at H
        exact absurd H (by simp)
 ·replace c4 := Bool.eq_false_iff.mpr c4
  subst c4
  have H1 : (some ((⟨#[]⟩ : ByteArray), 1)) = some (r1, r2) := by rw [if_neg (show ¬ (false = true) by decide)] at H; exact H
  clear H
  have H := H1
  clear H1
  simp only [Option.some.injEq, Prod.mk.injEq] at H
  obtain ⟨rfl, rfl⟩ := H
  go_enter Try.func23, Try.ntmps23
  go_wp2_with (first | ((with_reducible refine gate_dst (N := 2) rfl ?_); refine box_event ?hg (N := 2) ?hd (cs := #[.int .i64 a0_0, .int .i64 a0_1, .int .i64 a0_2, .int .i64 a0_3, .int .i64 a0_4, .bool a0_5, .bool a0_6, .string a0_7, .string a0_8, .string a0_9]) (t := 50) ?hr ?_; (case hd => rfl); (case hg => rfl); (case hr => first | (go_simp; done) | (go_simp; rfl)); intro gb140 hg w52 hbox hb; obtain ⟨n0_, nq_⟩ := bpr (by repeat (first | (with_reducible first | exact HB.out | apply bA | apply bN | apply bD) | exact HB.out)) hb; have n1_ := mA (hbox); have n2_ := mA ((by rw [hg]; exact nq_ : w.heap.size ≤ gb140)); have n3_ := mA ((by rw [hg]; exact nq_ : w.heap.size ≤ gb140)); clear HB; have HB := n0_; have BK140 := n1_; have GW140 := n2_; have GE140 := n3_; clear nq_; clear n0_ n1_ n2_ n3_; clear hb hbox hg; obtain ⟨hcz53_0, hcz53_1, hcz53_2, hcz53_3, hcz53_4, hcz53_5, hcz53_6, hcz53_7, hcz53_8, hcz53_9⟩ := bc10 BK140.out; obtain ⟨hfz53_0, hfz53_1, hfz53_2, hfz53_3, hfz53_4, hfz53_5, hfz53_6, hfz53_7, hfz53_8, hfz53_9⟩ := bf10 BK140.out) | ((with_reducible refine gate_callee (f := 44) rfl ?_); refine goesL_ (some 11) rfl rfl Try.func44 (by kernel_rfl) rfl #[.agg #[.int .i64 a0_0, .int .i64 a0_1, .int .i64 a0_2, .int .i64 a0_3, .int .i64 a0_4, .bool a0_5, .bool a0_6, .string a0_7, .string a0_8, .string a0_9]] rfl (by (try simp only [List.map_toArray, List.map_cons, List.map_nil]); first | done | rfl | (simp only [List.length_drop, List.length_take]; rfl)) ?_; (with_reducible refine (palanquinref05_Right.calls a0_0 a0_1 a0_2 a0_3 a0_4 a0_5 a0_6 a0_7 a0_8 a0_9 false _ A3.out).mono ?_); rintro e w54 ⟨rfl, hb⟩; refine ⟨_, rfl, ?_⟩; have n0_ := mA (blk_below (g := gb140) (o := .cells #[.int .i64 a0_0, .int .i64 a0_1, .int .i64 a0_2, .int .i64 a0_3, .int .i64 a0_4, .bool a0_5, .bool a0_6, .string a0_7, .string a0_8, .string a0_9] 50 (0, 0)) (by (with_reducible repeat (first | apply kN | apply kD | apply kA)); exact BK140.out) hb); have n1_ := mA (bP (by repeat (first | (with_reducible first | exact HB.out | apply bA | apply bN | apply bD | refine bS ?_ GE140.out) | exact HB.out)) hb); clear BK140; clear HB; have BK140 := n0_; have HB := n1_; clear n0_ n1_; (try clear hb); (try clear hb2); (try clear hk); (try clear hi)))
  go_ret2
  exact ⟨by first | rfl | (simp [errW_none, errW_some] <;> rfl) | (simp [*, errW_none, errW_some] <;> rfl), by repeat (first | (with_reducible first | exact HB.out | apply bA | apply bN | apply bD | refine bS ?_ GE140.out) | exact HB.out)⟩

end Go.Proofs.Ytcmalglippmocaa.G
end
