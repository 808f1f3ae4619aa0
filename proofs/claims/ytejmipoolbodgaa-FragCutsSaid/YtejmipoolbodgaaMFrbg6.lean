/- Texts of this session, joined: each is a section. -/
import Derived.Test.YtejmipoolbodgaaMFrbg1
import Derived.Test.YtejmipoolbodgaaMFrbg5
import Derived.Test.YtejmipoolbodgaaMFrbg4
import Derived.Test.YtejmipoolbodgaaMFrbg2
set_option linter.unusedVariables false
set_option linter.unusedSimpArgs false
section
namespace Go.Proofs.Ytejmipoolbodgaa.G
open Go.RowKit Go.Proofs.YtejmipoolbodgaaW.PrintWords Go.Proofs.YtejmipoolbodgaaW.PrintLast Go.Proofs.YtejmipoolbodgaaW.PrintMore
attribute [local go_sem] max2_int min2_int max_two min_two max_three min_three max_four min_four   -- for this text's walks alone
set_option linter.unusedVariables false
set_option linter.unusedSimpArgs false

mutual
def palanquinref05_Put.j0 : Nat → ByteArray → Int → Int → Int → Int → Int → Int → Int → Bool → Bool → ByteArray → ByteArray → ByteArray → Option (ByteArray × Int)
 | 0, _, _, _, _, _, _, _, _, _, _, _, _, _ => none
 | k + 1, x1, x6, x7, x417000, x417001, x417002, x417003, x417004, x417005, x417006, x417007, x417008, x417009 => if x417006 = true then (palanquinref05_Put.j1 k x1 x6 (wrap64 (x7 + 8192)) x417000 x417001 x417002 x417003 x417004 x417005 x417006 x417007 x417008 x417009) else (palanquinref05_Put.j1 k x1 x6 x7 x417000 x417001 x417002 x417003 x417004 x417005 x417006 x417007 x417008 x417009)
def palanquinref05_Put.j1 : Nat → ByteArray → Int → Int → Int → Int → Int → Int → Int → Bool → Bool → ByteArray → ByteArray → ByteArray → Option (ByteArray × Int)
 | 0, _, _, _, _, _, _, _, _, _, _, _, _, _ => none
 | k + 1, x1, x6, x7, x417000, x417001, x417002, x417003, x417004, x417005, x417006, x417007, x417008, x417009 => (palanquinref05_num.f k (wrap64 (69 + (wrap64 ((x417009.size : Int) / 4)))) 1).bind fun t418 => ((palanquinref05_num.f k x417000 1).bind fun t419 => (if t418.size + t419.size ≤ 9223372036854775807 then ((palanquinref05_num.f k x6 2).bind fun t420 => (if (t418 ++ t419).size + t420.size ≤ 9223372036854775807 then ((palanquinref05_num.f k x417001 2).bind fun t421 => (if ((t418 ++ t419) ++ t420).size + t421.size ≤ 9223372036854775807 then ((palanquinref05_num.f k x7 2).bind fun t422 => (if (((t418 ++ t419) ++ t420) ++ t421).size + t422.size ≤ 9223372036854775807 then ((palanquinref05_num.f k x417003 1).bind fun t423 => (if ((((t418 ++ t419) ++ t420) ++ t421) ++ t422).size + t423.size ≤ 9223372036854775807 then ((palanquinref05_num.f k x417004 1).bind fun t424 => (if (((((t418 ++ t419) ++ t420) ++ t421) ++ t422) ++ t423).size + t424.size ≤ 9223372036854775807 then (if x417007.size + x417008.size ≤ 9223372036854775807 then (if (x417007 ++ x417008).size + x417009.size ≤ 9223372036854775807 then (if ((((((t418 ++ t419) ++ t420) ++ t421) ++ t422) ++ t423) ++ t424).size + 2 ≤ 9223372036854775807 then (if (((((((t418 ++ t419) ++ t420) ++ t421) ++ t422) ++ t423) ++ t424) ++ (⟨#[0, 0]⟩ : ByteArray)).size + ((x417007 ++ x417008) ++ x417009).size ≤ 9223372036854775807 then ((palanquinref02_Sum.f k ((((((((t418 ++ t419) ++ t420) ++ t421) ++ t422) ++ t423) ++ t424) ++ (⟨#[0, 0]⟩ : ByteArray)) ++ ((x417007 ++ x417008) ++ x417009))).bind fun t425 => ((palanquinref05_num.f k t425 2).bind fun t426 => (if ((((((t418 ++ t419) ++ t420) ++ t421) ++ t422) ++ t423) ++ t424).size + t426.size ≤ 9223372036854775807 then (if (((((((t418 ++ t419) ++ t420) ++ t421) ++ t422) ++ t423) ++ t424) ++ t426).size + ((x417007 ++ x417008) ++ x417009).size ≤ 9223372036854775807 then (if ((((((((t418 ++ t419) ++ t420) ++ t421) ++ t422) ++ t423) ++ t424) ++ t426) ++ ((x417007 ++ x417008) ++ x417009)).size + x1.size ≤ 9223372036854775807 then (some (((((((((t418 ++ t419) ++ t420) ++ t421) ++ t422) ++ t423) ++ t424) ++ t426) ++ ((x417007 ++ x417008) ++ x417009)) ++ x1, 0)) else (none)) else (none)) else (none)))) else (none)) else (none)) else (none)) else (none)) else (none))) else (none))) else (none))) else (none))) else (none))) else (none)))
end
def palanquinref05_Put.f (k : Nat) (a0_0 : Int) (a0_1 : Int) (a0_2 : Int) (a0_3 : Int) (a0_4 : Int) (a0_5 : Bool) (a0_6 : Bool) (a0_7 : ByteArray) (a0_8 : ByteArray) (a0_9 : ByteArray) (a1 : ByteArray) : Option (ByteArray × Int) := (palanquinref05_Right.f a0_0 a0_1 a0_2 a0_3 a0_4 a0_5 a0_6 a0_7 a0_8 a0_9).bind fun t417 => (if t417 = true then (if (wrap64 ((wrap64 (20 + (a0_9.size : Int))) + (a1.size : Int))) > 65535 then (some ((⟨#[]⟩ : ByteArray), 4)) else (if a0_5 = true then (palanquinref05_Put.j0 k a1 (wrap64 ((wrap64 (20 + (a0_9.size : Int))) + (a1.size : Int))) (wrap64 (a0_2 + 16384)) a0_0 a0_1 a0_2 a0_3 a0_4 a0_5 a0_6 a0_7 a0_8 a0_9) else (palanquinref05_Put.j0 k a1 (wrap64 ((wrap64 (20 + (a0_9.size : Int))) + (a1.size : Int))) a0_2 a0_0 a0_1 a0_2 a0_3 a0_4 a0_5 a0_6 a0_7 a0_8 a0_9))) else (some ((⟨#[]⟩ : ByteArray), 1)))
theorem palanquinref05_Put.mono_l : ∀ k, (∀ y0 y1 y2 y3 y4 y5 y6 y7 y8 y9 y10 y11 y12, LeO (palanquinref05_Put.j0 k y0 y1 y2 y3 y4 y5 y6 y7 y8 y9 y10 y11 y12) (palanquinref05_Put.j0 (k + 1) y0 y1 y2 y3 y4 y5 y6 y7 y8 y9 y10 y11 y12)) ∧ (∀ y0 y1 y2 y3 y4 y5 y6 y7 y8 y9 y10 y11 y12, LeO (palanquinref05_Put.j1 k y0 y1 y2 y3 y4 y5 y6 y7 y8 y9 y10 y11 y12) (palanquinref05_Put.j1 (k + 1) y0 y1 y2 y3 y4 y5 y6 y7 y8 y9 y10 y11 y12))
 | 0 => ⟨fun _ _ _ _ _ _ _ _ _ _ _ _ _ r h => by simp [palanquinref05_Put.j0] at h, fun _ _ _ _ _ _ _ _ _ _ _ _ _ r h => by simp [palanquinref05_Put.j1] at h⟩
 | k + 1 => by
  obtain ⟨ih0, ih1⟩ := palanquinref05_Put.mono_l k
  refine ⟨?_, ?_⟩
  ·intro y0 y1 y2 y3 y4 y5 y6 y7 y8 y9 y10 y11 y12
   unfold palanquinref05_Put.j0
   repeat' first
   | (with_reducible exact ih0 _ _ _ _ _ _ _ _ _ _ _ _ _)
   | (with_reducible exact ih1 _ _ _ _ _ _ _ _ _ _ _ _ _)
   | (with_reducible exact palanquinref02_Sum.mono _ _)
   | (with_reducible exact palanquinref05_num.mono _ _ _)
   | (with_reducible exact LeO.refl _)
   | (with_reducible exact LeO.none _)
   | (with_reducible refine LeO.ite ?_ ?_)
   | (with_reducible refine LeO.bind ?_ (fun _ => ?_))
   | exact ih0 _ _ _ _ _ _ _ _ _ _ _ _ _
   | exact ih1 _ _ _ _ _ _ _ _ _ _ _ _ _
   | exact palanquinref02_Sum.mono _ _
   | exact palanquinref05_num.mono _ _ _
   | exact LeO.none _
   | refine LeO.ite ?_ ?_
   | refine LeO.bind ?_ (fun _ => ?_)
  ·intro y0 y1 y2 y3 y4 y5 y6 y7 y8 y9 y10 y11 y12
   unfold palanquinref05_Put.j1
   repeat' first
   | (with_reducible exact ih0 _ _ _ _ _ _ _ _ _ _ _ _ _)
   | (with_reducible exact ih1 _ _ _ _ _ _ _ _ _ _ _ _ _)
   | (with_reducible exact palanquinref02_Sum.mono _ _)
   | (with_reducible exact palanquinref05_num.mono _ _ _)
   | (with_reducible exact LeO.refl _)
   | (with_reducible exact LeO.none _)
   | (with_reducible refine LeO.ite ?_ ?_)
   | (with_reducible refine LeO.bind ?_ (fun _ => ?_))
   | exact ih0 _ _ _ _ _ _ _ _ _ _ _ _ _
   | exact ih1 _ _ _ _ _ _ _ _ _ _ _ _ _
   | exact palanquinref02_Sum.mono _ _
   | exact palanquinref05_num.mono _ _ _
   | exact LeO.none _
   | refine LeO.ite ?_ ?_
   | refine LeO.bind ?_ (fun _ => ?_)
theorem palanquinref05_Put.mono : ∀ a0 a1 a2 a3 a4 a5 a6 a7 a8 a9 a10 k, LeO (palanquinref05_Put.f k a0 a1 a2 a3 a4 a5 a6 a7 a8 a9 a10) (palanquinref05_Put.f (k + 1) a0 a1 a2 a3 a4 a5 a6 a7 a8 a9 a10) := by
 intro a0 a1 a2 a3 a4 a5 a6 a7 a8 a9 a10 k
 obtain ⟨ih0, ih1⟩ := palanquinref05_Put.mono_l k
 unfold palanquinref05_Put.f
 repeat' first
   | (with_reducible exact ih0 _ _ _ _ _ _ _ _ _ _ _ _ _)
   | (with_reducible exact ih1 _ _ _ _ _ _ _ _ _ _ _ _ _)
   | (with_reducible exact palanquinref02_Sum.mono _ _)
   | (with_reducible exact palanquinref05_num.mono _ _ _)
   | (with_reducible exact LeO.refl _)
   | (with_reducible exact LeO.none _)
   | (with_reducible refine LeO.ite ?_ ?_)
   | (with_reducible refine LeO.bind ?_ (fun _ => ?_))
   | exact ih0 _ _ _ _ _ _ _ _ _ _ _ _ _
   | exact ih1 _ _ _ _ _ _ _ _ _ _ _ _ _
   | exact palanquinref02_Sum.mono _ _
   | exact palanquinref05_num.mono _ _ _
   | exact LeO.none _
   | refine LeO.ite ?_ ?_
   | refine LeO.bind ?_ (fun _ => ?_)
def palanquinref05_Put.T11 : Bool × List (List Nat × List Nat) := (true, [([], []), ([0], [0]), ([1], [1]), ([2], [2]), ([3], [3]), ([4], [4]), ([], []), ([6], [6]), ([7, 5], [7]), ([5, 8], [5, 8]), ([], []), ([10, 8], [10]), ([9, 11], [9, 11]), ([], []), ([13], [13]), ([14, 11], [14]), ([12, 15], [12, 15]), ([], []), ([17, 15], [17]), ([16, 18], [16, 18]), ([], []), ([20], [20]), ([21, 18], [21]), ([19, 22], [19, 22]), ([], []), ([24], [24]), ([25, 22], [25]), ([23, 26], [23, 26]), ([27, 26, 0, 1, 2, 3, 4, 5, 6, 7, 8, 9, 10, 11, 12, 13, 14, 15, 16, 17, 18, 19, 20, 21, 22, 23, 24, 25, 26, 27], [27])])
def palanquinref05_Put.B11 : List Nat := [0, 1, 3, 7, 15, 31, 0, 64, 255, 511, 0, 1535, 4095, 0, 8192, 28159, 65535, 0, 191999, 524287, 0, 1048576, 3599871, 8388607, 0, 16777216, 58125823, 134217727, 268435455]
theorem palanquinref05_Put.tab11 : rtab .any (opsOf Try.f86 11) = palanquinref05_Put.T11 := by kernel_rfl
theorem palanquinref05_Put.bits11 : waitsOk palanquinref05_Put.T11.2 palanquinref05_Put.B11 = true := by kernel_rfl
set_option maxHeartbeats 8000000 in
set_option maxRecDepth 100000 in
theorem palanquinref05_Put.calls (k : Nat) (a0_0 : Int) (a0_1 : Int) (a0_2 : Int) (a0_3 : Int) (a0_4 : Int) (a0_5 : Bool) (a0_6 : Bool) (a0_7 : ByteArray) (a0_8 : ByteArray) (a0_9 : ByteArray) (a1 : ByteArray) (r1 : ByteArray) (r2 : Int) (w : World) (h : palanquinref05_Put.f k a0_0 a0_1 a0_2 a0_3 a0_4 a0_5 a0_6 a0_7 a0_8 a0_9 a1 = some (r1, r2)) :
  Calls Try.prog 86 #[.agg #[.int .i64 a0_0, .int .i64 a0_1, .int .i64 a0_2, .int .i64 a0_3, .int .i64 a0_4, .bool a0_5, .bool a0_6, .string a0_7, .string a0_8, .string a0_9], .string a1] w fun e w' => e = .returned (.tuple #[.string r1, .int .i64 r2]) ∧ Below w.heap.size w w' := by
 have hu93 := Try.underlying93
 have HB := mA (Below.refl w.heap.size w)
 have H : ((palanquinref05_Right.f a0_0 a0_1 a0_2 a0_3 a0_4 a0_5 a0_6 a0_7 a0_8 a0_9).bind fun t417 => (if t417 = true then (if (wrap64 ((wrap64 (20 + (a0_9.size : Int))) + (a1.size : Int))) > 65535 then (some ((⟨#[]⟩ : ByteArray), 4)) else (if a0_5 = true then (palanquinref05_Put.j0 k a1 (wrap64 ((wrap64 (20 + (a0_9.size : Int))) + (a1.size : Int))) (wrap64 (a0_2 + 16384)) a0_0 a0_1 a0_2 a0_3 a0_4 a0_5 a0_6 a0_7 a0_8 a0_9) else (palanquinref05_Put.j0 k a1 (wrap64 ((wrap64 (20 + (a0_9.size : Int))) + (a1.size : Int))) a0_2 a0_0 a0_1 a0_2 a0_3 a0_4 a0_5 a0_6 a0_7 a0_8 a0_9))) else (some ((⟨#[]⟩ : ByteArray), 1)))) = some (r1, r2) := h
 clear h
 replace H := Option.bind_eq_some_iff.mp H
 obtain ⟨t417, A30, H⟩ := H
 replace H : (if t417 = true then (if (wrap64 ((wrap64 (20 + (a0_9.size : Int))) + (a1.size : Int))) > 65535 then (some ((⟨#[]⟩ : ByteArray), 4)) else (if a0_5 = true then (palanquinref05_Put.j0 k a1 (wrap64 ((wrap64 (20 + (a0_9.size : Int))) + (a1.size : Int))) (wrap64 (a0_2 + 16384)) a0_0 a0_1 a0_2 a0_3 a0_4 a0_5 a0_6 a0_7 a0_8 a0_9) else (palanquinref05_Put.j0 k a1 (wrap64 ((wrap64 (20 + (a0_9.size : Int))) + (a1.size : Int))) a0_2 a0_0 a0_1 a0_2 a0_3 a0_4 a0_5 a0_6 a0_7 a0_8 a0_9))) else (some ((⟨#[]⟩ : ByteArray), 1))) = some (r1, r2) := H
 have A3 := mA A30
 clear A30
 by_cases c4 : t417 = true
 ·subst c4
  have H1 : (if (wrap64 ((wrap64 (20 + (a0_9.size : Int))) + (a1.size : Int))) > 65535 then (some ((⟨#[]⟩ : ByteArray), 4)) else (if a0_5 = true then (palanquinref05_Put.j0 k a1 (wrap64 ((wrap64 (20 + (a0_9.size : Int))) + (a1.size : Int))) (wrap64 (a0_2 + 16384)) a0_0 a0_1 a0_2 a0_3 a0_4 a0_5 a0_6 a0_7 a0_8 a0_9) else (palanquinref05_Put.j0 k a1 (wrap64 ((wrap64 (20 + (a0_9.size : Int))) + (a1.size : Int))) a0_2 a0_0 a0_1 a0_2 a0_3 a0_4 a0_5 a0_6 a0_7 a0_8 a0_9))) = some (r1, r2) := by rw [if_pos rfl] at H; exact H
  clear H
  have H := H1
  clear H1
  by_cases c5 : (wrap64 ((wrap64 (20 + (a0_9.size : Int))) + (a1.size : Int))) > 65535
  ·rw [if_pos c5] at H
   have c5b0 : decide (65535 < (wrap64 ((wrap64 (20 + (a0_9.size : Int))) + (a1.size : Int)))) = true := decide_eq_true c5
   clear c5
   simp only [Option.some.injEq, Prod.mk.injEq] at H
   obtain ⟨rfl, rfl⟩ := H
   go_enter Try.func86, Try.ntmps86
   go_wp2_with (first | ((with_reducible refine gate_dst (N := 2) rfl ?_); refine box_event ?hg (N := 2) ?hd (cs := #[.int .i64 a0_0, .int .i64 a0_1, .int .i64 a0_2, .int .i64 a0_3, .int .i64 a0_4, .bool a0_5, .bool a0_6, .string a0_7, .string a0_8, .string a0_9]) (t := 93) ?hr ?_; (case hd => rfl); (case hg => rfl); (case hr => first | (go_simp; done) | (go_simp; rfl)); intro gb416 hg w6 hbox hb; have n0_ := mA (bP (by repeat (first | (with_reducible first | exact HB.out | apply bA | apply bN | apply bD) | exact HB.out)) hb); have n1_ := mA (hbox); have n2_ := mA ((by rw [hg]; exact (below_size (by repeat (first | (with_reducible first | exact HB.out | apply bA | apply bN | apply bD) | exact HB.out))) : w.heap.size ≤ gb416)); have n3_ := mA ((by rw [hg]; exact (below_size (by repeat (first | (with_reducible first | exact HB.out | apply bA | apply bN | apply bD) | exact HB.out))) : w.heap.size ≤ gb416)); clear HB; have HB := n0_; have BK416 := n1_; have GW416 := n2_; have GE416 := n3_; clear n0_ n1_ n2_ n3_; clear hb hbox hg; have hcz7_0 : w6.cell? ⟨gb416, 0, none⟩ = some (.int .i64 a0_0) := (zC BK416.out 0).trans rfl; have hcz7_1 : w6.cell? ⟨gb416, 1, none⟩ = some (.int .i64 a0_1) := (zC BK416.out 1).trans rfl; have hcz7_2 : w6.cell? ⟨gb416, 2, none⟩ = some (.int .i64 a0_2) := (zC BK416.out 2).trans rfl; have hcz7_3 : w6.cell? ⟨gb416, 3, none⟩ = some (.int .i64 a0_3) := (zC BK416.out 3).trans rfl; have hcz7_4 : w6.cell? ⟨gb416, 4, none⟩ = some (.int .i64 a0_4) := (zC BK416.out 4).trans rfl; have hcz7_5 : w6.cell? ⟨gb416, 5, none⟩ = some (.bool a0_5) := (zC BK416.out 5).trans rfl; have hcz7_6 : w6.cell? ⟨gb416, 6, none⟩ = some (.bool a0_6) := (zC BK416.out 6).trans rfl; have hcz7_7 : w6.cell? ⟨gb416, 7, none⟩ = some (.string a0_7) := (zC BK416.out 7).trans rfl; have hcz7_8 : w6.cell? ⟨gb416, 8, none⟩ = some (.string a0_8) := (zC BK416.out 8).trans rfl; have hcz7_9 : w6.cell? ⟨gb416, 9, none⟩ = some (.string a0_9) := (zC BK416.out 9).trans rfl; have hfz7_0 := zF BK416.out 0; have hfz7_1 := zF BK416.out 1; have hfz7_2 := zF BK416.out 2; have hfz7_3 := zF BK416.out 3; have hfz7_4 := zF BK416.out 4; have hfz7_5 := zF BK416.out 5; have hfz7_6 := zF BK416.out 6; have hfz7_7 := zF BK416.out 7; have hfz7_8 := zF BK416.out 8; have hfz7_9 := zF BK416.out 9) | ((with_reducible refine gate_callee (f := 88) rfl ?_); refine goesL_ (some 11) rfl rfl Try.func88 (by kernel_rfl) rfl #[.agg #[.int .i64 a0_0, .int .i64 a0_1, .int .i64 a0_2, .int .i64 a0_3, .int .i64 a0_4, .bool a0_5, .bool a0_6, .string a0_7, .string a0_8, .string a0_9]] rfl (by (try simp only [List.map_toArray, List.map_cons, List.map_nil]); first | done | rfl | (simp only [List.length_drop, List.length_take]; rfl)) ?_; (with_reducible refine (palanquinref05_Right.calls a0_0 a0_1 a0_2 a0_3 a0_4 a0_5 a0_6 a0_7 a0_8 a0_9 true _ A3.out).mono ?_); rintro e w8 ⟨rfl, hb⟩; refine ⟨_, rfl, ?_⟩; have n0_ := mA (blk_below (g := gb416) (o := .cells #[.int .i64 a0_0, .int .i64 a0_1, .int .i64 a0_2, .int .i64 a0_3, .int .i64 a0_4, .bool a0_5, .bool a0_6, .string a0_7, .string a0_8, .string a0_9] 93 (0, 0)) (by (with_reducible repeat (first | apply kN | apply kD | apply kA)); exact BK416.out) hb); have n1_ := mA (bP (by repeat (first | (with_reducible first | exact HB.out | apply bA | apply bN | apply bD | refine bS ?_ GE416.out) | exact HB.out)) hb); clear BK416; clear HB; have BK416 := n0_; have HB := n1_; clear n0_ n1_; (try clear hb); (try clear hb2); (try clear hk); (try clear hi); have hcz9_0 : w8.cell? ⟨gb416, 0, none⟩ = some (.int .i64 a0_0) := (zC BK416.out 0).trans rfl; have hcz9_1 : w8.cell? ⟨gb416, 1, none⟩ = some (.int .i64 a0_1) := (zC BK416.out 1).trans rfl; have hcz9_2 : w8.cell? ⟨gb416, 2, none⟩ = some (.int .i64 a0_2) := (zC BK416.out 2).trans rfl; have hcz9_3 : w8.cell? ⟨gb416, 3, none⟩ = some (.int .i64 a0_3) := (zC BK416.out 3).trans rfl; have hcz9_4 : w8.cell? ⟨gb416, 4, none⟩ = some (.int .i64 a0_4) := (zC BK416.out 4).trans rfl; have hcz9_5 : w8.cell? ⟨gb416, 5, none⟩ = some (.bool a0_5) := (zC BK416.out 5).trans rfl; have hcz9_6 : w8.cell? ⟨gb416, 6, none⟩ = some (.bool a0_6) := (zC BK416.out 6).trans rfl; have hcz9_7 : w8.cell? ⟨gb416, 7, none⟩ = some (.string a0_7) := (zC BK416.out 7).trans rfl; have hcz9_8 : w8.cell? ⟨gb416, 8, none⟩ = some (.string a0_8) := (zC BK416.out 8).trans rfl; have hcz9_9 : w8.cell? ⟨gb416, 9, none⟩ = some (.string a0_9) := (zC BK416.out 9).trans rfl; have hfz9_0 := zF BK416.out 0; have hfz9_1 := zF BK416.out 1; have hfz9_2 := zF BK416.out 2; have hfz9_3 := zF BK416.out 3; have hfz9_4 := zF BK416.out 4; have hfz9_5 := zF BK416.out 5; have hfz9_6 := zF BK416.out 6; have hfz9_7 := zF BK416.out 7; have hfz9_8 := zF BK416.out 8; have hfz9_9 := zF BK416.out 9))
   go_ret2
   exact ⟨by first | rfl | (simp [errW_none, errW_some] <;> rfl) | (simp [*, errW_none, errW_some] <;> rfl), by repeat (first | (with_reducible first | exact HB.out | apply bA | apply bN | apply bD | refine bS ?_ GE416.out) | exact HB.out)⟩
  ·rw [if_neg c5] at H
   have c5b0 : decide (65535 < (wrap64 ((wrap64 (20 + (a0_9.size : Int))) + (a1.size : Int)))) = false := decide_eq_false c5
   clear c5
   have HC10 := mA H
   clear H
   go_enter Try.func86, Try.ntmps86
   go_upto_if 25 with (first | ((with_reducible refine gate_dst (N := 2) rfl ?_); refine box_event ?hg (N := 2) ?hd (cs := #[.int .i64 a0_0, .int .i64 a0_1, .int .i64 a0_2, .int .i64 a0_3, .int .i64 a0_4, .bool a0_5, .bool a0_6, .string a0_7, .string a0_8, .string a0_9]) (t := 93) ?hr ?_; (case hd => rfl); (case hg => rfl); (case hr => first | (go_simp; done) | (go_simp; rfl)); intro gb416 hg w11 hbox hb; have n0_ := mA (bP (by repeat (first | (with_reducible first | exact HB.out | apply bA | apply bN | apply bD) | exact HB.out)) hb); have n1_ := mA (hbox); have n2_ := mA ((by rw [hg]; exact (below_size (by repeat (first | (with_reducible first | exact HB.out | apply bA | apply bN | apply bD) | exact HB.out))) : w.heap.size ≤ gb416)); have n3_ := mA ((by rw [hg]; exact (below_size (by repeat (first | (with_reducible first | exact HB.out | apply bA | apply bN | apply bD) | exact HB.out))) : w.heap.size ≤ gb416)); clear HB; have HB := n0_; have BK416 := n1_; have GW416 := n2_; have GE416 := n3_; clear n0_ n1_ n2_ n3_; clear hb hbox hg; have hcz12_0 : w11.cell? ⟨gb416, 0, none⟩ = some (.int .i64 a0_0) := (zC BK416.out 0).trans rfl; have hcz12_1 : w11.cell? ⟨gb416, 1, none⟩ = some (.int .i64 a0_1) := (zC BK416.out 1).trans rfl; have hcz12_2 : w11.cell? ⟨gb416, 2, none⟩ = some (.int .i64 a0_2) := (zC BK416.out 2).trans rfl; have hcz12_3 : w11.cell? ⟨gb416, 3, none⟩ = some (.int .i64 a0_3) := (zC BK416.out 3).trans rfl; have hcz12_4 : w11.cell? ⟨gb416, 4, none⟩ = some (.int .i64 a0_4) := (zC BK416.out 4).trans rfl; have hcz12_5 : w11.cell? ⟨gb416, 5, none⟩ = some (.bool a0_5) := (zC BK416.out 5).trans rfl; have hcz12_6 : w11.cell? ⟨gb416, 6, none⟩ = some (.bool a0_6) := (zC BK416.out 6).trans rfl; have hcz12_7 : w11.cell? ⟨gb416, 7, none⟩ = some (.string a0_7) := (zC BK416.out 7).trans rfl; have hcz12_8 : w11.cell? ⟨gb416, 8, none⟩ = some (.string a0_8) := (zC BK416.out 8).trans rfl; have hcz12_9 : w11.cell? ⟨gb416, 9, none⟩ = some (.string a0_9) := (zC BK416.out 9).trans rfl; have hfz12_0 := zF BK416.out 0; have hfz12_1 := zF BK416.out 1; have hfz12_2 := zF BK416.out 2; have hfz12_3 := zF BK416.out 3; have hfz12_4 := zF BK416.out 4; have hfz12_5 := zF BK416.out 5; have hfz12_6 := zF BK416.out 6; have hfz12_7 := zF BK416.out 7; have hfz12_8 := zF BK416.out 8; have hfz12_9 := zF BK416.out 9) | ((with_reducible refine gate_callee (f := 88) rfl ?_); refine goesL_ (some 11) rfl rfl Try.func88 (by kernel_rfl) rfl #[.agg #[.int .i64 a0_0, .int .i64 a0_1, .int .i64 a0_2, .int .i64 a0_3, .int .i64 a0_4, .bool a0_5, .bool a0_6, .string a0_7, .string a0_8, .string a0_9]] rfl (by (try simp only [List.map_toArray, List.map_cons, List.map_nil]); first | done | rfl | (simp only [List.length_drop, List.length_take]; rfl)) ?_; (with_reducible refine (palanquinref05_Right.calls a0_0 a0_1 a0_2 a0_3 a0_4 a0_5 a0_6 a0_7 a0_8 a0_9 true _ A3.out).mono ?_); rintro e w13 ⟨rfl, hb⟩; refine ⟨_, rfl, ?_⟩; have n0_ := mA (blk_below (g := gb416) (o := .cells #[.int .i64 a0_0, .int .i64 a0_1, .int .i64 a0_2, .int .i64 a0_3, .int .i64 a0_4, .bool a0_5, .bool a0_6, .string a0_7, .string a0_8, .string a0_9] 93 (0, 0)) (by (with_reducible repeat (first | apply kN | apply kD | apply kA)); exact BK416.out) hb); have n1_ := mA (bP (by repeat (first | (with_reducible first | exact HB.out | apply bA | apply bN | apply bD | refine bS ?_ GE416.out) | exact HB.out)) hb); clear BK416; clear HB; have BK416 := n0_; have HB := n1_; clear n0_ n1_; (try clear hb); (try clear hb2); (try clear hk); (try clear hi); have hcz14_0 : w13.cell? ⟨gb416, 0, none⟩ = some (.int .i64 a0_0) := (zC BK416.out 0).trans rfl; have hcz14_1 : w13.cell? ⟨gb416, 1, none⟩ = some (.int .i64 a0_1) := (zC BK416.out 1).trans rfl; have hcz14_2 : w13.cell? ⟨gb416, 2, none⟩ = some (.int .i64 a0_2) := (zC BK416.out 2).trans rfl; have hcz14_3 : w13.cell? ⟨gb416, 3, none⟩ = some (.int .i64 a0_3) := (zC BK416.out 3).trans rfl; have hcz14_4 : w13.cell? ⟨gb416, 4, none⟩ = some (.int .i64 a0_4) := (zC BK416.out 4).trans rfl; have hcz14_5 : w13.cell? ⟨gb416, 5, none⟩ = some (.bool a0_5) := (zC BK416.out 5).trans rfl; have hcz14_6 : w13.cell? ⟨gb416, 6, none⟩ = some (.bool a0_6) := (zC BK416.out 6).trans rfl; have hcz14_7 : w13.cell? ⟨gb416, 7, none⟩ = some (.string a0_7) := (zC BK416.out 7).trans rfl; have hcz14_8 : w13.cell? ⟨gb416, 8, none⟩ = some (.string a0_8) := (zC BK416.out 8).trans rfl; have hcz14_9 : w13.cell? ⟨gb416, 9, none⟩ = some (.string a0_9) := (zC BK416.out 9).trans rfl; have hfz14_0 := zF BK416.out 0; have hfz14_1 := zF BK416.out 1; have hfz14_2 := zF BK416.out 2; have hfz14_3 := zF BK416.out 3; have hfz14_4 := zF BK416.out 4; have hfz14_5 := zF BK416.out 5; have hfz14_6 := zF BK416.out 6; have hfz14_7 := zF BK416.out 7; have hfz14_8 := zF BK416.out 8; have hfz14_9 := zF BK416.out 9))
   (try simp only [Act.put, List.setIfInBounds_toArray, List.set_cons_zero, List.set_cons_succ])
   go_cut [7] (fun v7 wc => ∃ (kq : Nat) (x7_9 : Int), v7 = .int .i64 x7_9 ∧ Aside0 (palanquinref05_Put.j0 kq a1 (wrap64 ((wrap64 (20 + (a0_9.size : Int))) + (a1.size : Int))) x7_9 a0_0 a0_1 a0_2 a0_3 a0_4 a0_5 a0_6 a0_7 a0_8 a0_9 = some (r1, r2)) ∧ Aside0 (kq ≤ k) ∧ Aside0 (wc.heap[gb416]? = some (.cells #[.int .i64 a0_0, .int .i64 a0_1, .int .i64 a0_2, .int .i64 a0_3, .int .i64 a0_4, .bool a0_5, .bool a0_6, .string a0_7, .string a0_8, .string a0_9] 93 (0, 0))) ∧ Aside0 (Below w.heap.size w wc))
   case first =>
    have H := HC10.out
    clear HC10
    by_cases c15 : a0_5 = true
    ·subst c15
     have H1 : (palanquinref05_Put.j0 k a1 (wrap64 ((wrap64 (20 + (a0_9.size : Int))) + (a1.size : Int))) (wrap64 (a0_2 + 16384)) a0_0 a0_1 a0_2 a0_3 a0_4 true a0_6 a0_7 a0_8 a0_9) = some (r1, r2) := by rw [if_pos rfl] at H; exact H
     clear H
     have H := H1
     clear H1
     have H' := mA H
     clear H
     go_wp2
     go_meet
     case rel => exact ⟨_, (wrap64 (a0_2 + 16384)), (by first | rfl | (simp; done) | (simp [*]; done)), H', ⟨by first | omega | exact Nat.le_refl _⟩, ⟨by (with_reducible repeat (first | apply kN | apply kD | apply kA)); exact BK416.out⟩, ⟨by repeat (first | (with_reducible first | exact HB.out | apply bA | apply bN | apply bD | refine bS ?_ GE416.out) | exact HB.out)⟩⟩
    ·replace c15 := Bool.eq_false_iff.mpr c15
     subst c15
     have H1 : (palanquinref05_Put.j0 k a1 (wrap64 ((wrap64 (20 + (a0_9.size : Int))) + (a1.size : Int))) a0_2 a0_0 a0_1 a0_2 a0_3 a0_4 false a0_6 a0_7 a0_8 a0_9) = some (r1, r2) := by rw [if_neg (show ¬ (false = true) by decide)] at H; exact H
     clear H
     have H := H1
     clear H1
     have H' := mA H
     clear H
     go_wp2
     go_meet
     case rel => exact ⟨_, (a0_2), (by first | rfl | (simp; done) | (simp [*]; done)), H', ⟨by first | omega | exact Nat.le_refl _⟩, ⟨by (with_reducible repeat (first | apply kN | apply kD | apply kA)); exact BK416.out⟩, ⟨by repeat (first | (with_reducible first | exact HB.out | apply bA | apply bN | apply bD | refine bS ?_ GE416.out) | exact HB.out)⟩⟩
   case rest =>
    clear HC10
    try clear c1
    try clear p2
    try clear c4
    try clear c5
    try clear c5b0
    try clear p6
    try clear c8
    try clear c15
    try clear hcz12_0
    try clear hcz12_1
    try clear hcz12_2
    try clear hcz12_3
    try clear hcz12_4
    try clear hcz12_5
    try clear hcz12_6
    try clear hcz12_7
    try clear hcz12_8
    try clear hcz12_9
    try clear hcz14_0
    try clear hcz14_1
    try clear hcz14_2
    try clear hcz14_3
    try clear hcz14_4
    try clear hcz14_5
    try clear hcz14_6
    try clear hcz14_7
    try clear hcz14_8
    try clear hcz14_9
    try clear hcz7_0
    try clear hcz7_1
    try clear hcz7_2
    try clear hcz7_3
    try clear hcz7_4
    try clear hcz7_5
    try clear hcz7_6
    try clear hcz7_7
    try clear hcz7_8
    try clear hcz7_9
    try clear hcz9_0
    try clear hcz9_1
    try clear hcz9_2
    try clear hcz9_3
    try clear hcz9_4
    try clear hcz9_5
    try clear hcz9_6
    try clear hcz9_7
    try clear hcz9_8
    try clear hcz9_9
    try clear hfz12_0
    try clear hfz12_1
    try clear hfz12_2
    try clear hfz12_3
    try clear hfz12_4
    try clear hfz12_5
    try clear hfz12_6
    try clear hfz12_7
    try clear hfz12_8
    try clear hfz12_9
    try clear hfz14_0
    try clear hfz14_1
    try clear hfz14_2
    try clear hfz14_3
    try clear hfz14_4
    try clear hfz14_5
    try clear hfz14_6
    try clear hfz14_7
    try clear hfz14_8
    try clear hfz14_9
    try clear hfz7_0
    try clear hfz7_1
    try clear hfz7_2
    try clear hfz7_3
    try clear hfz7_4
    try clear hfz7_5
    try clear hfz7_6
    try clear hfz7_7
    try clear hfz7_8
    try clear hfz7_9
    try clear hfz9_0
    try clear hfz9_1
    try clear hfz9_2
    try clear hfz9_3
    try clear hfz9_4
    try clear hfz9_5
    try clear hfz9_6
    try clear hfz9_7
    try clear hfz9_8
    try clear hfz9_9
    obtain ⟨kq, x7_9, rfl, HA, HJ9, BK416, HB⟩ := hcut
    cases kq with
    | zero => exact absurd HA.out (by simp [palanquinref05_Put.j0])
    | succ kj9 =>
     have H := HA.out
     clear HA
     simp only [palanquinref05_Put.j0] at H
     have HC16 := mA H
     clear H
     have hcz17_0 : wc.cell? ⟨gb416, 0, none⟩ = some (.int .i64 a0_0) := (zC BK416.out 0).trans rfl
     have hcz17_1 : wc.cell? ⟨gb416, 1, none⟩ = some (.int .i64 a0_1) := (zC BK416.out 1).trans rfl
     have hcz17_2 : wc.cell? ⟨gb416, 2, none⟩ = some (.int .i64 a0_2) := (zC BK416.out 2).trans rfl
     have hcz17_3 : wc.cell? ⟨gb416, 3, none⟩ = some (.int .i64 a0_3) := (zC BK416.out 3).trans rfl
     have hcz17_4 : wc.cell? ⟨gb416, 4, none⟩ = some (.int .i64 a0_4) := (zC BK416.out 4).trans rfl
     have hcz17_5 : wc.cell? ⟨gb416, 5, none⟩ = some (.bool a0_5) := (zC BK416.out 5).trans rfl
     have hcz17_6 : wc.cell? ⟨gb416, 6, none⟩ = some (.bool a0_6) := (zC BK416.out 6).trans rfl
     have hcz17_7 : wc.cell? ⟨gb416, 7, none⟩ = some (.string a0_7) := (zC BK416.out 7).trans rfl
     have hcz17_8 : wc.cell? ⟨gb416, 8, none⟩ = some (.string a0_8) := (zC BK416.out 8).trans rfl
     have hcz17_9 : wc.cell? ⟨gb416, 9, none⟩ = some (.string a0_9) := (zC BK416.out 9).trans rfl
     have hfz17_0 := zF BK416.out 0
     have hfz17_1 := zF BK416.out 1
     have hfz17_2 := zF BK416.out 2
     have hfz17_3 := zF BK416.out 3
     have hfz17_4 := zF BK416.out 4
     have hfz17_5 := zF BK416.out 5
     have hfz17_6 := zF BK416.out 6
     have hfz17_7 := zF BK416.out 7
     have hfz17_8 := zF BK416.out 8
     have hfz17_9 := zF BK416.out 9
     go_upto_if 29 with (fail)
     go_cut [7] (fun v7 wc => ∃ (kq : Nat) (x7_15 : Int), v7 = .int .i64 x7_15 ∧ Aside0 (palanquinref05_Put.j1 kq a1 (wrap64 ((wrap64 (20 + (a0_9.size : Int))) + (a1.size : Int))) x7_15 a0_0 a0_1 a0_2 a0_3 a0_4 a0_5 a0_6 a0_7 a0_8 a0_9 = some (r1, r2)) ∧ Aside0 (kq ≤ kj9) ∧ Aside0 (wc.heap[gb416]? = some (.cells #[.int .i64 a0_0, .int .i64 a0_1, .int .i64 a0_2, .int .i64 a0_3, .int .i64 a0_4, .bool a0_5, .bool a0_6, .string a0_7, .string a0_8, .string a0_9] 93 (0, 0))) ∧ Aside0 (Below w.heap.size w wc))
     case first =>
      have H := HC16.out
      clear HC16
      by_cases c18 : a0_6 = true
      ·subst c18
       have H1 : (palanquinref05_Put.j1 kj9 a1 (wrap64 ((wrap64 (20 + (a0_9.size : Int))) + (a1.size : Int))) (wrap64 (x7_9 + 8192)) a0_0 a0_1 a0_2 a0_3 a0_4 a0_5 true a0_7 a0_8 a0_9) = some (r1, r2) := by rw [if_pos rfl] at H; exact H
       clear H
       have H := H1
       clear H1
       have H' := mA H
       clear H
       go_wp2
       go_meet
       case rel => exact ⟨_, (wrap64 (x7_9 + 8192)), (by first | rfl | (simp; done) | (simp [*]; done)), H', ⟨by have := HJ9.out; first | omega | exact Nat.le_refl _⟩, ⟨by (with_reducible repeat (first | apply kN | apply kD | apply kA)); exact BK416.out⟩, ⟨by repeat (first | (with_reducible first | exact HB.out | apply bA | apply bN | apply bD | refine bS ?_ GE416.out) | exact HB.out)⟩⟩
      ·replace c18 := Bool.eq_false_iff.mpr c18
       subst c18
       have H1 : (palanquinref05_Put.j1 kj9 a1 (wrap64 ((wrap64 (20 + (a0_9.size : Int))) + (a1.size : Int))) x7_9 a0_0 a0_1 a0_2 a0_3 a0_4 a0_5 false a0_7 a0_8 a0_9) = some (r1, r2) := by rw [if_neg (show ¬ (false = true) by decide)] at H; exact H
       clear H
       have H := H1
       clear H1
       have H' := mA H
       clear H
       go_wp2
       go_meet
       case rel => exact ⟨_, (x7_9), (by first | rfl | (simp; done) | (simp [*]; done)), H', ⟨by have := HJ9.out; first | omega | exact Nat.le_refl _⟩, ⟨by (with_reducible repeat (first | apply kN | apply kD | apply kA)); exact BK416.out⟩, ⟨by repeat (first | (with_reducible first | exact HB.out | apply bA | apply bN | apply bD | refine bS ?_ GE416.out) | exact HB.out)⟩⟩
     case rest =>
      clear HC16
      try clear c1
      try clear p2
      try clear c4
      try clear c5
      try clear c5b0
      try clear p6
      try clear c8
      try clear c15
      try clear c18
      try clear hcz12_0
      try clear hcz12_1
      try clear hcz12_2
      try clear hcz12_3
      try clear hcz12_4
      try clear hcz12_5
      try clear hcz12_6
      try clear hcz12_7
      try clear hcz12_8
      try clear hcz12_9
      try clear hcz14_0
      try clear hcz14_1
      try clear hcz14_2
      try clear hcz14_3
      try clear hcz14_4
      try clear hcz14_5
      try clear hcz14_6
      try clear hcz14_7
      try clear hcz14_8
      try clear hcz14_9
      try clear hcz17_0
      try clear hcz17_1
      try clear hcz17_2
      try clear hcz17_3
      try clear hcz17_4
      try clear hcz17_5
      try clear hcz17_6
      try clear hcz17_7
      try clear hcz17_8
      try clear hcz17_9
      try clear hcz7_0
      try clear hcz7_1
      try clear hcz7_2
      try clear hcz7_3
      try clear hcz7_4
      try clear hcz7_5
      try clear hcz7_6
      try clear hcz7_7
      try clear hcz7_8
      try clear hcz7_9
      try clear hcz9_0
      try clear hcz9_1
      try clear hcz9_2
      try clear hcz9_3
      try clear hcz9_4
      try clear hcz9_5
      try clear hcz9_6
      try clear hcz9_7
      try clear hcz9_8
      try clear hcz9_9
      try clear hfz12_0
      try clear hfz12_1
      try clear hfz12_2
      try clear hfz12_3
      try clear hfz12_4
      try clear hfz12_5
      try clear hfz12_6
      try clear hfz12_7
      try clear hfz12_8
      try clear hfz12_9
      try clear hfz14_0
      try clear hfz14_1
      try clear hfz14_2
      try clear hfz14_3
      try clear hfz14_4
      try clear hfz14_5
      try clear hfz14_6
      try clear hfz14_7
      try clear hfz14_8
      try clear hfz14_9
      try clear hfz17_0
      try clear hfz17_1
      try clear hfz17_2
      try clear hfz17_3
      try clear hfz17_4
      try clear hfz17_5
      try clear hfz17_6
      try clear hfz17_7
      try clear hfz17_8
      try clear hfz17_9
      try clear hfz7_0
      try clear hfz7_1
      try clear hfz7_2
      try clear hfz7_3
      try clear hfz7_4
      try clear hfz7_5
      try clear hfz7_6
      try clear hfz7_7
      try clear hfz7_8
      try clear hfz7_9
      try clear hfz9_0
      try clear hfz9_1
      try clear hfz9_2
      try clear hfz9_3
      try clear hfz9_4
      try clear hfz9_5
      try clear hfz9_6
      try clear hfz9_7
      try clear hfz9_8
      try clear hfz9_9
      try clear p2
      try clear p6
      obtain ⟨kq, x7_15, rfl, HA, HJ15, BK416, HB⟩ := hcut
      cases kq with
      | zero => exact absurd HA.out (by simp [palanquinref05_Put.j1])
      | succ kj15 =>
       have H := HA.out
       clear HA
       simp only [palanquinref05_Put.j1] at H
       replace H := Option.bind_eq_some_iff.mp H
       obtain ⟨t418, A190, H⟩ := H
       replace H : ((palanquinref05_num.f kj15 a0_0 1).bind fun t419 => (if t418.size + t419.size ≤ 9223372036854775807 then ((palanquinref05_num.f kj15 (wrap64 ((wrap64 (20 + (a0_9.size : Int))) + (a1.size : Int))) 2).bind fun t420 => (if (t418 ++ t419).size + t420.size ≤ 9223372036854775807 then ((palanquinref05_num.f kj15 a0_1 2).bind fun t421 => (if ((t418 ++ t419) ++ t420).size + t421.size ≤ 9223372036854775807 then ((palanquinref05_num.f kj15 x7_15 2).bind fun t422 => (if (((t418 ++ t419) ++ t420) ++ t421).size + t422.size ≤ 9223372036854775807 then ((palanquinref05_num.f kj15 a0_3 1).bind fun t423 => (if ((((t418 ++ t419) ++ t420) ++ t421) ++ t422).size + t423.size ≤ 9223372036854775807 then ((palanquinref05_num.f kj15 a0_4 1).bind fun t424 => (if (((((t418 ++ t419) ++ t420) ++ t421) ++ t422) ++ t423).size + t424.size ≤ 9223372036854775807 then (if a0_7.size + a0_8.size ≤ 9223372036854775807 then (if (a0_7 ++ a0_8).size + a0_9.size ≤ 9223372036854775807 then (if ((((((t418 ++ t419) ++ t420) ++ t421) ++ t422) ++ t423) ++ t424).size + 2 ≤ 9223372036854775807 then (if (((((((t418 ++ t419) ++ t420) ++ t421) ++ t422) ++ t423) ++ t424) ++ (⟨#[0, 0]⟩ : ByteArray)).size + ((a0_7 ++ a0_8) ++ a0_9).size ≤ 9223372036854775807 then ((palanquinref02_Sum.f kj15 ((((((((t418 ++ t419) ++ t420) ++ t421) ++ t422) ++ t423) ++ t424) ++ (⟨#[0, 0]⟩ : ByteArray)) ++ ((a0_7 ++ a0_8) ++ a0_9))).bind fun t425 => ((palanquinref05_num.f kj15 t425 2).bind fun t426 => (if ((((((t418 ++ t419) ++ t420) ++ t421) ++ t422) ++ t423) ++ t424).size + t426.size ≤ 9223372036854775807 then (if (((((((t418 ++ t419) ++ t420) ++ t421) ++ t422) ++ t423) ++ t424) ++ t426).size + ((a0_7 ++ a0_8) ++ a0_9).size ≤ 9223372036854775807 then (if ((((((((t418 ++ t419) ++ t420) ++ t421) ++ t422) ++ t423) ++ t424) ++ t426) ++ ((a0_7 ++ a0_8) ++ a0_9)).size + a1.size ≤ 9223372036854775807 then (some (((((((((t418 ++ t419) ++ t420) ++ t421) ++ t422) ++ t423) ++ t424) ++ t426) ++ ((a0_7 ++ a0_8) ++ a0_9)) ++ a1, 0)) else (none)) else (none)) else (none)))) else (none)) else (none)) else (none)) else (none)) else (none))) else (none))) else (none))) else (none))) else (none))) else (none))) = some (r1, r2) := H
       have A19 := mA A190
       clear A190
       replace H := Option.bind_eq_some_iff.mp H
       obtain ⟨t419, A200, H⟩ := H
       replace H : (if t418.size + t419.size ≤ 9223372036854775807 then ((palanquinref05_num.f kj15 (wrap64 ((wrap64 (20 + (a0_9.size : Int))) + (a1.size : Int))) 2).bind fun t420 => (if (t418 ++ t419).size + t420.size ≤ 9223372036854775807 then ((palanquinref05_num.f kj15 a0_1 2).bind fun t421 => (if ((t418 ++ t419) ++ t420).size + t421.size ≤ 9223372036854775807 then ((palanquinref05_num.f kj15 x7_15 2).bind fun t422 => (if (((t418 ++ t419) ++ t420) ++ t421).size + t422.size ≤ 9223372036854775807 then ((palanquinref05_num.f kj15 a0_3 1).bind fun t423 => (if ((((t418 ++ t419) ++ t420) ++ t421) ++ t422).size + t423.size ≤ 9223372036854775807 then ((palanquinref05_num.f kj15 a0_4 1).bind fun t424 => (if (((((t418 ++ t419) ++ t420) ++ t421) ++ t422) ++ t423).size + t424.size ≤ 9223372036854775807 then (if a0_7.size + a0_8.size ≤ 9223372036854775807 then (if (a0_7 ++ a0_8).size + a0_9.size ≤ 9223372036854775807 then (if ((((((t418 ++ t419) ++ t420) ++ t421) ++ t422) ++ t423) ++ t424).size + 2 ≤ 9223372036854775807 then (if (((((((t418 ++ t419) ++ t420) ++ t421) ++ t422) ++ t423) ++ t424) ++ (⟨#[0, 0]⟩ : ByteArray)).size + ((a0_7 ++ a0_8) ++ a0_9).size ≤ 9223372036854775807 then ((palanquinref02_Sum.f kj15 ((((((((t418 ++ t419) ++ t420) ++ t421) ++ t422) ++ t423) ++ t424) ++ (⟨#[0, 0]⟩ : ByteArray)) ++ ((a0_7 ++ a0_8) ++ a0_9))).bind fun t425 => ((palanquinref05_num.f kj15 t425 2).bind fun t426 => (if ((((((t418 ++ t419) ++ t420) ++ t421) ++ t422) ++ t423) ++ t424).size + t426.size ≤ 9223372036854775807 then (if (((((((t418 ++ t419) ++ t420) ++ t421) ++ t422) ++ t423) ++ t424) ++ t426).size + ((a0_7 ++ a0_8) ++ a0_9).size ≤ 9223372036854775807 then (if ((((((((t418 ++ t419) ++ t420) ++ t421) ++ t422) ++ t423) ++ t424) ++ t426) ++ ((a0_7 ++ a0_8) ++ a0_9)).size + a1.size ≤ 9223372036854775807 then (some (((((((((t418 ++ t419) ++ t420) ++ t421) ++ t422) ++ t423) ++ t424) ++ t426) ++ ((a0_7 ++ a0_8) ++ a0_9)) ++ a1, 0)) else (none)) else (none)) else (none)))) else (none)) else (none)) else (none)) else (none)) else (none))) else (none))) else (none))) else (none))) else (none))) else (none)) = some (r1, r2) := H
       have A20 := mA A200
       clear A200
       by_cases c21 : t418.size + t419.size ≤ 9223372036854775807
       ·rw [if_pos c21] at H
        have c21b0 := eq_true c21
        have c21b1 : decide (t418.size + t419.size ≤ 9223372036854775807) = true := decide_eq_true c21
        try have c21b2 : (9223372036854775807 < t418.size + t419.size) = False := eq_false (Nat.not_lt.2 c21)
        replace H := Option.bind_eq_some_iff.mp H
        obtain ⟨t420, A220, H⟩ := H
        replace H : (if (t418 ++ t419).size + t420.size ≤ 9223372036854775807 then ((palanquinref05_num.f kj15 a0_1 2).bind fun t421 => (if ((t418 ++ t419) ++ t420).size + t421.size ≤ 9223372036854775807 then ((palanquinref05_num.f kj15 x7_15 2).bind fun t422 => (if (((t418 ++ t419) ++ t420) ++ t421).size + t422.size ≤ 9223372036854775807 then ((palanquinref05_num.f kj15 a0_3 1).bind fun t423 => (if ((((t418 ++ t419) ++ t420) ++ t421) ++ t422).size + t423.size ≤ 9223372036854775807 then ((palanquinref05_num.f kj15 a0_4 1).bind fun t424 => (if (((((t418 ++ t419) ++ t420) ++ t421) ++ t422) ++ t423).size + t424.size ≤ 9223372036854775807 then (if a0_7.size + a0_8.size ≤ 9223372036854775807 then (if (a0_7 ++ a0_8).size + a0_9.size ≤ 9223372036854775807 then (if ((((((t418 ++ t419) ++ t420) ++ t421) ++ t422) ++ t423) ++ t424).size + 2 ≤ 9223372036854775807 then (if (((((((t418 ++ t419) ++ t420) ++ t421) ++ t422) ++ t423) ++ t424) ++ (⟨#[0, 0]⟩ : ByteArray)).size + ((a0_7 ++ a0_8) ++ a0_9).size ≤ 9223372036854775807 then ((palanquinref02_Sum.f kj15 ((((((((t418 ++ t419) ++ t420) ++ t421) ++ t422) ++ t423) ++ t424) ++ (⟨#[0, 0]⟩ : ByteArray)) ++ ((a0_7 ++ a0_8) ++ a0_9))).bind fun t425 => ((palanquinref05_num.f kj15 t425 2).bind fun t426 => (if ((((((t418 ++ t419) ++ t420) ++ t421) ++ t422) ++ t423) ++ t424).size + t426.size ≤ 9223372036854775807 then (if (((((((t418 ++ t419) ++ t420) ++ t421) ++ t422) ++ t423) ++ t424) ++ t426).size + ((a0_7 ++ a0_8) ++ a0_9).size ≤ 9223372036854775807 then (if ((((((((t418 ++ t419) ++ t420) ++ t421) ++ t422) ++ t423) ++ t424) ++ t426) ++ ((a0_7 ++ a0_8) ++ a0_9)).size + a1.size ≤ 9223372036854775807 then (some (((((((((t418 ++ t419) ++ t420) ++ t421) ++ t422) ++ t423) ++ t424) ++ t426) ++ ((a0_7 ++ a0_8) ++ a0_9)) ++ a1, 0)) else (none)) else (none)) else (none)))) else (none)) else (none)) else (none)) else (none)) else (none))) else (none))) else (none))) else (none))) else (none)) = some (r1, r2) := H
        have A22 := mA A220
        clear A220
        by_cases c23 : (t418 ++ t419).size + t420.size ≤ 9223372036854775807
        ·rw [if_pos c23] at H
         have c23b0 := eq_true c23
         have c23b1 : decide ((t418 ++ t419).size + t420.size ≤ 9223372036854775807) = true := decide_eq_true c23
         try have c23b2 : (9223372036854775807 < (t418 ++ t419).size + t420.size) = False := eq_false (Nat.not_lt.2 c23)
         try have c23b3 : (9223372036854775807 < (t418.size) + (t419.size) + t420.size) = False := eq_false (by have h_ := c23; simp only [ByteArray.size_append] at h_; omega)
         try have c23b4 : ((t418.size) + (t419.size) + t420.size ≤ 9223372036854775807) = True := eq_true (by have h_ := c23; simp only [ByteArray.size_append] at h_; omega)
         replace H := Option.bind_eq_some_iff.mp H
         obtain ⟨t421, A240, H⟩ := H
         replace H : (if ((t418 ++ t419) ++ t420).size + t421.size ≤ 9223372036854775807 then ((palanquinref05_num.f kj15 x7_15 2).bind fun t422 => (if (((t418 ++ t419) ++ t420) ++ t421).size + t422.size ≤ 9223372036854775807 then ((palanquinref05_num.f kj15 a0_3 1).bind fun t423 => (if ((((t418 ++ t419) ++ t420) ++ t421) ++ t422).size + t423.size ≤ 9223372036854775807 then ((palanquinref05_num.f kj15 a0_4 1).bind fun t424 => (if (((((t418 ++ t419) ++ t420) ++ t421) ++ t422) ++ t423).size + t424.size ≤ 9223372036854775807 then (if a0_7.size + a0_8.size ≤ 9223372036854775807 then (if (a0_7 ++ a0_8).size + a0_9.size ≤ 9223372036854775807 then (if ((((((t418 ++ t419) ++ t420) ++ t421) ++ t422) ++ t423) ++ t424).size + 2 ≤ 9223372036854775807 then (if (((((((t418 ++ t419) ++ t420) ++ t421) ++ t422) ++ t423) ++ t424) ++ (⟨#[0, 0]⟩ : ByteArray)).size + ((a0_7 ++ a0_8) ++ a0_9).size ≤ 9223372036854775807 then ((palanquinref02_Sum.f kj15 ((((((((t418 ++ t419) ++ t420) ++ t421) ++ t422) ++ t423) ++ t424) ++ (⟨#[0, 0]⟩ : ByteArray)) ++ ((a0_7 ++ a0_8) ++ a0_9))).bind fun t425 => ((palanquinref05_num.f kj15 t425 2).bind fun t426 => (if ((((((t418 ++ t419) ++ t420) ++ t421) ++ t422) ++ t423) ++ t424).size + t426.size ≤ 9223372036854775807 then (if (((((((t418 ++ t419) ++ t420) ++ t421) ++ t422) ++ t423) ++ t424) ++ t426).size + ((a0_7 ++ a0_8) ++ a0_9).size ≤ 9223372036854775807 then (if ((((((((t418 ++ t419) ++ t420) ++ t421) ++ t422) ++ t423) ++ t424) ++ t426) ++ ((a0_7 ++ a0_8) ++ a0_9)).size + a1.size ≤ 9223372036854775807 then (some (((((((((t418 ++ t419) ++ t420) ++ t421) ++ t422) ++ t423) ++ t424) ++ t426) ++ ((a0_7 ++ a0_8) ++ a0_9)) ++ a1, 0)) else (none)) else (none)) else (none)))) else (none)) else (none)) else (none)) else (none)) else (none))) else (none))) else (none))) else (none)) = some (r1, r2) := H
         have A24 := mA A240
         clear A240
         by_cases c25 : ((t418 ++ t419) ++ t420).size + t421.size ≤ 9223372036854775807
         ·rw [if_pos c25] at H
          have c25b0 := eq_true c25
          have c25b1 : decide (((t418 ++ t419) ++ t420).size + t421.size ≤ 9223372036854775807) = true := decide_eq_true c25
          try have c25b2 : (9223372036854775807 < ((t418 ++ t419) ++ t420).size + t421.size) = False := eq_false (Nat.not_lt.2 c25)
          try have c25b3 : (9223372036854775807 < (t418.size) + (t419.size) + (t420.size) + t421.size) = False := eq_false (by have h_ := c25; simp only [ByteArray.size_append] at h_; omega)
          try have c25b4 : ((t418.size) + (t419.size) + (t420.size) + t421.size ≤ 9223372036854775807) = True := eq_true (by have h_ := c25; simp only [ByteArray.size_append] at h_; omega)
          replace H := Option.bind_eq_some_iff.mp H
          obtain ⟨t422, A260, H⟩ := H
          replace H : (if (((t418 ++ t419) ++ t420) ++ t421).size + t422.size ≤ 9223372036854775807 then ((palanquinref05_num.f kj15 a0_3 1).bind fun t423 => (if ((((t418 ++ t419) ++ t420) ++ t421) ++ t422).size + t423.size ≤ 9223372036854775807 then ((palanquinref05_num.f kj15 a0_4 1).bind fun t424 => (if (((((t418 ++ t419) ++ t420) ++ t421) ++ t422) ++ t423).size + t424.size ≤ 9223372036854775807 then (if a0_7.size + a0_8.size ≤ 9223372036854775807 then (if (a0_7 ++ a0_8).size + a0_9.size ≤ 9223372036854775807 then (if ((((((t418 ++ t419) ++ t420) ++ t421) ++ t422) ++ t423) ++ t424).size + 2 ≤ 9223372036854775807 then (if (((((((t418 ++ t419) ++ t420) ++ t421) ++ t422) ++ t423) ++ t424) ++ (⟨#[0, 0]⟩ : ByteArray)).size + ((a0_7 ++ a0_8) ++ a0_9).size ≤ 9223372036854775807 then ((palanquinref02_Sum.f kj15 ((((((((t418 ++ t419) ++ t420) ++ t421) ++ t422) ++ t423) ++ t424) ++ (⟨#[0, 0]⟩ : ByteArray)) ++ ((a0_7 ++ a0_8) ++ a0_9))).bind fun t425 => ((palanquinref05_num.f kj15 t425 2).bind fun t426 => (if ((((((t418 ++ t419) ++ t420) ++ t421) ++ t422) ++ t423) ++ t424).size + t426.size ≤ 9223372036854775807 then (if (((((((t418 ++ t419) ++ t420) ++ t421) ++ t422) ++ t423) ++ t424) ++ t426).size + ((a0_7 ++ a0_8) ++ a0_9).size ≤ 9223372036854775807 then (if ((((((((t418 ++ t419) ++ t420) ++ t421) ++ t422) ++ t423) ++ t424) ++ t426) ++ ((a0_7 ++ a0_8) ++ a0_9)).size + a1.size ≤ 9223372036854775807 then (some (((((((((t418 ++ t419) ++ t420) ++ t421) ++ t422) ++ t423) ++ t424) ++ t426) ++ ((a0_7 ++ a0_8) ++ a0_9)) ++ a1, 0)) else (none)) else (none)) else (none)))) else (none)) else (none)) else (none)) else (none)) else (none))) else (none))) else (none)) = some (r1, r2) := H
          have A26 := mA A260
          clear A260
          by_cases c27 : (((t418 ++ t419) ++ t420) ++ t421).size + t422.size ≤ 9223372036854775807
          ·rw [if_pos c27] at H
           have c27b0 := eq_true c27
           have c27b1 : decide ((((t418 ++ t419) ++ t420) ++ t421).size + t422.size ≤ 9223372036854775807) = true := decide_eq_true c27
           try have c27b2 : (9223372036854775807 < (((t418 ++ t419) ++ t420) ++ t421).size + t422.size) = False := eq_false (Nat.not_lt.2 c27)
           try have c27b3 : (9223372036854775807 < (t418.size) + (t419.size) + (t420.size) + (t421.size) + t422.size) = False := eq_false (by have h_ := c27; simp only [ByteArray.size_append] at h_; omega)
           try have c27b4 : ((t418.size) + (t419.size) + (t420.size) + (t421.size) + t422.size ≤ 9223372036854775807) = True := eq_true (by have h_ := c27; simp only [ByteArray.size_append] at h_; omega)
           replace H := Option.bind_eq_some_iff.mp H
           obtain ⟨t423, A280, H⟩ := H
           replace H : (if ((((t418 ++ t419) ++ t420) ++ t421) ++ t422).size + t423.size ≤ 9223372036854775807 then ((palanquinref05_num.f kj15 a0_4 1).bind fun t424 => (if (((((t418 ++ t419) ++ t420) ++ t421) ++ t422) ++ t423).size + t424.size ≤ 9223372036854775807 then (if a0_7.size + a0_8.size ≤ 9223372036854775807 then (if (a0_7 ++ a0_8).size + a0_9.size ≤ 9223372036854775807 then (if ((((((t418 ++ t419) ++ t420) ++ t421) ++ t422) ++ t423) ++ t424).size + 2 ≤ 9223372036854775807 then (if (((((((t418 ++ t419) ++ t420) ++ t421) ++ t422) ++ t423) ++ t424) ++ (⟨#[0, 0]⟩ : ByteArray)).size + ((a0_7 ++ a0_8) ++ a0_9).size ≤ 9223372036854775807 then ((palanquinref02_Sum.f kj15 ((((((((t418 ++ t419) ++ t420) ++ t421) ++ t422) ++ t423) ++ t424) ++ (⟨#[0, 0]⟩ : ByteArray)) ++ ((a0_7 ++ a0_8) ++ a0_9))).bind fun t425 => ((palanquinref05_num.f kj15 t425 2).bind fun t426 => (if ((((((t418 ++ t419) ++ t420) ++ t421) ++ t422) ++ t423) ++ t424).size + t426.size ≤ 9223372036854775807 then (if (((((((t418 ++ t419) ++ t420) ++ t421) ++ t422) ++ t423) ++ t424) ++ t426).size + ((a0_7 ++ a0_8) ++ a0_9).size ≤ 9223372036854775807 then (if ((((((((t418 ++ t419) ++ t420) ++ t421) ++ t422) ++ t423) ++ t424) ++ t426) ++ ((a0_7 ++ a0_8) ++ a0_9)).size + a1.size ≤ 9223372036854775807 then (some (((((((((t418 ++ t419) ++ t420) ++ t421) ++ t422) ++ t423) ++ t424) ++ t426) ++ ((a0_7 ++ a0_8) ++ a0_9)) ++ a1, 0)) else (none)) else (none)) else (none)))) else (none)) else (none)) else (none)) else (none)) else (none))) else (none)) = some (r1, r2) := H
           have A28 := mA A280
           clear A280
           by_cases c29 : ((((t418 ++ t419) ++ t420) ++ t421) ++ t422).size + t423.size ≤ 9223372036854775807
           ·rw [if_pos c29] at H
            have c29b0 := eq_true c29
            have c29b1 : decide (((((t418 ++ t419) ++ t420) ++ t421) ++ t422).size + t423.size ≤ 9223372036854775807) = true := decide_eq_true c29
            try have c29b2 : (9223372036854775807 < ((((t418 ++ t419) ++ t420) ++ t421) ++ t422).size + t423.size) = False := eq_false (Nat.not_lt.2 c29)
            try have c29b3 : (9223372036854775807 < (t418.size) + (t419.size) + (t420.size) + (t421.size) + (t422.size) + t423.size) = False := eq_false (by have h_ := c29; simp only [ByteArray.size_append] at h_; omega)
            try have c29b4 : ((t418.size) + (t419.size) + (t420.size) + (t421.size) + (t422.size) + t423.size ≤ 9223372036854775807) = True := eq_true (by have h_ := c29; simp only [ByteArray.size_append] at h_; omega)
            replace H := Option.bind_eq_some_iff.mp H
            obtain ⟨t424, A300, H⟩ := H
            replace H : (if (((((t418 ++ t419) ++ t420) ++ t421) ++ t422) ++ t423).size + t424.size ≤ 9223372036854775807 then (if a0_7.size + a0_8.size ≤ 9223372036854775807 then (if (a0_7 ++ a0_8).size + a0_9.size ≤ 9223372036854775807 then (if ((((((t418 ++ t419) ++ t420) ++ t421) ++ t422) ++ t423) ++ t424).size + 2 ≤ 9223372036854775807 then (if (((((((t418 ++ t419) ++ t420) ++ t421) ++ t422) ++ t423) ++ t424) ++ (⟨#[0, 0]⟩ : ByteArray)).size + ((a0_7 ++ a0_8) ++ a0_9).size ≤ 9223372036854775807 then ((palanquinref02_Sum.f kj15 ((((((((t418 ++ t419) ++ t420) ++ t421) ++ t422) ++ t423) ++ t424) ++ (⟨#[0, 0]⟩ : ByteArray)) ++ ((a0_7 ++ a0_8) ++ a0_9))).bind fun t425 => ((palanquinref05_num.f kj15 t425 2).bind fun t426 => (if ((((((t418 ++ t419) ++ t420) ++ t421) ++ t422) ++ t423) ++ t424).size + t426.size ≤ 9223372036854775807 then (if (((((((t418 ++ t419) ++ t420) ++ t421) ++ t422) ++ t423) ++ t424) ++ t426).size + ((a0_7 ++ a0_8) ++ a0_9).size ≤ 9223372036854775807 then (if ((((((((t418 ++ t419) ++ t420) ++ t421) ++ t422) ++ t423) ++ t424) ++ t426) ++ ((a0_7 ++ a0_8) ++ a0_9)).size + a1.size ≤ 9223372036854775807 then (some (((((((((t418 ++ t419) ++ t420) ++ t421) ++ t422) ++ t423) ++ t424) ++ t426) ++ ((a0_7 ++ a0_8) ++ a0_9)) ++ a1, 0)) else (none)) else (none)) else (none)))) else (none)) else (none)) else (none)) else (none)) else (none)) = some (r1, r2) := H
            have A30 := mA A300
            clear A300
            by_cases c31 : (((((t418 ++ t419) ++ t420) ++ t421) ++ t422) ++ t423).size + t424.size ≤ 9223372036854775807
            ·rw [if_pos c31] at H
             have c31b0 := eq_true c31
             have c31b1 : decide ((((((t418 ++ t419) ++ t420) ++ t421) ++ t422) ++ t423).size + t424.size ≤ 9223372036854775807) = true := decide_eq_true c31
             try have c31b2 : (9223372036854775807 < (((((t418 ++ t419) ++ t420) ++ t421) ++ t422) ++ t423).size + t424.size) = False := eq_false (Nat.not_lt.2 c31)
             try have c31b3 : (9223372036854775807 < (t418.size) + (t419.size) + (t420.size) + (t421.size) + (t422.size) + (t423.size) + t424.size) = False := eq_false (by have h_ := c31; simp only [ByteArray.size_append] at h_; omega)
             try have c31b4 : ((t418.size) + (t419.size) + (t420.size) + (t421.size) + (t422.size) + (t423.size) + t424.size ≤ 9223372036854775807) = True := eq_true (by have h_ := c31; simp only [ByteArray.size_append] at h_; omega)
             by_cases c32 : a0_7.size + a0_8.size ≤ 9223372036854775807
             ·rw [if_pos c32] at H
              have c32b0 := eq_true c32
              have c32b1 : decide (a0_7.size + a0_8.size ≤ 9223372036854775807) = true := decide_eq_true c32
              try have c32b2 : (9223372036854775807 < a0_7.size + a0_8.size) = False := eq_false (Nat.not_lt.2 c32)
              by_cases c33 : (a0_7 ++ a0_8).size + a0_9.size ≤ 9223372036854775807
              ·rw [if_pos c33] at H
               have c33b0 := eq_true c33
               have c33b1 : decide ((a0_7 ++ a0_8).size + a0_9.size ≤ 9223372036854775807) = true := decide_eq_true c33
               try have c33b2 : (9223372036854775807 < (a0_7 ++ a0_8).size + a0_9.size) = False := eq_false (Nat.not_lt.2 c33)
               try have c33b3 : (9223372036854775807 < (a0_7.size) + (a0_8.size) + a0_9.size) = False := eq_false (by have h_ := c33; simp only [ByteArray.size_append] at h_; omega)
               try have c33b4 : ((a0_7.size) + (a0_8.size) + a0_9.size ≤ 9223372036854775807) = True := eq_true (by have h_ := c33; simp only [ByteArray.size_append] at h_; omega)
               by_cases c34 : ((((((t418 ++ t419) ++ t420) ++ t421) ++ t422) ++ t423) ++ t424).size + 2 ≤ 9223372036854775807
               ·rw [if_pos c34] at H
                have c34b0 := eq_true c34
                have c34b1 : decide (((((((t418 ++ t419) ++ t420) ++ t421) ++ t422) ++ t423) ++ t424).size + 2 ≤ 9223372036854775807) = true := decide_eq_true c34
                try have c34b2 : (9223372036854775807 < ((((((t418 ++ t419) ++ t420) ++ t421) ++ t422) ++ t423) ++ t424).size + 2) = False := eq_false (Nat.not_lt.2 c34)
                try have c34b3 : (9223372036854775807 < (t418.size) + (t419.size) + (t420.size) + (t421.size) + (t422.size) + (t423.size) + (t424.size) + 2) = False := eq_false (by have h_ := c34; simp only [ByteArray.size_append] at h_; omega)
                try have c34b4 : ((t418.size) + (t419.size) + (t420.size) + (t421.size) + (t422.size) + (t423.size) + (t424.size) + 2 ≤ 9223372036854775807) = True := eq_true (by have h_ := c34; simp only [ByteArray.size_append] at h_; omega)
                by_cases c35 : (((((((t418 ++ t419) ++ t420) ++ t421) ++ t422) ++ t423) ++ t424) ++ (⟨#[0, 0]⟩ : ByteArray)).size + ((a0_7 ++ a0_8) ++ a0_9).size ≤ 9223372036854775807
                ·rw [if_pos c35] at H
                 have c35b0 := eq_true c35
                 have c35b1 : decide ((((((((t418 ++ t419) ++ t420) ++ t421) ++ t422) ++ t423) ++ t424) ++ (⟨#[0, 0]⟩ : ByteArray)).size + ((a0_7 ++ a0_8) ++ a0_9).size ≤ 9223372036854775807) = true := decide_eq_true c35
                 try have c35b2 : (9223372036854775807 < (((((((t418 ++ t419) ++ t420) ++ t421) ++ t422) ++ t423) ++ t424) ++ (⟨#[0, 0]⟩ : ByteArray)).size + ((a0_7 ++ a0_8) ++ a0_9).size) = False := eq_false (Nat.not_lt.2 c35)
                 try have c35b3 : (9223372036854775807 < (t418.size) + (t419.size) + (t420.size) + (t421.size) + (t422.size) + (t423.size) + (t424.size) + 2 + ((a0_7.size) + (a0_8.size) + (a0_9.size))) = False := eq_false (by have h_ := c35; simp only [ByteArray.size_append] at h_; omega)
                 try have c35b4 : ((t418.size) + (t419.size) + (t420.size) + (t421.size) + (t422.size) + (t423.size) + (t424.size) + 2 + ((a0_7.size) + (a0_8.size) + (a0_9.size)) ≤ 9223372036854775807) = True := eq_true (by have h_ := c35; simp only [ByteArray.size_append] at h_; omega)
                 replace H := Option.bind_eq_some_iff.mp H
                 obtain ⟨t425, A360, H⟩ := H
                 replace H : ((palanquinref05_num.f kj15 t425 2).bind fun t426 => (if ((((((t418 ++ t419) ++ t420) ++ t421) ++ t422) ++ t423) ++ t424).size + t426.size ≤ 9223372036854775807 then (if (((((((t418 ++ t419) ++ t420) ++ t421) ++ t422) ++ t423) ++ t424) ++ t426).size + ((a0_7 ++ a0_8) ++ a0_9).size ≤ 9223372036854775807 then (if ((((((((t418 ++ t419) ++ t420) ++ t421) ++ t422) ++ t423) ++ t424) ++ t426) ++ ((a0_7 ++ a0_8) ++ a0_9)).size + a1.size ≤ 9223372036854775807 then (some (((((((((t418 ++ t419) ++ t420) ++ t421) ++ t422) ++ t423) ++ t424) ++ t426) ++ ((a0_7 ++ a0_8) ++ a0_9)) ++ a1, 0)) else (none)) else (none)) else (none))) = some (r1, r2) := H
                 have A36 := mA A360
                 clear A360
                 replace H := Option.bind_eq_some_iff.mp H
                 obtain ⟨t426, A370, H⟩ := H
                 replace H : (if ((((((t418 ++ t419) ++ t420) ++ t421) ++ t422) ++ t423) ++ t424).size + t426.size ≤ 9223372036854775807 then (if (((((((t418 ++ t419) ++ t420) ++ t421) ++ t422) ++ t423) ++ t424) ++ t426).size + ((a0_7 ++ a0_8) ++ a0_9).size ≤ 9223372036854775807 then (if ((((((((t418 ++ t419) ++ t420) ++ t421) ++ t422) ++ t423) ++ t424) ++ t426) ++ ((a0_7 ++ a0_8) ++ a0_9)).size + a1.size ≤ 9223372036854775807 then (some (((((((((t418 ++ t419) ++ t420) ++ t421) ++ t422) ++ t423) ++ t424) ++ t426) ++ ((a0_7 ++ a0_8) ++ a0_9)) ++ a1, 0)) else (none)) else (none)) else (none)) = some (r1, r2) := H
                 have A37 := mA A370
                 clear A370
                 by_cases c38 : ((((((t418 ++ t419) ++ t420) ++ t421) ++ t422) ++ t423) ++ t424).size + t426.size ≤ 9223372036854775807
                 ·rw [if_pos c38] at H
                  have c38b0 := eq_true c38
                  have c38b1 : decide (((((((t418 ++ t419) ++ t420) ++ t421) ++ t422) ++ t423) ++ t424).size + t426.size ≤ 9223372036854775807) = true := decide_eq_true c38
                  try have c38b2 : (9223372036854775807 < ((((((t418 ++ t419) ++ t420) ++ t421) ++ t422) ++ t423) ++ t424).size + t426.size) = False := eq_false (Nat.not_lt.2 c38)
                  try have c38b3 : (9223372036854775807 < (t418.size) + (t419.size) + (t420.size) + (t421.size) + (t422.size) + (t423.size) + (t424.size) + t426.size) = False := eq_false (by have h_ := c38; simp only [ByteArray.size_append] at h_; omega)
                  try have c38b4 : ((t418.size) + (t419.size) + (t420.size) + (t421.size) + (t422.size) + (t423.size) + (t424.size) + t426.size ≤ 9223372036854775807) = True := eq_true (by have h_ := c38; simp only [ByteArray.size_append] at h_; omega)
                  by_cases c39 : (((((((t418 ++ t419) ++ t420) ++ t421) ++ t422) ++ t423) ++ t424) ++ t426).size + ((a0_7 ++ a0_8) ++ a0_9).size ≤ 9223372036854775807
                  ·rw [if_pos c39] at H
                   have c39b0 := eq_true c39
                   have c39b1 : decide ((((((((t418 ++ t419) ++ t420) ++ t421) ++ t422) ++ t423) ++ t424) ++ t426).size + ((a0_7 ++ a0_8) ++ a0_9).size ≤ 9223372036854775807) = true := decide_eq_true c39
                   try have c39b2 : (9223372036854775807 < (((((((t418 ++ t419) ++ t420) ++ t421) ++ t422) ++ t423) ++ t424) ++ t426).size + ((a0_7 ++ a0_8) ++ a0_9).size) = False := eq_false (Nat.not_lt.2 c39)
                   try have c39b3 : (9223372036854775807 < (t418.size) + (t419.size) + (t420.size) + (t421.size) + (t422.size) + (t423.size) + (t424.size) + (t426.size) + ((a0_7.size) + (a0_8.size) + (a0_9.size))) = False := eq_false (by have h_ := c39; simp only [ByteArray.size_append] at h_; omega)
                   try have c39b4 : ((t418.size) + (t419.size) + (t420.size) + (t421.size) + (t422.size) + (t423.size) + (t424.size) + (t426.size) + ((a0_7.size) + (a0_8.size) + (a0_9.size)) ≤ 9223372036854775807) = True := eq_true (by have h_ := c39; simp only [ByteArray.size_append] at h_; omega)
                   by_cases c40 : ((((((((t418 ++ t419) ++ t420) ++ t421) ++ t422) ++ t423) ++ t424) ++ t426) ++ ((a0_7 ++ a0_8) ++ a0_9)).size + a1.size ≤ 9223372036854775807
                   ·rw [if_pos c40] at H
                    have c40b0 := eq_true c40
                    have c40b1 : decide (((((((((t418 ++ t419) ++ t420) ++ t421) ++ t422) ++ t423) ++ t424) ++ t426) ++ ((a0_7 ++ a0_8) ++ a0_9)).size + a1.size ≤ 9223372036854775807) = true := decide_eq_true c40
                    try have c40b2 : (9223372036854775807 < ((((((((t418 ++ t419) ++ t420) ++ t421) ++ t422) ++ t423) ++ t424) ++ t426) ++ ((a0_7 ++ a0_8) ++ a0_9)).size + a1.size) = False := eq_false (Nat.not_lt.2 c40)
                    try have c40b3 : (9223372036854775807 < (t418.size) + (t419.size) + (t420.size) + (t421.size) + (t422.size) + (t423.size) + (t424.size) + (t426.size) + ((a0_7.size) + (a0_8.size) + (a0_9.size)) + a1.size) = False := eq_false (by have h_ := c40; simp only [ByteArray.size_append] at h_; omega)
                    try have c40b4 : ((t418.size) + (t419.size) + (t420.size) + (t421.size) + (t422.size) + (t423.size) + (t424.size) + (t426.size) + ((a0_7.size) + (a0_8.size) + (a0_9.size)) + a1.size ≤ 9223372036854775807) = True := eq_true (by have h_ := c40; simp only [ByteArray.size_append] at h_; omega)
                    simp only [Option.some.injEq, Prod.mk.injEq] at H
                    obtain ⟨rfl, rfl⟩ := H
                    try go_wp2
                    have n0_ := mA (kD BK416.out)
                    have n1_ := mA (bD HB.out)
                    clear BK416
                    clear HB
                    have BK416 := n0_
                    have HB := n1_
                    clear n0_ n1_
                    refine start_ (n := 29) (S := fun w' => w'.cell? ⟨gb416, 0, none⟩ = some (.int .i64 a0_0) ∧ w'.cell? ⟨gb416, 1, none⟩ = some (.int .i64 a0_1) ∧ w'.cell? ⟨gb416, 2, none⟩ = some (.int .i64 a0_2) ∧ w'.cell? ⟨gb416, 3, none⟩ = some (.int .i64 a0_3) ∧ w'.cell? ⟨gb416, 4, none⟩ = some (.int .i64 a0_4) ∧ w'.cell? ⟨gb416, 5, none⟩ = some (.bool a0_5) ∧ w'.cell? ⟨gb416, 6, none⟩ = some (.bool a0_6) ∧ w'.cell? ⟨gb416, 7, none⟩ = some (.string a0_7) ∧ w'.cell? ⟨gb416, 8, none⟩ = some (.string a0_8) ∧ w'.cell? ⟨gb416, 9, none⟩ = some (.string a0_9)) (ds := []) #[false, false, false, false, false, false, false, false, false, false, false, false, false, false, false, false, false, false, false, false, false, false, false, false, false, false, false, false, false] (by kernel_rfl) rfl rfl ⟨(zC BK416.out 0).trans rfl, (zC BK416.out 1).trans rfl, (zC BK416.out 2).trans rfl, (zC BK416.out 3).trans rfl, (zC BK416.out 4).trans rfl, (zC BK416.out 5).trans rfl, (zC BK416.out 6).trans rfl, (zC BK416.out 7).trans rfl, (zC BK416.out 8).trans rfl, (zC BK416.out 9).trans rfl⟩ (fun hHeld => ?_); refine with_tabW palanquinref05_Put.tab11 palanquinref05_Put.bits11 (fun HT_ HW_ => ?_)
                    generalize wc.drew = w41 at BK416 HB hHeld ⊢
                    refine pure_ (i := 0) (N := some 32) (v := ?_) (a' := ?_) #[true, false, false, false, false, false, false, false, false, false, false, false, false, false, false, false, false, false, false, false, false, false, false, false, false, false, false, false, false] rfl rfl (any_of HT_.out (by kernel_rfl)) (fun _ _ _ h => h) (Or.inl ⟨by rfl, ?_⟩) ?_ ?_
                    rotate_left
                    ·intro w'
                     go_simp
                     with_reducible rfl
                    rotate_left
                    ·simp only [Act.put, List.setIfInBounds_toArray, List.set_cons_zero, List.set_cons_succ, i64_w, i32_w]
                     rfl
                    refine pure_ (i := 6) (N := some 38) (v := ?_) (a' := ?_) #[true, false, false, false, false, false, true, false, false, false, false, false, false, false, false, false, false, false, false, false, false, false, false, false, false, false, false, false, false] rfl rfl (any_of HT_.out (by kernel_rfl)) (fun _ _ _ h => h) (Or.inl ⟨by rfl, ?_⟩) ?_ ?_
                    rotate_left
                    ·intro w'
                     go_simp
                     with_reducible rfl
                    rotate_left
                    ·simp only [Act.put, List.setIfInBounds_toArray, List.set_cons_zero, List.set_cons_succ, i64_w, i32_w]
                     rfl
                    refine pure_ (i := 10) (N := some 42) (v := ?_) (a' := ?_) #[true, false, false, false, false, false, true, false, false, false, true, false, false, false, false, false, false, false, false, false, false, false, false, false, false, false, false, false, false] rfl rfl (any_of HT_.out (by kernel_rfl)) (fun _ _ _ h => h) (Or.inl ⟨by rfl, ?_⟩) ?_ ?_
                    rotate_left
                    ·intro w'
                     go_simp
                     with_reducible rfl
                    rotate_left
                    ·simp only [Act.put, List.setIfInBounds_toArray, List.set_cons_zero, List.set_cons_succ, i64_w, i32_w]
                     rfl
                    refine pure_ (i := 13) (N := some 45) (v := ?_) (a' := ?_) #[true, false, false, false, false, false, true, false, false, false, true, false, false, true, false, false, false, false, false, false, false, false, false, false, false, false, false, false, false] rfl rfl (any_of HT_.out (by kernel_rfl)) (fun _ _ _ h => h) (Or.inl ⟨by rfl, ?_⟩) ?_ ?_
                    rotate_left
                    ·intro w'
                     go_simp
                     with_reducible rfl
                    rotate_left
                    ·simp only [Act.put, List.setIfInBounds_toArray, List.set_cons_zero, List.set_cons_succ, i64_w, i32_w]
                     rfl
                    refine pure_ (i := 17) (N := some 49) (v := ?_) (a' := ?_) #[true, false, false, false, false, false, true, false, false, false, true, false, false, true, false, false, false, true, false, false, false, false, false, false, false, false, false, false, false] rfl rfl (any_of HT_.out (by kernel_rfl)) (fun _ _ _ h => h) (Or.inl ⟨by rfl, ?_⟩) ?_ ?_
                    rotate_left
                    ·intro w'
                     go_simp
                     with_reducible rfl
                    rotate_left
                    ·simp only [Act.put, List.setIfInBounds_toArray, List.set_cons_zero, List.set_cons_succ, i64_w, i32_w]
                     rfl
                    refine pure_ (i := 20) (N := some 52) (v := ?_) (a' := ?_) #[true, false, false, false, false, false, true, false, false, false, true, false, false, true, false, false, false, true, false, false, true, false, false, false, false, false, false, false, false] rfl rfl (any_of HT_.out (by kernel_rfl)) (fun _ _ _ h => h) (Or.inl ⟨by rfl, ?_⟩) ?_ ?_
                    rotate_left
                    ·intro w'
                     go_simp
                     with_reducible rfl
                    rotate_left
                    ·simp only [Act.put, List.setIfInBounds_toArray, List.set_cons_zero, List.set_cons_succ, i64_w, i32_w]
                     rfl
                    refine pure_ (i := 24) (N := some 56) (v := ?_) (a' := ?_) #[true, false, false, false, false, false, true, false, false, false, true, false, false, true, false, false, false, true, false, false, true, false, false, false, true, false, false, false, false] rfl rfl (any_of HT_.out (by kernel_rfl)) (fun _ _ _ h => h) (Or.inl ⟨by rfl, ?_⟩) ?_ ?_
                    rotate_left
                    ·intro w'
                     go_simp
                     with_reducible rfl
                    rotate_left
                    ·simp only [Act.put, List.setIfInBounds_toArray, List.set_cons_zero, List.set_cons_succ, i64_w, i32_w]
                     rfl
                    refine take_ (i := 1) (N := some 33) (v := ?_) (a' := ?_) #[true, true, false, false, false, false, true, false, false, false, true, false, false, true, false, false, false, true, false, false, true, false, false, false, true, false, false, false, false] rfl rfl (take_ofW HT_.out HW_.out (by kernel_rfl)) (fun _ _ _ h => h) (Or.inl ⟨by rfl, ?_⟩) hHeld ?_ ?_
                    rotate_left
                    ·rintro w' ⟨s0, s1, s2, s3, s4, s5, s6, s7, s8, s9⟩
                     go_simp
                     with_reducible rfl
                    rotate_left
                    ·simp only [Act.put, List.setIfInBounds_toArray, List.set_cons_zero, List.set_cons_succ, i64_w, i32_w]
                     rfl
                    refine pure_ (i := 2) (N := some 34) (v := ?_) (a' := ?_) #[true, true, true, false, false, false, true, false, false, false, true, false, false, true, false, false, false, true, false, false, true, false, false, false, true, false, false, false, false] rfl rfl (any_of HT_.out (by kernel_rfl)) (fun _ _ _ h => h) (Or.inl ⟨by rfl, ?_⟩) ?_ ?_
                    rotate_left
                    ·intro w'
                     go_simp
                     with_reducible rfl
                    rotate_left
                    ·simp only [Act.put, List.setIfInBounds_toArray, List.set_cons_zero, List.set_cons_succ, i64_w, i32_w]
                     rfl
                    refine pure_ (i := 3) (N := some 35) (v := ?_) (a' := ?_) #[true, true, true, true, false, false, true, false, false, false, true, false, false, true, false, false, false, true, false, false, true, false, false, false, true, false, false, false, false] rfl rfl (any_of HT_.out (by kernel_rfl)) (fun _ _ _ h => h) (Or.inl ⟨by rfl, ?_⟩) ?_ ?_
                    rotate_left
                    ·intro w'
                     go_simp
                     with_reducible rfl
                    rotate_left
                    ·simp only [Act.put, List.setIfInBounds_toArray, List.set_cons_zero, List.set_cons_succ, i64_w, i32_w]
                     rfl
                    refine pure_ (i := 4) (N := some 36) (v := ?_) (a' := ?_) #[true, true, true, true, true, false, true, false, false, false, true, false, false, true, false, false, false, true, false, false, true, false, false, false, true, false, false, false, false] rfl rfl (any_of HT_.out (by kernel_rfl)) (fun _ _ _ h => h) (Or.inl ⟨by rfl, ?_⟩) ?_ ?_
                    rotate_left
                    ·intro w'
                     go_simp
                     with_reducible rfl
                    rotate_left
                    ·simp only [Act.put, List.setIfInBounds_toArray, List.set_cons_zero, List.set_cons_succ, i64_w, i32_w]
                     rfl
                    refine take_ (i := 7) (N := some 39) (v := ?_) (a' := ?_) #[true, true, true, true, true, false, true, true, false, false, true, false, false, true, false, false, false, true, false, false, true, false, false, false, true, false, false, false, false] rfl rfl (take_ofW HT_.out HW_.out (by kernel_rfl)) (fun _ _ _ h => h) (Or.inl ⟨by rfl, ?_⟩) hHeld ?_ ?_
                    rotate_left
                    ·rintro w' ⟨s0, s1, s2, s3, s4, s5, s6, s7, s8, s9⟩
                     go_simp
                     with_reducible rfl
                    rotate_left
                    ·simp only [Act.put, List.setIfInBounds_toArray, List.set_cons_zero, List.set_cons_succ, i64_w, i32_w]
                     rfl
                    refine take_ (i := 14) (N := some 46) (v := ?_) (a' := ?_) #[true, true, true, true, true, false, true, true, false, false, true, false, false, true, true, false, false, true, false, false, true, false, false, false, true, false, false, false, false] rfl rfl (take_ofW HT_.out HW_.out (by kernel_rfl)) (fun _ _ _ h => h) (Or.inl ⟨by rfl, ?_⟩) hHeld ?_ ?_
                    rotate_left
                    ·rintro w' ⟨s0, s1, s2, s3, s4, s5, s6, s7, s8, s9⟩
                     go_simp
                     with_reducible rfl
                    rotate_left
                    ·simp only [Act.put, List.setIfInBounds_toArray, List.set_cons_zero, List.set_cons_succ, i64_w, i32_w]
                     rfl
                    refine take_ (i := 21) (N := some 53) (v := ?_) (a' := ?_) #[true, true, true, true, true, false, true, true, false, false, true, false, false, true, true, false, false, true, false, false, true, true, false, false, true, false, false, false, false] rfl rfl (take_ofW HT_.out HW_.out (by kernel_rfl)) (fun _ _ _ h => h) (Or.inl ⟨by rfl, ?_⟩) hHeld ?_ ?_
                    rotate_left
                    ·rintro w' ⟨s0, s1, s2, s3, s4, s5, s6, s7, s8, s9⟩
                     go_simp
                     with_reducible rfl
                    rotate_left
                    ·simp only [Act.put, List.setIfInBounds_toArray, List.set_cons_zero, List.set_cons_succ, i64_w, i32_w]
                     rfl
                    refine take_ (i := 25) (N := some 57) (v := ?_) (a' := ?_) #[true, true, true, true, true, false, true, true, false, false, true, false, false, true, true, false, false, true, false, false, true, true, false, false, true, true, false, false, false] rfl rfl (take_ofW HT_.out HW_.out (by kernel_rfl)) (fun _ _ _ h => h) (Or.inl ⟨by rfl, ?_⟩) hHeld ?_ ?_
                    rotate_left
                    ·rintro w' ⟨s0, s1, s2, s3, s4, s5, s6, s7, s8, s9⟩
                     go_simp
                     with_reducible rfl
                    rotate_left
                    ·simp only [Act.put, List.setIfInBounds_toArray, List.set_cons_zero, List.set_cons_succ, i64_w, i32_w]
                     rfl
                    refine one_ (i := 5) (N := some 37) #[true, true, true, true, true, true, true, true, false, false, true, false, false, true, true, false, false, true, false, false, true, true, false, false, true, true, false, false, false] rfl rfl (one_of HT_.out (by kernel_rfl)) (by decide) (fun K hK => ?_)
                    refine goes_ Try.func143 (by kernel_rfl) rfl #[.int .i64 (wrap64 (69 + (wrap64 ((a0_9.size : Int) / 4)))), .int .i64 1] (by rfl) rfl rfl (by (try simp only [List.map_toArray, List.map_cons, List.map_nil]); first | done | rfl | (simp only [List.length_drop, List.length_take]; rfl)) ?_
                    with_reducible refine (palanquinref05_num.calls kj15 (wrap64 (69 + (wrap64 ((a0_9.size : Int) / 4)))) 1 t418 _ A19.out).mono ?_
                    rintro e w42 ⟨rfl, hb⟩
                    refine ⟨_, rfl, ?_⟩
                    have n0_ := mA (blk_below (g := gb416) (o := .cells #[.int .i64 a0_0, .int .i64 a0_1, .int .i64 a0_2, .int .i64 a0_3, .int .i64 a0_4, .bool a0_5, .bool a0_6, .string a0_7, .string a0_8, .string a0_9] 93 (0, 0)) (by (with_reducible repeat (first | apply kN | apply kD | apply kA)); exact BK416.out) hb)
                    have n1_ := mA (bP (by repeat (first | (with_reducible first | exact HB.out | apply bA | apply bN | apply bD | refine bS ?_ GE416.out) | exact HB.out)) hb)
                    clear BK416
                    clear HB
                    have BK416 := n0_
                    have HB := n1_
                    clear n0_ n1_
                    (try clear hb)
                    (try clear hb2)
                    (try clear hk)
                    (try clear hi)
                    refine hK.out _ _ ⟨(zC BK416.out 0).trans rfl, (zC BK416.out 1).trans rfl, (zC BK416.out 2).trans rfl, (zC BK416.out 3).trans rfl, (zC BK416.out 4).trans rfl, (zC BK416.out 5).trans rfl, (zC BK416.out 6).trans rfl, (zC BK416.out 7).trans rfl, (zC BK416.out 8).trans rfl, (zC BK416.out 9).trans rfl⟩ (fun hHeld => ?_)
                    clear hK K
                    refine norm_ (a' := ?_) ?_ ?_
                    rotate_left
                    ·show Act.put _ (some 37) _ = _
                     simp only [Act.put, List.setIfInBounds_toArray, List.set_cons_zero, List.set_cons_succ, i64_w, i32_w]
                     rfl
                    refine one_ (i := 8) (N := some 40) #[true, true, true, true, true, true, true, true, true, false, true, false, false, true, true, false, false, true, false, false, true, true, false, false, true, true, false, false, false] rfl rfl (one_of HT_.out (by kernel_rfl)) (by decide) (fun K hK => ?_)
                    refine goes_ Try.func143 (by kernel_rfl) rfl #[.int .i64 a0_0, .int .i64 1] (by rfl) rfl rfl (by (try simp only [List.map_toArray, List.map_cons, List.map_nil]); first | done | rfl | (simp only [List.length_drop, List.length_take]; rfl)) ?_
                    with_reducible refine (palanquinref05_num.calls kj15 a0_0 1 t419 _ A20.out).mono ?_
                    rintro e w43 ⟨rfl, hb⟩
                    refine ⟨_, rfl, ?_⟩
                    have n0_ := mA (blk_below (g := gb416) (o := .cells #[.int .i64 a0_0, .int .i64 a0_1, .int .i64 a0_2, .int .i64 a0_3, .int .i64 a0_4, .bool a0_5, .bool a0_6, .string a0_7, .string a0_8, .string a0_9] 93 (0, 0)) (by (with_reducible repeat (first | apply kN | apply kD | apply kA)); exact BK416.out) hb)
                    have n1_ := mA (bP (by repeat (first | (with_reducible first | exact HB.out | apply bA | apply bN | apply bD | refine bS ?_ GE416.out) | exact HB.out)) hb)
                    clear BK416
                    clear HB
                    have BK416 := n0_
                    have HB := n1_
                    clear n0_ n1_
                    (try clear hb)
                    (try clear hb2)
                    (try clear hk)
                    (try clear hi)
                    refine hK.out _ _ ⟨(zC BK416.out 0).trans rfl, (zC BK416.out 1).trans rfl, (zC BK416.out 2).trans rfl, (zC BK416.out 3).trans rfl, (zC BK416.out 4).trans rfl, (zC BK416.out 5).trans rfl, (zC BK416.out 6).trans rfl, (zC BK416.out 7).trans rfl, (zC BK416.out 8).trans rfl, (zC BK416.out 9).trans rfl⟩ (fun hHeld => ?_)
                    clear hK K
                    refine norm_ (a' := ?_) ?_ ?_
                    rotate_left
                    ·show Act.put _ (some 40) _ = _
                     simp only [Act.put, List.setIfInBounds_toArray, List.set_cons_zero, List.set_cons_succ, i64_w, i32_w]
                     rfl
                    refine pure_ (i := 9) (N := some 41) (v := ?_) (a' := ?_) #[true, true, true, true, true, true, true, true, true, true, true, false, false, true, true, false, false, true, false, false, true, true, false, false, true, true, false, false, false] rfl rfl (any_of HT_.out (by kernel_rfl)) (fun _ _ _ h => h) (Or.inl ⟨by rfl, ?_⟩) ?_ ?_
                    rotate_left
                    ·intro w'
                     go_simp
                     with_reducible rfl
                    rotate_left
                    ·simp only [Act.put, List.setIfInBounds_toArray, List.set_cons_zero, List.set_cons_succ, i64_w, i32_w]
                     rfl
                    refine one_ (i := 11) (N := some 43) #[true, true, true, true, true, true, true, true, true, true, true, true, false, true, true, false, false, true, false, false, true, true, false, false, true, true, false, false, false] rfl rfl (one_of HT_.out (by kernel_rfl)) (by decide) (fun K hK => ?_)
                    refine goes_ Try.func143 (by kernel_rfl) rfl #[.int .i64 (wrap64 ((wrap64 (20 + (a0_9.size : Int))) + (a1.size : Int))), .int .i64 2] (by rfl) rfl rfl (by (try simp only [List.map_toArray, List.map_cons, List.map_nil]); first | done | rfl | (simp only [List.length_drop, List.length_take]; rfl)) ?_
                    with_reducible refine (palanquinref05_num.calls kj15 (wrap64 ((wrap64 (20 + (a0_9.size : Int))) + (a1.size : Int))) 2 t420 _ A22.out).mono ?_
                    rintro e w44 ⟨rfl, hb⟩
                    refine ⟨_, rfl, ?_⟩
                    have n0_ := mA (blk_below (g := gb416) (o := .cells #[.int .i64 a0_0, .int .i64 a0_1, .int .i64 a0_2, .int .i64 a0_3, .int .i64 a0_4, .bool a0_5, .bool a0_6, .string a0_7, .string a0_8, .string a0_9] 93 (0, 0)) (by (with_reducible repeat (first | apply kN | apply kD | apply kA)); exact BK416.out) hb)
                    have n1_ := mA (bP (by repeat (first | (with_reducible first | exact HB.out | apply bA | apply bN | apply bD | refine bS ?_ GE416.out) | exact HB.out)) hb)
                    clear BK416
                    clear HB
                    have BK416 := n0_
                    have HB := n1_
                    clear n0_ n1_
                    (try clear hb)
                    (try clear hb2)
                    (try clear hk)
                    (try clear hi)
                    refine hK.out _ _ ⟨(zC BK416.out 0).trans rfl, (zC BK416.out 1).trans rfl, (zC BK416.out 2).trans rfl, (zC BK416.out 3).trans rfl, (zC BK416.out 4).trans rfl, (zC BK416.out 5).trans rfl, (zC BK416.out 6).trans rfl, (zC BK416.out 7).trans rfl, (zC BK416.out 8).trans rfl, (zC BK416.out 9).trans rfl⟩ (fun hHeld => ?_)
                    clear hK K
                    refine norm_ (a' := ?_) ?_ ?_
                    rotate_left
                    ·show Act.put _ (some 43) _ = _
                     simp only [Act.put, List.setIfInBounds_toArray, List.set_cons_zero, List.set_cons_succ, i64_w, i32_w]
                     rfl
                    refine pure_ (i := 12) (N := some 44) (v := ?_) (a' := ?_) #[true, true, true, true, true, true, true, true, true, true, true, true, true, true, true, false, false, true, false, false, true, true, false, false, true, true, false, false, false] rfl rfl (any_of HT_.out (by kernel_rfl)) (fun _ _ _ h => h) (Or.inl ⟨by rfl, ?_⟩) ?_ ?_
                    rotate_left
                    ·intro w'
                     go_simp
                     with_reducible rfl
                    rotate_left
                    ·simp only [Act.put, List.setIfInBounds_toArray, List.set_cons_zero, List.set_cons_succ, i64_w, i32_w]
                     rfl
                    refine one_ (i := 15) (N := some 47) #[true, true, true, true, true, true, true, true, true, true, true, true, true, true, true, true, false, true, false, false, true, true, false, false, true, true, false, false, false] rfl rfl (one_of HT_.out (by kernel_rfl)) (by decide) (fun K hK => ?_)
                    refine goes_ Try.func143 (by kernel_rfl) rfl #[.int .i64 a0_1, .int .i64 2] (by rfl) rfl rfl (by (try simp only [List.map_toArray, List.map_cons, List.map_nil]); first | done | rfl | (simp only [List.length_drop, List.length_take]; rfl)) ?_
                    with_reducible refine (palanquinref05_num.calls kj15 a0_1 2 t421 _ A24.out).mono ?_
                    rintro e w45 ⟨rfl, hb⟩
                    refine ⟨_, rfl, ?_⟩
                    have n0_ := mA (blk_below (g := gb416) (o := .cells #[.int .i64 a0_0, .int .i64 a0_1, .int .i64 a0_2, .int .i64 a0_3, .int .i64 a0_4, .bool a0_5, .bool a0_6, .string a0_7, .string a0_8, .string a0_9] 93 (0, 0)) (by (with_reducible repeat (first | apply kN | apply kD | apply kA)); exact BK416.out) hb)
                    have n1_ := mA (bP (by repeat (first | (with_reducible first | exact HB.out | apply bA | apply bN | apply bD | refine bS ?_ GE416.out) | exact HB.out)) hb)
                    clear BK416
                    clear HB
                    have BK416 := n0_
                    have HB := n1_
                    clear n0_ n1_
                    (try clear hb)
                    (try clear hb2)
                    (try clear hk)
                    (try clear hi)
                    refine hK.out _ _ ⟨(zC BK416.out 0).trans rfl, (zC BK416.out 1).trans rfl, (zC BK416.out 2).trans rfl, (zC BK416.out 3).trans rfl, (zC BK416.out 4).trans rfl, (zC BK416.out 5).trans rfl, (zC BK416.out 6).trans rfl, (zC BK416.out 7).trans rfl, (zC BK416.out 8).trans rfl, (zC BK416.out 9).trans rfl⟩ (fun hHeld => ?_)
                    clear hK K
                    refine norm_ (a' := ?_) ?_ ?_
                    rotate_left
                    ·show Act.put _ (some 47) _ = _
                     simp only [Act.put, List.setIfInBounds_toArray, List.set_cons_zero, List.set_cons_succ, i64_w, i32_w]
                     rfl
                    refine pure_ (i := 16) (N := some 48) (v := ?_) (a' := ?_) #[true, true, true, true, true, true, true, true, true, true, true, true, true, true, true, true, true, true, false, false, true, true, false, false, true, true, false, false, false] rfl rfl (any_of HT_.out (by kernel_rfl)) (fun _ _ _ h => h) (Or.inl ⟨by rfl, ?_⟩) ?_ ?_
                    rotate_left
                    ·intro w'
                     go_simp
                     with_reducible rfl
                    rotate_left
                    ·simp only [Act.put, List.setIfInBounds_toArray, List.set_cons_zero, List.set_cons_succ, i64_w, i32_w]
                     rfl
                    refine one_ (i := 18) (N := some 50) #[true, true, true, true, true, true, true, true, true, true, true, true, true, true, true, true, true, true, true, false, true, true, false, false, true, true, false, false, false] rfl rfl (one_of HT_.out (by kernel_rfl)) (by decide) (fun K hK => ?_)
                    refine goes_ Try.func143 (by kernel_rfl) rfl #[.int .i64 x7_15, .int .i64 2] (by rfl) rfl rfl (by (try simp only [List.map_toArray, List.map_cons, List.map_nil]); first | done | rfl | (simp only [List.length_drop, List.length_take]; rfl)) ?_
                    with_reducible refine (palanquinref05_num.calls kj15 x7_15 2 t422 _ A26.out).mono ?_
                    rintro e w46 ⟨rfl, hb⟩
                    refine ⟨_, rfl, ?_⟩
                    have n0_ := mA (blk_below (g := gb416) (o := .cells #[.int .i64 a0_0, .int .i64 a0_1, .int .i64 a0_2, .int .i64 a0_3, .int .i64 a0_4, .bool a0_5, .bool a0_6, .string a0_7, .string a0_8, .string a0_9] 93 (0, 0)) (by (with_reducible repeat (first | apply kN | apply kD | apply kA)); exact BK416.out) hb)
                    have n1_ := mA (bP (by repeat (first | (with_reducible first | exact HB.out | apply bA | apply bN | apply bD | refine bS ?_ GE416.out) | exact HB.out)) hb)
                    clear BK416
                    clear HB
                    have BK416 := n0_
                    have HB := n1_
                    clear n0_ n1_
                    (try clear hb)
                    (try clear hb2)
                    (try clear hk)
                    (try clear hi)
                    refine hK.out _ _ ⟨(zC BK416.out 0).trans rfl, (zC BK416.out 1).trans rfl, (zC BK416.out 2).trans rfl, (zC BK416.out 3).trans rfl, (zC BK416.out 4).trans rfl, (zC BK416.out 5).trans rfl, (zC BK416.out 6).trans rfl, (zC BK416.out 7).trans rfl, (zC BK416.out 8).trans rfl, (zC BK416.out 9).trans rfl⟩ (fun hHeld => ?_)
                    clear hK K
                    refine norm_ (a' := ?_) ?_ ?_
                    rotate_left
                    ·show Act.put _ (some 50) _ = _
                     simp only [Act.put, List.setIfInBounds_toArray, List.set_cons_zero, List.set_cons_succ, i64_w, i32_w]
                     rfl
                    refine pure_ (i := 19) (N := some 51) (v := ?_) (a' := ?_) #[true, true, true, true, true, true, true, true, true, true, true, true, true, true, true, true, true, true, true, true, true, true, false, false, true, true, false, false, false] rfl rfl (any_of HT_.out (by kernel_rfl)) (fun _ _ _ h => h) (Or.inl ⟨by rfl, ?_⟩) ?_ ?_
                    rotate_left
                    ·intro w'
                     go_simp
                     with_reducible rfl
                    rotate_left
                    ·simp only [Act.put, List.setIfInBounds_toArray, List.set_cons_zero, List.set_cons_succ, i64_w, i32_w]
                     rfl
                    refine one_ (i := 22) (N := some 54) #[true, true, true, true, true, true, true, true, true, true, true, true, true, true, true, true, true, true, true, true, true, true, true, false, true, true, false, false, false] rfl rfl (one_of HT_.out (by kernel_rfl)) (by decide) (fun K hK => ?_)
                    refine goes_ Try.func143 (by kernel_rfl) rfl #[.int .i64 a0_3, .int .i64 1] (by rfl) rfl rfl (by (try simp only [List.map_toArray, List.map_cons, List.map_nil]); first | done | rfl | (simp only [List.length_drop, List.length_take]; rfl)) ?_
                    with_reducible refine (palanquinref05_num.calls kj15 a0_3 1 t423 _ A28.out).mono ?_
                    rintro e w47 ⟨rfl, hb⟩
                    refine ⟨_, rfl, ?_⟩
                    have n0_ := mA (blk_below (g := gb416) (o := .cells #[.int .i64 a0_0, .int .i64 a0_1, .int .i64 a0_2, .int .i64 a0_3, .int .i64 a0_4, .bool a0_5, .bool a0_6, .string a0_7, .string a0_8, .string a0_9] 93 (0, 0)) (by (with_reducible repeat (first | apply kN | apply kD | apply kA)); exact BK416.out) hb)
                    have n1_ := mA (bP (by repeat (first | (with_reducible first | exact HB.out | apply bA | apply bN | apply bD | refine bS ?_ GE416.out) | exact HB.out)) hb)
                    clear BK416
                    clear HB
                    have BK416 := n0_
                    have HB := n1_
                    clear n0_ n1_
                    (try clear hb)
                    (try clear hb2)
                    (try clear hk)
                    (try clear hi)
                    refine hK.out _ _ ⟨(zC BK416.out 0).trans rfl, (zC BK416.out 1).trans rfl, (zC BK416.out 2).trans rfl, (zC BK416.out 3).trans rfl, (zC BK416.out 4).trans rfl, (zC BK416.out 5).trans rfl, (zC BK416.out 6).trans rfl, (zC BK416.out 7).trans rfl, (zC BK416.out 8).trans rfl, (zC BK416.out 9).trans rfl⟩ (fun hHeld => ?_)
                    clear hK K
                    refine norm_ (a' := ?_) ?_ ?_
                    rotate_left
                    ·show Act.put _ (some 54) _ = _
                     simp only [Act.put, List.setIfInBounds_toArray, List.set_cons_zero, List.set_cons_succ, i64_w, i32_w]
                     rfl
                    refine pure_ (i := 23) (N := some 55) (v := ?_) (a' := ?_) #[true, true, true, true, true, true, true, true, true, true, true, true, true, true, true, true, true, true, true, true, true, true, true, true, true, true, false, false, false] rfl rfl (any_of HT_.out (by kernel_rfl)) (fun _ _ _ h => h) (Or.inl ⟨by rfl, ?_⟩) ?_ ?_
                    rotate_left
                    ·intro w'
                     go_simp
                     with_reducible rfl
                    rotate_left
                    ·simp only [Act.put, List.setIfInBounds_toArray, List.set_cons_zero, List.set_cons_succ, i64_w, i32_w]
                     rfl
                    refine one_ (i := 26) (N := some 58) #[true, true, true, true, true, true, true, true, true, true, true, true, true, true, true, true, true, true, true, true, true, true, true, true, true, true, true, false, false] rfl rfl (one_of HT_.out (by kernel_rfl)) (by decide) (fun K hK => ?_)
                    refine goes_ Try.func143 (by kernel_rfl) rfl #[.int .i64 a0_4, .int .i64 1] (by rfl) rfl rfl (by (try simp only [List.map_toArray, List.map_cons, List.map_nil]); first | done | rfl | (simp only [List.length_drop, List.length_take]; rfl)) ?_
                    with_reducible refine (palanquinref05_num.calls kj15 a0_4 1 t424 _ A30.out).mono ?_
                    rintro e w48 ⟨rfl, hb⟩
                    refine ⟨_, rfl, ?_⟩
                    have n0_ := mA (blk_below (g := gb416) (o := .cells #[.int .i64 a0_0, .int .i64 a0_1, .int .i64 a0_2, .int .i64 a0_3, .int .i64 a0_4, .bool a0_5, .bool a0_6, .string a0_7, .string a0_8, .string a0_9] 93 (0, 0)) (by (with_reducible repeat (first | apply kN | apply kD | apply kA)); exact BK416.out) hb)
                    have n1_ := mA (bP (by repeat (first | (with_reducible first | exact HB.out | apply bA | apply bN | apply bD | refine bS ?_ GE416.out) | exact HB.out)) hb)
                    clear BK416
                    clear HB
                    have BK416 := n0_
                    have HB := n1_
                    clear n0_ n1_
                    (try clear hb)
                    (try clear hb2)
                    (try clear hk)
                    (try clear hi)
                    refine hK.out _ _ ⟨(zC BK416.out 0).trans rfl, (zC BK416.out 1).trans rfl, (zC BK416.out 2).trans rfl, (zC BK416.out 3).trans rfl, (zC BK416.out 4).trans rfl, (zC BK416.out 5).trans rfl, (zC BK416.out 6).trans rfl, (zC BK416.out 7).trans rfl, (zC BK416.out 8).trans rfl, (zC BK416.out 9).trans rfl⟩ (fun hHeld => ?_)
                    clear hK K
                    refine norm_ (a' := ?_) ?_ ?_
                    rotate_left
                    ·show Act.put _ (some 58) _ = _
                     simp only [Act.put, List.setIfInBounds_toArray, List.set_cons_zero, List.set_cons_succ, i64_w, i32_w]
                     rfl
                    refine pure_ (i := 27) (N := some 59) (v := ?_) (a' := ?_) #[true, true, true, true, true, true, true, true, true, true, true, true, true, true, true, true, true, true, true, true, true, true, true, true, true, true, true, true, false] rfl rfl (any_of HT_.out (by kernel_rfl)) (fun _ _ _ h => h) (Or.inl ⟨by rfl, ?_⟩) ?_ ?_
                    rotate_left
                    ·intro w'
                     go_simp
                     with_reducible rfl
                    rotate_left
                    ·simp only [Act.put, List.setIfInBounds_toArray, List.set_cons_zero, List.set_cons_succ, i64_w, i32_w]
                     rfl
                    refine pure_ (i := 28) (N := some 8) (v := ?_) (a' := ?_) #[true, true, true, true, true, true, true, true, true, true, true, true, true, true, true, true, true, true, true, true, true, true, true, true, true, true, true, true, true] rfl rfl (any_of HT_.out (by kernel_rfl)) (fun _ _ _ h => h) (Or.inl ⟨by rfl, ?_⟩) ?_ ?_
                    rotate_left
                    ·intro w'
                     go_simp
                     with_reducible rfl
                    rotate_left
                    ·simp only [Act.put, List.setIfInBounds_toArray, List.set_cons_zero, List.set_cons_succ, i64_w, i32_w]
                     rfl
                    refine done_ (done_of HT_.out (by kernel_rfl)) ?_
                    have hcz49_0 : w48.cell? ⟨gb416, 0, none⟩ = some (.int .i64 a0_0) := (zC BK416.out 0).trans rfl
                    have hcz49_1 : w48.cell? ⟨gb416, 1, none⟩ = some (.int .i64 a0_1) := (zC BK416.out 1).trans rfl
                    have hcz49_2 : w48.cell? ⟨gb416, 2, none⟩ = some (.int .i64 a0_2) := (zC BK416.out 2).trans rfl
                    have hcz49_3 : w48.cell? ⟨gb416, 3, none⟩ = some (.int .i64 a0_3) := (zC BK416.out 3).trans rfl
                    have hcz49_4 : w48.cell? ⟨gb416, 4, none⟩ = some (.int .i64 a0_4) := (zC BK416.out 4).trans rfl
                    have hcz49_5 : w48.cell? ⟨gb416, 5, none⟩ = some (.bool a0_5) := (zC BK416.out 5).trans rfl
                    have hcz49_6 : w48.cell? ⟨gb416, 6, none⟩ = some (.bool a0_6) := (zC BK416.out 6).trans rfl
                    have hcz49_7 : w48.cell? ⟨gb416, 7, none⟩ = some (.string a0_7) := (zC BK416.out 7).trans rfl
                    have hcz49_8 : w48.cell? ⟨gb416, 8, none⟩ = some (.string a0_8) := (zC BK416.out 8).trans rfl
                    have hcz49_9 : w48.cell? ⟨gb416, 9, none⟩ = some (.string a0_9) := (zC BK416.out 9).trans rfl
                    have hfz49_0 := zF BK416.out 0
                    have hfz49_1 := zF BK416.out 1
                    have hfz49_2 := zF BK416.out 2
                    have hfz49_3 := zF BK416.out 3
                    have hfz49_4 := zF BK416.out 4
                    have hfz49_5 := zF BK416.out 5
                    have hfz49_6 := zF BK416.out 6
                    have hfz49_7 := zF BK416.out 7
                    have hfz49_8 := zF BK416.out 8
                    have hfz49_9 := zF BK416.out 9
                    try go_wp2_with (first | ((with_reducible refine gate_callee (f := 41) rfl ?_); refine goesL_ (some 73) rfl rfl Try.func41 (by kernel_rfl) rfl #[.string ((((((((t418 ++ t419) ++ t420) ++ t421) ++ t422) ++ t423) ++ t424) ++ (⟨#[0, 0]⟩ : ByteArray)) ++ ((a0_7 ++ a0_8) ++ a0_9))] rfl (by (try simp only [List.map_toArray, List.map_cons, List.map_nil]); first | done | rfl | (simp only [List.length_drop, List.length_take]; rfl)) ?_; (with_reducible refine (palanquinref02_Sum.calls kj15 ((((((((t418 ++ t419) ++ t420) ++ t421) ++ t422) ++ t423) ++ t424) ++ (⟨#[0, 0]⟩ : ByteArray)) ++ ((a0_7 ++ a0_8) ++ a0_9)) t425 _ A36.out).mono ?_); rintro e w50 ⟨rfl, hb⟩; refine ⟨_, rfl, ?_⟩; have n0_ := mA (blk_below (g := gb416) (o := .cells #[.int .i64 a0_0, .int .i64 a0_1, .int .i64 a0_2, .int .i64 a0_3, .int .i64 a0_4, .bool a0_5, .bool a0_6, .string a0_7, .string a0_8, .string a0_9] 93 (0, 0)) (by (with_reducible repeat (first | apply kN | apply kD | apply kA)); exact BK416.out) hb); have n1_ := mA (bP (by repeat (first | (with_reducible first | exact HB.out | apply bA | apply bN | apply bD | refine bS ?_ GE416.out) | exact HB.out)) hb); clear BK416; clear HB; have BK416 := n0_; have HB := n1_; clear n0_ n1_; (try clear hb); (try clear hb2); (try clear hk); (try clear hi)) | ((with_reducible refine gate_callee (f := 143) rfl ?_); refine goesL_ (some 74) rfl rfl Try.func143 (by kernel_rfl) rfl #[.int .i64 t425, .int .i64 2] rfl (by (try simp only [List.map_toArray, List.map_cons, List.map_nil]); first | done | rfl | (simp only [List.length_drop, List.length_take]; rfl)) ?_; (with_reducible refine (palanquinref05_num.calls kj15 t425 2 t426 _ A37.out).mono ?_); rintro e w51 ⟨rfl, hb⟩; refine ⟨_, rfl, ?_⟩; have n0_ := mA (blk_below (g := gb416) (o := .cells #[.int .i64 a0_0, .int .i64 a0_1, .int .i64 a0_2, .int .i64 a0_3, .int .i64 a0_4, .bool a0_5, .bool a0_6, .string a0_7, .string a0_8, .string a0_9] 93 (0, 0)) (by (with_reducible repeat (first | apply kN | apply kD | apply kA)); exact BK416.out) hb); have n1_ := mA (bP (by repeat (first | (with_reducible first | exact HB.out | apply bA | apply bN | apply bD | refine bS ?_ GE416.out) | exact HB.out)) hb); clear BK416; clear HB; have BK416 := n0_; have HB := n1_; clear n0_ n1_; (try clear hb); (try clear hb2); (try clear hk); (try clear hi)))
                    go_ret2
                    exact ⟨by first | rfl | (simp [errW_none, errW_some] <;> rfl) | (simp [*, errW_none, errW_some] <;> rfl), by repeat (first | (with_reducible first | exact HB.out | apply bA | apply bN | apply bD | refine bS ?_ GE416.out) | exact HB.out)⟩
                   ·rw [if_neg c40] at H
                    exact absurd H (by simp)
                  ·rw [if_neg c39] at H
                   exact absurd H (by simp)
                 ·rw [if_neg c38] at H
                  exact absurd H (by simp)
                ·rw [if_neg c35] at H
                 exact absurd H (by simp)
               ·rw [if_neg c34] at H
                exact absurd H (by simp)
              ·rw [if_neg c33] at H
               exact absurd H (by simp)
             ·rw [if_neg c32] at H
              exact absurd H (by simp)
            ·rw [if_neg c31] at H
             exact absurd H (by simp)
           ·rw [if_neg c29] at H
            exact absurd H (by simp)
          ·rw [if_neg c27] at H
           exact absurd H (by simp)
         ·rw [if_neg c25] at H
          exact absurd H (by simp)
        ·rw [if_neg c23] at H
         exact absurd H (by simp)
       ·rw [if_neg c21] at H
        exact absurd H (by simp)
 ·replace c4 := Bool.eq_false_iff.mpr c4
  subst c4
  have H1 : (some ((⟨#[]⟩ : ByteArray), 1)) = some (r1, r2) := by rw [if_neg (show ¬ (false = true) by decide)] at H; exact H
  clear H
  have H := H1
  clear H1
  simp only [Option.some.injEq, Prod.mk.injEq] at H
  obtain ⟨rfl, rfl⟩ := H
  go_enter Try.func86, Try.ntmps86
  go_wp2_with (first | ((with_reducible refine gate_dst (N := 2) rfl ?_); refine box_event ?hg (N := 2) ?hd (cs := #[.int .i64 a0_0, .int .i64 a0_1, .int .i64 a0_2, .int .i64 a0_3, .int .i64 a0_4, .bool a0_5, .bool a0_6, .string a0_7, .string a0_8, .string a0_9]) (t := 93) ?hr ?_; (case hd => rfl); (case hg => rfl); (case hr => first | (go_simp; done) | (go_simp; rfl)); intro gb416 hg w52 hbox hb; have n0_ := mA (bP (by repeat (first | (with_reducible first | exact HB.out | apply bA | apply bN | apply bD) | exact HB.out)) hb); have n1_ := mA (hbox); have n2_ := mA ((by rw [hg]; exact (below_size (by repeat (first | (with_reducible first | exact HB.out | apply bA | apply bN | apply bD) | exact HB.out))) : w.heap.size ≤ gb416)); have n3_ := mA ((by rw [hg]; exact (below_size (by repeat (first | (with_reducible first | exact HB.out | apply bA | apply bN | apply bD) | exact HB.out))) : w.heap.size ≤ gb416)); clear HB; have HB := n0_; have BK416 := n1_; have GW416 := n2_; have GE416 := n3_; clear n0_ n1_ n2_ n3_; clear hb hbox hg; have hcz53_0 : w52.cell? ⟨gb416, 0, none⟩ = some (.int .i64 a0_0) := (zC BK416.out 0).trans rfl; have hcz53_1 : w52.cell? ⟨gb416, 1, none⟩ = some (.int .i64 a0_1) := (zC BK416.out 1).trans rfl; have hcz53_2 : w52.cell? ⟨gb416, 2, none⟩ = some (.int .i64 a0_2) := (zC BK416.out 2).trans rfl; have hcz53_3 : w52.cell? ⟨gb416, 3, none⟩ = some (.int .i64 a0_3) := (zC BK416.out 3).trans rfl; have hcz53_4 : w52.cell? ⟨gb416, 4, none⟩ = some (.int .i64 a0_4) := (zC BK416.out 4).trans rfl; have hcz53_5 : w52.cell? ⟨gb416, 5, none⟩ = some (.bool a0_5) := (zC BK416.out 5).trans rfl; have hcz53_6 : w52.cell? ⟨gb416, 6, none⟩ = some (.bool a0_6) := (zC BK416.out 6).trans rfl; have hcz53_7 : w52.cell? ⟨gb416, 7, none⟩ = some (.string a0_7) := (zC BK416.out 7).trans rfl; have hcz53_8 : w52.cell? ⟨gb416, 8, none⟩ = some (.string a0_8) := (zC BK416.out 8).trans rfl; have hcz53_9 : w52.cell? ⟨gb416, 9, none⟩ = some (.string a0_9) := (zC BK416.out 9).trans rfl; have hfz53_0 := zF BK416.out 0; have hfz53_1 := zF BK416.out 1; have hfz53_2 := zF BK416.out 2; have hfz53_3 := zF BK416.out 3; have hfz53_4 := zF BK416.out 4; have hfz53_5 := zF BK416.out 5; have hfz53_6 := zF BK416.out 6; have hfz53_7 := zF BK416.out 7; have hfz53_8 := zF BK416.out 8; have hfz53_9 := zF BK416.out 9) | ((with_reducible refine gate_callee (f := 88) rfl ?_); refine goesL_ (some 11) rfl rfl Try.func88 (by kernel_rfl) rfl #[.agg #[.int .i64 a0_0, .int .i64 a0_1, .int .i64 a0_2, .int .i64 a0_3, .int .i64 a0_4, .bool a0_5, .bool a0_6, .string a0_7, .string a0_8, .string a0_9]] rfl (by (try simp only [List.map_toArray, List.map_cons, List.map_nil]); first | done | rfl | (simp only [List.length_drop, List.length_take]; rfl)) ?_; (with_reducible refine (palanquinref05_Right.calls a0_0 a0_1 a0_2 a0_3 a0_4 a0_5 a0_6 a0_7 a0_8 a0_9 false _ A3.out).mono ?_); rintro e w54 ⟨rfl, hb⟩; refine ⟨_, rfl, ?_⟩; have n0_ := mA (blk_below (g := gb416) (o := .cells #[.int .i64 a0_0, .int .i64 a0_1, .int .i64 a0_2, .int .i64 a0_3, .int .i64 a0_4, .bool a0_5, .bool a0_6, .string a0_7, .string a0_8, .string a0_9] 93 (0, 0)) (by (with_reducible repeat (first | apply kN | apply kD | apply kA)); exact BK416.out) hb); have n1_ := mA (bP (by repeat (first | (with_reducible first | exact HB.out | apply bA | apply bN | apply bD | refine bS ?_ GE416.out) | exact HB.out)) hb); clear BK416; clear HB; have BK416 := n0_; have HB := n1_; clear n0_ n1_; (try clear hb); (try clear hb2); (try clear hk); (try clear hi)))
  go_ret2
  exact ⟨by first | rfl | (simp [errW_none, errW_some] <;> rfl) | (simp [*, errW_none, errW_some] <;> rfl), by repeat (first | (with_reducible first | exact HB.out | apply bA | apply bN | apply bD | refine bS ?_ GE416.out) | exact HB.out)⟩

end Go.Proofs.Ytejmipoolbodgaa.G
end

section
/- Plain facts of palanquinref01: Value reads a big-endian number, Bytes writes one. -/
namespace Go.Proofs.Ytejmipoolbodgaa.Pure
open Go.RowKit Go.Proofs.YtejmipoolbodgaaW.PrintWords Go.Proofs.YtejmipoolbodgaaW.PrintLast Go.Proofs.Ytejmipoolbodgaa.G Go.Proofs.Ytejmipoolbodgaa.Pal
theorem bt_bl (s : ByteArray) (i : Nat) (h : i < s.size) : bt s (i : Int) = (((bl s)[i]'(by rw [bl_length]; exact h)).toNat : Int) := by
  unfold bt
  rw [dif_pos (by simpa using h)]
  rfl
theorem value_loop (s : ByteArray) (hs : s.size ≤ 8) : ∀ (n i k : Nat), i + n = s.size → n < k → palanquinref01_Value.l0 k s ((be ((bl s).take i) : Nat) : Int) (i : Int) = some ((be (bl s) : Nat) : Int)
  | 0, i, k + 1, hi, _ => by
    rw [palanquinref01_Value.l0, if_neg (by omega), List.take_of_length_le (by rw [bl_length]; omega)]
  | n + 1, i, k + 1, hi, hk => by
    have hlt : i < s.size := by omega
    have hlen : i < (bl s).length := by rw [bl_length]; exact hlt
    rw [palanquinref01_Value.l0, if_pos (by omega), if_pos (by omega)]
    have hb : (bl s)[i].toNat < 256 := (bl s)[i].toNat_lt
    have h1 : be ((bl s).take (i + 1)) = be ((bl s).take i) * 256 + (bl s)[i].toNat := by
      rw [List.take_succ_eq_append_getElem hlen, be_snoc]
    have h2 : be ((bl s).take (i + 1)) < 256 ^ 8 := be_lt_of _ 8 (by rw [List.length_take]; omega)
    have h3 : (256 : Nat) ^ 8 = 18446744073709551616 := by decide
    rw [bt_bl s i hlt, show wrap64 ((i : Int) + 1) = ((i + 1 : Nat) : Int) by unfold wrap64; omega,
      show IntKind.u64.wrap ((IntKind.u64.wrap (((be ((bl s).take i) : Nat) : Int) * 256)) + (IntKind.u64.wrap ((bl s)[i].toNat : Int))) = ((be ((bl s).take (i + 1)) : Nat) : Int) by rw [IntKind.wrap_u64, IntKind.wrap_u64, IntKind.wrap_u64]; omega]
    exact value_loop s hs n (i + 1) k (by omega) (by omega)
theorem value_is (s : ByteArray) (hs : s.size ≤ 8) (k : Nat) (hk : s.size < k) : palanquinref01_Value.f k s = some ((be (bl s) : Nat) : Int) := by
  have := value_loop s hs s.size 0 k (by omega) hk
  exact this
theorem byte_is (x : Int) (h0 : 0 ≤ x) : strOfNums [Int.tmod x 256 % 256] = ⟨#[UInt8.ofNat x.toNat]⟩ := by
  obtain ⟨n, rfl⟩ := Int.eq_ofNat_of_zero_le h0
  have e : Int.tmod (n : Int) 256 % 256 = ((n % 256 : Nat) : Int) := by rw [Int.tmod_eq_emod_of_nonneg (by omega)]; omega
  rw [e]
  simp [strOfNums]
  apply UInt8.toNat.inj
  simp
  omega
theorem bytes_loop (n : Nat) (hn : n ≤ 8) : ∀ (m i k x : Nat) (t : ByteArray), i + m = n → m < k → x ≤ 18446744073709551615 → t.size = i →
    ∃ r, palanquinref01_Bytes.l0 k (x : Int) (n : Int) t (i : Int) = some r ∧ bl r = nb m x ++ bl t
  | 0, i, k + 1, x, t, hi, _, _, _ => by
    refine ⟨t, ?_, by simp [nb]⟩
    rw [palanquinref01_Bytes.l0, if_neg (by omega)]
  | m + 1, i, k + 1, x, t, hi, hk, hx, ht => by
    have hd : IntKind.u64.wrap (Int.tdiv (x : Int) 256) = ((x / 256 : Nat) : Int) := by rw [IntKind.wrap_u64, Int.tdiv_eq_ediv_of_nonneg (by omega)]; omega
    have hb := byte_is (x : Int) (by omega)
    rw [Int.toNat_natCast] at hb
    have h1 : (⟨#[UInt8.ofNat x]⟩ : ByteArray).size = 1 := rfl
    obtain ⟨r, hr, hr2⟩ := bytes_loop n hn m (i + 1) k (x / 256) (⟨#[UInt8.ofNat x]⟩ ++ t) (by omega) (by omega) (by omega) (by rw [ByteArray.size_append, h1]; omega)
    refine ⟨r, ?_, ?_⟩
    · rw [palanquinref01_Bytes.l0, if_pos (by omega), Option.bind_some, hb, if_pos (by rw [h1]; omega), hd, show wrap64 ((i : Int) + 1) = ((i + 1 : Nat) : Int) by unfold wrap64; omega]
      exact hr
    · rw [hr2, bl_append, nb, List.append_assoc]
      rfl
theorem bytes_is (n : Nat) (hn : n ≤ 8) (x : Nat) (hx : x ≤ 18446744073709551615) (k : Nat) (hk : n < k) : ∃ r, palanquinref01_Bytes.f k (x : Int) (n : Int) = some r ∧ bl r = nb n x := by
  obtain ⟨r, h1, h2⟩ := bytes_loop n hn n 0 k x ⟨#[]⟩ (by omega) hk hx rfl
  refine ⟨r, h1, ?_⟩
  rw [h2]
  simp [bl]
theorem bytes_u (n : Nat) (hn : n ≤ 8) (v : Int) (k : Nat) (hk : n < k) : ∃ r, palanquinref01_Bytes.f k (IntKind.u64.wrap v) (n : Int) = some r ∧ bl r = nb n (IntKind.u64.wrap v).toNat := by
  have h0 : 0 ≤ IntKind.u64.wrap v ∧ IntKind.u64.wrap v ≤ 18446744073709551615 := by rw [IntKind.wrap_u64]; omega
  generalize IntKind.u64.wrap v = x at h0 ⊢
  obtain ⟨x, rfl⟩ := Int.eq_ofNat_of_zero_le h0.1
  obtain ⟨r, h1, h2⟩ := bytes_is n hn x (by omega) k hk
  exact ⟨r, h1, by rw [h2, Int.toNat_natCast]⟩
theorem bytes_sized {n : Nat} {r : ByteArray} {x : Nat} (h : bl r = nb n x) : r.size = n := by rw [← bl_length, h, nb_length]
end Go.Proofs.Ytejmipoolbodgaa.Pure
end

section
/- Plain facts of palanquinref02: its sum is the checksum. -/
namespace Go.Proofs.Ytejmipoolbodgaa.Pure
open Go.RowKit Go.Proofs.YtejmipoolbodgaaW.PrintWords Go.Proofs.YtejmipoolbodgaaW.PrintLast Go.Proofs.Ytejmipoolbodgaa.G Go.Proofs.Ytejmipoolbodgaa.Pal
namespace R2
theorem down_is : ∀ (k n : Nat), n < k → n ≤ 1099511627776 → palanquinref02_down.f k (n : Int) = some ((fold16 n : Nat) : Int)
  | k + 1, n, hk, hn => by
    unfold palanquinref02_down.f
    rw [palanquinref02_down.l0]
    by_cases h : (n : Int) ≥ 65536
    · rw [if_pos h, show wrap64 (Int.tmod (n : Int) 65536 + wrap64 (Int.tdiv (n : Int) 65536)) = ((n % 65536 + n / 65536 : Nat) : Int) by
        rw [Int.tmod_eq_emod_of_nonneg (by omega), Int.tdiv_eq_ediv_of_nonneg (by omega)]; unfold wrap64; omega]
      have := down_is k (n % 65536 + n / 65536) (by omega) (by omega)
      unfold palanquinref02_down.f at this
      rw [this, fold16_step]
    · rw [if_neg h, fold16_id n (by omega)]
/-- fewer rounds: each takes at least 65535 away -/
theorem down_fast : ∀ (k n : Nat), n ≤ 4294967296 → 2 < k → palanquinref02_down.f k (n : Int) = some ((fold16 n : Nat) : Int) := by
  intro k n hn hk
  obtain ⟨k, rfl⟩ : ∃ j, k = j + 3 := ⟨k - 3, by omega⟩
  have step : ∀ m : Nat, m ≤ 4294967296 → (m : Int) ≥ 65536 → wrap64 (Int.tmod (m : Int) 65536 + wrap64 (Int.tdiv (m : Int) 65536)) = ((m % 65536 + m / 65536 : Nat) : Int) := fun m hm h => by
    rw [Int.tmod_eq_emod_of_nonneg (by omega), Int.tdiv_eq_ediv_of_nonneg (by omega)]; unfold wrap64; omega
  unfold palanquinref02_down.f
  rw [palanquinref02_down.l0]
  by_cases h : (n : Int) ≥ 65536
  · rw [if_pos h, step n hn h, palanquinref02_down.l0]
    by_cases h2 : ((n % 65536 + n / 65536 : Nat) : Int) ≥ 65536
    · rw [if_pos h2, step _ (by omega) h2, palanquinref02_down.l0, if_neg (by omega)]
      congr 2
      rw [← fold16_step n, ← fold16_step (n % 65536 + n / 65536), fold16_id _ (by omega)]
    · rw [if_neg h2]
      congr 2
      rw [← fold16_step n, fold16_id _ (by omega)]
  · rw [if_neg h, fold16_id n (by omega)]
theorem tot_two (l : List UInt8) (i : Nat) (h : i + 1 < l.length) : tot false (l.take (i + 2)) = tot false (l.take i) + tot (odd (l.take i)) [l[i], l[i + 1]] := by
  have e : l.take (i + 2) = l.take i ++ [l[i], l[i + 1]] := by
    rw [List.take_succ_eq_append_getElem (by omega), List.take_succ_eq_append_getElem (by omega), List.append_assoc]; rfl
  rw [e, tot_append]
  cases odd (l.take i) <;> rfl
theorem sum_end (s : ByteArray) (hs : s.size ≤ 6000) (k : Nat) (hk : 3 < k) : palanquinref02_Sum.l0 k s ((tot false (bl s) : Nat) : Int) (s.size : Int) = some ((65535 - fold16 (tot false (bl s)) : Nat) : Int) := by
  obtain ⟨k, rfl⟩ : ∃ j, k = j + 1 := ⟨k - 1, by omega⟩
  have hb := tot_le (bl s) false
  rw [bl_length] at hb
  rw [palanquinref02_Sum.l0, if_neg (by omega), down_fast k _ (by omega) (by omega), Option.bind_some]
  have := fold16_le (tot false (bl s))
  congr 1; unfold wrap64; omega
theorem sum_num (z x y : Nat) (hz : z ≤ 391680000) (hx : x < 2 ^ 8) (hy : y < 2 ^ 8) : wrap64 (wrap64 ((z : Int) + wrap64 (wrap64 (x : Int) * 256)) + wrap64 (y : Int)) = ((z + (x * 256 + y) : Nat) : Int) := by
  have e1 : wrap64 (x : Int) = x := by unfold wrap64; omega
  have e2 : wrap64 (y : Int) = y := by unfold wrap64; omega
  have e3 : wrap64 ((x : Int) * 256) = (x : Int) * 256 := by unfold wrap64; omega
  have e4 : wrap64 ((z : Int) + (x : Int) * 256) = (z : Int) + (x : Int) * 256 := by unfold wrap64; omega
  rw [e1, e2, e3, e4]
  unfold wrap64; omega
theorem sum_step (s : ByteArray) (hs : s.size ≤ 6000) (i k : Nat) (hi : i % 2 = 0) (h1 : i + 1 < s.size) :
    palanquinref02_Sum.l0 (k + 1) s ((tot false ((bl s).take i) : Nat) : Int) (i : Int) = palanquinref02_Sum.l0 k s ((tot false ((bl s).take (i + 2)) : Nat) : Int) ((i + 2 : Nat) : Int) := by
  have h0 : i < s.size := by omega
  have hl1 : i + 1 < (bl s).length := by rw [bl_length]; exact h1
  have hb := tot_le ((bl s).take i) false
  have hl : ((bl s).take i).length ≤ 6000 := by rw [List.length_take, bl_length]; omega
  have ho : odd ((bl s).take i) = false := by
    unfold odd; rw [List.length_take, bl_length, Nat.min_eq_left (by omega), hi]; rfl
  have ht := tot_two (bl s) i hl1
  rw [ho] at ht
  simp only [tot, Nat.add_zero] at ht
  have b0 := (bl s)[i].toNat_lt
  have b1 := (bl s)[i + 1].toNat_lt
  have w1 : wrap64 ((i : Int) + 1) = ((i + 1 : Nat) : Int) := by unfold wrap64; omega
  have w2 : wrap64 ((i : Int) + 2) = ((i + 2 : Nat) : Int) := by unfold wrap64; omega
  have g0 : bt s (i : Int) = (((bl s)[i].toNat : Nat) : Int) := bt_bl s i h0
  have g1 : bt s ((i + 1 : Nat) : Int) = (((bl s)[i + 1].toNat : Nat) : Int) := bt_bl s (i + 1) h1
  rw [ht]
  generalize (bl s)[i].toNat = x at b0 g0 ⊢
  generalize (bl s)[i + 1].toNat = y at b1 g1 ⊢
  have hz : tot false ((bl s).take i) ≤ 391680000 := by omega
  generalize tot false ((bl s).take i) = z at hz ⊢
  clear hb hl ho ht hl1 hs
  rw [palanquinref02_Sum.l0, if_pos (by omega), if_pos (by omega), w1, w2, if_pos (by omega), if_pos (by omega), g0, g1]
  rw [sum_num z x y hz b0 b1]
theorem sum_loop (s : ByteArray) (hs : s.size ≤ 6000) (he : s.size % 2 = 0) (n : Nat) : ∀ (i k : Nat), i + 2 * n = s.size → n + 3 < k →
    palanquinref02_Sum.l0 k s ((tot false ((bl s).take i) : Nat) : Int) (i : Int) = some ((65535 - fold16 (tot false (bl s)) : Nat) : Int) := by
  induction n with
  | zero =>
    intro i k hi hk
    have e := sum_end s hs k (by omega)
    rw [List.take_of_length_le (by rw [bl_length]; omega), show i = s.size by omega]
    exact e
  | succ n ih =>
    intro i k hi hk
    obtain ⟨k, rfl⟩ : ∃ j, k = j + 1 := ⟨k - 1, by omega⟩
    rw [sum_step s hs i k (by omega) (by omega)]
    exact ih (i + 2) k (by omega) (by omega)
theorem zero_is : strOfNums [0] = ⟨#[0]⟩ := by simp [strOfNums]
theorem ref_sum (s : ByteArray) (hs : s.size ≤ 5000) (k : Nat) (hk : 5000 < k) : palanquinref02_Sum.f k s = some ((csum (bl s) : Nat) : Int) := by
  unfold palanquinref02_Sum.f
  obtain ⟨k, rfl⟩ : ∃ j, k = j + 1 := ⟨k - 1, by omega⟩
  by_cases h : (s.size : Int) % 2 = 1
  · have h1 : (⟨#[0]⟩ : ByteArray).size = 1 := rfl
    rw [if_pos h, Option.bind_some, zero_is, if_pos (by rw [h1]; omega), palanquinref02_Sum.j0]
    have e := sum_loop (s ++ ⟨#[0]⟩) (by rw [ByteArray.size_append, h1]; omega) (by rw [ByteArray.size_append, h1]; omega) ((s.size + 1) / 2) 0 k (by rw [ByteArray.size_append, h1]; omega) (by omega)
    refine Eq.trans e ?_
    rw [bl_append, tot_append]
    unfold csum
    have : ∀ o, tot o (bl (⟨#[0]⟩ : ByteArray)) = 0 := fun o => by cases o <;> rfl
    rw [this]; rfl
  · rw [if_neg h, palanquinref02_Sum.j0]
    exact sum_loop s (by omega) (by omega) (s.size / 2) 0 k (by omega) (by omega)
end R2
end Go.Proofs.Ytejmipoolbodgaa.Pure
end
