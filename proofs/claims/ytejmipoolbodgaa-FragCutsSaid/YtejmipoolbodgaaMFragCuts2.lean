/- Texts of this session, joined: each is a section. -/
import Derived.Test.YtejmipoolbodgaaMFrbg1
import Derived.Test.YtejmipoolbodgaaMFrbg5
set_option linter.unusedVariables false
set_option linter.unusedSimpArgs false
section
namespace Go.Proofs.Ytejmipoolbodgaa.G
open Go.RowKit Go.Proofs.YtejmipoolbodgaaW.PrintWords Go.Proofs.YtejmipoolbodgaaW.PrintLast Go.Proofs.YtejmipoolbodgaaW.PrintMore
attribute [local go_sem] max2_int min2_int max_two min_two max_three min_three max_four min_four   -- for this text's walks alone
set_option linter.unusedVariables false
set_option linter.unusedSimpArgs false

def palanquinref05_Get.j0 : Nat → ByteArray → Int → Bool → Int → Int → Int → Int → Int → Bool → Bool → ByteArray → ByteArray → ByteArray → Option (Int × Int × Int × Int × Int × Bool × Bool × ByteArray × ByteArray × ByteArray × ByteArray × Int)
 | 0, _, _, _, _, _, _, _, _, _, _, _, _, _ => none
 | k + 1, x0, x6, x37, x682000, x682001, x682002, x682003, x682004, x682005, x682006, x682007, x682008, x682009 => if x37 = true then (some (x682000, x682001, x682002, x682003, x682004, x682005, x682006, x682007, x682008, x682009, (⟨#[]⟩ : ByteArray), 4)) else (if 0 ≤ x6 then (if x6 ≤ (x0.size : Int) then ((palanquinref02_Sum.f k (x0.extract 0 (x6 : Int).toNat)).bind fun t683 => (if t683 = 0 then ((palanquinref05_at.f k x0 6 2).bind fun t684 => (if t684 ≥ 32768 then (some (x682000, x682001, x682002, x682003, x682004, x682005, x682006, x682007, x682008, x682009, (⟨#[]⟩ : ByteArray), 9)) else (if 1 < (x0.size : Int) then ((palanquinref05_at.f k x0 4 2).bind fun t685 => (if 8 < (x0.size : Int) then (if 9 < (x0.size : Int) then (if 12 ≤ 16 then (if 16 ≤ (x0.size : Int) then (if 16 ≤ 20 then (if 20 ≤ (x0.size : Int) then (if 20 ≤ x6 then (some (wrap64 (bt x0 1), t685, Int.tmod t684 8192, wrap64 (bt x0 8), wrap64 (bt x0 9), ((wrap64 (Int.tdiv t684 16384)) == 1), ((Int.tmod (wrap64 (Int.tdiv t684 8192)) 2) == 1), x0.extract 12 16, x0.extract 16 20, x0.extract 20 (x6 : Int).toNat, x0.extract (x6 : Int).toNat x0.size, 0)) else (none)) else (none)) else (none)) else (none)) else (none)) else (none)) else (none))) else (none)))) else (some (x682000, x682001, x682002, x682003, x682004, x682005, x682006, x682007, x682008, x682009, (⟨#[]⟩ : ByteArray), 5)))) else (none)) else (none))
def palanquinref05_Get.f (k : Nat) (a0 : ByteArray) : Option (Int × Int × Int × Int × Int × Bool × Bool × ByteArray × ByteArray × ByteArray × ByteArray × Int) := if (a0.size : Int) < 20 then (some (0, 0, 0, 0, 0, false, false, (⟨#[]⟩ : ByteArray), (⟨#[]⟩ : ByteArray), (⟨#[]⟩ : ByteArray), (⟨#[]⟩ : ByteArray), 2)) else (if 0 < (a0.size : Int) then (if ((Int.tdiv (bt a0 0) 16) % 256) = 4 then (if (wrap64 ((wrap64 (Int.tmod (bt a0 0) 16)) * 4)) < 20 then (palanquinref05_Get.j0 k a0 (wrap64 ((wrap64 (Int.tmod (bt a0 0) 16)) * 4)) true 0 0 0 0 0 false false (⟨#[]⟩ : ByteArray) (⟨#[]⟩ : ByteArray) (⟨#[]⟩ : ByteArray)) else (if (wrap64 ((wrap64 (Int.tmod (bt a0 0) 16)) * 4)) > (a0.size : Int) then (palanquinref05_Get.j0 k a0 (wrap64 ((wrap64 (Int.tmod (bt a0 0) 16)) * 4)) true 0 0 0 0 0 false false (⟨#[]⟩ : ByteArray) (⟨#[]⟩ : ByteArray) (⟨#[]⟩ : ByteArray)) else ((palanquinref05_at.f k a0 2 2).bind fun t682 => (palanquinref05_Get.j0 k a0 (wrap64 ((wrap64 (Int.tmod (bt a0 0) 16)) * 4)) (t682 != (a0.size : Int)) 0 0 0 0 0 false false (⟨#[]⟩ : ByteArray) (⟨#[]⟩ : ByteArray) (⟨#[]⟩ : ByteArray))))) else (some (0, 0, 0, 0, 0, false, false, (⟨#[]⟩ : ByteArray), (⟨#[]⟩ : ByteArray), (⟨#[]⟩ : ByteArray), (⟨#[]⟩ : ByteArray), 3))) else (none))
theorem palanquinref05_Get.mono_l : ∀ k, (∀ y0 y1 y2 y3 y4 y5 y6 y7 y8 y9 y10 y11 y12, LeO (palanquinref05_Get.j0 k y0 y1 y2 y3 y4 y5 y6 y7 y8 y9 y10 y11 y12) (palanquinref05_Get.j0 (k + 1) y0 y1 y2 y3 y4 y5 y6 y7 y8 y9 y10 y11 y12))
 | 0 => fun _ _ _ _ _ _ _ _ _ _ _ _ _ r h => by simp [palanquinref05_Get.j0] at h
 | k + 1 => by
  have ih0 := palanquinref05_Get.mono_l k
  ·intro y0 y1 y2 y3 y4 y5 y6 y7 y8 y9 y10 y11 y12
   unfold palanquinref05_Get.j0
   repeat' first
   | (with_reducible exact ih0 _ _ _ _ _ _ _ _ _ _ _ _ _)
   | (with_reducible exact palanquinref02_Sum.mono _ _)
   | (with_reducible exact palanquinref05_at.mono _ _ _ _)
   | (with_reducible exact LeO.refl _)
   | (with_reducible exact LeO.none _)
   | (with_reducible refine LeO.ite ?_ ?_)
   | (with_reducible refine LeO.bind ?_ (fun _ => ?_))
   | exact ih0 _ _ _ _ _ _ _ _ _ _ _ _ _
   | exact palanquinref02_Sum.mono _ _
   | exact palanquinref05_at.mono _ _ _ _
   | exact LeO.none _
   | refine LeO.ite ?_ ?_
   | refine LeO.bind ?_ (fun _ => ?_)
theorem palanquinref05_Get.mono : ∀ a0 k, LeO (palanquinref05_Get.f k a0) (palanquinref05_Get.f (k + 1) a0) := by
 intro a0 k
 have ih0 := palanquinref05_Get.mono_l k
 unfold palanquinref05_Get.f
 repeat' first
   | (with_reducible exact ih0 _ _ _ _ _ _ _ _ _ _ _ _ _)
   | (with_reducible exact palanquinref02_Sum.mono _ _)
   | (with_reducible exact palanquinref05_at.mono _ _ _ _)
   | (with_reducible exact LeO.refl _)
   | (with_reducible exact LeO.none _)
   | (with_reducible refine LeO.ite ?_ ?_)
   | (with_reducible refine LeO.bind ?_ (fun _ => ?_))
   | exact ih0 _ _ _ _ _ _ _ _ _ _ _ _ _
   | exact palanquinref02_Sum.mono _ _
   | exact palanquinref05_at.mono _ _ _ _
   | exact LeO.none _
   | refine LeO.ite ?_ ?_
   | refine LeO.bind ?_ (fun _ => ?_)
def palanquinref05_Get.T14 : Bool × List (List Nat × List Nat) := (true, [([], []), ([0], [0]), ([1], [1]), ([], []), ([3], [3]), ([], []), ([5], [5]), ([6], [6]), ([], []), ([8], [8]), ([9], [9]), ([10], [10]), ([], []), ([12], [12]), ([], []), ([14], [14]), ([15], [15]), ([], []), ([17], [17]), ([18], [18]), ([], []), ([20], [20]), ([], []), ([22], [22]), ([], []), ([], []), ([24, 25], [24, 25]), ([2, 4, 7, 11, 13, 16, 19, 21, 23, 26], [2, 4, 7, 11, 13, 16, 19, 21, 23, 26]), ([], []), ([], []), ([28, 29], [28, 29]), ([27, 4, 0, 1, 2, 3, 4, 5, 6, 7, 8, 9, 10, 11, 12, 13, 14, 15, 16, 17, 18, 19, 20, 21, 22, 23, 24, 25, 26, 27], [27]), ([30, 31, 0, 1, 2, 3, 4, 5, 6, 7, 8, 9, 10, 11, 12, 13, 14, 15, 16, 17, 18, 19, 20, 21, 22, 23, 24, 25, 26, 27, 28, 29, 30, 31], [30]), ([32, 0, 1, 2, 3, 4, 5, 6, 7, 8, 9, 10, 11, 12, 13, 14, 15, 16, 17, 18, 19, 20, 21, 22, 23, 24, 25, 26, 27, 28, 29, 30, 31, 32], [])])
def palanquinref05_Get.B14 : List Nat := [0, 1, 3, 0, 8, 0, 32, 96, 0, 256, 768, 1792, 0, 4096, 0, 16384, 49152, 0, 131072, 393216, 0, 1048576, 0, 4194304, 0, 0, 50331648, 134217727, 0, 0, 805306368, 268435455, 4294967295, 8589934591]
theorem palanquinref05_Get.tab14 : rtab .any (opsOf Try.f112 14) = palanquinref05_Get.T14 := by kernel_rfl
theorem palanquinref05_Get.bits14 : waitsOk palanquinref05_Get.T14.2 palanquinref05_Get.B14 = true := by kernel_rfl
set_option maxHeartbeats 8000000 in
set_option maxRecDepth 100000 in
theorem palanquinref05_Get.calls (k : Nat) (a0 : ByteArray) (r1 : Int) (r2 : Int) (r3 : Int) (r4 : Int) (r5 : Int) (r6 : Bool) (r7 : Bool) (r8 : ByteArray) (r9 : ByteArray) (r10 : ByteArray) (r11 : ByteArray) (r12 : Int) (w : World) (h : palanquinref05_Get.f k a0 = some (r1, r2, r3, r4, r5, r6, r7, r8, r9, r10, r11, r12)) :
  Calls Try.prog 112 #[.string a0] w fun e w' => e = .returned (.tuple #[.agg #[.int .i64 r1, .int .i64 r2, .int .i64 r3, .int .i64 r4, .int .i64 r5, .bool r6, .bool r7, .string r8, .string r9, .string r10], .string r11, .int .i64 r12]) ∧ Below w.heap.size w w' := by
 have hu93 := Try.underlying93
 have HB := mA (Below.refl w.heap.size w)
 have H : (if (a0.size : Int) < 20 then (some (0, 0, 0, 0, 0, false, false, (⟨#[]⟩ : ByteArray), (⟨#[]⟩ : ByteArray), (⟨#[]⟩ : ByteArray), (⟨#[]⟩ : ByteArray), 2)) else (if 0 < (a0.size : Int) then (if ((Int.tdiv (bt a0 0) 16) % 256) = 4 then (if (wrap64 ((wrap64 (Int.tmod (bt a0 0) 16)) * 4)) < 20 then (palanquinref05_Get.j0 k a0 (wrap64 ((wrap64 (Int.tmod (bt a0 0) 16)) * 4)) true 0 0 0 0 0 false false (⟨#[]⟩ : ByteArray) (⟨#[]⟩ : ByteArray) (⟨#[]⟩ : ByteArray)) else (if (wrap64 ((wrap64 (Int.tmod (bt a0 0) 16)) * 4)) > (a0.size : Int) then (palanquinref05_Get.j0 k a0 (wrap64 ((wrap64 (Int.tmod (bt a0 0) 16)) * 4)) true 0 0 0 0 0 false false (⟨#[]⟩ : ByteArray) (⟨#[]⟩ : ByteArray) (⟨#[]⟩ : ByteArray)) else ((palanquinref05_at.f k a0 2 2).bind fun t682 => (palanquinref05_Get.j0 k a0 (wrap64 ((wrap64 (Int.tmod (bt a0 0) 16)) * 4)) (t682 != (a0.size : Int)) 0 0 0 0 0 false false (⟨#[]⟩ : ByteArray) (⟨#[]⟩ : ByteArray) (⟨#[]⟩ : ByteArray))))) else (some (0, 0, 0, 0, 0, false, false, (⟨#[]⟩ : ByteArray), (⟨#[]⟩ : ByteArray), (⟨#[]⟩ : ByteArray), (⟨#[]⟩ : ByteArray), 3))) else (none))) = some (r1, r2, r3, r4, r5, r6, r7, r8, r9, r10, r11, r12) := h
 clear h
 by_cases c2 : (a0.size : Int) < 20
 ·rw [if_pos c2] at H
  have c2b0 : decide ((a0.size : Int) < 20) = true := decide_eq_true c2
  have c2b1 : decide (a0.size < 20) = true := decide_eq_true (by omega)
  clear c2
  simp only [Option.some.injEq, Prod.mk.injEq] at H
  obtain ⟨rfl, rfl, rfl, rfl, rfl, rfl, rfl, rfl, rfl, rfl, rfl, rfl⟩ := H
  go_enter Try.func112, Try.ntmps112
  go_wp2_with (first | ((with_reducible refine gate_dst (N := 2) rfl ?_); (try (refine gate_guard (by rfl) ?_; dsimp only)); refine box_event ?hg (N := 2) ?hd (cs := #[.int .i64 0, .int .i64 0, .int .i64 0, .int .i64 0, .int .i64 0, .bool false, .bool false, .string (⟨#[]⟩ : ByteArray), .string (⟨#[]⟩ : ByteArray), .string (⟨#[]⟩ : ByteArray)]) (t := 93) ?hr ?_; (case hd => rfl); (case hg => rfl); (case hr => first | (go_simp; done) | (go_simp; rfl)); intro gb680 hg w3 hbox hb; have n0_ := mA (bP (by repeat (first | (with_reducible first | exact HB.out | apply bA | apply bN | apply bD) | exact HB.out)) hb); have n1_ := mA (hbox); have n2_ := mA ((by rw [hg]; exact (below_size (by repeat (first | (with_reducible first | exact HB.out | apply bA | apply bN | apply bD) | exact HB.out))) : w.heap.size ≤ gb680)); have n3_ := mA ((by rw [hg]; exact (below_size (by repeat (first | (with_reducible first | exact HB.out | apply bA | apply bN | apply bD) | exact HB.out))) : w.heap.size ≤ gb680)); clear HB; have HB := n0_; have BK680 := n1_; have GW680 := n2_; have GE680 := n3_; clear n0_ n1_ n2_ n3_; clear hb hbox hg) | ((with_reducible refine gate_dst (N := 5) rfl ?_); (try (refine gate_guard (by rfl) ?_; dsimp only)); refine box_event ?hg (N := 5) ?hd (cs := #[.int .i64 0, .int .i64 0, .int .i64 0, .int .i64 0, .int .i64 0, .bool false, .bool false, .string (⟨#[]⟩ : ByteArray), .string (⟨#[]⟩ : ByteArray), .string (⟨#[]⟩ : ByteArray)]) (t := 93) ?hr ?_; (case hd => rfl); (case hg => rfl); (case hr => first | (go_simp; done) | (go_simp; rfl)); intro gb681 hg w4 hbox hb; have n0_ := mA (blk_below (g := gb680) (o := .cells #[.int .i64 0, .int .i64 0, .int .i64 0, .int .i64 0, .int .i64 0, .bool false, .bool false, .string (⟨#[]⟩ : ByteArray), .string (⟨#[]⟩ : ByteArray), .string (⟨#[]⟩ : ByteArray)] 93 (0, 0)) (by (with_reducible repeat (first | apply kN | apply kD | apply kA)); exact BK680.out) hb); have n1_ := mA (bP (by repeat (first | (with_reducible first | exact HB.out | apply bA | apply bN | apply bD | refine bS ?_ GE680.out) | exact HB.out)) hb); have n2_ := mA (hbox); have n3_ := mA ((by rw [hg]; exact (below_size (by repeat (first | (with_reducible first | exact HB.out | apply bA | apply bN | apply bD | refine bS ?_ GE680.out) | exact HB.out))) : w.heap.size ≤ gb681)); have n4_ := mA ((by rw [hg]; exact (below_size (by repeat (first | (with_reducible first | exact HB.out | apply bA | apply bN | apply bD | refine bS ?_ GE680.out) | exact HB.out))) : w.heap.size ≤ gb681)); have n5_ := mA ((by rw [hg]; exact Nat.ne_of_lt (blk_lt (g := gb680) (o := .cells #[.int .i64 0, .int .i64 0, .int .i64 0, .int .i64 0, .int .i64 0, .bool false, .bool false, .string (⟨#[]⟩ : ByteArray), .string (⟨#[]⟩ : ByteArray), .string (⟨#[]⟩ : ByteArray)] 93 (0, 0)) (by (with_reducible repeat (first | apply kN | apply kD | apply kA)); exact BK680.out)) : gb680 ≠ gb681)); have n6_ := mA ((by rw [hg]; exact Nat.ne_of_gt (blk_lt (g := gb680) (o := .cells #[.int .i64 0, .int .i64 0, .int .i64 0, .int .i64 0, .int .i64 0, .bool false, .bool false, .string (⟨#[]⟩ : ByteArray), .string (⟨#[]⟩ : ByteArray), .string (⟨#[]⟩ : ByteArray)] 93 (0, 0)) (by (with_reducible repeat (first | apply kN | apply kD | apply kA)); exact BK680.out)) : gb681 ≠ gb680)); clear BK680; clear HB; have BK680 := n0_; have HB := n1_; have BK681 := n2_; have GW681 := n3_; have GE681 := n4_; have NB680_681 := n5_; have NB681_680 := n6_; clear n0_ n1_ n2_ n3_ n4_ n5_ n6_; clear hb hbox hg; have hnb5 := NB681_680.out; have hnc5 := NB680_681.out; have hcz6_0 : w4.cell? ⟨gb681, 0, none⟩ = some (.int .i64 0) := (zC BK681.out 0).trans rfl; have hcz6_1 : w4.cell? ⟨gb681, 1, none⟩ = some (.int .i64 0) := (zC BK681.out 1).trans rfl; have hcz6_2 : w4.cell? ⟨gb681, 2, none⟩ = some (.int .i64 0) := (zC BK681.out 2).trans rfl; have hcz6_3 : w4.cell? ⟨gb681, 3, none⟩ = some (.int .i64 0) := (zC BK681.out 3).trans rfl; have hcz6_4 : w4.cell? ⟨gb681, 4, none⟩ = some (.int .i64 0) := (zC BK681.out 4).trans rfl; have hcz6_5 : w4.cell? ⟨gb681, 5, none⟩ = some (.bool false) := (zC BK681.out 5).trans rfl; have hcz6_6 : w4.cell? ⟨gb681, 6, none⟩ = some (.bool false) := (zC BK681.out 6).trans rfl; have hcz6_7 : w4.cell? ⟨gb681, 7, none⟩ = some (.string (⟨#[]⟩ : ByteArray)) := (zC BK681.out 7).trans rfl; have hcz6_8 : w4.cell? ⟨gb681, 8, none⟩ = some (.string (⟨#[]⟩ : ByteArray)) := (zC BK681.out 8).trans rfl; have hcz6_9 : w4.cell? ⟨gb681, 9, none⟩ = some (.string (⟨#[]⟩ : ByteArray)) := (zC BK681.out 9).trans rfl; have hfz6_0 := zF BK681.out 0; have hfz6_1 := zF BK681.out 1; have hfz6_2 := zF BK681.out 2; have hfz6_3 := zF BK681.out 3; have hfz6_4 := zF BK681.out 4; have hfz6_5 := zF BK681.out 5; have hfz6_6 := zF BK681.out 6; have hfz6_7 := zF BK681.out 7; have hfz6_8 := zF BK681.out 8; have hfz6_9 := zF BK681.out 9; have hcz7_0 : w4.cell? ⟨gb680, 0, none⟩ = some (.int .i64 0) := (zC BK680.out 0).trans rfl; have hcz7_1 : w4.cell? ⟨gb680, 1, none⟩ = some (.int .i64 0) := (zC BK680.out 1).trans rfl; have hcz7_2 : w4.cell? ⟨gb680, 2, none⟩ = some (.int .i64 0) := (zC BK680.out 2).trans rfl; have hcz7_3 : w4.cell? ⟨gb680, 3, none⟩ = some (.int .i64 0) := (zC BK680.out 3).trans rfl; have hcz7_4 : w4.cell? ⟨gb680, 4, none⟩ = some (.int .i64 0) := (zC BK680.out 4).trans rfl; have hcz7_5 : w4.cell? ⟨gb680, 5, none⟩ = some (.bool false) := (zC BK680.out 5).trans rfl; have hcz7_6 : w4.cell? ⟨gb680, 6, none⟩ = some (.bool false) := (zC BK680.out 6).trans rfl; have hcz7_7 : w4.cell? ⟨gb680, 7, none⟩ = some (.string (⟨#[]⟩ : ByteArray)) := (zC BK680.out 7).trans rfl; have hcz7_8 : w4.cell? ⟨gb680, 8, none⟩ = some (.string (⟨#[]⟩ : ByteArray)) := (zC BK680.out 8).trans rfl; have hcz7_9 : w4.cell? ⟨gb680, 9, none⟩ = some (.string (⟨#[]⟩ : ByteArray)) := (zC BK680.out 9).trans rfl; have hfz7_0 := zF BK680.out 0; have hfz7_1 := zF BK680.out 1; have hfz7_2 := zF BK680.out 2; have hfz7_3 := zF BK680.out 3; have hfz7_4 := zF BK680.out 4; have hfz7_5 := zF BK680.out 5; have hfz7_6 := zF BK680.out 6; have hfz7_7 := zF BK680.out 7; have hfz7_8 := zF BK680.out 8; have hfz7_9 := zF BK680.out 9))
  refine bodyPost_ret (results_ctt rfl _ _ gb680 93 #[.int .i64 0, .int .i64 0, .int .i64 0, .int .i64 0, .int .i64 0, .bool false, .bool false, .string (⟨#[]⟩ : ByteArray), .string (⟨#[]⟩ : ByteArray), .string (⟨#[]⟩ : ByteArray)] (0, 0) _ rfl (by (with_reducible repeat (first | apply kN | apply kD | apply kA)); refine blk_put (cs := #[.int .i64 0, .int .i64 0, .int .i64 0, .int .i64 0, .int .i64 0, .bool false, .bool false, .string (⟨#[]⟩ : ByteArray), .string (⟨#[]⟩ : ByteArray), .string (⟨#[]⟩ : ByteArray)]) ?_ 9 _ rfl; (with_reducible repeat (first | apply kN | apply kD | apply kA)); refine blk_put (cs := #[.int .i64 0, .int .i64 0, .int .i64 0, .int .i64 0, .int .i64 0, .bool false, .bool false, .string (⟨#[]⟩ : ByteArray), .string (⟨#[]⟩ : ByteArray), .string (⟨#[]⟩ : ByteArray)]) ?_ 8 _ rfl; (with_reducible repeat (first | apply kN | apply kD | apply kA)); refine blk_put (cs := #[.int .i64 0, .int .i64 0, .int .i64 0, .int .i64 0, .int .i64 0, .bool false, .bool false, .string (⟨#[]⟩ : ByteArray), .string (⟨#[]⟩ : ByteArray), .string (⟨#[]⟩ : ByteArray)]) ?_ 7 _ rfl; (with_reducible repeat (first | apply kN | apply kD | apply kA)); refine blk_put (cs := #[.int .i64 0, .int .i64 0, .int .i64 0, .int .i64 0, .int .i64 0, .bool false, .bool false, .string (⟨#[]⟩ : ByteArray), .string (⟨#[]⟩ : ByteArray), .string (⟨#[]⟩ : ByteArray)]) ?_ 6 _ rfl; (with_reducible repeat (first | apply kN | apply kD | apply kA)); refine blk_put (cs := #[.int .i64 0, .int .i64 0, .int .i64 0, .int .i64 0, .int .i64 0, .bool false, .bool false, .string (⟨#[]⟩ : ByteArray), .string (⟨#[]⟩ : ByteArray), .string (⟨#[]⟩ : ByteArray)]) ?_ 5 _ rfl; (with_reducible repeat (first | apply kN | apply kD | apply kA)); refine blk_put (cs := #[.int .i64 0, .int .i64 0, .int .i64 0, .int .i64 0, .int .i64 0, .bool false, .bool false, .string (⟨#[]⟩ : ByteArray), .string (⟨#[]⟩ : ByteArray), .string (⟨#[]⟩ : ByteArray)]) ?_ 4 _ rfl; (with_reducible repeat (first | apply kN | apply kD | apply kA)); refine blk_put (cs := #[.int .i64 0, .int .i64 0, .int .i64 0, .int .i64 0, .int .i64 0, .bool false, .bool false, .string (⟨#[]⟩ : ByteArray), .string (⟨#[]⟩ : ByteArray), .string (⟨#[]⟩ : ByteArray)]) ?_ 3 _ rfl; (with_reducible repeat (first | apply kN | apply kD | apply kA)); refine blk_put (cs := #[.int .i64 0, .int .i64 0, .int .i64 0, .int .i64 0, .int .i64 0, .bool false, .bool false, .string (⟨#[]⟩ : ByteArray), .string (⟨#[]⟩ : ByteArray), .string (⟨#[]⟩ : ByteArray)]) ?_ 2 _ rfl; (with_reducible repeat (first | apply kN | apply kD | apply kA)); refine blk_put (cs := #[.int .i64 0, .int .i64 0, .int .i64 0, .int .i64 0, .int .i64 0, .bool false, .bool false, .string (⟨#[]⟩ : ByteArray), .string (⟨#[]⟩ : ByteArray), .string (⟨#[]⟩ : ByteArray)]) ?_ 1 _ rfl; (with_reducible repeat (first | apply kN | apply kD | apply kA)); refine blk_put (cs := #[.int .i64 0, .int .i64 0, .int .i64 0, .int .i64 0, .int .i64 0, .bool false, .bool false, .string (⟨#[]⟩ : ByteArray), .string (⟨#[]⟩ : ByteArray), .string (⟨#[]⟩ : ByteArray)]) ?_ 0 _ rfl; (with_reducible repeat (first | apply kN | apply kD | apply kA)); refine blk_far ?_ NB680_681.out _; (with_reducible repeat (first | apply kN | apply kD | apply kA)); refine blk_far ?_ NB680_681.out _; (with_reducible repeat (first | apply kN | apply kD | apply kA)); refine blk_far ?_ NB680_681.out _; (with_reducible repeat (first | apply kN | apply kD | apply kA)); refine blk_far ?_ NB680_681.out _; (with_reducible repeat (first | apply kN | apply kD | apply kA)); refine blk_far ?_ NB680_681.out _; (with_reducible repeat (first | apply kN | apply kD | apply kA)); refine blk_far ?_ NB680_681.out _; (with_reducible repeat (first | apply kN | apply kD | apply kA)); refine blk_far ?_ NB680_681.out _; (with_reducible repeat (first | apply kN | apply kD | apply kA)); refine blk_far ?_ NB680_681.out _; (with_reducible repeat (first | apply kN | apply kD | apply kA)); refine blk_far ?_ NB680_681.out _; (with_reducible repeat (first | apply kN | apply kD | apply kA)); refine blk_far ?_ NB680_681.out _; (with_reducible repeat (first | apply kN | apply kD | apply kA)); exact BK680.out) Try.underlying93 rfl (by kernel_rfl)) rfl ?_
  exact ⟨by first | rfl | (simp [errW_none, errW_some] <;> rfl) | (simp [*, errW_none, errW_some] <;> rfl), by repeat (first | (with_reducible first | exact HB.out | apply bA | apply bN | apply bD | refine bS ?_ GE680.out | refine bS ?_ GE681.out) | exact HB.out)⟩
 ·rw [if_neg c2] at H
  have c2b0 : decide ((a0.size : Int) < 20) = false := decide_eq_false c2
  have c2b1 : decide (a0.size < 20) = false := decide_eq_false (by omega)
  clear c2
  by_cases c8 : 0 < (a0.size : Int)
  ·rw [if_pos c8] at H
   have c8b0 : decide (0 < (a0.size : Int)) = true := decide_eq_true c8
   have c8b1 : decide (0 < a0.size) = true := decide_eq_true (by omega)
   clear c8
   by_cases c10 : ((Int.tdiv (bt a0 0) 16) % 256) = 4
   ·rw [if_pos c10] at H
    have c10b0 : (((Int.tdiv (bt a0 0) 16) % 256) == 4) = true := beq_iff_eq.mpr c10
    have c10b1 : (((Int.tdiv (bt a0 0) 16) % 256) != 4) = false := bne_eq_false_iff_eq.mpr c10
    clear c10
    have HC12 := mA H
    clear H
    go_enter Try.func112, Try.ntmps112
    go_upto_region 7 with (first | ((with_reducible refine gate_dst (N := 2) rfl ?_); (try (refine gate_guard (by rfl) ?_; dsimp only)); refine box_event ?hg (N := 2) ?hd (cs := #[.int .i64 0, .int .i64 0, .int .i64 0, .int .i64 0, .int .i64 0, .bool false, .bool false, .string (⟨#[]⟩ : ByteArray), .string (⟨#[]⟩ : ByteArray), .string (⟨#[]⟩ : ByteArray)]) (t := 93) ?hr ?_; (case hd => rfl); (case hg => rfl); (case hr => first | (go_simp; done) | (go_simp; rfl)); intro gb680 hg w13 hbox hb; have n0_ := mA (bP (by repeat (first | (with_reducible first | exact HB.out | apply bA | apply bN | apply bD) | exact HB.out)) hb); have n1_ := mA (hbox); have n2_ := mA ((by rw [hg]; exact (below_size (by repeat (first | (with_reducible first | exact HB.out | apply bA | apply bN | apply bD) | exact HB.out))) : w.heap.size ≤ gb680)); have n3_ := mA ((by rw [hg]; exact (below_size (by repeat (first | (with_reducible first | exact HB.out | apply bA | apply bN | apply bD) | exact HB.out))) : w.heap.size ≤ gb680)); clear HB; have HB := n0_; have BK680 := n1_; have GW680 := n2_; have GE680 := n3_; clear n0_ n1_ n2_ n3_; clear hb hbox hg) | ((with_reducible refine gate_dst (N := 5) rfl ?_); (try (refine gate_guard (by rfl) ?_; dsimp only)); refine box_event ?hg (N := 5) ?hd (cs := #[.int .i64 0, .int .i64 0, .int .i64 0, .int .i64 0, .int .i64 0, .bool false, .bool false, .string (⟨#[]⟩ : ByteArray), .string (⟨#[]⟩ : ByteArray), .string (⟨#[]⟩ : ByteArray)]) (t := 93) ?hr ?_; (case hd => rfl); (case hg => rfl); (case hr => first | (go_simp; done) | (go_simp; rfl)); intro gb681 hg w14 hbox hb; have n0_ := mA (blk_below (g := gb680) (o := .cells #[.int .i64 0, .int .i64 0, .int .i64 0, .int .i64 0, .int .i64 0, .bool false, .bool false, .string (⟨#[]⟩ : ByteArray), .string (⟨#[]⟩ : ByteArray), .string (⟨#[]⟩ : ByteArray)] 93 (0, 0)) (by (with_reducible repeat (first | apply kN | apply kD | apply kA)); exact BK680.out) hb); have n1_ := mA (bP (by repeat (first | (with_reducible first | exact HB.out | apply bA | apply bN | apply bD | refine bS ?_ GE680.out) | exact HB.out)) hb); have n2_ := mA (hbox); have n3_ := mA ((by rw [hg]; exact (below_size (by repeat (first | (with_reducible first | exact HB.out | apply bA | apply bN | apply bD | refine bS ?_ GE680.out) | exact HB.out))) : w.heap.size ≤ gb681)); have n4_ := mA ((by rw [hg]; exact (below_size (by repeat (first | (with_reducible first | exact HB.out | apply bA | apply bN | apply bD | refine bS ?_ GE680.out) | exact HB.out))) : w.heap.size ≤ gb681)); have n5_ := mA ((by rw [hg]; exact Nat.ne_of_lt (blk_lt (g := gb680) (o := .cells #[.int .i64 0, .int .i64 0, .int .i64 0, .int .i64 0, .int .i64 0, .bool false, .bool false, .string (⟨#[]⟩ : ByteArray), .string (⟨#[]⟩ : ByteArray), .string (⟨#[]⟩ : ByteArray)] 93 (0, 0)) (by (with_reducible repeat (first | apply kN | apply kD | apply kA)); exact BK680.out)) : gb680 ≠ gb681)); have n6_ := mA ((by rw [hg]; exact Nat.ne_of_gt (blk_lt (g := gb680) (o := .cells #[.int .i64 0, .int .i64 0, .int .i64 0, .int .i64 0, .int .i64 0, .bool false, .bool false, .string (⟨#[]⟩ : ByteArray), .string (⟨#[]⟩ : ByteArray), .string (⟨#[]⟩ : ByteArray)] 93 (0, 0)) (by (with_reducible repeat (first | apply kN | apply kD | apply kA)); exact BK680.out)) : gb681 ≠ gb680)); clear BK680; clear HB; have BK680 := n0_; have HB := n1_; have BK681 := n2_; have GW681 := n3_; have GE681 := n4_; have NB680_681 := n5_; have NB681_680 := n6_; clear n0_ n1_ n2_ n3_ n4_ n5_ n6_; clear hb hbox hg; have hnb15 := NB681_680.out; have hnc15 := NB680_681.out; have hcz16_0 : w14.cell? ⟨gb681, 0, none⟩ = some (.int .i64 0) := (zC BK681.out 0).trans rfl; have hcz16_1 : w14.cell? ⟨gb681, 1, none⟩ = some (.int .i64 0) := (zC BK681.out 1).trans rfl; have hcz16_2 : w14.cell? ⟨gb681, 2, none⟩ = some (.int .i64 0) := (zC BK681.out 2).trans rfl; have hcz16_3 : w14.cell? ⟨gb681, 3, none⟩ = some (.int .i64 0) := (zC BK681.out 3).trans rfl; have hcz16_4 : w14.cell? ⟨gb681, 4, none⟩ = some (.int .i64 0) := (zC BK681.out 4).trans rfl; have hcz16_5 : w14.cell? ⟨gb681, 5, none⟩ = some (.bool false) := (zC BK681.out 5).trans rfl; have hcz16_6 : w14.cell? ⟨gb681, 6, none⟩ = some (.bool false) := (zC BK681.out 6).trans rfl; have hcz16_7 : w14.cell? ⟨gb681, 7, none⟩ = some (.string (⟨#[]⟩ : ByteArray)) := (zC BK681.out 7).trans rfl; have hcz16_8 : w14.cell? ⟨gb681, 8, none⟩ = some (.string (⟨#[]⟩ : ByteArray)) := (zC BK681.out 8).trans rfl; have hcz16_9 : w14.cell? ⟨gb681, 9, none⟩ = some (.string (⟨#[]⟩ : ByteArray)) := (zC BK681.out 9).trans rfl; have hfz16_0 := zF BK681.out 0; have hfz16_1 := zF BK681.out 1; have hfz16_2 := zF BK681.out 2; have hfz16_3 := zF BK681.out 3; have hfz16_4 := zF BK681.out 4; have hfz16_5 := zF BK681.out 5; have hfz16_6 := zF BK681.out 6; have hfz16_7 := zF BK681.out 7; have hfz16_8 := zF BK681.out 8; have hfz16_9 := zF BK681.out 9; have p9 : 0 ≤ (0 : Int) := (by omega); have q9 : 0 < a0.size := (by have : (0 : Int) < (a0.size : Int) := of_decide_eq_true (by first | (with_reducible assumption) | assumption); omega); have hx9 : ∀ h : 0 < a0.size, ((a0[0]'h).toNat : Int) = bt a0 0 := bt_at a0 0; clear p9; have qi9 : (0 < (a0.size : Int)) = True := eq_true (of_decide_eq_true (by first | (with_reducible assumption) | assumption)); replace q9 := eq_true q9; have p11 : 0 ≤ (0 : Int) := (by omega); have q11 : 0 < a0.size := (by have : (0 : Int) < (a0.size : Int) := of_decide_eq_true (by first | (with_reducible assumption) | assumption); omega); have hx11 : ∀ h : 0 < a0.size, ((a0[0]'h).toNat : Int) = bt a0 0 := bt_at a0 0; clear p11; have qi11 : (0 < (a0.size : Int)) = True := eq_true (of_decide_eq_true (by first | (with_reducible assumption) | assumption)); replace q11 := eq_true q11))
    (try simp only [Act.put, List.setIfInBounds_toArray, List.set_cons_zero, List.set_cons_succ])
    go_cut [37] (fun v37 wc => ∃ (kq : Nat) (x37_11 : Bool), v37 = .bool x37_11 ∧ Aside0 (palanquinref05_Get.j0 kq a0 (wrap64 ((wrap64 (Int.tmod (bt a0 0) 16)) * 4)) x37_11 0 0 0 0 0 false false (⟨#[]⟩ : ByteArray) (⟨#[]⟩ : ByteArray) (⟨#[]⟩ : ByteArray) = some (r1, r2, r3, r4, r5, r6, r7, r8, r9, r10, r11, r12)) ∧ Aside0 (kq ≤ k) ∧ Aside0 (wc.heap[gb680]? = some (.cells #[.int .i64 0, .int .i64 0, .int .i64 0, .int .i64 0, .int .i64 0, .bool false, .bool false, .string (⟨#[]⟩ : ByteArray), .string (⟨#[]⟩ : ByteArray), .string (⟨#[]⟩ : ByteArray)] 93 (0, 0))) ∧ Aside0 (wc.heap[gb681]? = some (.cells #[.int .i64 0, .int .i64 0, .int .i64 0, .int .i64 0, .int .i64 0, .bool false, .bool false, .string (⟨#[]⟩ : ByteArray), .string (⟨#[]⟩ : ByteArray), .string (⟨#[]⟩ : ByteArray)] 93 (0, 0))) ∧ Aside0 (Below w.heap.size w wc))
    case first =>
     have H := HC12.out
     clear HC12
     by_cases c17 : (wrap64 ((wrap64 (Int.tmod (bt a0 0) 16)) * 4)) < 20
     ·rw [if_pos c17] at H
      have c17b0 : decide ((wrap64 ((wrap64 (Int.tmod (bt a0 0) 16)) * 4)) < 20) = true := decide_eq_true c17
      clear c17
      (first | rw [c17b0] | (simp only [i64_w, i32_w]; rw [c17b0]) | skip)
      have H' := mA H
      clear H
      go_wp2
      go_meet
      case rel => exact ⟨_, (true), (by first | rfl | (simp; done) | (simp [*]; done)), H', ⟨by first | omega | exact Nat.le_refl _⟩, ⟨by (with_reducible repeat (first | apply kN | apply kD | apply kA)); refine blk_far ?_ NB680_681.out _; (with_reducible repeat (first | apply kN | apply kD | apply kA)); refine blk_far ?_ NB680_681.out _; (with_reducible repeat (first | apply kN | apply kD | apply kA)); refine blk_far ?_ NB680_681.out _; (with_reducible repeat (first | apply kN | apply kD | apply kA)); refine blk_far ?_ NB680_681.out _; (with_reducible repeat (first | apply kN | apply kD | apply kA)); refine blk_far ?_ NB680_681.out _; (with_reducible repeat (first | apply kN | apply kD | apply kA)); refine blk_far ?_ NB680_681.out _; (with_reducible repeat (first | apply kN | apply kD | apply kA)); refine blk_far ?_ NB680_681.out _; (with_reducible repeat (first | apply kN | apply kD | apply kA)); refine blk_far ?_ NB680_681.out _; (with_reducible repeat (first | apply kN | apply kD | apply kA)); refine blk_far ?_ NB680_681.out _; (with_reducible repeat (first | apply kN | apply kD | apply kA)); refine blk_far ?_ NB680_681.out _; (with_reducible repeat (first | apply kN | apply kD | apply kA)); exact BK680.out⟩, ⟨by (with_reducible repeat (first | apply kN | apply kD | apply kA)); refine blk_put (cs := #[.int .i64 0, .int .i64 0, .int .i64 0, .int .i64 0, .int .i64 0, .bool false, .bool false, .string (⟨#[]⟩ : ByteArray), .string (⟨#[]⟩ : ByteArray), .string (⟨#[]⟩ : ByteArray)]) ?_ 9 _ rfl; (with_reducible repeat (first | apply kN | apply kD | apply kA)); refine blk_put (cs := #[.int .i64 0, .int .i64 0, .int .i64 0, .int .i64 0, .int .i64 0, .bool false, .bool false, .string (⟨#[]⟩ : ByteArray), .string (⟨#[]⟩ : ByteArray), .string (⟨#[]⟩ : ByteArray)]) ?_ 8 _ rfl; (with_reducible repeat (first | apply kN | apply kD | apply kA)); refine blk_put (cs := #[.int .i64 0, .int .i64 0, .int .i64 0, .int .i64 0, .int .i64 0, .bool false, .bool false, .string (⟨#[]⟩ : ByteArray), .string (⟨#[]⟩ : ByteArray), .string (⟨#[]⟩ : ByteArray)]) ?_ 7 _ rfl; (with_reducible repeat (first | apply kN | apply kD | apply kA)); refine blk_put (cs := #[.int .i64 0, .int .i64 0, .int .i64 0, .int .i64 0, .int .i64 0, .bool false, .bool false, .string (⟨#[]⟩ : ByteArray), .string (⟨#[]⟩ : ByteArray), .string (⟨#[]⟩ : ByteArray)]) ?_ 6 _ rfl; (with_reducible repeat (first | apply kN | apply kD | apply kA)); refine blk_put (cs := #[.int .i64 0, .int .i64 0, .int .i64 0, .int .i64 0, .int .i64 0, .bool false, .bool false, .string (⟨#[]⟩ : ByteArray), .string (⟨#[]⟩ : ByteArray), .string (⟨#[]⟩ : ByteArray)]) ?_ 5 _ rfl; (with_reducible repeat (first | apply kN | apply kD | apply kA)); refine blk_put (cs := #[.int .i64 0, .int .i64 0, .int .i64 0, .int .i64 0, .int .i64 0, .bool false, .bool false, .string (⟨#[]⟩ : ByteArray), .string (⟨#[]⟩ : ByteArray), .string (⟨#[]⟩ : ByteArray)]) ?_ 4 _ rfl; (with_reducible repeat (first | apply kN | apply kD | apply kA)); refine blk_put (cs := #[.int .i64 0, .int .i64 0, .int .i64 0, .int .i64 0, .int .i64 0, .bool false, .bool false, .string (⟨#[]⟩ : ByteArray), .string (⟨#[]⟩ : ByteArray), .string (⟨#[]⟩ : ByteArray)]) ?_ 3 _ rfl; (with_reducible repeat (first | apply kN | apply kD | apply kA)); refine blk_put (cs := #[.int .i64 0, .int .i64 0, .int .i64 0, .int .i64 0, .int .i64 0, .bool false, .bool false, .string (⟨#[]⟩ : ByteArray), .string (⟨#[]⟩ : ByteArray), .string (⟨#[]⟩ : ByteArray)]) ?_ 2 _ rfl; (with_reducible repeat (first | apply kN | apply kD | apply kA)); refine blk_put (cs := #[.int .i64 0, .int .i64 0, .int .i64 0, .int .i64 0, .int .i64 0, .bool false, .bool false, .string (⟨#[]⟩ : ByteArray), .string (⟨#[]⟩ : ByteArray), .string (⟨#[]⟩ : ByteArray)]) ?_ 1 _ rfl; (with_reducible repeat (first | apply kN | apply kD | apply kA)); refine blk_put (cs := #[.int .i64 0, .int .i64 0, .int .i64 0, .int .i64 0, .int .i64 0, .bool false, .bool false, .string (⟨#[]⟩ : ByteArray), .string (⟨#[]⟩ : ByteArray), .string (⟨#[]⟩ : ByteArray)]) ?_ 0 _ rfl; (with_reducible repeat (first | apply kN | apply kD | apply kA)); exact BK681.out⟩, ⟨by repeat (first | (with_reducible first | exact HB.out | apply bA | apply bN | apply bD | refine bS ?_ GE680.out | refine bS ?_ GE681.out) | exact HB.out)⟩⟩
     ·rw [if_neg c17] at H
      have c17b0 : decide ((wrap64 ((wrap64 (Int.tmod (bt a0 0) 16)) * 4)) < 20) = false := decide_eq_false c17
      clear c17
      (first | rw [c17b0] | (simp only [i64_w, i32_w]; rw [c17b0]) | skip)
      by_cases c18 : (wrap64 ((wrap64 (Int.tmod (bt a0 0) 16)) * 4)) > (a0.size : Int)
      ·rw [if_pos c18] at H
       have c18b0 : decide ((a0.size : Int) < (wrap64 ((wrap64 (Int.tmod (bt a0 0) 16)) * 4))) = true := decide_eq_true c18
       clear c18
       have H' := mA H
       clear H
       go_wp2
       go_meet
       case rel => exact ⟨_, (true), (by first | rfl | (simp; done) | (simp [*]; done)), H', ⟨by first | omega | exact Nat.le_refl _⟩, ⟨by (with_reducible repeat (first | apply kN | apply kD | apply kA)); refine blk_far ?_ NB680_681.out _; (with_reducible repeat (first | apply kN | apply kD | apply kA)); refine blk_far ?_ NB680_681.out _; (with_reducible repeat (first | apply kN | apply kD | apply kA)); refine blk_far ?_ NB680_681.out _; (with_reducible repeat (first | apply kN | apply kD | apply kA)); refine blk_far ?_ NB680_681.out _; (with_reducible repeat (first | apply kN | apply kD | apply kA)); refine blk_far ?_ NB680_681.out _; (with_reducible repeat (first | apply kN | apply kD | apply kA)); refine blk_far ?_ NB680_681.out _; (with_reducible repeat (first | apply kN | apply kD | apply kA)); refine blk_far ?_ NB680_681.out _; (with_reducible repeat (first | apply kN | apply kD | apply kA)); refine blk_far ?_ NB680_681.out _; (with_reducible repeat (first | apply kN | apply kD | apply kA)); refine blk_far ?_ NB680_681.out _; (with_reducible repeat (first | apply kN | apply kD | apply kA)); refine blk_far ?_ NB680_681.out _; (with_reducible repeat (first | apply kN | apply kD | apply kA)); exact BK680.out⟩, ⟨by (with_reducible repeat (first | apply kN | apply kD | apply kA)); refine blk_put (cs := #[.int .i64 0, .int .i64 0, .int .i64 0, .int .i64 0, .int .i64 0, .bool false, .bool false, .string (⟨#[]⟩ : ByteArray), .string (⟨#[]⟩ : ByteArray), .string (⟨#[]⟩ : ByteArray)]) ?_ 9 _ rfl; (with_reducible repeat (first | apply kN | apply kD | apply kA)); refine blk_put (cs := #[.int .i64 0, .int .i64 0, .int .i64 0, .int .i64 0, .int .i64 0, .bool false, .bool false, .string (⟨#[]⟩ : ByteArray), .string (⟨#[]⟩ : ByteArray), .string (⟨#[]⟩ : ByteArray)]) ?_ 8 _ rfl; (with_reducible repeat (first | apply kN | apply kD | apply kA)); refine blk_put (cs := #[.int .i64 0, .int .i64 0, .int .i64 0, .int .i64 0, .int .i64 0, .bool false, .bool false, .string (⟨#[]⟩ : ByteArray), .string (⟨#[]⟩ : ByteArray), .string (⟨#[]⟩ : ByteArray)]) ?_ 7 _ rfl; (with_reducible repeat (first | apply kN | apply kD | apply kA)); refine blk_put (cs := #[.int .i64 0, .int .i64 0, .int .i64 0, .int .i64 0, .int .i64 0, .bool false, .bool false, .string (⟨#[]⟩ : ByteArray), .string (⟨#[]⟩ : ByteArray), .string (⟨#[]⟩ : ByteArray)]) ?_ 6 _ rfl; (with_reducible repeat (first | apply kN | apply kD | apply kA)); refine blk_put (cs := #[.int .i64 0, .int .i64 0, .int .i64 0, .int .i64 0, .int .i64 0, .bool false, .bool false, .string (⟨#[]⟩ : ByteArray), .string (⟨#[]⟩ : ByteArray), .string (⟨#[]⟩ : ByteArray)]) ?_ 5 _ rfl; (with_reducible repeat (first | apply kN | apply kD | apply kA)); refine blk_put (cs := #[.int .i64 0, .int .i64 0, .int .i64 0, .int .i64 0, .int .i64 0, .bool false, .bool false, .string (⟨#[]⟩ : ByteArray), .string (⟨#[]⟩ : ByteArray), .string (⟨#[]⟩ : ByteArray)]) ?_ 4 _ rfl; (with_reducible repeat (first | apply kN | apply kD | apply kA)); refine blk_put (cs := #[.int .i64 0, .int .i64 0, .int .i64 0, .int .i64 0, .int .i64 0, .bool false, .bool false, .string (⟨#[]⟩ : ByteArray), .string (⟨#[]⟩ : ByteArray), .string (⟨#[]⟩ : ByteArray)]) ?_ 3 _ rfl; (with_reducible repeat (first | apply kN | apply kD | apply kA)); refine blk_put (cs := #[.int .i64 0, .int .i64 0, .int .i64 0, .int .i64 0, .int .i64 0, .bool false, .bool false, .string (⟨#[]⟩ : ByteArray), .string (⟨#[]⟩ : ByteArray), .string (⟨#[]⟩ : ByteArray)]) ?_ 2 _ rfl; (with_reducible repeat (first | apply kN | apply kD | apply kA)); refine blk_put (cs := #[.int .i64 0, .int .i64 0, .int .i64 0, .int .i64 0, .int .i64 0, .bool false, .bool false, .string (⟨#[]⟩ : ByteArray), .string (⟨#[]⟩ : ByteArray), .string (⟨#[]⟩ : ByteArray)]) ?_ 1 _ rfl; (with_reducible repeat (first | apply kN | apply kD | apply kA)); refine blk_put (cs := #[.int .i64 0, .int .i64 0, .int .i64 0, .int .i64 0, .int .i64 0, .bool false, .bool false, .string (⟨#[]⟩ : ByteArray), .string (⟨#[]⟩ : ByteArray), .string (⟨#[]⟩ : ByteArray)]) ?_ 0 _ rfl; (with_reducible repeat (first | apply kN | apply kD | apply kA)); exact BK681.out⟩, ⟨by repeat (first | (with_reducible first | exact HB.out | apply bA | apply bN | apply bD | refine bS ?_ GE680.out | refine bS ?_ GE681.out) | exact HB.out)⟩⟩
      ·rw [if_neg c18] at H
       have c18b0 : decide ((a0.size : Int) < (wrap64 ((wrap64 (Int.tmod (bt a0 0) 16)) * 4))) = false := decide_eq_false c18
       clear c18
       replace H := Option.bind_eq_some_iff.mp H
       obtain ⟨t682, A190, H⟩ := H
       replace H : (palanquinref05_Get.j0 k a0 (wrap64 ((wrap64 (Int.tmod (bt a0 0) 16)) * 4)) (t682 != (a0.size : Int)) 0 0 0 0 0 false false (⟨#[]⟩ : ByteArray) (⟨#[]⟩ : ByteArray) (⟨#[]⟩ : ByteArray)) = some (r1, r2, r3, r4, r5, r6, r7, r8, r9, r10, r11, r12) := H
       have A19 := mA A190
       clear A190
       have H' := mA H
       clear H
       go_wp2_with (first | (go_at_call 156; (with_reducible refine (palanquinref05_at.calls k a0 2 2 t682 _ A19.out).mono ?_); rintro e w' ⟨rfl, ⟨nd, rfl⟩⟩))
       go_meet
       case rel => exact ⟨_, ((t682 != (a0.size : Int))), (by first | rfl | (simp; done) | (simp [*]; done)), H', ⟨by first | omega | exact Nat.le_refl _⟩, ⟨by (with_reducible repeat (first | apply kN | apply kD | apply kA)); refine blk_far ?_ NB680_681.out _; (with_reducible repeat (first | apply kN | apply kD | apply kA)); refine blk_far ?_ NB680_681.out _; (with_reducible repeat (first | apply kN | apply kD | apply kA)); refine blk_far ?_ NB680_681.out _; (with_reducible repeat (first | apply kN | apply kD | apply kA)); refine blk_far ?_ NB680_681.out _; (with_reducible repeat (first | apply kN | apply kD | apply kA)); refine blk_far ?_ NB680_681.out _; (with_reducible repeat (first | apply kN | apply kD | apply kA)); refine blk_far ?_ NB680_681.out _; (with_reducible repeat (first | apply kN | apply kD | apply kA)); refine blk_far ?_ NB680_681.out _; (with_reducible repeat (first | apply kN | apply kD | apply kA)); refine blk_far ?_ NB680_681.out _; (with_reducible repeat (first | apply kN | apply kD | apply kA)); refine blk_far ?_ NB680_681.out _; (with_reducible repeat (first | apply kN | apply kD | apply kA)); refine blk_far ?_ NB680_681.out _; (with_reducible repeat (first | apply kN | apply kD | apply kA)); exact BK680.out⟩, ⟨by (with_reducible repeat (first | apply kN | apply kD | apply kA)); refine blk_put (cs := #[.int .i64 0, .int .i64 0, .int .i64 0, .int .i64 0, .int .i64 0, .bool false, .bool false, .string (⟨#[]⟩ : ByteArray), .string (⟨#[]⟩ : ByteArray), .string (⟨#[]⟩ : ByteArray)]) ?_ 9 _ rfl; (with_reducible repeat (first | apply kN | apply kD | apply kA)); refine blk_put (cs := #[.int .i64 0, .int .i64 0, .int .i64 0, .int .i64 0, .int .i64 0, .bool false, .bool false, .string (⟨#[]⟩ : ByteArray), .string (⟨#[]⟩ : ByteArray), .string (⟨#[]⟩ : ByteArray)]) ?_ 8 _ rfl; (with_reducible repeat (first | apply kN | apply kD | apply kA)); refine blk_put (cs := #[.int .i64 0, .int .i64 0, .int .i64 0, .int .i64 0, .int .i64 0, .bool false, .bool false, .string (⟨#[]⟩ : ByteArray), .string (⟨#[]⟩ : ByteArray), .string (⟨#[]⟩ : ByteArray)]) ?_ 7 _ rfl; (with_reducible repeat (first | apply kN | apply kD | apply kA)); refine blk_put (cs := #[.int .i64 0, .int .i64 0, .int .i64 0, .int .i64 0, .int .i64 0, .bool false, .bool false, .string (⟨#[]⟩ : ByteArray), .string (⟨#[]⟩ : ByteArray), .string (⟨#[]⟩ : ByteArray)]) ?_ 6 _ rfl; (with_reducible repeat (first | apply kN | apply kD | apply kA)); refine blk_put (cs := #[.int .i64 0, .int .i64 0, .int .i64 0, .int .i64 0, .int .i64 0, .bool false, .bool false, .string (⟨#[]⟩ : ByteArray), .string (⟨#[]⟩ : ByteArray), .string (⟨#[]⟩ : ByteArray)]) ?_ 5 _ rfl; (with_reducible repeat (first | apply kN | apply kD | apply kA)); refine blk_put (cs := #[.int .i64 0, .int .i64 0, .int .i64 0, .int .i64 0, .int .i64 0, .bool false, .bool false, .string (⟨#[]⟩ : ByteArray), .string (⟨#[]⟩ : ByteArray), .string (⟨#[]⟩ : ByteArray)]) ?_ 4 _ rfl; (with_reducible repeat (first | apply kN | apply kD | apply kA)); refine blk_put (cs := #[.int .i64 0, .int .i64 0, .int .i64 0, .int .i64 0, .int .i64 0, .bool false, .bool false, .string (⟨#[]⟩ : ByteArray), .string (⟨#[]⟩ : ByteArray), .string (⟨#[]⟩ : ByteArray)]) ?_ 3 _ rfl; (with_reducible repeat (first | apply kN | apply kD | apply kA)); refine blk_put (cs := #[.int .i64 0, .int .i64 0, .int .i64 0, .int .i64 0, .int .i64 0, .bool false, .bool false, .string (⟨#[]⟩ : ByteArray), .string (⟨#[]⟩ : ByteArray), .string (⟨#[]⟩ : ByteArray)]) ?_ 2 _ rfl; (with_reducible repeat (first | apply kN | apply kD | apply kA)); refine blk_put (cs := #[.int .i64 0, .int .i64 0, .int .i64 0, .int .i64 0, .int .i64 0, .bool false, .bool false, .string (⟨#[]⟩ : ByteArray), .string (⟨#[]⟩ : ByteArray), .string (⟨#[]⟩ : ByteArray)]) ?_ 1 _ rfl; (with_reducible repeat (first | apply kN | apply kD | apply kA)); refine blk_put (cs := #[.int .i64 0, .int .i64 0, .int .i64 0, .int .i64 0, .int .i64 0, .bool false, .bool false, .string (⟨#[]⟩ : ByteArray), .string (⟨#[]⟩ : ByteArray), .string (⟨#[]⟩ : ByteArray)]) ?_ 0 _ rfl; (with_reducible repeat (first | apply kN | apply kD | apply kA)); exact BK681.out⟩, ⟨by repeat (first | (with_reducible first | exact HB.out | apply bA | apply bN | apply bD | refine bS ?_ GE680.out | refine bS ?_ GE681.out) | exact HB.out)⟩⟩
    case rest =>
     clear HC12
     try clear c1
     try clear p1
     try clear q1
     try clear hx1
     try clear qi1
     try clear c2
     try clear c2b0
     try clear c2b1
     try clear p2
     try clear c5
     try clear p6
     try clear c8
     try clear c8b0
     try clear c8b1
     try clear p9
     try clear q9
     try clear hx9
     try clear qi9
     try clear c10
     try clear c10b0
     try clear c10b1
     try clear c11
     try clear p11
     try clear q11
     try clear hx11
     try clear qi11
     try clear c15
     try clear c17
     try clear c17b0
     try clear c18
     try clear c18b0
     try clear hcz16_0
     try clear hcz16_1
     try clear hcz16_2
     try clear hcz16_3
     try clear hcz16_4
     try clear hcz16_5
     try clear hcz16_6
     try clear hcz16_7
     try clear hcz16_8
     try clear hcz16_9
     try clear hcz6_0
     try clear hcz6_1
     try clear hcz6_2
     try clear hcz6_3
     try clear hcz6_4
     try clear hcz6_5
     try clear hcz6_6
     try clear hcz6_7
     try clear hcz6_8
     try clear hcz6_9
     try clear hcz7_0
     try clear hcz7_1
     try clear hcz7_2
     try clear hcz7_3
     try clear hcz7_4
     try clear hcz7_5
     try clear hcz7_6
     try clear hcz7_7
     try clear hcz7_8
     try clear hcz7_9
     try clear hfz16_0
     try clear hfz16_1
     try clear hfz16_2
     try clear hfz16_3
     try clear hfz16_4
     try clear hfz16_5
     try clear hfz16_6
     try clear hfz16_7
     try clear hfz16_8
     try clear hfz16_9
     try clear hfz6_0
     try clear hfz6_1
     try clear hfz6_2
     try clear hfz6_3
     try clear hfz6_4
     try clear hfz6_5
     try clear hfz6_6
     try clear hfz6_7
     try clear hfz6_8
     try clear hfz6_9
     try clear hfz7_0
     try clear hfz7_1
     try clear hfz7_2
     try clear hfz7_3
     try clear hfz7_4
     try clear hfz7_5
     try clear hfz7_6
     try clear hfz7_7
     try clear hfz7_8
     try clear hfz7_9
     try clear p11
     try clear p9
     try clear q11
     try clear q9
     obtain ⟨kq, x37_11, rfl, HA, HJ11, BK680, BK681, HB⟩ := hcut
     cases kq with
     | zero => exact absurd HA.out (by simp [palanquinref05_Get.j0])
     | succ kj11 =>
      have H := HA.out
      clear HA
      simp only [palanquinref05_Get.j0] at H
      by_cases c20 : x37_11 = true
      ·subst c20
       have H1 : (some (0, 0, 0, 0, 0, false, false, (⟨#[]⟩ : ByteArray), (⟨#[]⟩ : ByteArray), (⟨#[]⟩ : ByteArray), (⟨#[]⟩ : ByteArray), 4)) = some (r1, r2, r3, r4, r5, r6, r7, r8, r9, r10, r11, r12) := by rw [if_pos rfl] at H; exact H
       clear H
       have H := H1
       clear H1
       simp only [Option.some.injEq, Prod.mk.injEq] at H
       obtain ⟨rfl, rfl, rfl, rfl, rfl, rfl, rfl, rfl, rfl, rfl, rfl, rfl⟩ := H
       have hnb21 := NB681_680.out
       have hnc21 := NB680_681.out
       have hcz22_0 : wc.cell? ⟨gb681, 0, none⟩ = some (.int .i64 0) := (zC BK681.out 0).trans rfl
       have hcz22_1 : wc.cell? ⟨gb681, 1, none⟩ = some (.int .i64 0) := (zC BK681.out 1).trans rfl
       have hcz22_2 : wc.cell? ⟨gb681, 2, none⟩ = some (.int .i64 0) := (zC BK681.out 2).trans rfl
       have hcz22_3 : wc.cell? ⟨gb681, 3, none⟩ = some (.int .i64 0) := (zC BK681.out 3).trans rfl
       have hcz22_4 : wc.cell? ⟨gb681, 4, none⟩ = some (.int .i64 0) := (zC BK681.out 4).trans rfl
       have hcz22_5 : wc.cell? ⟨gb681, 5, none⟩ = some (.bool false) := (zC BK681.out 5).trans rfl
       have hcz22_6 : wc.cell? ⟨gb681, 6, none⟩ = some (.bool false) := (zC BK681.out 6).trans rfl
       have hcz22_7 : wc.cell? ⟨gb681, 7, none⟩ = some (.string (⟨#[]⟩ : ByteArray)) := (zC BK681.out 7).trans rfl
       have hcz22_8 : wc.cell? ⟨gb681, 8, none⟩ = some (.string (⟨#[]⟩ : ByteArray)) := (zC BK681.out 8).trans rfl
       have hcz22_9 : wc.cell? ⟨gb681, 9, none⟩ = some (.string (⟨#[]⟩ : ByteArray)) := (zC BK681.out 9).trans rfl
       have hfz22_0 := zF BK681.out 0
       have hfz22_1 := zF BK681.out 1
       have hfz22_2 := zF BK681.out 2
       have hfz22_3 := zF BK681.out 3
       have hfz22_4 := zF BK681.out 4
       have hfz22_5 := zF BK681.out 5
       have hfz22_6 := zF BK681.out 6
       have hfz22_7 := zF BK681.out 7
       have hfz22_8 := zF BK681.out 8
       have hfz22_9 := zF BK681.out 9
       have hcz23_0 : wc.cell? ⟨gb680, 0, none⟩ = some (.int .i64 0) := (zC BK680.out 0).trans rfl
       have hcz23_1 : wc.cell? ⟨gb680, 1, none⟩ = some (.int .i64 0) := (zC BK680.out 1).trans rfl
       have hcz23_2 : wc.cell? ⟨gb680, 2, none⟩ = some (.int .i64 0) := (zC BK680.out 2).trans rfl
       have hcz23_3 : wc.cell? ⟨gb680, 3, none⟩ = some (.int .i64 0) := (zC BK680.out 3).trans rfl
       have hcz23_4 : wc.cell? ⟨gb680, 4, none⟩ = some (.int .i64 0) := (zC BK680.out 4).trans rfl
       have hcz23_5 : wc.cell? ⟨gb680, 5, none⟩ = some (.bool false) := (zC BK680.out 5).trans rfl
       have hcz23_6 : wc.cell? ⟨gb680, 6, none⟩ = some (.bool false) := (zC BK680.out 6).trans rfl
       have hcz23_7 : wc.cell? ⟨gb680, 7, none⟩ = some (.string (⟨#[]⟩ : ByteArray)) := (zC BK680.out 7).trans rfl
       have hcz23_8 : wc.cell? ⟨gb680, 8, none⟩ = some (.string (⟨#[]⟩ : ByteArray)) := (zC BK680.out 8).trans rfl
       have hcz23_9 : wc.cell? ⟨gb680, 9, none⟩ = some (.string (⟨#[]⟩ : ByteArray)) := (zC BK680.out 9).trans rfl
       have hfz23_0 := zF BK680.out 0
       have hfz23_1 := zF BK680.out 1
       have hfz23_2 := zF BK680.out 2
       have hfz23_3 := zF BK680.out 3
       have hfz23_4 := zF BK680.out 4
       have hfz23_5 := zF BK680.out 5
       have hfz23_6 := zF BK680.out 6
       have hfz23_7 := zF BK680.out 7
       have hfz23_8 := zF BK680.out 8
       have hfz23_9 := zF BK680.out 9
       go_wp2
       refine bodyPost_ret (results_ctt rfl _ _ gb680 93 #[.int .i64 0, .int .i64 0, .int .i64 0, .int .i64 0, .int .i64 0, .bool false, .bool false, .string (⟨#[]⟩ : ByteArray), .string (⟨#[]⟩ : ByteArray), .string (⟨#[]⟩ : ByteArray)] (0, 0) _ rfl (by (with_reducible repeat (first | apply kN | apply kD | apply kA)); refine blk_put (cs := #[.int .i64 0, .int .i64 0, .int .i64 0, .int .i64 0, .int .i64 0, .bool false, .bool false, .string (⟨#[]⟩ : ByteArray), .string (⟨#[]⟩ : ByteArray), .string (⟨#[]⟩ : ByteArray)]) ?_ 9 _ rfl; (with_reducible repeat (first | apply kN | apply kD | apply kA)); refine blk_put (cs := #[.int .i64 0, .int .i64 0, .int .i64 0, .int .i64 0, .int .i64 0, .bool false, .bool false, .string (⟨#[]⟩ : ByteArray), .string (⟨#[]⟩ : ByteArray), .string (⟨#[]⟩ : ByteArray)]) ?_ 8 _ rfl; (with_reducible repeat (first | apply kN | apply kD | apply kA)); refine blk_put (cs := #[.int .i64 0, .int .i64 0, .int .i64 0, .int .i64 0, .int .i64 0, .bool false, .bool false, .string (⟨#[]⟩ : ByteArray), .string (⟨#[]⟩ : ByteArray), .string (⟨#[]⟩ : ByteArray)]) ?_ 7 _ rfl; (with_reducible repeat (first | apply kN | apply kD | apply kA)); refine blk_put (cs := #[.int .i64 0, .int .i64 0, .int .i64 0, .int .i64 0, .int .i64 0, .bool false, .bool false, .string (⟨#[]⟩ : ByteArray), .string (⟨#[]⟩ : ByteArray), .string (⟨#[]⟩ : ByteArray)]) ?_ 6 _ rfl; (with_reducible repeat (first | apply kN | apply kD | apply kA)); refine blk_put (cs := #[.int .i64 0, .int .i64 0, .int .i64 0, .int .i64 0, .int .i64 0, .bool false, .bool false, .string (⟨#[]⟩ : ByteArray), .string (⟨#[]⟩ : ByteArray), .string (⟨#[]⟩ : ByteArray)]) ?_ 5 _ rfl; (with_reducible repeat (first | apply kN | apply kD | apply kA)); refine blk_put (cs := #[.int .i64 0, .int .i64 0, .int .i64 0, .int .i64 0, .int .i64 0, .bool false, .bool false, .string (⟨#[]⟩ : ByteArray), .string (⟨#[]⟩ : ByteArray), .string (⟨#[]⟩ : ByteArray)]) ?_ 4 _ rfl; (with_reducible repeat (first | apply kN | apply kD | apply kA)); refine blk_put (cs := #[.int .i64 0, .int .i64 0, .int .i64 0, .int .i64 0, .int .i64 0, .bool false, .bool false, .string (⟨#[]⟩ : ByteArray), .string (⟨#[]⟩ : ByteArray), .string (⟨#[]⟩ : ByteArray)]) ?_ 3 _ rfl; (with_reducible repeat (first | apply kN | apply kD | apply kA)); refine blk_put (cs := #[.int .i64 0, .int .i64 0, .int .i64 0, .int .i64 0, .int .i64 0, .bool false, .bool false, .string (⟨#[]⟩ : ByteArray), .string (⟨#[]⟩ : ByteArray), .string (⟨#[]⟩ : ByteArray)]) ?_ 2 _ rfl; (with_reducible repeat (first | apply kN | apply kD | apply kA)); refine blk_put (cs := #[.int .i64 0, .int .i64 0, .int .i64 0, .int .i64 0, .int .i64 0, .bool false, .bool false, .string (⟨#[]⟩ : ByteArray), .string (⟨#[]⟩ : ByteArray), .string (⟨#[]⟩ : ByteArray)]) ?_ 1 _ rfl; (with_reducible repeat (first | apply kN | apply kD | apply kA)); refine blk_put (cs := #[.int .i64 0, .int .i64 0, .int .i64 0, .int .i64 0, .int .i64 0, .bool false, .bool false, .string (⟨#[]⟩ : ByteArray), .string (⟨#[]⟩ : ByteArray), .string (⟨#[]⟩ : ByteArray)]) ?_ 0 _ rfl; (with_reducible repeat (first | apply kN | apply kD | apply kA)); exact BK680.out) Try.underlying93 rfl (by kernel_rfl)) rfl ?_
       exact ⟨by first | rfl | (simp [errW_none, errW_some] <;> rfl) | (simp [*, errW_none, errW_some] <;> rfl), by repeat (first | (with_reducible first | exact HB.out | apply bA | apply bN | apply bD | refine bS ?_ GE680.out | refine bS ?_ GE681.out) | exact HB.out)⟩
      ·replace c20 := Bool.eq_false_iff.mpr c20
       subst c20
       have H1 : (if 0 ≤ (wrap64 ((wrap64 (Int.tmod (bt a0 0) 16)) * 4)) then (if (wrap64 ((wrap64 (Int.tmod (bt a0 0) 16)) * 4)) ≤ (a0.size : Int) then ((palanquinref02_Sum.f kj11 (a0.extract 0 ((wrap64 ((wrap64 (Int.tmod (bt a0 0) 16)) * 4)) : Int).toNat)).bind fun t683 => (if t683 = 0 then ((palanquinref05_at.f kj11 a0 6 2).bind fun t684 => (if t684 ≥ 32768 then (some (0, 0, 0, 0, 0, false, false, (⟨#[]⟩ : ByteArray), (⟨#[]⟩ : ByteArray), (⟨#[]⟩ : ByteArray), (⟨#[]⟩ : ByteArray), 9)) else (if 1 < (a0.size : Int) then ((palanquinref05_at.f kj11 a0 4 2).bind fun t685 => (if 8 < (a0.size : Int) then (if 9 < (a0.size : Int) then (if 12 ≤ 16 then (if 16 ≤ (a0.size : Int) then (if 16 ≤ 20 then (if 20 ≤ (a0.size : Int) then (if 20 ≤ (wrap64 ((wrap64 (Int.tmod (bt a0 0) 16)) * 4)) then (some (wrap64 (bt a0 1), t685, Int.tmod t684 8192, wrap64 (bt a0 8), wrap64 (bt a0 9), ((wrap64 (Int.tdiv t684 16384)) == 1), ((Int.tmod (wrap64 (Int.tdiv t684 8192)) 2) == 1), a0.extract 12 16, a0.extract 16 20, a0.extract 20 ((wrap64 ((wrap64 (Int.tmod (bt a0 0) 16)) * 4)) : Int).toNat, a0.extract ((wrap64 ((wrap64 (Int.tmod (bt a0 0) 16)) * 4)) : Int).toNat a0.size, 0)) else (none)) else (none)) else (none)) else (none)) else (none)) else (none)) else (none))) else (none)))) else (some (0, 0, 0, 0, 0, false, false, (⟨#[]⟩ : ByteArray), (⟨#[]⟩ : ByteArray), (⟨#[]⟩ : ByteArray), (⟨#[]⟩ : ByteArray), 5)))) else (none)) else (none)) = some (r1, r2, r3, r4, r5, r6, r7, r8, r9, r10, r11, r12) := by rw [if_neg (show ¬ (false = true) by decide)] at H; exact H
       clear H
       have H := H1
       clear H1
       obtain ⟨ji24, hji24⟩ : ∃ j_ : Int, (wrap64 ((wrap64 (Int.tmod (bt a0 0) 16)) * 4)) = j_ := ⟨_, rfl⟩
       replace H : (if 0 ≤ (ji24) then (if (ji24) ≤ (a0.size : Int) then ((palanquinref02_Sum.f kj11 (a0.extract 0 ((ji24) : Int).toNat)).bind fun t683 => (if t683 = 0 then ((palanquinref05_at.f kj11 a0 6 2).bind fun t684 => (if t684 ≥ 32768 then (some (0, 0, 0, 0, 0, false, false, (⟨#[]⟩ : ByteArray), (⟨#[]⟩ : ByteArray), (⟨#[]⟩ : ByteArray), (⟨#[]⟩ : ByteArray), 9)) else (if 1 < (a0.size : Int) then ((palanquinref05_at.f kj11 a0 4 2).bind fun t685 => (if 8 < (a0.size : Int) then (if 9 < (a0.size : Int) then (if 12 ≤ 16 then (if 16 ≤ (a0.size : Int) then (if 16 ≤ 20 then (if 20 ≤ (a0.size : Int) then (if 20 ≤ (ji24) then (some (wrap64 (bt a0 1), t685, Int.tmod t684 8192, wrap64 (bt a0 8), wrap64 (bt a0 9), ((wrap64 (Int.tdiv t684 16384)) == 1), ((Int.tmod (wrap64 (Int.tdiv t684 8192)) 2) == 1), a0.extract 12 16, a0.extract 16 20, a0.extract 20 ((ji24) : Int).toNat, a0.extract ((ji24) : Int).toNat a0.size, 0)) else (none)) else (none)) else (none)) else (none)) else (none)) else (none)) else (none))) else (none)))) else (some (0, 0, 0, 0, 0, false, false, (⟨#[]⟩ : ByteArray), (⟨#[]⟩ : ByteArray), (⟨#[]⟩ : ByteArray), (⟨#[]⟩ : ByteArray), 5)))) else (none)) else (none)) = some (r1, r2, r3, r4, r5, r6, r7, r8, r9, r10, r11, r12) := by first | (rw [hji24] at H; exact H) | (simp only [hji24] at H ⊢; exact H)
       have hji24w : (IntKind.i64.wrap ((wrap64 (Int.tmod (bt a0 0) 16)) * 4)) = ji24 := (i64_w _).trans hji24
       by_cases c25 : 0 ≤ (ji24)
       ·rw [if_pos c25] at H
        have c25b0 := eq_true c25
        have c25b1 : decide (0 ≤ (ji24)) = true := decide_eq_true c25
        clear c25
        by_cases c26 : (ji24) ≤ (a0.size : Int)
        ·rw [if_pos c26] at H
         have c26b0 := eq_true c26
         have c26b1 : decide ((ji24) ≤ (a0.size : Int)) = true := decide_eq_true c26
         clear c26
         replace H := Option.bind_eq_some_iff.mp H
         obtain ⟨t683, A270, H⟩ := H
         replace H : (if t683 = 0 then ((palanquinref05_at.f kj11 a0 6 2).bind fun t684 => (if t684 ≥ 32768 then (some (0, 0, 0, 0, 0, false, false, (⟨#[]⟩ : ByteArray), (⟨#[]⟩ : ByteArray), (⟨#[]⟩ : ByteArray), (⟨#[]⟩ : ByteArray), 9)) else (if 1 < (a0.size : Int) then ((palanquinref05_at.f kj11 a0 4 2).bind fun t685 => (if 8 < (a0.size : Int) then (if 9 < (a0.size : Int) then (if 12 ≤ 16 then (if 16 ≤ (a0.size : Int) then (if 16 ≤ 20 then (if 20 ≤ (a0.size : Int) then (if 20 ≤ (ji24) then (some (wrap64 (bt a0 1), t685, Int.tmod t684 8192, wrap64 (bt a0 8), wrap64 (bt a0 9), ((wrap64 (Int.tdiv t684 16384)) == 1), ((Int.tmod (wrap64 (Int.tdiv t684 8192)) 2) == 1), a0.extract 12 16, a0.extract 16 20, a0.extract 20 ((ji24) : Int).toNat, a0.extract ((ji24) : Int).toNat a0.size, 0)) else (none)) else (none)) else (none)) else (none)) else (none)) else (none)) else (none))) else (none)))) else (some (0, 0, 0, 0, 0, false, false, (⟨#[]⟩ : ByteArray), (⟨#[]⟩ : ByteArray), (⟨#[]⟩ : ByteArray), (⟨#[]⟩ : ByteArray), 5))) = some (r1, r2, r3, r4, r5, r6, r7, r8, r9, r10, r11, r12) := H
         have A27 := mA A270
         clear A270
         by_cases c28 : t683 = 0
         ·rw [if_pos c28] at H
          have c28b0 : (t683 == 0) = true := beq_iff_eq.mpr c28
          have c28b1 : (t683 != 0) = false := bne_eq_false_iff_eq.mpr c28
          clear c28
          replace H := Option.bind_eq_some_iff.mp H
          obtain ⟨t684, A290, H⟩ := H
          replace H : (if t684 ≥ 32768 then (some (0, 0, 0, 0, 0, false, false, (⟨#[]⟩ : ByteArray), (⟨#[]⟩ : ByteArray), (⟨#[]⟩ : ByteArray), (⟨#[]⟩ : ByteArray), 9)) else (if 1 < (a0.size : Int) then ((palanquinref05_at.f kj11 a0 4 2).bind fun t685 => (if 8 < (a0.size : Int) then (if 9 < (a0.size : Int) then (if 12 ≤ 16 then (if 16 ≤ (a0.size : Int) then (if 16 ≤ 20 then (if 20 ≤ (a0.size : Int) then (if 20 ≤ (ji24) then (some (wrap64 (bt a0 1), t685, Int.tmod t684 8192, wrap64 (bt a0 8), wrap64 (bt a0 9), ((wrap64 (Int.tdiv t684 16384)) == 1), ((Int.tmod (wrap64 (Int.tdiv t684 8192)) 2) == 1), a0.extract 12 16, a0.extract 16 20, a0.extract 20 ((ji24) : Int).toNat, a0.extract ((ji24) : Int).toNat a0.size, 0)) else (none)) else (none)) else (none)) else (none)) else (none)) else (none)) else (none))) else (none))) = some (r1, r2, r3, r4, r5, r6, r7, r8, r9, r10, r11, r12) := H
          have A29 := mA A290
          clear A290
          by_cases c30 : t684 ≥ 32768
          ·rw [if_pos c30] at H
           have c30b0 : decide (32768 ≤ t684) = true := decide_eq_true c30
           clear c30
           simp only [Option.some.injEq, Prod.mk.injEq] at H
           obtain ⟨rfl, rfl, rfl, rfl, rfl, rfl, rfl, rfl, rfl, rfl, rfl, rfl⟩ := H
           go_wp2_with (first | ((with_reducible refine gate_callee (f := 41) rfl ?_); refine goesL_ (some 42) rfl rfl Try.func41 (by kernel_rfl) rfl #[.string (a0.extract 0 ((ji24) : Int).toNat)] rfl (by (try simp only [List.map_toArray, List.map_cons, List.map_nil]); first | done | (simp only [hji24]; rfl) | rfl | (simp only [List.length_drop, List.length_take]; rfl)) ?_; (with_reducible refine (palanquinref02_Sum.calls kj11 (a0.extract 0 ((ji24) : Int).toNat) t683 _ A27.out).mono ?_); rintro e w31 ⟨rfl, hb⟩; refine ⟨_, rfl, ?_⟩; have n0_ := mA (blk_below (g := gb680) (o := .cells #[.int .i64 0, .int .i64 0, .int .i64 0, .int .i64 0, .int .i64 0, .bool false, .bool false, .string (⟨#[]⟩ : ByteArray), .string (⟨#[]⟩ : ByteArray), .string (⟨#[]⟩ : ByteArray)] 93 (0, 0)) (by (with_reducible repeat (first | apply kN | apply kD | apply kA)); exact BK680.out) hb); have n1_ := mA (blk_below (g := gb681) (o := .cells #[.int .i64 0, .int .i64 0, .int .i64 0, .int .i64 0, .int .i64 0, .bool false, .bool false, .string (⟨#[]⟩ : ByteArray), .string (⟨#[]⟩ : ByteArray), .string (⟨#[]⟩ : ByteArray)] 93 (0, 0)) (by (with_reducible repeat (first | apply kN | apply kD | apply kA)); exact BK681.out) hb); have n2_ := mA (bP (by repeat (first | (with_reducible first | exact HB.out | apply bA | apply bN | apply bD | refine bS ?_ GE680.out | refine bS ?_ GE681.out) | exact HB.out)) hb); clear BK680; clear BK681; clear HB; have BK680 := n0_; have BK681 := n1_; have HB := n2_; clear n0_ n1_ n2_; (try clear hb); (try clear hb2); (try clear hk); (try clear hi)) | ((with_reducible refine gate_callee (f := 156) rfl ?_); refine goesL_ (some 46) rfl rfl Try.func156 (by kernel_rfl) rfl #[.string a0, .int .i64 6, .int .i64 2] rfl (by (try simp only [List.map_toArray, List.map_cons, List.map_nil]); first | done | rfl | (simp only [List.length_drop, List.length_take]; rfl)) ?_; (with_reducible refine (palanquinref05_at.calls kj11 a0 6 2 t684 _ A29.out).mono ?_); rintro e w' ⟨rfl, ⟨nd, rfl⟩⟩; refine ⟨_, rfl, ?_⟩; (try (rw [drewN_self w31]; generalize hq_ : World.drewN w31 _ = w31; have n0_ : Aside0 (w31.heap[gb680]? = some (.cells #[.int .i64 0, .int .i64 0, .int .i64 0, .int .i64 0, .int .i64 0, .bool false, .bool false, .string (⟨#[]⟩ : ByteArray), .string (⟨#[]⟩ : ByteArray), .string (⟨#[]⟩ : ByteArray)] 93 (0, 0))) := ⟨by rw [← hq_]; exact (by (with_reducible repeat (first | apply kN | apply kD | apply kA)); exact BK680.out)⟩; have n1_ : Aside0 (w31.heap[gb681]? = some (.cells #[.int .i64 0, .int .i64 0, .int .i64 0, .int .i64 0, .int .i64 0, .bool false, .bool false, .string (⟨#[]⟩ : ByteArray), .string (⟨#[]⟩ : ByteArray), .string (⟨#[]⟩ : ByteArray)] 93 (0, 0))) := ⟨by rw [← hq_]; exact (by (with_reducible repeat (first | apply kN | apply kD | apply kA)); exact BK681.out)⟩; have n2_ : Aside0 (Below w.heap.size w w31) := ⟨by rw [← hq_]; exact (by repeat (first | (with_reducible first | exact HB.out | apply bA | apply bN | apply bD | refine bS ?_ GE680.out | refine bS ?_ GE681.out) | exact HB.out))⟩; clear BK680 BK681 HB hq_; have BK680 := n0_; have BK681 := n1_; have HB := n2_; clear n0_ n1_ n2_)); have hnb32 := NB681_680.out; have hnc32 := NB680_681.out; have hcz33_0 : w31.cell? ⟨gb681, 0, none⟩ = some (.int .i64 0) := (zC BK681.out 0).trans rfl; have hcz33_1 : w31.cell? ⟨gb681, 1, none⟩ = some (.int .i64 0) := (zC BK681.out 1).trans rfl; have hcz33_2 : w31.cell? ⟨gb681, 2, none⟩ = some (.int .i64 0) := (zC BK681.out 2).trans rfl; have hcz33_3 : w31.cell? ⟨gb681, 3, none⟩ = some (.int .i64 0) := (zC BK681.out 3).trans rfl; have hcz33_4 : w31.cell? ⟨gb681, 4, none⟩ = some (.int .i64 0) := (zC BK681.out 4).trans rfl; have hcz33_5 : w31.cell? ⟨gb681, 5, none⟩ = some (.bool false) := (zC BK681.out 5).trans rfl; have hcz33_6 : w31.cell? ⟨gb681, 6, none⟩ = some (.bool false) := (zC BK681.out 6).trans rfl; have hcz33_7 : w31.cell? ⟨gb681, 7, none⟩ = some (.string (⟨#[]⟩ : ByteArray)) := (zC BK681.out 7).trans rfl; have hcz33_8 : w31.cell? ⟨gb681, 8, none⟩ = some (.string (⟨#[]⟩ : ByteArray)) := (zC BK681.out 8).trans rfl; have hcz33_9 : w31.cell? ⟨gb681, 9, none⟩ = some (.string (⟨#[]⟩ : ByteArray)) := (zC BK681.out 9).trans rfl; have hfz33_0 := zF BK681.out 0; have hfz33_1 := zF BK681.out 1; have hfz33_2 := zF BK681.out 2; have hfz33_3 := zF BK681.out 3; have hfz33_4 := zF BK681.out 4; have hfz33_5 := zF BK681.out 5; have hfz33_6 := zF BK681.out 6; have hfz33_7 := zF BK681.out 7; have hfz33_8 := zF BK681.out 8; have hfz33_9 := zF BK681.out 9; have hcz34_0 : w31.cell? ⟨gb680, 0, none⟩ = some (.int .i64 0) := (zC BK680.out 0).trans rfl; have hcz34_1 : w31.cell? ⟨gb680, 1, none⟩ = some (.int .i64 0) := (zC BK680.out 1).trans rfl; have hcz34_2 : w31.cell? ⟨gb680, 2, none⟩ = some (.int .i64 0) := (zC BK680.out 2).trans rfl; have hcz34_3 : w31.cell? ⟨gb680, 3, none⟩ = some (.int .i64 0) := (zC BK680.out 3).trans rfl; have hcz34_4 : w31.cell? ⟨gb680, 4, none⟩ = some (.int .i64 0) := (zC BK680.out 4).trans rfl; have hcz34_5 : w31.cell? ⟨gb680, 5, none⟩ = some (.bool false) := (zC BK680.out 5).trans rfl; have hcz34_6 : w31.cell? ⟨gb680, 6, none⟩ = some (.bool false) := (zC BK680.out 6).trans rfl; have hcz34_7 : w31.cell? ⟨gb680, 7, none⟩ = some (.string (⟨#[]⟩ : ByteArray)) := (zC BK680.out 7).trans rfl; have hcz34_8 : w31.cell? ⟨gb680, 8, none⟩ = some (.string (⟨#[]⟩ : ByteArray)) := (zC BK680.out 8).trans rfl; have hcz34_9 : w31.cell? ⟨gb680, 9, none⟩ = some (.string (⟨#[]⟩ : ByteArray)) := (zC BK680.out 9).trans rfl; have hfz34_0 := zF BK680.out 0; have hfz34_1 := zF BK680.out 1; have hfz34_2 := zF BK680.out 2; have hfz34_3 := zF BK680.out 3; have hfz34_4 := zF BK680.out 4; have hfz34_5 := zF BK680.out 5; have hfz34_6 := zF BK680.out 6; have hfz34_7 := zF BK680.out 7; have hfz34_8 := zF BK680.out 8; have hfz34_9 := zF BK680.out 9))
           refine bodyPost_ret (results_ctt rfl _ _ gb680 93 #[.int .i64 0, .int .i64 0, .int .i64 0, .int .i64 0, .int .i64 0, .bool false, .bool false, .string (⟨#[]⟩ : ByteArray), .string (⟨#[]⟩ : ByteArray), .string (⟨#[]⟩ : ByteArray)] (0, 0) _ rfl (by (with_reducible repeat (first | apply kN | apply kD | apply kA)); refine blk_put (cs := #[.int .i64 0, .int .i64 0, .int .i64 0, .int .i64 0, .int .i64 0, .bool false, .bool false, .string (⟨#[]⟩ : ByteArray), .string (⟨#[]⟩ : ByteArray), .string (⟨#[]⟩ : ByteArray)]) ?_ 9 _ rfl; (with_reducible repeat (first | apply kN | apply kD | apply kA)); refine blk_put (cs := #[.int .i64 0, .int .i64 0, .int .i64 0, .int .i64 0, .int .i64 0, .bool false, .bool false, .string (⟨#[]⟩ : ByteArray), .string (⟨#[]⟩ : ByteArray), .string (⟨#[]⟩ : ByteArray)]) ?_ 8 _ rfl; (with_reducible repeat (first | apply kN | apply kD | apply kA)); refine blk_put (cs := #[.int .i64 0, .int .i64 0, .int .i64 0, .int .i64 0, .int .i64 0, .bool false, .bool false, .string (⟨#[]⟩ : ByteArray), .string (⟨#[]⟩ : ByteArray), .string (⟨#[]⟩ : ByteArray)]) ?_ 7 _ rfl; (with_reducible repeat (first | apply kN | apply kD | apply kA)); refine blk_put (cs := #[.int .i64 0, .int .i64 0, .int .i64 0, .int .i64 0, .int .i64 0, .bool false, .bool false, .string (⟨#[]⟩ : ByteArray), .string (⟨#[]⟩ : ByteArray), .string (⟨#[]⟩ : ByteArray)]) ?_ 6 _ rfl; (with_reducible repeat (first | apply kN | apply kD | apply kA)); refine blk_put (cs := #[.int .i64 0, .int .i64 0, .int .i64 0, .int .i64 0, .int .i64 0, .bool false, .bool false, .string (⟨#[]⟩ : ByteArray), .string (⟨#[]⟩ : ByteArray), .string (⟨#[]⟩ : ByteArray)]) ?_ 5 _ rfl; (with_reducible repeat (first | apply kN | apply kD | apply kA)); refine blk_put (cs := #[.int .i64 0, .int .i64 0, .int .i64 0, .int .i64 0, .int .i64 0, .bool false, .bool false, .string (⟨#[]⟩ : ByteArray), .string (⟨#[]⟩ : ByteArray), .string (⟨#[]⟩ : ByteArray)]) ?_ 4 _ rfl; (with_reducible repeat (first | apply kN | apply kD | apply kA)); refine blk_put (cs := #[.int .i64 0, .int .i64 0, .int .i64 0, .int .i64 0, .int .i64 0, .bool false, .bool false, .string (⟨#[]⟩ : ByteArray), .string (⟨#[]⟩ : ByteArray), .string (⟨#[]⟩ : ByteArray)]) ?_ 3 _ rfl; (with_reducible repeat (first | apply kN | apply kD | apply kA)); refine blk_put (cs := #[.int .i64 0, .int .i64 0, .int .i64 0, .int .i64 0, .int .i64 0, .bool false, .bool false, .string (⟨#[]⟩ : ByteArray), .string (⟨#[]⟩ : ByteArray), .string (⟨#[]⟩ : ByteArray)]) ?_ 2 _ rfl; (with_reducible repeat (first | apply kN | apply kD | apply kA)); refine blk_put (cs := #[.int .i64 0, .int .i64 0, .int .i64 0, .int .i64 0, .int .i64 0, .bool false, .bool false, .string (⟨#[]⟩ : ByteArray), .string (⟨#[]⟩ : ByteArray), .string (⟨#[]⟩ : ByteArray)]) ?_ 1 _ rfl; (with_reducible repeat (first | apply kN | apply kD | apply kA)); refine blk_put (cs := #[.int .i64 0, .int .i64 0, .int .i64 0, .int .i64 0, .int .i64 0, .bool false, .bool false, .string (⟨#[]⟩ : ByteArray), .string (⟨#[]⟩ : ByteArray), .string (⟨#[]⟩ : ByteArray)]) ?_ 0 _ rfl; (with_reducible repeat (first | apply kN | apply kD | apply kA)); exact BK680.out) Try.underlying93 rfl (by kernel_rfl)) rfl ?_
           exact ⟨by first | rfl | (simp [errW_none, errW_some] <;> rfl) | (simp only [← hji24]; first | rfl | (simp [errW_none, errW_some] <;> rfl)) | (simp [*, errW_none, errW_some] <;> rfl), by repeat (first | (with_reducible first | exact HB.out | apply bA | apply bN | apply bD | refine bS ?_ GE680.out | refine bS ?_ GE681.out) | exact HB.out)⟩
          ·rw [if_neg c30] at H
           have c30b0 : decide (32768 ≤ t684) = false := decide_eq_false c30
           clear c30
           by_cases c35 : 1 < (a0.size : Int)
           ·rw [if_pos c35] at H
            have c35b0 : decide (1 < (a0.size : Int)) = true := decide_eq_true c35
            have c35b1 : decide (1 < a0.size) = true := decide_eq_true (by omega)
            clear c35
            replace H := Option.bind_eq_some_iff.mp H
            obtain ⟨t685, A370, H⟩ := H
            replace H : (if 8 < (a0.size : Int) then (if 9 < (a0.size : Int) then (if 12 ≤ 16 then (if 16 ≤ (a0.size : Int) then (if 16 ≤ 20 then (if 20 ≤ (a0.size : Int) then (if 20 ≤ (ji24) then (some (wrap64 (bt a0 1), t685, Int.tmod t684 8192, wrap64 (bt a0 8), wrap64 (bt a0 9), ((wrap64 (Int.tdiv t684 16384)) == 1), ((Int.tmod (wrap64 (Int.tdiv t684 8192)) 2) == 1), a0.extract 12 16, a0.extract 16 20, a0.extract 20 ((ji24) : Int).toNat, a0.extract ((ji24) : Int).toNat a0.size, 0)) else (none)) else (none)) else (none)) else (none)) else (none)) else (none)) else (none)) = some (r1, r2, r3, r4, r5, r6, r7, r8, r9, r10, r11, r12) := H
            have A37 := mA A370
            clear A370
            by_cases c38 : 8 < (a0.size : Int)
            ·rw [if_pos c38] at H
             have c38b0 : decide (8 < (a0.size : Int)) = true := decide_eq_true c38
             have c38b1 : decide (8 < a0.size) = true := decide_eq_true (by omega)
             clear c38
             by_cases c40 : 9 < (a0.size : Int)
             ·rw [if_pos c40] at H
              have c40b0 : decide (9 < (a0.size : Int)) = true := decide_eq_true c40
              have c40b1 : decide (9 < a0.size) = true := decide_eq_true (by omega)
              clear c40
              by_cases c42 : 12 ≤ 16
              ·rw [if_pos c42] at H
               have c42b0 := eq_true c42
               have c42b1 : decide (12 ≤ 16) = true := decide_eq_true c42
               clear c42
               by_cases c43 : 16 ≤ (a0.size : Int)
               ·rw [if_pos c43] at H
                have c43b0 := eq_true c43
                have c43b1 : decide (16 ≤ (a0.size : Int)) = true := decide_eq_true c43
                clear c43
                by_cases c44 : 16 ≤ 20
                ·rw [if_pos c44] at H
                 have c44b0 := eq_true c44
                 have c44b1 : decide (16 ≤ 20) = true := decide_eq_true c44
                 clear c44
                 by_cases c45 : 20 ≤ (a0.size : Int)
                 ·rw [if_pos c45] at H
                  have c45b0 := eq_true c45
                  have c45b1 : decide (20 ≤ (a0.size : Int)) = true := decide_eq_true c45
                  clear c45
                  by_cases c46 : 20 ≤ (ji24)
                  ·rw [if_pos c46] at H
                   have c46b0 := eq_true c46
                   have c46b1 : decide (20 ≤ (ji24)) = true := decide_eq_true c46
                   clear c46
                   have c47b0 := eq_true (of_decide_eq_true (by first | (with_reducible assumption) | assumption) : (ji24) ≤ (a0.size : Int))
                   have c48b0 := eq_true (of_decide_eq_true (by first | (with_reducible assumption) | assumption) : 0 ≤ (ji24))
                   have c49b0 := eq_true (of_decide_eq_true (by first | (with_reducible assumption) | assumption) : (ji24) ≤ (a0.size : Int))
                   simp only [Option.some.injEq, Prod.mk.injEq] at H
                   obtain ⟨rfl, rfl, rfl, rfl, rfl, rfl, rfl, rfl, rfl, rfl, rfl, rfl⟩ := H
                   try go_wp2_with (first | ((with_reducible refine gate_callee (f := 41) rfl ?_); refine goesL_ (some 42) rfl rfl Try.func41 (by kernel_rfl) rfl #[.string (a0.extract 0 ((ji24) : Int).toNat)] rfl (by (try simp only [List.map_toArray, List.map_cons, List.map_nil]); first | done | (simp only [hji24]; rfl) | rfl | (simp only [List.length_drop, List.length_take]; rfl)) ?_; (with_reducible refine (palanquinref02_Sum.calls kj11 (a0.extract 0 ((ji24) : Int).toNat) t683 _ A27.out).mono ?_); rintro e w50 ⟨rfl, hb⟩; refine ⟨_, rfl, ?_⟩; have n0_ := mA (blk_below (g := gb680) (o := .cells #[.int .i64 0, .int .i64 0, .int .i64 0, .int .i64 0, .int .i64 0, .bool false, .bool false, .string (⟨#[]⟩ : ByteArray), .string (⟨#[]⟩ : ByteArray), .string (⟨#[]⟩ : ByteArray)] 93 (0, 0)) (by (with_reducible repeat (first | apply kN | apply kD | apply kA)); exact BK680.out) hb); have n1_ := mA (blk_below (g := gb681) (o := .cells #[.int .i64 0, .int .i64 0, .int .i64 0, .int .i64 0, .int .i64 0, .bool false, .bool false, .string (⟨#[]⟩ : ByteArray), .string (⟨#[]⟩ : ByteArray), .string (⟨#[]⟩ : ByteArray)] 93 (0, 0)) (by (with_reducible repeat (first | apply kN | apply kD | apply kA)); exact BK681.out) hb); have n2_ := mA (bP (by repeat (first | (with_reducible first | exact HB.out | apply bA | apply bN | apply bD | refine bS ?_ GE680.out | refine bS ?_ GE681.out) | exact HB.out)) hb); clear BK680; clear BK681; clear HB; have BK680 := n0_; have BK681 := n1_; have HB := n2_; clear n0_ n1_ n2_; (try clear hb); (try clear hb2); (try clear hk); (try clear hi)) | ((with_reducible refine gate_callee (f := 156) rfl ?_); refine goesL_ (some 46) rfl rfl Try.func156 (by kernel_rfl) rfl #[.string a0, .int .i64 6, .int .i64 2] rfl (by (try simp only [List.map_toArray, List.map_cons, List.map_nil]); first | done | rfl | (simp only [List.length_drop, List.length_take]; rfl)) ?_; (with_reducible refine (palanquinref05_at.calls kj11 a0 6 2 t684 _ A29.out).mono ?_); rintro e w' ⟨rfl, ⟨nd, rfl⟩⟩; refine ⟨_, rfl, ?_⟩; (try (rw [drewN_self w50]; generalize hq_ : World.drewN w50 _ = w50; have n0_ : Aside0 (w50.heap[gb680]? = some (.cells #[.int .i64 0, .int .i64 0, .int .i64 0, .int .i64 0, .int .i64 0, .bool false, .bool false, .string (⟨#[]⟩ : ByteArray), .string (⟨#[]⟩ : ByteArray), .string (⟨#[]⟩ : ByteArray)] 93 (0, 0))) := ⟨by rw [← hq_]; exact (by (with_reducible repeat (first | apply kN | apply kD | apply kA)); exact BK680.out)⟩; have n1_ : Aside0 (w50.heap[gb681]? = some (.cells #[.int .i64 0, .int .i64 0, .int .i64 0, .int .i64 0, .int .i64 0, .bool false, .bool false, .string (⟨#[]⟩ : ByteArray), .string (⟨#[]⟩ : ByteArray), .string (⟨#[]⟩ : ByteArray)] 93 (0, 0))) := ⟨by rw [← hq_]; exact (by (with_reducible repeat (first | apply kN | apply kD | apply kA)); exact BK681.out)⟩; have n2_ : Aside0 (Below w.heap.size w w50) := ⟨by rw [← hq_]; exact (by repeat (first | (with_reducible first | exact HB.out | apply bA | apply bN | apply bD | refine bS ?_ GE680.out | refine bS ?_ GE681.out) | exact HB.out))⟩; clear BK680 BK681 HB hq_; have BK680 := n0_; have BK681 := n1_; have HB := n2_; clear n0_ n1_ n2_))))
                   have n0_ := mA (kD BK680.out)
                   have n1_ := mA (kD BK681.out)
                   have n2_ := mA (bD HB.out)
                   clear BK680
                   clear BK681
                   clear HB
                   have BK680 := n0_
                   have BK681 := n1_
                   have HB := n2_
                   clear n0_ n1_ n2_
                   have p36 : 0 ≤ (1 : Int) := (by omega)
                   have q36 : 1 < a0.size := (by have : (1 : Int) < (a0.size : Int) := of_decide_eq_true (by first | (with_reducible assumption) | assumption); omega)
                   have hx36 : ∀ h : 1 < a0.size, ((a0[1]'h).toNat : Int) = bt a0 1 := bt_at a0 1
                   clear p36
                   have qi36 : (1 < (a0.size : Int)) = True := eq_true (of_decide_eq_true (by first | (with_reducible assumption) | assumption))
                   replace q36 := eq_true q36
                   have p39 : 0 ≤ (8 : Int) := (by omega)
                   have q39 : 8 < a0.size := (by have : (8 : Int) < (a0.size : Int) := of_decide_eq_true (by first | (with_reducible assumption) | assumption); omega)
                   have hx39 : ∀ h : 8 < a0.size, ((a0[8]'h).toNat : Int) = bt a0 8 := bt_at a0 8
                   clear p39
                   have qi39 : (8 < (a0.size : Int)) = True := eq_true (of_decide_eq_true (by first | (with_reducible assumption) | assumption))
                   replace q39 := eq_true q39
                   have p41 : 0 ≤ (9 : Int) := (by omega)
                   have q41 : 9 < a0.size := (by have : (9 : Int) < (a0.size : Int) := of_decide_eq_true (by first | (with_reducible assumption) | assumption); omega)
                   have hx41 : ∀ h : 9 < a0.size, ((a0[9]'h).toNat : Int) = bt a0 9 := bt_at a0 9
                   clear p41
                   have qi41 : (9 < (a0.size : Int)) = True := eq_true (of_decide_eq_true (by first | (with_reducible assumption) | assumption))
                   replace q41 := eq_true q41
                   refine start_ (n := 34) (S := fun w' => True) (ds := []) #[false, false, false, false, false, false, false, false, false, false, false, false, false, false, false, false, false, false, false, false, false, false, false, false, false, false, false, false, false, false, false, false, false, false] (by kernel_rfl) rfl rfl trivial (fun hHeld => ?_); refine with_tabW palanquinref05_Get.tab14 palanquinref05_Get.bits14 (fun HT_ HW_ => ?_)
                   generalize w50.drew = w51 at BK680 BK681 HB hHeld ⊢
                   refine pure_ (i := 0) (N := some 50) (v := ?_) (a' := ?_) #[true, false, false, false, false, false, false, false, false, false, false, false, false, false, false, false, false, false, false, false, false, false, false, false, false, false, false, false, false, false, false, false, false, false] rfl rfl (any_of HT_.out (by kernel_rfl)) (fun _ _ _ h => h) (Or.inl ⟨by rfl, ?_⟩) ?_ ?_
                   rotate_left
                   ·intro w'
                    go_simp
                    with_reducible rfl
                   rotate_left
                   ·simp only [Act.put, List.setIfInBounds_toArray, List.set_cons_zero, List.set_cons_succ, i64_w, i32_w]
                    rfl
                   refine pure_ (i := 3) (N := some 53) (v := ?_) (a' := ?_) #[true, false, false, true, false, false, false, false, false, false, false, false, false, false, false, false, false, false, false, false, false, false, false, false, false, false, false, false, false, false, false, false, false, false] rfl rfl (any_of HT_.out (by kernel_rfl)) (fun _ _ _ h => h) (Or.inl ⟨by rfl, ?_⟩) ?_ ?_
                   rotate_left
                   ·intro w'
                    go_simp
                    with_reducible rfl
                   rotate_left
                   ·simp only [Act.put, List.setIfInBounds_toArray, List.set_cons_zero, List.set_cons_succ, i64_w, i32_w]
                    rfl
                   refine pure_ (i := 5) (N := some 55) (v := ?_) (a' := ?_) #[true, false, false, true, false, true, false, false, false, false, false, false, false, false, false, false, false, false, false, false, false, false, false, false, false, false, false, false, false, false, false, false, false, false] rfl rfl (any_of HT_.out (by kernel_rfl)) (fun _ _ _ h => h) (Or.inl ⟨by rfl, ?_⟩) ?_ ?_
                   rotate_left
                   ·intro w'
                    go_simp
                    with_reducible rfl
                   rotate_left
                   ·simp only [Act.put, List.setIfInBounds_toArray, List.set_cons_zero, List.set_cons_succ, i64_w, i32_w]
                    rfl
                   refine pure_ (i := 6) (N := some 56) (v := ?_) (a' := ?_) #[true, false, false, true, false, true, true, false, false, false, false, false, false, false, false, false, false, false, false, false, false, false, false, false, false, false, false, false, false, false, false, false, false, false] rfl rfl (any_of HT_.out (by kernel_rfl)) (fun _ _ _ h => h) (Or.inl ⟨by rfl, ?_⟩) ?_ ?_
                   rotate_left
                   ·intro w'
                    go_simp
                    with_reducible rfl
                   rotate_left
                   ·simp only [Act.put, List.setIfInBounds_toArray, List.set_cons_zero, List.set_cons_succ, i64_w, i32_w]
                    rfl
                   refine pure_ (i := 7) (N := some 57) (v := ?_) (a' := ?_) #[true, false, false, true, false, true, true, true, false, false, false, false, false, false, false, false, false, false, false, false, false, false, false, false, false, false, false, false, false, false, false, false, false, false] rfl rfl (any_of HT_.out (by kernel_rfl)) (fun _ _ _ h => h) (Or.inl ⟨by rfl, ?_⟩) ?_ ?_
                   rotate_left
                   ·intro w'
                    go_simp
                    with_reducible rfl
                   rotate_left
                   ·simp only [Act.put, List.setIfInBounds_toArray, List.set_cons_zero, List.set_cons_succ, i64_w, i32_w]
                    rfl
                   refine pure_ (i := 8) (N := some 58) (v := ?_) (a' := ?_) #[true, false, false, true, false, true, true, true, true, false, false, false, false, false, false, false, false, false, false, false, false, false, false, false, false, false, false, false, false, false, false, false, false, false] rfl rfl (any_of HT_.out (by kernel_rfl)) (fun _ _ _ h => h) (Or.inl ⟨by rfl, ?_⟩) ?_ ?_
                   rotate_left
                   ·intro w'
                    go_simp
                    with_reducible rfl
                   rotate_left
                   ·simp only [Act.put, List.setIfInBounds_toArray, List.set_cons_zero, List.set_cons_succ, i64_w, i32_w]
                    rfl
                   refine pure_ (i := 9) (N := some 59) (v := ?_) (a' := ?_) #[true, false, false, true, false, true, true, true, true, true, false, false, false, false, false, false, false, false, false, false, false, false, false, false, false, false, false, false, false, false, false, false, false, false] rfl rfl (any_of HT_.out (by kernel_rfl)) (fun _ _ _ h => h) (Or.inl ⟨by rfl, ?_⟩) ?_ ?_
                   rotate_left
                   ·intro w'
                    go_simp
                    with_reducible rfl
                   rotate_left
                   ·simp only [Act.put, List.setIfInBounds_toArray, List.set_cons_zero, List.set_cons_succ, i64_w, i32_w]
                    rfl
                   refine pure_ (i := 10) (N := some 60) (v := ?_) (a' := ?_) #[true, false, false, true, false, true, true, true, true, true, true, false, false, false, false, false, false, false, false, false, false, false, false, false, false, false, false, false, false, false, false, false, false, false] rfl rfl (any_of HT_.out (by kernel_rfl)) (fun _ _ _ h => h) (Or.inl ⟨by rfl, ?_⟩) ?_ ?_
                   rotate_left
                   ·intro w'
                    go_simp
                    with_reducible rfl
                   rotate_left
                   ·simp only [Act.put, List.setIfInBounds_toArray, List.set_cons_zero, List.set_cons_succ, i64_w, i32_w]
                    rfl
                   refine pure_ (i := 11) (N := some 61) (v := ?_) (a' := ?_) #[true, false, false, true, false, true, true, true, true, true, true, true, false, false, false, false, false, false, false, false, false, false, false, false, false, false, false, false, false, false, false, false, false, false] rfl rfl (any_of HT_.out (by kernel_rfl)) (fun _ _ _ h => h) (Or.inl ⟨by rfl, ?_⟩) ?_ ?_
                   rotate_left
                   ·intro w'
                    go_simp
                    with_reducible rfl
                   rotate_left
                   ·simp only [Act.put, List.setIfInBounds_toArray, List.set_cons_zero, List.set_cons_succ, i64_w, i32_w]
                    rfl
                   refine pure_ (i := 12) (N := some 62) (v := ?_) (a' := ?_) #[true, false, false, true, false, true, true, true, true, true, true, true, true, false, false, false, false, false, false, false, false, false, false, false, false, false, false, false, false, false, false, false, false, false] rfl rfl (any_of HT_.out (by kernel_rfl)) (fun _ _ _ h => h) (Or.inl ⟨by rfl, ?_⟩) ?_ ?_
                   rotate_left
                   ·intro w'
                    go_simp
                    with_reducible rfl
                   rotate_left
                   ·simp only [Act.put, List.setIfInBounds_toArray, List.set_cons_zero, List.set_cons_succ, i64_w, i32_w]
                    rfl
                   refine pure_ (i := 13) (N := some 63) (v := ?_) (a' := ?_) #[true, false, false, true, false, true, true, true, true, true, true, true, true, true, false, false, false, false, false, false, false, false, false, false, false, false, false, false, false, false, false, false, false, false] rfl rfl (any_of HT_.out (by kernel_rfl)) (fun _ _ _ h => h) (Or.inl ⟨by rfl, ?_⟩) ?_ ?_
                   rotate_left
                   ·intro w'
                    go_simp
                    with_reducible rfl
                   rotate_left
                   ·simp only [Act.put, List.setIfInBounds_toArray, List.set_cons_zero, List.set_cons_succ, i64_w, i32_w]
                    rfl
                   refine pure_ (i := 14) (N := some 64) (v := ?_) (a' := ?_) #[true, false, false, true, false, true, true, true, true, true, true, true, true, true, true, false, false, false, false, false, false, false, false, false, false, false, false, false, false, false, false, false, false, false] rfl rfl (any_of HT_.out (by kernel_rfl)) (fun _ _ _ h => h) (Or.inl ⟨by rfl, ?_⟩) ?_ ?_
                   rotate_left
                   ·intro w'
                    go_simp
                    with_reducible rfl
                   rotate_left
                   ·simp only [Act.put, List.setIfInBounds_toArray, List.set_cons_zero, List.set_cons_succ, i64_w, i32_w]
                    rfl
                   refine pure_ (i := 17) (N := some 67) (v := ?_) (a' := ?_) #[true, false, false, true, false, true, true, true, true, true, true, true, true, true, true, false, false, true, false, false, false, false, false, false, false, false, false, false, false, false, false, false, false, false] rfl rfl (any_of HT_.out (by kernel_rfl)) (fun _ _ _ h => h) (Or.inl ⟨by rfl, ?_⟩) ?_ ?_
                   rotate_left
                   ·intro w'
                    go_simp
                    with_reducible rfl
                   rotate_left
                   ·simp only [Act.put, List.setIfInBounds_toArray, List.set_cons_zero, List.set_cons_succ, i64_w, i32_w]
                    rfl
                   refine pure_ (i := 20) (N := some 70) (v := ?_) (a' := ?_) #[true, false, false, true, false, true, true, true, true, true, true, true, true, true, true, false, false, true, false, false, true, false, false, false, false, false, false, false, false, false, false, false, false, false] rfl rfl (any_of HT_.out (by kernel_rfl)) (fun _ _ _ h => h) (Or.inl ⟨by rfl, ?_⟩) ?_ ?_
                   rotate_left
                   ·intro w'
                    go_simp
                    with_reducible rfl
                   rotate_left
                   ·simp only [Act.put, List.setIfInBounds_toArray, List.set_cons_zero, List.set_cons_succ, i64_w, i32_w]
                    rfl
                   refine pure_ (i := 21) (N := some 71) (v := ?_) (a' := ?_) #[true, false, false, true, false, true, true, true, true, true, true, true, true, true, true, false, false, true, false, false, true, true, false, false, false, false, false, false, false, false, false, false, false, false] rfl rfl (any_of HT_.out (by kernel_rfl)) (fun _ _ _ h => h) (Or.inl ⟨by rfl, ?_⟩) ?_ ?_
                   rotate_left
                   ·intro w'
                    go_simp
                    with_reducible rfl
                   rotate_left
                   ·simp only [Act.put, List.setIfInBounds_toArray, List.set_cons_zero, List.set_cons_succ, i64_w, i32_w]
                    rfl
                   refine pure_ (i := 22) (N := some 72) (v := ?_) (a' := ?_) #[true, false, false, true, false, true, true, true, true, true, true, true, true, true, true, false, false, true, false, false, true, true, true, false, false, false, false, false, false, false, false, false, false, false] rfl rfl (any_of HT_.out (by kernel_rfl)) (fun _ _ _ h => h) (Or.inl ⟨by rfl, ?_⟩) ?_ ?_
                   rotate_left
                   ·intro w'
                    go_simp
                    with_reducible rfl
                   rotate_left
                   ·simp only [Act.put, List.setIfInBounds_toArray, List.set_cons_zero, List.set_cons_succ, i64_w, i32_w]
                    rfl
                   refine pure_ (i := 23) (N := some 73) (v := ?_) (a' := ?_) #[true, false, false, true, false, true, true, true, true, true, true, true, true, true, true, false, false, true, false, false, true, true, true, true, false, false, false, false, false, false, false, false, false, false] rfl rfl (any_of HT_.out (by kernel_rfl)) (fun _ _ _ h => h) (Or.inl ⟨by rfl, ?_⟩) ?_ ?_
                   rotate_left
                   ·intro w'
                    go_simp
                    with_reducible rfl
                   rotate_left
                   ·simp only [Act.put, List.setIfInBounds_toArray, List.set_cons_zero, List.set_cons_succ, i64_w, i32_w]
                    rfl
                   refine pure_ (i := 24) (N := some 74) (v := ?_) (a' := ?_) #[true, false, false, true, false, true, true, true, true, true, true, true, true, true, true, false, false, true, false, false, true, true, true, true, true, false, false, false, false, false, false, false, false, false] rfl rfl (any_of HT_.out (by kernel_rfl)) (fun _ _ _ h => h) (Or.inl ⟨by rfl, ?_⟩) ?_ ?_
                   rotate_left
                   ·intro w'
                    go_simp
                    with_reducible rfl
                   rotate_left
                   ·simp only [Act.put, List.setIfInBounds_toArray, List.set_cons_zero, List.set_cons_succ, i64_w, i32_w]
                    rfl
                   refine pure_ (i := 25) (N := some 75) (v := ?_) (a' := ?_) #[true, false, false, true, false, true, true, true, true, true, true, true, true, true, true, false, false, true, false, false, true, true, true, true, true, true, false, false, false, false, false, false, false, false] rfl rfl (any_of HT_.out (by kernel_rfl)) (fun _ _ _ h => h) (Or.inl ⟨by rfl, ?_⟩) ?_ ?_
                   rotate_left
                   ·intro w'
                    go_simp
                    with_reducible rfl
                   rotate_left
                   ·simp only [Act.put, List.setIfInBounds_toArray, List.set_cons_zero, List.set_cons_succ, i64_w, i32_w]
                    rfl
                   refine pure_ (i := 26) (N := some 76) (v := ?_) (a' := ?_) #[true, false, false, true, false, true, true, true, true, true, true, true, true, true, true, false, false, true, false, false, true, true, true, true, true, true, true, false, false, false, false, false, false, false] rfl rfl (any_of HT_.out (by kernel_rfl)) (fun _ _ _ h => h) (Or.inl ⟨by rfl, ?_⟩) ?_ ?_
                   rotate_left
                   ·intro w'
                    go_simp
                    with_reducible rfl
                   rotate_left
                   ·simp only [Act.put, List.setIfInBounds_toArray, List.set_cons_zero, List.set_cons_succ, i64_w, i32_w]
                    rfl
                   refine pure_ (i := 28) (N := some 78) (v := ?_) (a' := ?_) #[true, false, false, true, false, true, true, true, true, true, true, true, true, true, true, false, false, true, false, false, true, true, true, true, true, true, true, false, true, false, false, false, false, false] rfl rfl (any_of HT_.out (by kernel_rfl)) (fun _ _ _ h => h) (Or.inl ⟨by rfl, ?_⟩) ?_ ?_
                   rotate_left
                   ·intro w'
                    go_simp
                    with_reducible rfl
                   rotate_left
                   ·simp only [Act.put, List.setIfInBounds_toArray, List.set_cons_zero, List.set_cons_succ, i64_w, i32_w]
                    rfl
                   refine pure_ (i := 29) (N := some 79) (v := ?_) (a' := ?_) #[true, false, false, true, false, true, true, true, true, true, true, true, true, true, true, false, false, true, false, false, true, true, true, true, true, true, true, false, true, true, false, false, false, false] rfl rfl (any_of HT_.out (by kernel_rfl)) (fun _ _ _ h => h) (Or.inl ⟨by rfl, ?_⟩) ?_ ?_
                   rotate_left
                   ·intro w'
                    go_simp
                    with_reducible rfl
                   rotate_left
                   ·simp only [Act.put, List.setIfInBounds_toArray, List.set_cons_zero, List.set_cons_succ, i64_w, i32_w]
                    rfl
                   refine pure_ (i := 30) (N := some 80) (v := ?_) (a' := ?_) #[true, false, false, true, false, true, true, true, true, true, true, true, true, true, true, false, false, true, false, false, true, true, true, true, true, true, true, false, true, true, true, false, false, false] rfl rfl (any_of HT_.out (by kernel_rfl)) (fun _ _ _ h => h) (Or.inl ⟨by rfl, ?_⟩) ?_ ?_
                   rotate_left
                   ·intro w'
                    go_simp
                    with_reducible rfl
                   rotate_left
                   ·simp only [Act.put, List.setIfInBounds_toArray, List.set_cons_zero, List.set_cons_succ, i64_w, i32_w]
                    rfl
                   refine take_ (i := 1) (N := some 51) (v := ?_) (a' := ?_) #[true, true, false, true, false, true, true, true, true, true, true, true, true, true, true, false, false, true, false, false, true, true, true, true, true, true, true, false, true, true, true, false, false, false] rfl rfl (take_ofW HT_.out HW_.out (by kernel_rfl)) (fun _ _ _ h => h) (Or.inl ⟨by rfl, ?_⟩) hHeld ?_ ?_
                   rotate_left
                   ·intro w' _
                    go_simp
                    with_reducible rfl
                   rotate_left
                   ·simp only [Act.put, List.setIfInBounds_toArray, List.set_cons_zero, List.set_cons_succ, i64_w, i32_w]
                    rfl
                   refine pure_ (i := 2) (N := some 52) (v := ?_) (a' := ?_) #[true, true, true, true, false, true, true, true, true, true, true, true, true, true, true, false, false, true, false, false, true, true, true, true, true, true, true, false, true, true, true, false, false, false] rfl rfl (any_of HT_.out (by kernel_rfl)) (fun _ _ _ h => h) (Or.inl ⟨by rfl, ?_⟩) ?_ ?_
                   rotate_left
                   ·intro w'
                    go_simp
                    with_reducible rfl
                   rotate_left
                   ·simp only [Act.put, List.setIfInBounds_toArray, List.set_cons_zero, List.set_cons_succ, i64_w, i32_w]
                    rfl
                   refine take_ (i := 15) (N := some 65) (v := ?_) (a' := ?_) #[true, true, true, true, false, true, true, true, true, true, true, true, true, true, true, true, false, true, false, false, true, true, true, true, true, true, true, false, true, true, true, false, false, false] rfl rfl (take_ofW HT_.out HW_.out (by kernel_rfl)) (fun _ _ _ h => h) (Or.inl ⟨by rfl, ?_⟩) hHeld ?_ ?_
                   rotate_left
                   ·intro w' _
                    go_simp
                    with_reducible rfl
                   rotate_left
                   ·simp only [Act.put, List.setIfInBounds_toArray, List.set_cons_zero, List.set_cons_succ, i64_w, i32_w]
                    rfl
                   refine pure_ (i := 16) (N := some 66) (v := ?_) (a' := ?_) #[true, true, true, true, false, true, true, true, true, true, true, true, true, true, true, true, true, true, false, false, true, true, true, true, true, true, true, false, true, true, true, false, false, false] rfl rfl (any_of HT_.out (by kernel_rfl)) (fun _ _ _ h => h) (Or.inl ⟨by rfl, ?_⟩) ?_ ?_
                   rotate_left
                   ·intro w'
                    go_simp
                    with_reducible rfl
                   rotate_left
                   ·simp only [Act.put, List.setIfInBounds_toArray, List.set_cons_zero, List.set_cons_succ, i64_w, i32_w]
                    rfl
                   refine take_ (i := 18) (N := some 68) (v := ?_) (a' := ?_) #[true, true, true, true, false, true, true, true, true, true, true, true, true, true, true, true, true, true, true, false, true, true, true, true, true, true, true, false, true, true, true, false, false, false] rfl rfl (take_ofW HT_.out HW_.out (by kernel_rfl)) (fun _ _ _ h => h) (Or.inl ⟨by rfl, ?_⟩) hHeld ?_ ?_
                   rotate_left
                   ·intro w' _
                    go_simp
                    with_reducible rfl
                   rotate_left
                   ·simp only [Act.put, List.setIfInBounds_toArray, List.set_cons_zero, List.set_cons_succ, i64_w, i32_w]
                    rfl
                   refine pure_ (i := 19) (N := some 69) (v := ?_) (a' := ?_) #[true, true, true, true, false, true, true, true, true, true, true, true, true, true, true, true, true, true, true, true, true, true, true, true, true, true, true, false, true, true, true, false, false, false] rfl rfl (any_of HT_.out (by kernel_rfl)) (fun _ _ _ h => h) (Or.inl ⟨by rfl, ?_⟩) ?_ ?_
                   rotate_left
                   ·intro w'
                    go_simp
                    with_reducible rfl
                   rotate_left
                   ·simp only [Act.put, List.setIfInBounds_toArray, List.set_cons_zero, List.set_cons_succ, i64_w, i32_w]
                    rfl
                   refine one_ (i := 4) (N := some 54) #[true, true, true, true, true, true, true, true, true, true, true, true, true, true, true, true, true, true, true, true, true, true, true, true, true, true, true, false, true, true, true, false, false, false] rfl rfl (one_of HT_.out (by kernel_rfl)) (by decide) (fun K hK => ?_)
                   refine goes_ Try.func156 (by kernel_rfl) rfl #[.string a0, .int .i64 4, .int .i64 2] (by rfl) rfl rfl (by (try simp only [List.map_toArray, List.map_cons, List.map_nil]); first | done | rfl | (simp only [List.length_drop, List.length_take]; rfl)) ?_
                   with_reducible refine (palanquinref05_at.calls kj11 a0 4 2 t685 _ A37.out).mono ?_
                   rintro e w' ⟨rfl, ⟨nd, rfl⟩⟩
                   refine ⟨_, rfl, ?_⟩
                   refine hK.out _ _ trivial (fun hHeld => ?_)
                   clear hK K
                   refine norm_ (a' := ?_) ?_ ?_
                   rotate_left
                   ·show Act.put _ (some 54) _ = _
                    simp only [Act.put, List.setIfInBounds_toArray, List.set_cons_zero, List.set_cons_succ, i64_w, i32_w]
                    rfl
                   refine pure_ (i := 27) (N := some 77) (v := ?_) (a' := ?_) #[true, true, true, true, true, true, true, true, true, true, true, true, true, true, true, true, true, true, true, true, true, true, true, true, true, true, true, true, true, true, true, false, false, false] rfl rfl (any_of HT_.out (by kernel_rfl)) (fun _ _ _ h => h) (Or.inl ⟨by rfl, ?_⟩) ?_ ?_
                   rotate_left
                   ·intro w'
                    go_simp
                    with_reducible rfl
                   rotate_left
                   ·simp only [Act.put, List.setIfInBounds_toArray, List.set_cons_zero, List.set_cons_succ, i64_w, i32_w]
                    rfl
                   refine one_ (i := 31) (N := none) #[true, true, true, true, true, true, true, true, true, true, true, true, true, true, true, true, true, true, true, true, true, true, true, true, true, true, true, true, true, true, true, true, false, false] rfl rfl (one_of HT_.out (by kernel_rfl)) (by decide) (fun K hK => ?_)
                   have hs52 : w51.cell? ⟨gb680, 0, none⟩ = some (.int .i64 0) := (zC BK680.out 0).trans rfl
                   have hfs52 := zF BK680.out 0
                   have hns52_1 := NB681_680.out
                   have hms52_1 := NB680_681.out
                   have hs53 : w51.cell? ⟨gb680, 1, none⟩ = some (.int .i64 0) := (zC BK680.out 1).trans rfl
                   have hfs53 := zF BK680.out 1
                   have hns53_1 := NB681_680.out
                   have hms53_1 := NB680_681.out
                   have hs54 : w51.cell? ⟨gb680, 2, none⟩ = some (.int .i64 0) := (zC BK680.out 2).trans rfl
                   have hfs54 := zF BK680.out 2
                   have hns54_1 := NB681_680.out
                   have hms54_1 := NB680_681.out
                   have hs55 : w51.cell? ⟨gb680, 3, none⟩ = some (.int .i64 0) := (zC BK680.out 3).trans rfl
                   have hfs55 := zF BK680.out 3
                   have hns55_1 := NB681_680.out
                   have hms55_1 := NB680_681.out
                   have hs56 : w51.cell? ⟨gb680, 4, none⟩ = some (.int .i64 0) := (zC BK680.out 4).trans rfl
                   have hfs56 := zF BK680.out 4
                   have hns56_1 := NB681_680.out
                   have hms56_1 := NB680_681.out
                   have hs57 : w51.cell? ⟨gb680, 5, none⟩ = some (.bool false) := (zC BK680.out 5).trans rfl
                   have hfs57 := zF BK680.out 5
                   have hns57_1 := NB681_680.out
                   have hms57_1 := NB680_681.out
                   have hs58 : w51.cell? ⟨gb680, 6, none⟩ = some (.bool false) := (zC BK680.out 6).trans rfl
                   have hfs58 := zF BK680.out 6
                   have hns58_1 := NB681_680.out
                   have hms58_1 := NB680_681.out
                   have hs59 : w51.cell? ⟨gb680, 7, none⟩ = some (.string (⟨#[]⟩ : ByteArray)) := (zC BK680.out 7).trans rfl
                   have hfs59 := zF BK680.out 7
                   have hns59_1 := NB681_680.out
                   have hms59_1 := NB680_681.out
                   have hs60 : w51.cell? ⟨gb680, 8, none⟩ = some (.string (⟨#[]⟩ : ByteArray)) := (zC BK680.out 8).trans rfl
                   have hfs60 := zF BK680.out 8
                   have hns60_1 := NB681_680.out
                   have hms60_1 := NB680_681.out
                   have hs61 : w51.cell? ⟨gb680, 9, none⟩ = some (.string (⟨#[]⟩ : ByteArray)) := (zC BK680.out 9).trans rfl
                   have hfs61 := zF BK680.out 9
                   have hns61_1 := NB681_680.out
                   have hms61_1 := NB680_681.out
                   refine skip_ (w1 := ?_) (by rfl) rfl ?_ ?_
                   rotate_left
                   ·go_simp
                    rfl
                   refine hK.out _ _ trivial (fun hHeld => ?_)
                   clear hK K
                   refine pure_ (i := 32) (N := some 3) (v := ?_) (a' := ?_) #[true, true, true, true, true, true, true, true, true, true, true, true, true, true, true, true, true, true, true, true, true, true, true, true, true, true, true, true, true, true, true, true, true, false] rfl rfl (any_of HT_.out (by kernel_rfl)) (fun _ _ _ h => h) (Or.inl ⟨by rfl, ?_⟩) ?_ ?_
                   rotate_left
                   ·intro w'
                    go_simp
                    with_reducible rfl
                   rotate_left
                   ·simp only [Act.put, List.setIfInBounds_toArray, List.set_cons_zero, List.set_cons_succ, i64_w, i32_w]
                    rfl
                   refine pure_ (i := 33) (N := some 4) (v := ?_) (a' := ?_) #[true, true, true, true, true, true, true, true, true, true, true, true, true, true, true, true, true, true, true, true, true, true, true, true, true, true, true, true, true, true, true, true, true, true] rfl rfl (any_of HT_.out (by kernel_rfl)) (fun _ _ _ h => h) (Or.inl ⟨by rfl, ?_⟩) ?_ ?_
                   rotate_left
                   ·intro w'
                    go_simp
                    with_reducible rfl
                   rotate_left
                   ·simp only [Act.put, List.setIfInBounds_toArray, List.set_cons_zero, List.set_cons_succ, i64_w, i32_w]
                    rfl
                   refine done_ (done_of HT_.out (by kernel_rfl)) ?_
                   try go_wp2
                   refine bodyPost_ret (results_ctt rfl _ _ gb680 93 #[.int .i64 (wrap64 (bt a0 1)), .int .i64 t685, .int .i64 (Int.tmod t684 8192), .int .i64 (wrap64 (bt a0 8)), .int .i64 (wrap64 (bt a0 9)), .bool ((wrap64 (Int.tdiv t684 16384)) == 1), .bool ((Int.tmod (wrap64 (Int.tdiv t684 8192)) 2) == 1), .string (a0.extract 12 16), .string (a0.extract 16 20), .string (a0.extract 20 ((ji24) : Int).toNat)] (0, 0) _ rfl (by (with_reducible repeat (first | apply kN | apply kD | apply kA)); refine blk_put (cs := #[.int .i64 (wrap64 (bt a0 1)), .int .i64 t685, .int .i64 (Int.tmod t684 8192), .int .i64 (wrap64 (bt a0 8)), .int .i64 (wrap64 (bt a0 9)), .bool ((wrap64 (Int.tdiv t684 16384)) == 1), .bool ((Int.tmod (wrap64 (Int.tdiv t684 8192)) 2) == 1), .string (a0.extract 12 16), .string (a0.extract 16 20), .string (⟨#[]⟩ : ByteArray)]) ?_ 9 _ rfl; (with_reducible repeat (first | apply kN | apply kD | apply kA)); refine blk_put (cs := #[.int .i64 (wrap64 (bt a0 1)), .int .i64 t685, .int .i64 (Int.tmod t684 8192), .int .i64 (wrap64 (bt a0 8)), .int .i64 (wrap64 (bt a0 9)), .bool ((wrap64 (Int.tdiv t684 16384)) == 1), .bool ((Int.tmod (wrap64 (Int.tdiv t684 8192)) 2) == 1), .string (a0.extract 12 16), .string (⟨#[]⟩ : ByteArray), .string (⟨#[]⟩ : ByteArray)]) ?_ 8 _ rfl; (with_reducible repeat (first | apply kN | apply kD | apply kA)); refine blk_put (cs := #[.int .i64 (wrap64 (bt a0 1)), .int .i64 t685, .int .i64 (Int.tmod t684 8192), .int .i64 (wrap64 (bt a0 8)), .int .i64 (wrap64 (bt a0 9)), .bool ((wrap64 (Int.tdiv t684 16384)) == 1), .bool ((Int.tmod (wrap64 (Int.tdiv t684 8192)) 2) == 1), .string (⟨#[]⟩ : ByteArray), .string (⟨#[]⟩ : ByteArray), .string (⟨#[]⟩ : ByteArray)]) ?_ 7 _ rfl; (with_reducible repeat (first | apply kN | apply kD | apply kA)); refine blk_put (cs := #[.int .i64 (wrap64 (bt a0 1)), .int .i64 t685, .int .i64 (Int.tmod t684 8192), .int .i64 (wrap64 (bt a0 8)), .int .i64 (wrap64 (bt a0 9)), .bool ((wrap64 (Int.tdiv t684 16384)) == 1), .bool false, .string (⟨#[]⟩ : ByteArray), .string (⟨#[]⟩ : ByteArray), .string (⟨#[]⟩ : ByteArray)]) ?_ 6 _ rfl; (with_reducible repeat (first | apply kN | apply kD | apply kA)); refine blk_put (cs := #[.int .i64 (wrap64 (bt a0 1)), .int .i64 t685, .int .i64 (Int.tmod t684 8192), .int .i64 (wrap64 (bt a0 8)), .int .i64 (wrap64 (bt a0 9)), .bool false, .bool false, .string (⟨#[]⟩ : ByteArray), .string (⟨#[]⟩ : ByteArray), .string (⟨#[]⟩ : ByteArray)]) ?_ 5 _ rfl; (with_reducible repeat (first | apply kN | apply kD | apply kA)); refine blk_put (cs := #[.int .i64 (wrap64 (bt a0 1)), .int .i64 t685, .int .i64 (Int.tmod t684 8192), .int .i64 (wrap64 (bt a0 8)), .int .i64 0, .bool false, .bool false, .string (⟨#[]⟩ : ByteArray), .string (⟨#[]⟩ : ByteArray), .string (⟨#[]⟩ : ByteArray)]) ?_ 4 _ rfl; (with_reducible repeat (first | apply kN | apply kD | apply kA)); refine blk_put (cs := #[.int .i64 (wrap64 (bt a0 1)), .int .i64 t685, .int .i64 (Int.tmod t684 8192), .int .i64 0, .int .i64 0, .bool false, .bool false, .string (⟨#[]⟩ : ByteArray), .string (⟨#[]⟩ : ByteArray), .string (⟨#[]⟩ : ByteArray)]) ?_ 3 _ rfl; (with_reducible repeat (first | apply kN | apply kD | apply kA)); refine blk_put (cs := #[.int .i64 (wrap64 (bt a0 1)), .int .i64 t685, .int .i64 0, .int .i64 0, .int .i64 0, .bool false, .bool false, .string (⟨#[]⟩ : ByteArray), .string (⟨#[]⟩ : ByteArray), .string (⟨#[]⟩ : ByteArray)]) ?_ 2 _ rfl; (with_reducible repeat (first | apply kN | apply kD | apply kA)); refine blk_put (cs := #[.int .i64 (wrap64 (bt a0 1)), .int .i64 0, .int .i64 0, .int .i64 0, .int .i64 0, .bool false, .bool false, .string (⟨#[]⟩ : ByteArray), .string (⟨#[]⟩ : ByteArray), .string (⟨#[]⟩ : ByteArray)]) ?_ 1 _ rfl; (with_reducible repeat (first | apply kN | apply kD | apply kA)); refine blk_put (cs := #[.int .i64 0, .int .i64 0, .int .i64 0, .int .i64 0, .int .i64 0, .bool false, .bool false, .string (⟨#[]⟩ : ByteArray), .string (⟨#[]⟩ : ByteArray), .string (⟨#[]⟩ : ByteArray)]) ?_ 0 _ rfl; (with_reducible repeat (first | apply kN | apply kD | apply kA)); exact BK680.out) Try.underlying93 rfl (by kernel_rfl)) rfl ?_
                   exact ⟨by first | rfl | (simp [errW_none, errW_some] <;> rfl) | (simp only [← hji24]; first | rfl | (simp [errW_none, errW_some] <;> rfl)) | (simp [*, errW_none, errW_some] <;> rfl), by repeat (first | (with_reducible first | exact HB.out | apply bA | apply bN | apply bD | refine bS ?_ GE680.out | refine bS ?_ GE681.out) | exact HB.out)⟩
                  ·rw [if_neg c46] at H
                   exact absurd H (by simp)
                 ·rw [if_neg c45] at H
                  exact absurd H (by simp)
                ·rw [if_neg c44] at H
                 exact absurd H (by simp)
               ·rw [if_neg c43] at H
                exact absurd H (by simp)
              ·rw [if_neg c42] at H
               exact absurd H (by simp)
             ·rw [if_neg c40] at H
              exact absurd H (by simp)
            ·rw [if_neg c38] at H
             exact absurd H (by simp)
           ·rw [if_neg c35] at H
            exact absurd H (by simp)
         ·rw [if_neg c28] at H
          have c28b0 : (t683 == 0) = false := beq_eq_false_iff_ne.mpr c28
          have c28b1 : (t683 != 0) = true := bne_iff_ne.mpr c28
          simp only [Option.some.injEq, Prod.mk.injEq] at H
          obtain ⟨rfl, rfl, rfl, rfl, rfl, rfl, rfl, rfl, rfl, rfl, rfl, rfl⟩ := H
          go_wp2_with (first | ((with_reducible refine gate_callee (f := 41) rfl ?_); refine goesL_ (some 42) rfl rfl Try.func41 (by kernel_rfl) rfl #[.string (a0.extract 0 ((ji24) : Int).toNat)] rfl (by (try simp only [List.map_toArray, List.map_cons, List.map_nil]); first | done | (simp only [hji24]; rfl) | rfl | (simp only [List.length_drop, List.length_take]; rfl)) ?_; (with_reducible refine (palanquinref02_Sum.calls kj11 (a0.extract 0 ((ji24) : Int).toNat) t683 _ A27.out).mono ?_); rintro e w62 ⟨rfl, hb⟩; refine ⟨_, rfl, ?_⟩; have n0_ := mA (blk_below (g := gb680) (o := .cells #[.int .i64 0, .int .i64 0, .int .i64 0, .int .i64 0, .int .i64 0, .bool false, .bool false, .string (⟨#[]⟩ : ByteArray), .string (⟨#[]⟩ : ByteArray), .string (⟨#[]⟩ : ByteArray)] 93 (0, 0)) (by (with_reducible repeat (first | apply kN | apply kD | apply kA)); exact BK680.out) hb); have n1_ := mA (blk_below (g := gb681) (o := .cells #[.int .i64 0, .int .i64 0, .int .i64 0, .int .i64 0, .int .i64 0, .bool false, .bool false, .string (⟨#[]⟩ : ByteArray), .string (⟨#[]⟩ : ByteArray), .string (⟨#[]⟩ : ByteArray)] 93 (0, 0)) (by (with_reducible repeat (first | apply kN | apply kD | apply kA)); exact BK681.out) hb); have n2_ := mA (bP (by repeat (first | (with_reducible first | exact HB.out | apply bA | apply bN | apply bD | refine bS ?_ GE680.out | refine bS ?_ GE681.out) | exact HB.out)) hb); clear BK680; clear BK681; clear HB; have BK680 := n0_; have BK681 := n1_; have HB := n2_; clear n0_ n1_ n2_; (try clear hb); (try clear hb2); (try clear hk); (try clear hi); have hnb63 := NB681_680.out; have hnc63 := NB680_681.out; have hcz64_0 : w62.cell? ⟨gb681, 0, none⟩ = some (.int .i64 0) := (zC BK681.out 0).trans rfl; have hcz64_1 : w62.cell? ⟨gb681, 1, none⟩ = some (.int .i64 0) := (zC BK681.out 1).trans rfl; have hcz64_2 : w62.cell? ⟨gb681, 2, none⟩ = some (.int .i64 0) := (zC BK681.out 2).trans rfl; have hcz64_3 : w62.cell? ⟨gb681, 3, none⟩ = some (.int .i64 0) := (zC BK681.out 3).trans rfl; have hcz64_4 : w62.cell? ⟨gb681, 4, none⟩ = some (.int .i64 0) := (zC BK681.out 4).trans rfl; have hcz64_5 : w62.cell? ⟨gb681, 5, none⟩ = some (.bool false) := (zC BK681.out 5).trans rfl; have hcz64_6 : w62.cell? ⟨gb681, 6, none⟩ = some (.bool false) := (zC BK681.out 6).trans rfl; have hcz64_7 : w62.cell? ⟨gb681, 7, none⟩ = some (.string (⟨#[]⟩ : ByteArray)) := (zC BK681.out 7).trans rfl; have hcz64_8 : w62.cell? ⟨gb681, 8, none⟩ = some (.string (⟨#[]⟩ : ByteArray)) := (zC BK681.out 8).trans rfl; have hcz64_9 : w62.cell? ⟨gb681, 9, none⟩ = some (.string (⟨#[]⟩ : ByteArray)) := (zC BK681.out 9).trans rfl; have hfz64_0 := zF BK681.out 0; have hfz64_1 := zF BK681.out 1; have hfz64_2 := zF BK681.out 2; have hfz64_3 := zF BK681.out 3; have hfz64_4 := zF BK681.out 4; have hfz64_5 := zF BK681.out 5; have hfz64_6 := zF BK681.out 6; have hfz64_7 := zF BK681.out 7; have hfz64_8 := zF BK681.out 8; have hfz64_9 := zF BK681.out 9; have hcz65_0 : w62.cell? ⟨gb680, 0, none⟩ = some (.int .i64 0) := (zC BK680.out 0).trans rfl; have hcz65_1 : w62.cell? ⟨gb680, 1, none⟩ = some (.int .i64 0) := (zC BK680.out 1).trans rfl; have hcz65_2 : w62.cell? ⟨gb680, 2, none⟩ = some (.int .i64 0) := (zC BK680.out 2).trans rfl; have hcz65_3 : w62.cell? ⟨gb680, 3, none⟩ = some (.int .i64 0) := (zC BK680.out 3).trans rfl; have hcz65_4 : w62.cell? ⟨gb680, 4, none⟩ = some (.int .i64 0) := (zC BK680.out 4).trans rfl; have hcz65_5 : w62.cell? ⟨gb680, 5, none⟩ = some (.bool false) := (zC BK680.out 5).trans rfl; have hcz65_6 : w62.cell? ⟨gb680, 6, none⟩ = some (.bool false) := (zC BK680.out 6).trans rfl; have hcz65_7 : w62.cell? ⟨gb680, 7, none⟩ = some (.string (⟨#[]⟩ : ByteArray)) := (zC BK680.out 7).trans rfl; have hcz65_8 : w62.cell? ⟨gb680, 8, none⟩ = some (.string (⟨#[]⟩ : ByteArray)) := (zC BK680.out 8).trans rfl; have hcz65_9 : w62.cell? ⟨gb680, 9, none⟩ = some (.string (⟨#[]⟩ : ByteArray)) := (zC BK680.out 9).trans rfl; have hfz65_0 := zF BK680.out 0; have hfz65_1 := zF BK680.out 1; have hfz65_2 := zF BK680.out 2; have hfz65_3 := zF BK680.out 3; have hfz65_4 := zF BK680.out 4; have hfz65_5 := zF BK680.out 5; have hfz65_6 := zF BK680.out 6; have hfz65_7 := zF BK680.out 7; have hfz65_8 := zF BK680.out 8; have hfz65_9 := zF BK680.out 9))
          refine bodyPost_ret (results_ctt rfl _ _ gb680 93 #[.int .i64 0, .int .i64 0, .int .i64 0, .int .i64 0, .int .i64 0, .bool false, .bool false, .string (⟨#[]⟩ : ByteArray), .string (⟨#[]⟩ : ByteArray), .string (⟨#[]⟩ : ByteArray)] (0, 0) _ rfl (by (with_reducible repeat (first | apply kN | apply kD | apply kA)); refine blk_put (cs := #[.int .i64 0, .int .i64 0, .int .i64 0, .int .i64 0, .int .i64 0, .bool false, .bool false, .string (⟨#[]⟩ : ByteArray), .string (⟨#[]⟩ : ByteArray), .string (⟨#[]⟩ : ByteArray)]) ?_ 9 _ rfl; (with_reducible repeat (first | apply kN | apply kD | apply kA)); refine blk_put (cs := #[.int .i64 0, .int .i64 0, .int .i64 0, .int .i64 0, .int .i64 0, .bool false, .bool false, .string (⟨#[]⟩ : ByteArray), .string (⟨#[]⟩ : ByteArray), .string (⟨#[]⟩ : ByteArray)]) ?_ 8 _ rfl; (with_reducible repeat (first | apply kN | apply kD | apply kA)); refine blk_put (cs := #[.int .i64 0, .int .i64 0, .int .i64 0, .int .i64 0, .int .i64 0, .bool false, .bool false, .string (⟨#[]⟩ : ByteArray), .string (⟨#[]⟩ : ByteArray), .string (⟨#[]⟩ : ByteArray)]) ?_ 7 _ rfl; (with_reducible repeat (first | apply kN | apply kD | apply kA)); refine blk_put (cs := #[.int .i64 0, .int .i64 0, .int .i64 0, .int .i64 0, .int .i64 0, .bool false, .bool false, .string (⟨#[]⟩ : ByteArray), .string (⟨#[]⟩ : ByteArray), .string (⟨#[]⟩ : ByteArray)]) ?_ 6 _ rfl; (with_reducible repeat (first | apply kN | apply kD | apply kA)); refine blk_put (cs := #[.int .i64 0, .int .i64 0, .int .i64 0, .int .i64 0, .int .i64 0, .bool false, .bool false, .string (⟨#[]⟩ : ByteArray), .string (⟨#[]⟩ : ByteArray), .string (⟨#[]⟩ : ByteArray)]) ?_ 5 _ rfl; (with_reducible repeat (first | apply kN | apply kD | apply kA)); refine blk_put (cs := #[.int .i64 0, .int .i64 0, .int .i64 0, .int .i64 0, .int .i64 0, .bool false, .bool false, .string (⟨#[]⟩ : ByteArray), .string (⟨#[]⟩ : ByteArray), .string (⟨#[]⟩ : ByteArray)]) ?_ 4 _ rfl; (with_reducible repeat (first | apply kN | apply kD | apply kA)); refine blk_put (cs := #[.int .i64 0, .int .i64 0, .int .i64 0, .int .i64 0, .int .i64 0, .bool false, .bool false, .string (⟨#[]⟩ : ByteArray), .string (⟨#[]⟩ : ByteArray), .string (⟨#[]⟩ : ByteArray)]) ?_ 3 _ rfl; (with_reducible repeat (first | apply kN | apply kD | apply kA)); refine blk_put (cs := #[.int .i64 0, .int .i64 0, .int .i64 0, .int .i64 0, .int .i64 0, .bool false, .bool false, .string (⟨#[]⟩ : ByteArray), .string (⟨#[]⟩ : ByteArray), .string (⟨#[]⟩ : ByteArray)]) ?_ 2 _ rfl; (with_reducible repeat (first | apply kN | apply kD | apply kA)); refine blk_put (cs := #[.int .i64 0, .int .i64 0, .int .i64 0, .int .i64 0, .int .i64 0, .bool false, .bool false, .string (⟨#[]⟩ : ByteArray), .string (⟨#[]⟩ : ByteArray), .string (⟨#[]⟩ : ByteArray)]) ?_ 1 _ rfl; (with_reducible repeat (first | apply kN | apply kD | apply kA)); refine blk_put (cs := #[.int .i64 0, .int .i64 0, .int .i64 0, .int .i64 0, .int .i64 0, .bool false, .bool false, .string (⟨#[]⟩ : ByteArray), .string (⟨#[]⟩ : ByteArray), .string (⟨#[]⟩ : ByteArray)]) ?_ 0 _ rfl; (with_reducible repeat (first | apply kN | apply kD | apply kA)); exact BK680.out) Try.underlying93 rfl (by kernel_rfl)) rfl ?_
          exact ⟨by first | rfl | (simp [errW_none, errW_some] <;> rfl) | (simp only [← hji24]; first | rfl | (simp [errW_none, errW_some] <;> rfl)) | (simp [*, errW_none, errW_some] <;> rfl), by repeat (first | (with_reducible first | exact HB.out | apply bA | apply bN | apply bD | refine bS ?_ GE680.out | refine bS ?_ GE681.out) | exact HB.out)⟩
        ·rw [if_neg c26] at H
         exact absurd H (by simp)
       ·rw [if_neg c25] at H
        exact absurd H (by simp)
   ·rw [if_neg c10] at H
    have c10b0 : (((Int.tdiv (bt a0 0) 16) % 256) == 4) = false := beq_eq_false_iff_ne.mpr c10
    have c10b1 : (((Int.tdiv (bt a0 0) 16) % 256) != 4) = true := bne_iff_ne.mpr c10
    simp only [Option.some.injEq, Prod.mk.injEq] at H
    obtain ⟨rfl, rfl, rfl, rfl, rfl, rfl, rfl, rfl, rfl, rfl, rfl, rfl⟩ := H
    go_enter Try.func112, Try.ntmps112
    go_wp2_with (first | ((with_reducible refine gate_dst (N := 2) rfl ?_); (try (refine gate_guard (by rfl) ?_; dsimp only)); refine box_event ?hg (N := 2) ?hd (cs := #[.int .i64 0, .int .i64 0, .int .i64 0, .int .i64 0, .int .i64 0, .bool false, .bool false, .string (⟨#[]⟩ : ByteArray), .string (⟨#[]⟩ : ByteArray), .string (⟨#[]⟩ : ByteArray)]) (t := 93) ?hr ?_; (case hd => rfl); (case hg => rfl); (case hr => first | (go_simp; done) | (go_simp; rfl)); intro gb680 hg w66 hbox hb; have n0_ := mA (bP (by repeat (first | (with_reducible first | exact HB.out | apply bA | apply bN | apply bD) | exact HB.out)) hb); have n1_ := mA (hbox); have n2_ := mA ((by rw [hg]; exact (below_size (by repeat (first | (with_reducible first | exact HB.out | apply bA | apply bN | apply bD) | exact HB.out))) : w.heap.size ≤ gb680)); have n3_ := mA ((by rw [hg]; exact (below_size (by repeat (first | (with_reducible first | exact HB.out | apply bA | apply bN | apply bD) | exact HB.out))) : w.heap.size ≤ gb680)); clear HB; have HB := n0_; have BK680 := n1_; have GW680 := n2_; have GE680 := n3_; clear n0_ n1_ n2_ n3_; clear hb hbox hg) | ((with_reducible refine gate_dst (N := 5) rfl ?_); (try (refine gate_guard (by rfl) ?_; dsimp only)); refine box_event ?hg (N := 5) ?hd (cs := #[.int .i64 0, .int .i64 0, .int .i64 0, .int .i64 0, .int .i64 0, .bool false, .bool false, .string (⟨#[]⟩ : ByteArray), .string (⟨#[]⟩ : ByteArray), .string (⟨#[]⟩ : ByteArray)]) (t := 93) ?hr ?_; (case hd => rfl); (case hg => rfl); (case hr => first | (go_simp; done) | (go_simp; rfl)); intro gb681 hg w67 hbox hb; have n0_ := mA (blk_below (g := gb680) (o := .cells #[.int .i64 0, .int .i64 0, .int .i64 0, .int .i64 0, .int .i64 0, .bool false, .bool false, .string (⟨#[]⟩ : ByteArray), .string (⟨#[]⟩ : ByteArray), .string (⟨#[]⟩ : ByteArray)] 93 (0, 0)) (by (with_reducible repeat (first | apply kN | apply kD | apply kA)); exact BK680.out) hb); have n1_ := mA (bP (by repeat (first | (with_reducible first | exact HB.out | apply bA | apply bN | apply bD | refine bS ?_ GE680.out) | exact HB.out)) hb); have n2_ := mA (hbox); have n3_ := mA ((by rw [hg]; exact (below_size (by repeat (first | (with_reducible first | exact HB.out | apply bA | apply bN | apply bD | refine bS ?_ GE680.out) | exact HB.out))) : w.heap.size ≤ gb681)); have n4_ := mA ((by rw [hg]; exact (below_size (by repeat (first | (with_reducible first | exact HB.out | apply bA | apply bN | apply bD | refine bS ?_ GE680.out) | exact HB.out))) : w.heap.size ≤ gb681)); have n5_ := mA ((by rw [hg]; exact Nat.ne_of_lt (blk_lt (g := gb680) (o := .cells #[.int .i64 0, .int .i64 0, .int .i64 0, .int .i64 0, .int .i64 0, .bool false, .bool false, .string (⟨#[]⟩ : ByteArray), .string (⟨#[]⟩ : ByteArray), .string (⟨#[]⟩ : ByteArray)] 93 (0, 0)) (by (with_reducible repeat (first | apply kN | apply kD | apply kA)); exact BK680.out)) : gb680 ≠ gb681)); have n6_ := mA ((by rw [hg]; exact Nat.ne_of_gt (blk_lt (g := gb680) (o := .cells #[.int .i64 0, .int .i64 0, .int .i64 0, .int .i64 0, .int .i64 0, .bool false, .bool false, .string (⟨#[]⟩ : ByteArray), .string (⟨#[]⟩ : ByteArray), .string (⟨#[]⟩ : ByteArray)] 93 (0, 0)) (by (with_reducible repeat (first | apply kN | apply kD | apply kA)); exact BK680.out)) : gb681 ≠ gb680)); clear BK680; clear HB; have BK680 := n0_; have HB := n1_; have BK681 := n2_; have GW681 := n3_; have GE681 := n4_; have NB680_681 := n5_; have NB681_680 := n6_; clear n0_ n1_ n2_ n3_ n4_ n5_ n6_; clear hb hbox hg; have hnb68 := NB681_680.out; have hnc68 := NB680_681.out; have hcz69_0 : w67.cell? ⟨gb681, 0, none⟩ = some (.int .i64 0) := (zC BK681.out 0).trans rfl; have hcz69_1 : w67.cell? ⟨gb681, 1, none⟩ = some (.int .i64 0) := (zC BK681.out 1).trans rfl; have hcz69_2 : w67.cell? ⟨gb681, 2, none⟩ = some (.int .i64 0) := (zC BK681.out 2).trans rfl; have hcz69_3 : w67.cell? ⟨gb681, 3, none⟩ = some (.int .i64 0) := (zC BK681.out 3).trans rfl; have hcz69_4 : w67.cell? ⟨gb681, 4, none⟩ = some (.int .i64 0) := (zC BK681.out 4).trans rfl; have hcz69_5 : w67.cell? ⟨gb681, 5, none⟩ = some (.bool false) := (zC BK681.out 5).trans rfl; have hcz69_6 : w67.cell? ⟨gb681, 6, none⟩ = some (.bool false) := (zC BK681.out 6).trans rfl; have hcz69_7 : w67.cell? ⟨gb681, 7, none⟩ = some (.string (⟨#[]⟩ : ByteArray)) := (zC BK681.out 7).trans rfl; have hcz69_8 : w67.cell? ⟨gb681, 8, none⟩ = some (.string (⟨#[]⟩ : ByteArray)) := (zC BK681.out 8).trans rfl; have hcz69_9 : w67.cell? ⟨gb681, 9, none⟩ = some (.string (⟨#[]⟩ : ByteArray)) := (zC BK681.out 9).trans rfl; have hfz69_0 := zF BK681.out 0; have hfz69_1 := zF BK681.out 1; have hfz69_2 := zF BK681.out 2; have hfz69_3 := zF BK681.out 3; have hfz69_4 := zF BK681.out 4; have hfz69_5 := zF BK681.out 5; have hfz69_6 := zF BK681.out 6; have hfz69_7 := zF BK681.out 7; have hfz69_8 := zF BK681.out 8; have hfz69_9 := zF BK681.out 9; have p9 : 0 ≤ (0 : Int) := (by omega); have q9 : 0 < a0.size := (by have : (0 : Int) < (a0.size : Int) := of_decide_eq_true (by first | (with_reducible assumption) | assumption); omega); have hx9 : ∀ h : 0 < a0.size, ((a0[0]'h).toNat : Int) = bt a0 0 := bt_at a0 0; clear p9; have qi9 : (0 < (a0.size : Int)) = True := eq_true (of_decide_eq_true (by first | (with_reducible assumption) | assumption)); replace q9 := eq_true q9; have hcz70_0 : w67.cell? ⟨gb680, 0, none⟩ = some (.int .i64 0) := (zC BK680.out 0).trans rfl; have hcz70_1 : w67.cell? ⟨gb680, 1, none⟩ = some (.int .i64 0) := (zC BK680.out 1).trans rfl; have hcz70_2 : w67.cell? ⟨gb680, 2, none⟩ = some (.int .i64 0) := (zC BK680.out 2).trans rfl; have hcz70_3 : w67.cell? ⟨gb680, 3, none⟩ = some (.int .i64 0) := (zC BK680.out 3).trans rfl; have hcz70_4 : w67.cell? ⟨gb680, 4, none⟩ = some (.int .i64 0) := (zC BK680.out 4).trans rfl; have hcz70_5 : w67.cell? ⟨gb680, 5, none⟩ = some (.bool false) := (zC BK680.out 5).trans rfl; have hcz70_6 : w67.cell? ⟨gb680, 6, none⟩ = some (.bool false) := (zC BK680.out 6).trans rfl; have hcz70_7 : w67.cell? ⟨gb680, 7, none⟩ = some (.string (⟨#[]⟩ : ByteArray)) := (zC BK680.out 7).trans rfl; have hcz70_8 : w67.cell? ⟨gb680, 8, none⟩ = some (.string (⟨#[]⟩ : ByteArray)) := (zC BK680.out 8).trans rfl; have hcz70_9 : w67.cell? ⟨gb680, 9, none⟩ = some (.string (⟨#[]⟩ : ByteArray)) := (zC BK680.out 9).trans rfl; have hfz70_0 := zF BK680.out 0; have hfz70_1 := zF BK680.out 1; have hfz70_2 := zF BK680.out 2; have hfz70_3 := zF BK680.out 3; have hfz70_4 := zF BK680.out 4; have hfz70_5 := zF BK680.out 5; have hfz70_6 := zF BK680.out 6; have hfz70_7 := zF BK680.out 7; have hfz70_8 := zF BK680.out 8; have hfz70_9 := zF BK680.out 9))
    refine bodyPost_ret (results_ctt rfl _ _ gb680 93 #[.int .i64 0, .int .i64 0, .int .i64 0, .int .i64 0, .int .i64 0, .bool false, .bool false, .string (⟨#[]⟩ : ByteArray), .string (⟨#[]⟩ : ByteArray), .string (⟨#[]⟩ : ByteArray)] (0, 0) _ rfl (by (with_reducible repeat (first | apply kN | apply kD | apply kA)); refine blk_put (cs := #[.int .i64 0, .int .i64 0, .int .i64 0, .int .i64 0, .int .i64 0, .bool false, .bool false, .string (⟨#[]⟩ : ByteArray), .string (⟨#[]⟩ : ByteArray), .string (⟨#[]⟩ : ByteArray)]) ?_ 9 _ rfl; (with_reducible repeat (first | apply kN | apply kD | apply kA)); refine blk_put (cs := #[.int .i64 0, .int .i64 0, .int .i64 0, .int .i64 0, .int .i64 0, .bool false, .bool false, .string (⟨#[]⟩ : ByteArray), .string (⟨#[]⟩ : ByteArray), .string (⟨#[]⟩ : ByteArray)]) ?_ 8 _ rfl; (with_reducible repeat (first | apply kN | apply kD | apply kA)); refine blk_put (cs := #[.int .i64 0, .int .i64 0, .int .i64 0, .int .i64 0, .int .i64 0, .bool false, .bool false, .string (⟨#[]⟩ : ByteArray), .string (⟨#[]⟩ : ByteArray), .string (⟨#[]⟩ : ByteArray)]) ?_ 7 _ rfl; (with_reducible repeat (first | apply kN | apply kD | apply kA)); refine blk_put (cs := #[.int .i64 0, .int .i64 0, .int .i64 0, .int .i64 0, .int .i64 0, .bool false, .bool false, .string (⟨#[]⟩ : ByteArray), .string (⟨#[]⟩ : ByteArray), .string (⟨#[]⟩ : ByteArray)]) ?_ 6 _ rfl; (with_reducible repeat (first | apply kN | apply kD | apply kA)); refine blk_put (cs := #[.int .i64 0, .int .i64 0, .int .i64 0, .int .i64 0, .int .i64 0, .bool false, .bool false, .string (⟨#[]⟩ : ByteArray), .string (⟨#[]⟩ : ByteArray), .string (⟨#[]⟩ : ByteArray)]) ?_ 5 _ rfl; (with_reducible repeat (first | apply kN | apply kD | apply kA)); refine blk_put (cs := #[.int .i64 0, .int .i64 0, .int .i64 0, .int .i64 0, .int .i64 0, .bool false, .bool false, .string (⟨#[]⟩ : ByteArray), .string (⟨#[]⟩ : ByteArray), .string (⟨#[]⟩ : ByteArray)]) ?_ 4 _ rfl; (with_reducible repeat (first | apply kN | apply kD | apply kA)); refine blk_put (cs := #[.int .i64 0, .int .i64 0, .int .i64 0, .int .i64 0, .int .i64 0, .bool false, .bool false, .string (⟨#[]⟩ : ByteArray), .string (⟨#[]⟩ : ByteArray), .string (⟨#[]⟩ : ByteArray)]) ?_ 3 _ rfl; (with_reducible repeat (first | apply kN | apply kD | apply kA)); refine blk_put (cs := #[.int .i64 0, .int .i64 0, .int .i64 0, .int .i64 0, .int .i64 0, .bool false, .bool false, .string (⟨#[]⟩ : ByteArray), .string (⟨#[]⟩ : ByteArray), .string (⟨#[]⟩ : ByteArray)]) ?_ 2 _ rfl; (with_reducible repeat (first | apply kN | apply kD | apply kA)); refine blk_put (cs := #[.int .i64 0, .int .i64 0, .int .i64 0, .int .i64 0, .int .i64 0, .bool false, .bool false, .string (⟨#[]⟩ : ByteArray), .string (⟨#[]⟩ : ByteArray), .string (⟨#[]⟩ : ByteArray)]) ?_ 1 _ rfl; (with_reducible repeat (first | apply kN | apply kD | apply kA)); refine blk_put (cs := #[.int .i64 0, .int .i64 0, .int .i64 0, .int .i64 0, .int .i64 0, .bool false, .bool false, .string (⟨#[]⟩ : ByteArray), .string (⟨#[]⟩ : ByteArray), .string (⟨#[]⟩ : ByteArray)]) ?_ 0 _ rfl; (with_reducible repeat (first | apply kN | apply kD | apply kA)); refine blk_far ?_ NB680_681.out _; (with_reducible repeat (first | apply kN | apply kD | apply kA)); refine blk_far ?_ NB680_681.out _; (with_reducible repeat (first | apply kN | apply kD | apply kA)); refine blk_far ?_ NB680_681.out _; (with_reducible repeat (first | apply kN | apply kD | apply kA)); refine blk_far ?_ NB680_681.out _; (with_reducible repeat (first | apply kN | apply kD | apply kA)); refine blk_far ?_ NB680_681.out _; (with_reducible repeat (first | apply kN | apply kD | apply kA)); refine blk_far ?_ NB680_681.out _; (with_reducible repeat (first | apply kN | apply kD | apply kA)); refine blk_far ?_ NB680_681.out _; (with_reducible repeat (first | apply kN | apply kD | apply kA)); refine blk_far ?_ NB680_681.out _; (with_reducible repeat (first | apply kN | apply kD | apply kA)); refine blk_far ?_ NB680_681.out _; (with_reducible repeat (first | apply kN | apply kD | apply kA)); refine blk_far ?_ NB680_681.out _; (with_reducible repeat (first | apply kN | apply kD | apply kA)); exact BK680.out) Try.underlying93 rfl (by kernel_rfl)) rfl ?_
    exact ⟨by first | rfl | (simp [errW_none, errW_some] <;> rfl) | (simp [*, errW_none, errW_some] <;> rfl), by repeat (first | (with_reducible first | exact HB.out | apply bA | apply bN | apply bD | refine bS ?_ GE680.out | refine bS ?_ GE681.out) | exact HB.out)⟩
  ·rw [if_neg c8] at H
   exact absurd H (by simp)

end Go.Proofs.Ytejmipoolbodgaa.G
end
