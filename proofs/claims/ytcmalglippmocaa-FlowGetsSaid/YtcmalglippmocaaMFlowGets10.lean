/- Texts of this session, joined: each is a section. -/
import Derived.Test.YtcmalglippmocaaMFlowGets1
import Derived.Test.YtcmalglippmocaaMFlowGets8
import Derived.Test.YtcmalglippmocaaMFlowGets9
import Derived.Test.YtcmalglippmocaaMFlowGets6
import Derived.Test.YtcmalglippmocaaMFlowGets5
import Derived.Test.YtcmalglippmocaaMFlowGets3
import Derived.Test.YtcmalglippmocaaMFlowGets4
import Derived.WalkLawsBesides
import Derived.BigQuiet
import Derived.RegionTactic
import Derived.Deep.RegionWith
set_option linter.unusedVariables false
set_option linter.unusedSimpArgs false
section
namespace Go.Proofs.Ytcmalglippmocaa.G
open Go.RowKit Go.Proofs.YtcmalglippmocaaW.PrintWords Go.Proofs.YtcmalglippmocaaW.PrintLast Go.Proofs.YtcmalglippmocaaW.PrintMore
attribute [local go_sem] max2_int min2_int max_two min_two max_three min_three max_four min_four   -- for this text's walks alone
set_option linter.unusedVariables false
set_option linter.unusedSimpArgs false

def palanquinref09_Get.j0 : Nat → ByteArray → Bool → Int → ByteArray → ByteArray → Int → Int → Option (Int × ByteArray × ByteArray × Int × Int × Int)
 | 0, _, _, _, _, _, _, _ => none
 | k + 1, x5, x7, x238000, x238001, x238002, x238003, x238004 => (palanquinref02_Pseudo.f k x238001 x238002 x238000 (x5.size : Int)).bind fun t256 => (if t256.size + x5.size ≤ 9223372036854775807 then ((palanquinref02_Sum.f k (t256 ++ x5)).bind fun t257 => (if x7 = true then (if ((x238001.size : Int) = 4) then (some (x238000, x238001, x238002, x238003, x238004, 0)) else (some (0, (⟨#[]⟩ : ByteArray), (⟨#[]⟩ : ByteArray), 0, 0, 5))) else (if t257 = 0 then (some (x238000, x238001, x238002, x238003, x238004, 0)) else (some (0, (⟨#[]⟩ : ByteArray), (⟨#[]⟩ : ByteArray), 0, 0, 5))))) else (none))
def palanquinref09_Get.f (k : Nat) (a0 : ByteArray) : Option (Int × ByteArray × ByteArray × Int × Int × Int) := (palanquinref09_open.f k a0).bind fun bt230 => (if bt230.2.2.2.2.2.2 = 0 then (if bt230.1 = 6 then ((palanquinref07_Get.f bt230.2.2.2.2.2.1).bind fun bt238 => (if bt238.2.2.2.2.2.2.2.2.2.2 = 0 then (palanquinref09_Get.j0 k bt230.2.2.2.2.2.1 false bt230.1 bt230.2.1 bt230.2.2.1 bt238.1 bt238.2.1) else (some (0, (⟨#[]⟩ : ByteArray), (⟨#[]⟩ : ByteArray), 0, 0, bt238.2.2.2.2.2.2.2.2.2.2)))) else (if bt230.1 = 17 then ((palanquinref08_Get.f k bt230.2.2.2.2.2.1).bind fun bt250 => (if bt250.2.2.2.2 = 0 then (palanquinref09_Get.j0 k bt230.2.2.2.2.2.1 (bt250.2.2.2.1 == 0) bt230.1 bt230.2.1 bt230.2.2.1 bt250.1 bt250.2.1) else (some (0, (⟨#[]⟩ : ByteArray), (⟨#[]⟩ : ByteArray), 0, 0, bt250.2.2.2.2)))) else (some (0, (⟨#[]⟩ : ByteArray), (⟨#[]⟩ : ByteArray), 0, 0, 6)))) else (some (0, (⟨#[]⟩ : ByteArray), (⟨#[]⟩ : ByteArray), 0, 0, bt230.2.2.2.2.2.2)))
def palanquinref09_Get.T11 : Bool × List (List Nat × List Nat) := (true, [([], []), ([0], [0]), ([], []), ([2], [2]), ([0, 1], []), ([4, 1, 0, 1], [1, 4]), ([0, 1, 2, 3, 4, 5], []), ([6, 3, 5, 0, 1, 2, 3, 4, 5], [3, 6])])
def palanquinref09_Get.B11 : List Nat := [0, 1, 0, 4, 3, 19, 63, 127]
theorem palanquinref09_Get.tab11 : rtab .any (opsOf Try.f12 11) = palanquinref09_Get.T11 := by kernel_rfl
theorem palanquinref09_Get.bits11 : waitsOk palanquinref09_Get.T11.2 palanquinref09_Get.B11 = true := by kernel_rfl
def palanquinref09_Get.T16 : Bool × List (List Nat × List Nat) := (true, [([], []), ([0], [0]), ([], []), ([2], [2]), ([0, 1], []), ([4, 1, 0, 1], [1, 4]), ([0, 1, 2, 3, 4, 5], []), ([6, 3, 5, 0, 1, 2, 3, 4, 5], [3, 6])])
def palanquinref09_Get.B16 : List Nat := [0, 1, 0, 4, 3, 19, 63, 127]
theorem palanquinref09_Get.tab16 : rtab .any (opsOf Try.f12 16) = palanquinref09_Get.T16 := by kernel_rfl
theorem palanquinref09_Get.bits16 : waitsOk palanquinref09_Get.T16.2 palanquinref09_Get.B16 = true := by kernel_rfl
set_option maxHeartbeats 8000000 in
set_option maxRecDepth 100000 in
theorem palanquinref09_Get.calls (k : Nat) (a0 : ByteArray) (r1 : Int) (r2 : ByteArray) (r3 : ByteArray) (r4 : Int) (r5 : Int) (r6 : Int) (w : World) (h : palanquinref09_Get.f k a0 = some (r1, r2, r3, r4, r5, r6)) :
  Calls Try.prog 12 #[.string a0] w fun e w' => e = .returned (.tuple #[.agg #[.int .i64 r1, .string r2, .string r3, .int .i64 r4, .int .i64 r5], .int .i64 r6]) ∧ Below w.heap.size w w' := by
 have hu24 := Try.underlying24
 have hu69 := Try.underlying69
 have hu73 := Try.underlying73
 have HB := mA (Below.refl w.heap.size w)
 have H : ((palanquinref09_open.f k a0).bind fun bt230 => (if bt230.2.2.2.2.2.2 = 0 then (if bt230.1 = 6 then ((palanquinref07_Get.f bt230.2.2.2.2.2.1).bind fun bt238 => (if bt238.2.2.2.2.2.2.2.2.2.2 = 0 then (palanquinref09_Get.j0 k bt230.2.2.2.2.2.1 false bt230.1 bt230.2.1 bt230.2.2.1 bt238.1 bt238.2.1) else (some (0, (⟨#[]⟩ : ByteArray), (⟨#[]⟩ : ByteArray), 0, 0, bt238.2.2.2.2.2.2.2.2.2.2)))) else (if bt230.1 = 17 then ((palanquinref08_Get.f k bt230.2.2.2.2.2.1).bind fun bt250 => (if bt250.2.2.2.2 = 0 then (palanquinref09_Get.j0 k bt230.2.2.2.2.2.1 (bt250.2.2.2.1 == 0) bt230.1 bt230.2.1 bt230.2.2.1 bt250.1 bt250.2.1) else (some (0, (⟨#[]⟩ : ByteArray), (⟨#[]⟩ : ByteArray), 0, 0, bt250.2.2.2.2)))) else (some (0, (⟨#[]⟩ : ByteArray), (⟨#[]⟩ : ByteArray), 0, 0, 6)))) else (some (0, (⟨#[]⟩ : ByteArray), (⟨#[]⟩ : ByteArray), 0, 0, bt230.2.2.2.2.2.2)))) = some (r1, r2, r3, r4, r5, r6) := h
 clear h
 replace H := Option.bind_eq_some_iff.mp H
 obtain ⟨⟨t230, t231, t232, t233, t234, t235, t236⟩, A20, H⟩ := H
 replace H : (if t236 = 0 then (if t230 = 6 then ((palanquinref07_Get.f t235).bind fun bt238 => (if bt238.2.2.2.2.2.2.2.2.2.2 = 0 then (palanquinref09_Get.j0 k t235 false t230 t231 t232 bt238.1 bt238.2.1) else (some (0, (⟨#[]⟩ : ByteArray), (⟨#[]⟩ : ByteArray), 0, 0, bt238.2.2.2.2.2.2.2.2.2.2)))) else (if t230 = 17 then ((palanquinref08_Get.f k t235).bind fun bt250 => (if bt250.2.2.2.2 = 0 then (palanquinref09_Get.j0 k t235 (bt250.2.2.2.1 == 0) t230 t231 t232 bt250.1 bt250.2.1) else (some (0, (⟨#[]⟩ : ByteArray), (⟨#[]⟩ : ByteArray), 0, 0, bt250.2.2.2.2)))) else (some (0, (⟨#[]⟩ : ByteArray), (⟨#[]⟩ : ByteArray), 0, 0, 6)))) else (some (0, (⟨#[]⟩ : ByteArray), (⟨#[]⟩ : ByteArray), 0, 0, t236))) = some (r1, r2, r3, r4, r5, r6) := H
 have A2 := mA A20
 clear A20
 by_cases c3 : t236 = 0
 ·rw [if_pos c3] at H
  have c3b0 : (t236 == 0) = true := beq_iff_eq.mpr c3
  have c3b1 : (t236 != 0) = false := bne_eq_false_iff_eq.mpr c3
  clear c3
  have HC4 := mA H
  clear H
  go_enter Try.func12, Try.ntmps12
  go_upto_block 0 with (first | ((with_reducible refine gate_dst (N := 2) rfl ?_); refine box_event ?hg (N := 2) ?hd (cs := #[.int .i64 0, .string (⟨#[]⟩ : ByteArray), .string (⟨#[]⟩ : ByteArray), .int .i64 0, .int .i64 0]) (t := 24) ?hr ?_; (case hd => rfl); (case hg => rfl); (case hr => first | (go_simp; done) | (go_simp; rfl)); intro gb229 hg w5 hbox hb; obtain ⟨n0_, nq_⟩ := bpr (by repeat (first | (with_reducible first | exact HB.out | apply bA | apply bN | apply bD) | exact HB.out)) hb; have n1_ := mA (hbox); have n2_ := mA ((by rw [hg]; exact nq_ : w.heap.size ≤ gb229)); have n3_ := mA ((by rw [hg]; exact nq_ : w.heap.size ≤ gb229)); clear HB; have HB := n0_; have BK229 := n1_; have GW229 := n2_; have GE229 := n3_; clear nq_; clear n0_ n1_ n2_ n3_; clear hb hbox hg) | ((with_reducible refine gate_callee (f := 29) rfl ?_); refine goesL_ (some 17) rfl rfl Try.func29 (by kernel_rfl) rfl #[.string a0] rfl (by (try simp only [List.map_toArray, List.map_cons, List.map_nil]); first | done | rfl | (simp only [List.length_drop, List.length_take]; rfl)) ?_; (with_reducible refine (palanquinref09_open.calls k a0 t230 t231 t232 t233 t234 t235 t236 _ A2.out).mono ?_); rintro e w6 ⟨rfl, hb⟩; refine ⟨_, rfl, ?_⟩; have n0_ := mA (blk_below (g := gb229) (o := .cells #[.int .i64 0, .string (⟨#[]⟩ : ByteArray), .string (⟨#[]⟩ : ByteArray), .int .i64 0, .int .i64 0] 24 (0, 0)) (by (with_reducible repeat (first | apply kN | apply kD | apply kA)); exact BK229.out) hb); have n1_ := mA (bP (by repeat (first | (with_reducible first | exact HB.out | apply bA | apply bN | apply bD | refine bS ?_ GE229.out) | exact HB.out)) hb); clear BK229; clear HB; have BK229 := n0_; have HB := n1_; clear n0_ n1_; (try clear hb); (try clear hb2); (try clear hk); (try clear hi)) | ((with_reducible refine gate_dst (N := 4) rfl ?_); refine box_event ?hg (N := 4) ?hd (cs := #[.int .i64 0, .string (⟨#[]⟩ : ByteArray), .string (⟨#[]⟩ : ByteArray), .int .i64 0, .int .i64 0]) (t := 24) ?hr ?_; (case hd => rfl); (case hg => rfl); (case hr => first | (go_simp; done) | (go_simp; rfl)); intro gb237 hg w7 hbox hb; obtain ⟨n0_, nl229_⟩ := bt3 (g := gb229) (o := .cells #[.int .i64 0, .string (⟨#[]⟩ : ByteArray), .string (⟨#[]⟩ : ByteArray), .int .i64 0, .int .i64 0] 24 (0, 0)) (by (with_reducible repeat (first | apply kN | apply kD | apply kA)); exact BK229.out) hb; obtain ⟨n1_, nq_⟩ := bpr (by repeat (first | (with_reducible first | exact HB.out | apply bA | apply bN | apply bD | refine bS ?_ GE229.out) | exact HB.out)) hb; have n2_ := mA (hbox); have n3_ := mA ((by rw [hg]; exact nq_ : w.heap.size ≤ gb237)); have n4_ := mA ((by rw [hg]; exact nq_ : w.heap.size ≤ gb237)); have n5_ := mA ((by rw [hg]; exact Nat.ne_of_lt nl229_ : gb229 ≠ gb237)); have n6_ := mA ((by rw [hg]; exact Nat.ne_of_gt nl229_ : gb237 ≠ gb229)); clear BK229; clear HB; have BK229 := n0_; have HB := n1_; have BK237 := n2_; have GW237 := n3_; have GE237 := n4_; have NB229_237 := n5_; have NB237_229 := n6_; clear nl229_; clear nq_; clear n0_ n1_ n2_ n3_ n4_ n5_ n6_; clear hb hbox hg; have hnb8 := NB237_229.out; have hnc8 := NB229_237.out; obtain ⟨hcz9_0, hcz9_1, hcz9_2, hcz9_3, hcz9_4⟩ := bc5 BK237.out; obtain ⟨hfz9_0, hfz9_1, hfz9_2, hfz9_3, hfz9_4⟩ := bf5 BK237.out))
  (try simp only [Act.put, List.setIfInBounds_toArray, List.set_cons_zero, List.set_cons_succ])
  go_cut [7] (fun v7 wc => ∃ (kq : Nat) (x7_3 : Bool) (x230000_3 : Int) (x230001_3 : ByteArray) (x230002_3 : ByteArray) (x230003_3 : Int) (x230004_3 : Int) (x238003_3 : Int) (x238004_3 : Int), v7 = .bool x7_3 ∧ Aside0 (palanquinref09_Get.j0 kq t235 x7_3 t230 t231 t232 x238003_3 x238004_3 = some (r1, r2, r3, r4, r5, r6)) ∧ Aside0 (kq ≤ k) ∧ Aside0 (wc.heap[gb229]? = some (.cells #[.int .i64 x230000_3, .string x230001_3, .string x230002_3, .int .i64 x230003_3, .int .i64 x230004_3] 24 (0, 0))) ∧ Aside0 (wc.heap[gb237]? = some (.cells #[.int .i64 t230, .string t231, .string t232, .int .i64 x238003_3, .int .i64 x238004_3] 24 (0, 0))) ∧ Aside0 (Below w.heap.size w wc))
  case first =>
   have H := HC4.out
   clear HC4
   by_cases c10 : t230 = 6
   ·rw [if_pos c10] at H
    have c10b0 : (t230 == 6) = true := beq_iff_eq.mpr c10
    have c10b1 : (t230 != 6) = false := bne_eq_false_iff_eq.mpr c10
    clear c10
    (first | rw [c10b0] | (simp only [i64_w, i32_w]; rw [c10b0]) | skip)
    replace H := Option.bind_eq_some_iff.mp H
    obtain ⟨⟨t238, t239, t240, t241, t242, t243, t244, t245, t246, t247, t248⟩, A110, H⟩ := H
    replace H : (if t248 = 0 then (palanquinref09_Get.j0 k t235 false t230 t231 t232 t238 t239) else (some (0, (⟨#[]⟩ : ByteArray), (⟨#[]⟩ : ByteArray), 0, 0, t248))) = some (r1, r2, r3, r4, r5, r6) := H
    have A11 := mA A110
    clear A110
    by_cases c12 : t248 = 0
    ·rw [if_pos c12] at H
     have c12b0 : (t248 == 0) = true := beq_iff_eq.mpr c12
     have c12b1 : (t248 != 0) = false := bne_eq_false_iff_eq.mpr c12
     clear c12
     have H' := mA H
     clear H
     try go_wp2_with (first | ((with_reducible refine gate_callee (f := 30) rfl ?_); refine goesL_ (some 32) rfl rfl Try.func30 (by kernel_rfl) rfl #[.string t235] rfl (by (try simp only [List.map_toArray, List.map_cons, List.map_nil]); first | done | rfl | (simp only [List.length_drop, List.length_take]; rfl)) ?_; (with_reducible refine (palanquinref07_Get.calls t235 t238 t239 t240 t241 t242 t243 t244 t245 t246 t247 t248 _ A11.out).mono ?_); rintro e w13 ⟨rfl, hb⟩; refine ⟨_, rfl, ?_⟩; have n0_ := mA (blk_below (g := gb229) (o := .cells #[.int .i64 0, .string (⟨#[]⟩ : ByteArray), .string (⟨#[]⟩ : ByteArray), .int .i64 0, .int .i64 0] 24 (0, 0)) (by (with_reducible repeat (first | apply kN | apply kD | apply kA)); refine blk_far ?_ NB229_237.out _; (with_reducible repeat (first | apply kN | apply kD | apply kA)); refine blk_far ?_ NB229_237.out _; (with_reducible repeat (first | apply kN | apply kD | apply kA)); refine blk_far ?_ NB229_237.out _; (with_reducible repeat (first | apply kN | apply kD | apply kA)); refine blk_far ?_ NB229_237.out _; (with_reducible repeat (first | apply kN | apply kD | apply kA)); refine blk_far ?_ NB229_237.out _; (with_reducible repeat (first | apply kN | apply kD | apply kA)); exact BK229.out) hb); have n1_ := mA (blk_below (g := gb237) (o := .cells #[.int .i64 t230, .string t231, .string t232, .int .i64 t233, .int .i64 t234] 24 (0, 0)) (by (with_reducible repeat (first | apply kN | apply kD | apply kA)); refine blk_put (cs := #[.int .i64 t230, .string t231, .string t232, .int .i64 t233, .int .i64 0]) ?_ 4 _ (by first | rfl | (simp [*]; done)); (with_reducible repeat (first | apply kN | apply kD | apply kA)); refine blk_put (cs := #[.int .i64 t230, .string t231, .string t232, .int .i64 0, .int .i64 0]) ?_ 3 _ (by first | rfl | (simp [*]; done)); (with_reducible repeat (first | apply kN | apply kD | apply kA)); refine blk_put (cs := #[.int .i64 t230, .string t231, .string (⟨#[]⟩ : ByteArray), .int .i64 0, .int .i64 0]) ?_ 2 _ (by first | rfl | (simp [*]; done)); (with_reducible repeat (first | apply kN | apply kD | apply kA)); refine blk_put (cs := #[.int .i64 t230, .string (⟨#[]⟩ : ByteArray), .string (⟨#[]⟩ : ByteArray), .int .i64 0, .int .i64 0]) ?_ 1 _ (by first | rfl | (simp [*]; done)); (with_reducible repeat (first | apply kN | apply kD | apply kA)); refine blk_put (cs := #[.int .i64 0, .string (⟨#[]⟩ : ByteArray), .string (⟨#[]⟩ : ByteArray), .int .i64 0, .int .i64 0]) ?_ 0 _ (by first | rfl | (simp [*]; done)); (with_reducible repeat (first | apply kN | apply kD | apply kA)); exact BK237.out) hb); have n2_ := mA (bP (by repeat (first | (with_reducible first | exact HB.out | apply bA | apply bN | apply bD | refine bS ?_ GE229.out | refine bS ?_ GE237.out) | exact HB.out)) hb); clear BK229; clear BK237; clear HB; have BK229 := n0_; have BK237 := n1_; have HB := n2_; clear n0_ n1_ n2_; (try clear hb); (try clear hb2); (try clear hk); (try clear hi)) | ((with_reducible refine gate_dst (N := 8) rfl ?_); refine box_event ?hg (N := 8) ?hd (cs := #[.int .i64 0, .int .i64 0, .int .u32 0, .int .u32 0, .int .i64 0, .int .i64 0, .int .i64 0, .string (⟨#[]⟩ : ByteArray), .string (⟨#[]⟩ : ByteArray)]) (t := 69) ?hr ?_; (case hd => rfl); (case hg => rfl); (case hr => first | (go_simp; done) | (go_simp; rfl)); intro gb249 hg w14 hbox hb; obtain ⟨n0_, nl229_⟩ := bt3 (g := gb229) (o := .cells #[.int .i64 0, .string (⟨#[]⟩ : ByteArray), .string (⟨#[]⟩ : ByteArray), .int .i64 0, .int .i64 0] 24 (0, 0)) (by (with_reducible repeat (first | apply kN | apply kD | apply kA)); exact BK229.out) hb; obtain ⟨n1_, nl237_⟩ := bt3 (g := gb237) (o := .cells #[.int .i64 t230, .string t231, .string t232, .int .i64 t233, .int .i64 t234] 24 (0, 0)) (by (with_reducible repeat (first | apply kN | apply kD | apply kA)); exact BK237.out) hb; obtain ⟨n2_, nq_⟩ := bpr (by repeat (first | (with_reducible first | exact HB.out | apply bA | apply bN | apply bD | refine bS ?_ GE229.out | refine bS ?_ GE237.out) | exact HB.out)) hb; have n3_ := mA (hbox); have n4_ := mA ((by rw [hg]; exact nq_ : w.heap.size ≤ gb249)); have n5_ := mA ((by rw [hg]; exact nq_ : w.heap.size ≤ gb249)); have n6_ := mA ((by rw [hg]; exact Nat.ne_of_lt nl229_ : gb229 ≠ gb249)); have n7_ := mA ((by rw [hg]; exact Nat.ne_of_gt nl229_ : gb249 ≠ gb229)); have n8_ := mA ((by rw [hg]; exact Nat.ne_of_lt nl237_ : gb237 ≠ gb249)); have n9_ := mA ((by rw [hg]; exact Nat.ne_of_gt nl237_ : gb249 ≠ gb237)); clear BK229; clear BK237; clear HB; have BK229 := n0_; have BK237 := n1_; have HB := n2_; have BK249 := n3_; have GW249 := n4_; have GE249 := n5_; have NB229_249 := n6_; have NB249_229 := n7_; have NB237_249 := n8_; have NB249_237 := n9_; clear nl229_; clear nl237_; clear nq_; clear n0_ n1_ n2_ n3_ n4_ n5_ n6_ n7_ n8_ n9_; clear hb hbox hg; have hnb15 := NB249_229.out; have hnc15 := NB229_249.out; have hnb16 := NB249_237.out; have hnc16 := NB237_249.out; obtain ⟨hcz17_0, hcz17_1, hcz17_2, hcz17_3, hcz17_4, hcz17_5, hcz17_6, hcz17_7, hcz17_8⟩ := bc9 BK249.out; obtain ⟨hfz17_0, hfz17_1, hfz17_2, hfz17_3, hfz17_4, hfz17_5, hfz17_6, hfz17_7, hfz17_8⟩ := bf9 BK249.out))
     have n0_ : Aside0 ((((((((((w14.setCell ⟨gb249, 0, none⟩ (.int .i64 t238)).setCell ⟨gb249, 1, none⟩ (.int .i64 t239)).setCell ⟨gb249, 2, none⟩ (.int .u32 t240)).setCell ⟨gb249, 3, none⟩ (.int .u32 t241)).setCell ⟨gb249, 4, none⟩ (.int .i64 t242)).setCell ⟨gb249, 5, none⟩ (.int .i64 t243)).setCell ⟨gb249, 6, none⟩ (.int .i64 t244)).setCell ⟨gb249, 7, none⟩ (.string t245)).setCell ⟨gb249, 8, none⟩ (.string t246)).heap[gb229]? = some (.cells #[.int .i64 0, .string (⟨#[]⟩ : ByteArray), .string (⟨#[]⟩ : ByteArray), .int .i64 0, .int .i64 0] 24 (0, 0))) := ⟨by (with_reducible repeat (first | apply kN | apply kD | apply kA)); refine blk_far ?_ NB229_249.out _; (with_reducible repeat (first | apply kN | apply kD | apply kA)); refine blk_far ?_ NB229_249.out _; (with_reducible repeat (first | apply kN | apply kD | apply kA)); refine blk_far ?_ NB229_249.out _; (with_reducible repeat (first | apply kN | apply kD | apply kA)); refine blk_far ?_ NB229_249.out _; (with_reducible repeat (first | apply kN | apply kD | apply kA)); refine blk_far ?_ NB229_249.out _; (with_reducible repeat (first | apply kN | apply kD | apply kA)); refine blk_far ?_ NB229_249.out _; (with_reducible repeat (first | apply kN | apply kD | apply kA)); refine blk_far ?_ NB229_249.out _; (with_reducible repeat (first | apply kN | apply kD | apply kA)); refine blk_far ?_ NB229_249.out _; (with_reducible repeat (first | apply kN | apply kD | apply kA)); refine blk_far ?_ NB229_249.out _; (with_reducible repeat (first | apply kN | apply kD | apply kA)); exact BK229.out⟩
     have n1_ : Aside0 ((((((((((w14.setCell ⟨gb249, 0, none⟩ (.int .i64 t238)).setCell ⟨gb249, 1, none⟩ (.int .i64 t239)).setCell ⟨gb249, 2, none⟩ (.int .u32 t240)).setCell ⟨gb249, 3, none⟩ (.int .u32 t241)).setCell ⟨gb249, 4, none⟩ (.int .i64 t242)).setCell ⟨gb249, 5, none⟩ (.int .i64 t243)).setCell ⟨gb249, 6, none⟩ (.int .i64 t244)).setCell ⟨gb249, 7, none⟩ (.string t245)).setCell ⟨gb249, 8, none⟩ (.string t246)).heap[gb237]? = some (.cells #[.int .i64 t230, .string t231, .string t232, .int .i64 t233, .int .i64 t234] 24 (0, 0))) := ⟨by (with_reducible repeat (first | apply kN | apply kD | apply kA)); refine blk_far ?_ NB237_249.out _; (with_reducible repeat (first | apply kN | apply kD | apply kA)); refine blk_far ?_ NB237_249.out _; (with_reducible repeat (first | apply kN | apply kD | apply kA)); refine blk_far ?_ NB237_249.out _; (with_reducible repeat (first | apply kN | apply kD | apply kA)); refine blk_far ?_ NB237_249.out _; (with_reducible repeat (first | apply kN | apply kD | apply kA)); refine blk_far ?_ NB237_249.out _; (with_reducible repeat (first | apply kN | apply kD | apply kA)); refine blk_far ?_ NB237_249.out _; (with_reducible repeat (first | apply kN | apply kD | apply kA)); refine blk_far ?_ NB237_249.out _; (with_reducible repeat (first | apply kN | apply kD | apply kA)); refine blk_far ?_ NB237_249.out _; (with_reducible repeat (first | apply kN | apply kD | apply kA)); refine blk_far ?_ NB237_249.out _; (with_reducible repeat (first | apply kN | apply kD | apply kA)); exact BK237.out⟩
     have n2_ : Aside0 ((((((((((w14.setCell ⟨gb249, 0, none⟩ (.int .i64 t238)).setCell ⟨gb249, 1, none⟩ (.int .i64 t239)).setCell ⟨gb249, 2, none⟩ (.int .u32 t240)).setCell ⟨gb249, 3, none⟩ (.int .u32 t241)).setCell ⟨gb249, 4, none⟩ (.int .i64 t242)).setCell ⟨gb249, 5, none⟩ (.int .i64 t243)).setCell ⟨gb249, 6, none⟩ (.int .i64 t244)).setCell ⟨gb249, 7, none⟩ (.string t245)).setCell ⟨gb249, 8, none⟩ (.string t246)).heap[gb249]? = some (.cells #[.int .i64 t238, .int .i64 t239, .int .u32 t240, .int .u32 t241, .int .i64 t242, .int .i64 t243, .int .i64 t244, .string t245, .string t246] 69 (0, 0))) := ⟨by (with_reducible repeat (first | apply kN | apply kD | apply kA)); refine blk_put (cs := #[.int .i64 t238, .int .i64 t239, .int .u32 t240, .int .u32 t241, .int .i64 t242, .int .i64 t243, .int .i64 t244, .string t245, .string (⟨#[]⟩ : ByteArray)]) ?_ 8 _ (by first | rfl | (simp [*]; done)); (with_reducible repeat (first | apply kN | apply kD | apply kA)); refine blk_put (cs := #[.int .i64 t238, .int .i64 t239, .int .u32 t240, .int .u32 t241, .int .i64 t242, .int .i64 t243, .int .i64 t244, .string (⟨#[]⟩ : ByteArray), .string (⟨#[]⟩ : ByteArray)]) ?_ 7 _ (by first | rfl | (simp [*]; done)); (with_reducible repeat (first | apply kN | apply kD | apply kA)); refine blk_put (cs := #[.int .i64 t238, .int .i64 t239, .int .u32 t240, .int .u32 t241, .int .i64 t242, .int .i64 t243, .int .i64 0, .string (⟨#[]⟩ : ByteArray), .string (⟨#[]⟩ : ByteArray)]) ?_ 6 _ (by first | rfl | (simp [*]; done)); (with_reducible repeat (first | apply kN | apply kD | apply kA)); refine blk_put (cs := #[.int .i64 t238, .int .i64 t239, .int .u32 t240, .int .u32 t241, .int .i64 t242, .int .i64 0, .int .i64 0, .string (⟨#[]⟩ : ByteArray), .string (⟨#[]⟩ : ByteArray)]) ?_ 5 _ (by first | rfl | (simp [*]; done)); (with_reducible repeat (first | apply kN | apply kD | apply kA)); refine blk_put (cs := #[.int .i64 t238, .int .i64 t239, .int .u32 t240, .int .u32 t241, .int .i64 0, .int .i64 0, .int .i64 0, .string (⟨#[]⟩ : ByteArray), .string (⟨#[]⟩ : ByteArray)]) ?_ 4 _ (by first | rfl | (simp [*]; done)); (with_reducible repeat (first | apply kN | apply kD | apply kA)); refine blk_put (cs := #[.int .i64 t238, .int .i64 t239, .int .u32 t240, .int .u32 0, .int .i64 0, .int .i64 0, .int .i64 0, .string (⟨#[]⟩ : ByteArray), .string (⟨#[]⟩ : ByteArray)]) ?_ 3 _ (by first | rfl | (simp [*]; done)); (with_reducible repeat (first | apply kN | apply kD | apply kA)); refine blk_put (cs := #[.int .i64 t238, .int .i64 t239, .int .u32 0, .int .u32 0, .int .i64 0, .int .i64 0, .int .i64 0, .string (⟨#[]⟩ : ByteArray), .string (⟨#[]⟩ : ByteArray)]) ?_ 2 _ (by first | rfl | (simp [*]; done)); (with_reducible repeat (first | apply kN | apply kD | apply kA)); refine blk_put (cs := #[.int .i64 t238, .int .i64 0, .int .u32 0, .int .u32 0, .int .i64 0, .int .i64 0, .int .i64 0, .string (⟨#[]⟩ : ByteArray), .string (⟨#[]⟩ : ByteArray)]) ?_ 1 _ (by first | rfl | (simp [*]; done)); (with_reducible repeat (first | apply kN | apply kD | apply kA)); refine blk_put (cs := #[.int .i64 0, .int .i64 0, .int .u32 0, .int .u32 0, .int .i64 0, .int .i64 0, .int .i64 0, .string (⟨#[]⟩ : ByteArray), .string (⟨#[]⟩ : ByteArray)]) ?_ 0 _ (by first | rfl | (simp [*]; done)); (with_reducible repeat (first | apply kN | apply kD | apply kA)); exact BK249.out⟩
     have n3_ : Aside0 (Below w.heap.size w (((((((((w14.setCell ⟨gb249, 0, none⟩ (.int .i64 t238)).setCell ⟨gb249, 1, none⟩ (.int .i64 t239)).setCell ⟨gb249, 2, none⟩ (.int .u32 t240)).setCell ⟨gb249, 3, none⟩ (.int .u32 t241)).setCell ⟨gb249, 4, none⟩ (.int .i64 t242)).setCell ⟨gb249, 5, none⟩ (.int .i64 t243)).setCell ⟨gb249, 6, none⟩ (.int .i64 t244)).setCell ⟨gb249, 7, none⟩ (.string t245)).setCell ⟨gb249, 8, none⟩ (.string t246))) := ⟨by repeat (first | (with_reducible first | exact HB.out | apply bA | apply bN | apply bD | refine bS ?_ GE229.out | refine bS ?_ GE237.out | refine bS ?_ GE249.out) | exact HB.out)⟩
     (try clear BK229)
     (try clear BK237)
     (try clear BK249)
     (try clear HB)
     generalize (((((((((w14.setCell ⟨gb249, 0, none⟩ (.int .i64 t238)).setCell ⟨gb249, 1, none⟩ (.int .i64 t239)).setCell ⟨gb249, 2, none⟩ (.int .u32 t240)).setCell ⟨gb249, 3, none⟩ (.int .u32 t241)).setCell ⟨gb249, 4, none⟩ (.int .i64 t242)).setCell ⟨gb249, 5, none⟩ (.int .i64 t243)).setCell ⟨gb249, 6, none⟩ (.int .i64 t244)).setCell ⟨gb249, 7, none⟩ (.string t245)).setCell ⟨gb249, 8, none⟩ (.string t246)) = w18 at n0_ n1_ n2_ n3_ ⊢
     have BK229 := n0_
     have BK237 := n1_
     have BK249 := n2_
     have HB := n3_
     clear n0_ n1_ n2_ n3_
     have n0_ := mA (kD BK229.out)
     have n1_ := mA (kD BK237.out)
     have n2_ := mA (kD BK249.out)
     have n3_ := mA (bD HB.out)
     clear BK229
     clear BK237
     clear BK249
     clear HB
     have BK229 := n0_
     have BK237 := n1_
     have BK249 := n2_
     have HB := n3_
     clear n0_ n1_ n2_ n3_
     refine start_ (n := 8) (S := fun w' => w'.cell? ⟨gb249, 0, none⟩ = some (.int .i64 t238) ∧ w'.cell? ⟨gb249, 1, none⟩ = some (.int .i64 t239) ∧ w'.cell? ⟨gb249, 2, none⟩ = some (.int .u32 t240) ∧ w'.cell? ⟨gb249, 3, none⟩ = some (.int .u32 t241) ∧ w'.cell? ⟨gb249, 4, none⟩ = some (.int .i64 t242) ∧ w'.cell? ⟨gb249, 5, none⟩ = some (.int .i64 t243) ∧ w'.cell? ⟨gb249, 6, none⟩ = some (.int .i64 t244) ∧ w'.cell? ⟨gb249, 7, none⟩ = some (.string t245) ∧ w'.cell? ⟨gb249, 8, none⟩ = some (.string t246)) (ds := []) (bv 8 0) (by kernel_rfl) rfl rfl ⟨(zC BK249.out 0).trans rfl, (zC BK249.out 1).trans rfl, (zC BK249.out 2).trans rfl, (zC BK249.out 3).trans rfl, (zC BK249.out 4).trans rfl, (zC BK249.out 5).trans rfl, (zC BK249.out 6).trans rfl, (zC BK249.out 7).trans rfl, (zC BK249.out 8).trans rfl⟩ (fun hHeld => ?_); refine with_tabW palanquinref09_Get.tab11 palanquinref09_Get.bits11 (fun HT_ HW_ => ?_)
     generalize w18.drew = w19 at BK229 BK237 BK249 HB hHeld ⊢
     refine pure_ (i := 0) (N := some 40) (v := ?_) (a' := ?_) (bv 8 1) rfl rfl (any_of HT_.out (by kernel_rfl)) (fun _ _ _ h => h) (Or.inl ⟨by rfl, ?_⟩) ?_ ?_; rotate_left; (intro w'; go_simp; with_reducible rfl); rotate_left; (simp only [Act.put, List.setIfInBounds_toArray, List.set_cons_zero, List.set_cons_succ, i64_w, i32_w]; rfl)
     refine pure_ (i := 2) (N := some 42) (v := ?_) (a' := ?_) (bv 8 5) rfl rfl (any_of HT_.out (by kernel_rfl)) (fun _ _ _ h => h) (Or.inl ⟨by rfl, ?_⟩) ?_ ?_; rotate_left; (intro w'; go_simp; with_reducible rfl); rotate_left; (simp only [Act.put, List.setIfInBounds_toArray, List.set_cons_zero, List.set_cons_succ, i64_w, i32_w]; rfl)
     refine take_ (i := 1) (N := some 41) (v := ?_) (a' := ?_) (bv 8 7) rfl rfl (take_ofW HT_.out HW_.out (by kernel_rfl)) (fun _ _ _ h => h) (Or.inl ⟨by rfl, ?_⟩) hHeld ?_ ?_; rotate_left; (rintro w' ⟨s0, s1, s2, s3, s4, s5, s6, s7, s8⟩; go_simp; with_reducible rfl); rotate_left; (simp only [Act.put, List.setIfInBounds_toArray, List.set_cons_zero, List.set_cons_succ, i64_w, i32_w]; rfl)
     refine pure_ (i := 4) (N := some 44) (v := ?_) (a' := ?_) (bv 8 23) rfl rfl (any_of HT_.out (by kernel_rfl)) (fun _ _ _ h => h) (Or.inl ⟨by rfl, ?_⟩) ?_ ?_; rotate_left; (intro w'; go_simp; with_reducible rfl); rotate_left; (simp only [Act.put, List.setIfInBounds_toArray, List.set_cons_zero, List.set_cons_succ, i64_w, i32_w]; rfl)
     refine take_ (i := 3) (N := some 43) (v := ?_) (a' := ?_) (bv 8 31) rfl rfl (take_ofW HT_.out HW_.out (by kernel_rfl)) (fun _ _ _ h => h) (Or.inl ⟨by rfl, ?_⟩) hHeld ?_ ?_; rotate_left; (rintro w' ⟨s0, s1, s2, s3, s4, s5, s6, s7, s8⟩; go_simp; with_reducible rfl); rotate_left; (simp only [Act.put, List.setIfInBounds_toArray, List.set_cons_zero, List.set_cons_succ, i64_w, i32_w]; rfl)
     refine one_ (i := 5) (N := none) (bv 8 63) rfl rfl (one_of HT_.out (by kernel_rfl)) (by decide) (fun K hK => ?_)
     have hs20 : w19.cell? ⟨gb237, 3, none⟩ = some (.int .i64 t233) := (zC BK237.out 3).trans rfl
     have hfs20 := zF BK237.out 3
     have hns20_0 := NB229_237.out
     have hns20_2 := NB249_237.out
     have hms20_0 := NB237_229.out
     have hms20_2 := NB237_249.out
     refine skip_ (w1 := ?_) (by rfl) rfl ?_ ?_
     rotate_left
     ·go_simp
      rfl
     refine hK.out _ _ ⟨((cell_far (p := ⟨gb237, _, none⟩) NB249_237.out _).trans (hHeld.1)), ((cell_far (p := ⟨gb237, _, none⟩) NB249_237.out _).trans (hHeld.2.1)), ((cell_far (p := ⟨gb237, _, none⟩) NB249_237.out _).trans (hHeld.2.2.1)), ((cell_far (p := ⟨gb237, _, none⟩) NB249_237.out _).trans (hHeld.2.2.2.1)), ((cell_far (p := ⟨gb237, _, none⟩) NB249_237.out _).trans (hHeld.2.2.2.2.1)), ((cell_far (p := ⟨gb237, _, none⟩) NB249_237.out _).trans (hHeld.2.2.2.2.2.1)), ((cell_far (p := ⟨gb237, _, none⟩) NB249_237.out _).trans (hHeld.2.2.2.2.2.2.1)), ((cell_far (p := ⟨gb237, _, none⟩) NB249_237.out _).trans (hHeld.2.2.2.2.2.2.2.1)), ((cell_far (p := ⟨gb237, _, none⟩) NB249_237.out _).trans (hHeld.2.2.2.2.2.2.2.2))⟩ (fun hHeld => ?_)
     clear hK K
     refine pure_ (i := 6) (N := some 45) (v := ?_) (a' := ?_) (bv 8 127) rfl rfl (any_of HT_.out (by kernel_rfl)) (fun _ _ _ h => h) (Or.inl ⟨by rfl, ?_⟩) ?_ ?_; rotate_left; (intro w'; go_simp; with_reducible rfl); rotate_left; (simp only [Act.put, List.setIfInBounds_toArray, List.set_cons_zero, List.set_cons_succ, i64_w, i32_w]; rfl)
     refine one_ (i := 7) (N := none) (bv 8 255) rfl rfl (one_of HT_.out (by kernel_rfl)) (by decide) (fun K hK => ?_)
     have hs21 : w19.cell? ⟨gb237, 4, none⟩ = some (.int .i64 t234) := (zC BK237.out 4).trans rfl
     have hfs21 := zF BK237.out 4
     have hns21_0 := NB229_237.out
     have hns21_2 := NB249_237.out
     have hms21_0 := NB237_229.out
     have hms21_2 := NB237_249.out
     refine skip_ (w1 := ?_) (by rfl) rfl ?_ ?_
     rotate_left
     ·go_simp
      rfl
     refine hK.out _ _ ⟨((cell_far (p := ⟨gb237, _, none⟩) NB249_237.out _).trans (hHeld.1)), ((cell_far (p := ⟨gb237, _, none⟩) NB249_237.out _).trans (hHeld.2.1)), ((cell_far (p := ⟨gb237, _, none⟩) NB249_237.out _).trans (hHeld.2.2.1)), ((cell_far (p := ⟨gb237, _, none⟩) NB249_237.out _).trans (hHeld.2.2.2.1)), ((cell_far (p := ⟨gb237, _, none⟩) NB249_237.out _).trans (hHeld.2.2.2.2.1)), ((cell_far (p := ⟨gb237, _, none⟩) NB249_237.out _).trans (hHeld.2.2.2.2.2.1)), ((cell_far (p := ⟨gb237, _, none⟩) NB249_237.out _).trans (hHeld.2.2.2.2.2.2.1)), ((cell_far (p := ⟨gb237, _, none⟩) NB249_237.out _).trans (hHeld.2.2.2.2.2.2.2.1)), ((cell_far (p := ⟨gb237, _, none⟩) NB249_237.out _).trans (hHeld.2.2.2.2.2.2.2.2))⟩ (fun hHeld => ?_)
     clear hK K
     refine done_ (done_of HT_.out (by kernel_rfl)) ?_
     try go_wp2
     go_meet
     case rel => exact ⟨_, (false), (0), ((⟨#[]⟩ : ByteArray)), ((⟨#[]⟩ : ByteArray)), (0), (0), (t238), (t239), (by first | rfl | (simp; done) | (simp [*]; done)), H', ⟨by first | omega | exact Nat.le_refl _⟩, ⟨by (with_reducible repeat (first | apply kN | apply kD | apply kA)); refine blk_far ?_ NB229_237.out _; (with_reducible repeat (first | apply kN | apply kD | apply kA)); refine blk_far ?_ NB229_237.out _; (with_reducible repeat (first | apply kN | apply kD | apply kA)); exact BK229.out⟩, ⟨by (with_reducible repeat (first | apply kN | apply kD | apply kA)); refine blk_put (cs := #[.int .i64 t230, .string t231, .string t232, .int .i64 t238, .int .i64 t234]) ?_ 4 _ (by first | rfl | (simp [*]; done)); (with_reducible repeat (first | apply kN | apply kD | apply kA)); refine blk_put (cs := #[.int .i64 t230, .string t231, .string t232, .int .i64 t233, .int .i64 t234]) ?_ 3 _ (by first | rfl | (simp [*]; done)); (with_reducible repeat (first | apply kN | apply kD | apply kA)); exact BK237.out⟩, ⟨by repeat (first | (with_reducible first | exact HB.out | apply bA | apply bN | apply bD | refine bS ?_ GE229.out | refine bS ?_ GE237.out | refine bS ?_ GE249.out) | exact HB.out)⟩⟩
    ·rw [if_neg c12] at H
     have c12b0 : (t248 == 0) = false := beq_eq_false_iff_ne.mpr c12
     have c12b1 : (t248 != 0) = true := bne_iff_ne.mpr c12
     simp only [Option.some.injEq, Prod.mk.injEq] at H
     obtain ⟨rfl, rfl, rfl, rfl, rfl, rfl⟩ := H
     go_wp2_with (first | ((with_reducible refine gate_callee (f := 30) rfl ?_); refine goesL_ (some 32) rfl rfl Try.func30 (by kernel_rfl) rfl #[.string t235] rfl (by (try simp only [List.map_toArray, List.map_cons, List.map_nil]); first | done | rfl | (simp only [List.length_drop, List.length_take]; rfl)) ?_; (with_reducible refine (palanquinref07_Get.calls t235 t238 t239 t240 t241 t242 t243 t244 t245 t246 t247 t248 _ A11.out).mono ?_); rintro e w22 ⟨rfl, hb⟩; refine ⟨_, rfl, ?_⟩; have n0_ := mA (blk_below (g := gb229) (o := .cells #[.int .i64 0, .string (⟨#[]⟩ : ByteArray), .string (⟨#[]⟩ : ByteArray), .int .i64 0, .int .i64 0] 24 (0, 0)) (by (with_reducible repeat (first | apply kN | apply kD | apply kA)); refine blk_far ?_ NB229_237.out _; (with_reducible repeat (first | apply kN | apply kD | apply kA)); refine blk_far ?_ NB229_237.out _; (with_reducible repeat (first | apply kN | apply kD | apply kA)); refine blk_far ?_ NB229_237.out _; (with_reducible repeat (first | apply kN | apply kD | apply kA)); refine blk_far ?_ NB229_237.out _; (with_reducible repeat (first | apply kN | apply kD | apply kA)); refine blk_far ?_ NB229_237.out _; (with_reducible repeat (first | apply kN | apply kD | apply kA)); exact BK229.out) hb); have n1_ := mA (blk_below (g := gb237) (o := .cells #[.int .i64 t230, .string t231, .string t232, .int .i64 t233, .int .i64 t234] 24 (0, 0)) (by (with_reducible repeat (first | apply kN | apply kD | apply kA)); refine blk_put (cs := #[.int .i64 t230, .string t231, .string t232, .int .i64 t233, .int .i64 0]) ?_ 4 _ (by first | rfl | (simp [*]; done)); (with_reducible repeat (first | apply kN | apply kD | apply kA)); refine blk_put (cs := #[.int .i64 t230, .string t231, .string t232, .int .i64 0, .int .i64 0]) ?_ 3 _ (by first | rfl | (simp [*]; done)); (with_reducible repeat (first | apply kN | apply kD | apply kA)); refine blk_put (cs := #[.int .i64 t230, .string t231, .string (⟨#[]⟩ : ByteArray), .int .i64 0, .int .i64 0]) ?_ 2 _ (by first | rfl | (simp [*]; done)); (with_reducible repeat (first | apply kN | apply kD | apply kA)); refine blk_put (cs := #[.int .i64 t230, .string (⟨#[]⟩ : ByteArray), .string (⟨#[]⟩ : ByteArray), .int .i64 0, .int .i64 0]) ?_ 1 _ (by first | rfl | (simp [*]; done)); (with_reducible repeat (first | apply kN | apply kD | apply kA)); refine blk_put (cs := #[.int .i64 0, .string (⟨#[]⟩ : ByteArray), .string (⟨#[]⟩ : ByteArray), .int .i64 0, .int .i64 0]) ?_ 0 _ (by first | rfl | (simp [*]; done)); (with_reducible repeat (first | apply kN | apply kD | apply kA)); exact BK237.out) hb); have n2_ := mA (bP (by repeat (first | (with_reducible first | exact HB.out | apply bA | apply bN | apply bD | refine bS ?_ GE229.out | refine bS ?_ GE237.out) | exact HB.out)) hb); clear BK229; clear BK237; clear HB; have BK229 := n0_; have BK237 := n1_; have HB := n2_; clear n0_ n1_ n2_; (try clear hb); (try clear hb2); (try clear hk); (try clear hi)) | ((with_reducible refine gate_dst (N := 8) rfl ?_); refine box_event ?hg (N := 8) ?hd (cs := #[.int .i64 0, .int .i64 0, .int .u32 0, .int .u32 0, .int .i64 0, .int .i64 0, .int .i64 0, .string (⟨#[]⟩ : ByteArray), .string (⟨#[]⟩ : ByteArray)]) (t := 69) ?hr ?_; (case hd => rfl); (case hg => rfl); (case hr => first | (go_simp; done) | (go_simp; rfl)); intro gb249 hg w23 hbox hb; obtain ⟨n0_, nl229_⟩ := bt3 (g := gb229) (o := .cells #[.int .i64 0, .string (⟨#[]⟩ : ByteArray), .string (⟨#[]⟩ : ByteArray), .int .i64 0, .int .i64 0] 24 (0, 0)) (by (with_reducible repeat (first | apply kN | apply kD | apply kA)); exact BK229.out) hb; obtain ⟨n1_, nl237_⟩ := bt3 (g := gb237) (o := .cells #[.int .i64 t230, .string t231, .string t232, .int .i64 t233, .int .i64 t234] 24 (0, 0)) (by (with_reducible repeat (first | apply kN | apply kD | apply kA)); exact BK237.out) hb; obtain ⟨n2_, nq_⟩ := bpr (by repeat (first | (with_reducible first | exact HB.out | apply bA | apply bN | apply bD | refine bS ?_ GE229.out | refine bS ?_ GE237.out) | exact HB.out)) hb; have n3_ := mA (hbox); have n4_ := mA ((by rw [hg]; exact nq_ : w.heap.size ≤ gb249)); have n5_ := mA ((by rw [hg]; exact nq_ : w.heap.size ≤ gb249)); have n6_ := mA ((by rw [hg]; exact Nat.ne_of_lt nl229_ : gb229 ≠ gb249)); have n7_ := mA ((by rw [hg]; exact Nat.ne_of_gt nl229_ : gb249 ≠ gb229)); have n8_ := mA ((by rw [hg]; exact Nat.ne_of_lt nl237_ : gb237 ≠ gb249)); have n9_ := mA ((by rw [hg]; exact Nat.ne_of_gt nl237_ : gb249 ≠ gb237)); clear BK229; clear BK237; clear HB; have BK229 := n0_; have BK237 := n1_; have HB := n2_; have BK249 := n3_; have GW249 := n4_; have GE249 := n5_; have NB229_249 := n6_; have NB249_229 := n7_; have NB237_249 := n8_; have NB249_237 := n9_; clear nl229_; clear nl237_; clear nq_; clear n0_ n1_ n2_ n3_ n4_ n5_ n6_ n7_ n8_ n9_; clear hb hbox hg; have hnb24 := NB249_229.out; have hnc24 := NB229_249.out; have hnb25 := NB249_237.out; have hnc25 := NB237_249.out; obtain ⟨hcz26_0, hcz26_1, hcz26_2, hcz26_3, hcz26_4, hcz26_5, hcz26_6, hcz26_7, hcz26_8⟩ := bc9 BK249.out; obtain ⟨hfz26_0, hfz26_1, hfz26_2, hfz26_3, hfz26_4, hfz26_5, hfz26_6, hfz26_7, hfz26_8⟩ := bf9 BK249.out; have hnb27 := NB229_237.out; have hnc27 := NB237_229.out; obtain ⟨hcz28_0, hcz28_1, hcz28_2, hcz28_3, hcz28_4⟩ := bc5 BK229.out; obtain ⟨hfz28_0, hfz28_1, hfz28_2, hfz28_3, hfz28_4⟩ := bf5 BK229.out))
     refine bodyPost_ret (results_ct rfl _ _ gb229 24 #[.int .i64 0, .string (⟨#[]⟩ : ByteArray), .string (⟨#[]⟩ : ByteArray), .int .i64 0, .int .i64 0] (0, 0) _ rfl (by (with_reducible repeat (first | apply kN | apply kD | apply kA)); refine blk_put (cs := #[.int .i64 0, .string (⟨#[]⟩ : ByteArray), .string (⟨#[]⟩ : ByteArray), .int .i64 0, .int .i64 0]) ?_ 4 _ (by first | rfl | (simp [*]; done)); (with_reducible repeat (first | apply kN | apply kD | apply kA)); refine blk_put (cs := #[.int .i64 0, .string (⟨#[]⟩ : ByteArray), .string (⟨#[]⟩ : ByteArray), .int .i64 0, .int .i64 0]) ?_ 3 _ (by first | rfl | (simp [*]; done)); (with_reducible repeat (first | apply kN | apply kD | apply kA)); refine blk_put (cs := #[.int .i64 0, .string (⟨#[]⟩ : ByteArray), .string (⟨#[]⟩ : ByteArray), .int .i64 0, .int .i64 0]) ?_ 2 _ (by first | rfl | (simp [*]; done)); (with_reducible repeat (first | apply kN | apply kD | apply kA)); refine blk_put (cs := #[.int .i64 0, .string (⟨#[]⟩ : ByteArray), .string (⟨#[]⟩ : ByteArray), .int .i64 0, .int .i64 0]) ?_ 1 _ (by first | rfl | (simp [*]; done)); (with_reducible repeat (first | apply kN | apply kD | apply kA)); refine blk_put (cs := #[.int .i64 0, .string (⟨#[]⟩ : ByteArray), .string (⟨#[]⟩ : ByteArray), .int .i64 0, .int .i64 0]) ?_ 0 _ (by first | rfl | (simp [*]; done)); (with_reducible repeat (first | apply kN | apply kD | apply kA)); refine blk_far ?_ NB229_249.out _; (with_reducible repeat (first | apply kN | apply kD | apply kA)); refine blk_far ?_ NB229_249.out _; (with_reducible repeat (first | apply kN | apply kD | apply kA)); refine blk_far ?_ NB229_249.out _; (with_reducible repeat (first | apply kN | apply kD | apply kA)); refine blk_far ?_ NB229_249.out _; (with_reducible repeat (first | apply kN | apply kD | apply kA)); refine blk_far ?_ NB229_249.out _; (with_reducible repeat (first | apply kN | apply kD | apply kA)); refine blk_far ?_ NB229_249.out _; (with_reducible repeat (first | apply kN | apply kD | apply kA)); refine blk_far ?_ NB229_249.out _; (with_reducible repeat (first | apply kN | apply kD | apply kA)); refine blk_far ?_ NB229_249.out _; (with_reducible repeat (first | apply kN | apply kD | apply kA)); refine blk_far ?_ NB229_249.out _; (with_reducible repeat (first | apply kN | apply kD | apply kA)); exact BK229.out) Try.underlying24 rfl (by kernel_rfl)) rfl ?_
     exact ⟨by first | rfl | (simp [errW_none, errW_some] <;> rfl) | (simp [*, errW_none, errW_some] <;> rfl), by repeat (first | (with_reducible first | exact HB.out | apply bA | apply bN | apply bD | refine bS ?_ GE229.out | refine bS ?_ GE237.out | refine bS ?_ GE249.out) | exact HB.out)⟩
   ·rw [if_neg c10] at H
    have c10b0 : (t230 == 6) = false := beq_eq_false_iff_ne.mpr c10
    have c10b1 : (t230 != 6) = true := bne_iff_ne.mpr c10
    (first | rw [c10b0] | (simp only [i64_w, i32_w]; rw [c10b0]) | skip)
    by_cases c29 : t230 = 17
    ·rw [if_pos c29] at H
     have c29b0 : (t230 == 17) = true := beq_iff_eq.mpr c29
     have c29b1 : (t230 != 17) = false := bne_eq_false_iff_eq.mpr c29
     clear c29
     replace H := Option.bind_eq_some_iff.mp H
     obtain ⟨⟨t250, t251, t252, t253, t254⟩, A300, H⟩ := H
     replace H : (if t254 = 0 then (palanquinref09_Get.j0 k t235 (t253 == 0) t230 t231 t232 t250 t251) else (some (0, (⟨#[]⟩ : ByteArray), (⟨#[]⟩ : ByteArray), 0, 0, t254))) = some (r1, r2, r3, r4, r5, r6) := H
     have A30 := mA A300
     clear A300
     by_cases c31 : t254 = 0
     ·rw [if_pos c31] at H
      have c31b0 : (t254 == 0) = true := beq_iff_eq.mpr c31
      have c31b1 : (t254 != 0) = false := bne_eq_false_iff_eq.mpr c31
      clear c31
      have H' := mA H
      clear H
      try go_wp2_with (first | ((with_reducible refine gate_callee (f := 31) rfl ?_); refine goesL_ (some 50) rfl rfl Try.func31 (by kernel_rfl) rfl #[.string t235] rfl (by (try simp only [List.map_toArray, List.map_cons, List.map_nil]); first | done | rfl | (simp only [List.length_drop, List.length_take]; rfl)) ?_; (with_reducible refine (palanquinref08_Get.calls k t235 t250 t251 t252 t253 t254 _ A30.out).mono ?_); rintro e w32 ⟨rfl, hb⟩; refine ⟨_, rfl, ?_⟩; have n0_ := mA (blk_below (g := gb229) (o := .cells #[.int .i64 0, .string (⟨#[]⟩ : ByteArray), .string (⟨#[]⟩ : ByteArray), .int .i64 0, .int .i64 0] 24 (0, 0)) (by (with_reducible repeat (first | apply kN | apply kD | apply kA)); refine blk_far ?_ NB229_237.out _; (with_reducible repeat (first | apply kN | apply kD | apply kA)); refine blk_far ?_ NB229_237.out _; (with_reducible repeat (first | apply kN | apply kD | apply kA)); refine blk_far ?_ NB229_237.out _; (with_reducible repeat (first | apply kN | apply kD | apply kA)); refine blk_far ?_ NB229_237.out _; (with_reducible repeat (first | apply kN | apply kD | apply kA)); refine blk_far ?_ NB229_237.out _; (with_reducible repeat (first | apply kN | apply kD | apply kA)); exact BK229.out) hb); have n1_ := mA (blk_below (g := gb237) (o := .cells #[.int .i64 t230, .string t231, .string t232, .int .i64 t233, .int .i64 t234] 24 (0, 0)) (by (with_reducible repeat (first | apply kN | apply kD | apply kA)); refine blk_put (cs := #[.int .i64 t230, .string t231, .string t232, .int .i64 t233, .int .i64 0]) ?_ 4 _ (by first | rfl | (simp [*]; done)); (with_reducible repeat (first | apply kN | apply kD | apply kA)); refine blk_put (cs := #[.int .i64 t230, .string t231, .string t232, .int .i64 0, .int .i64 0]) ?_ 3 _ (by first | rfl | (simp [*]; done)); (with_reducible repeat (first | apply kN | apply kD | apply kA)); refine blk_put (cs := #[.int .i64 t230, .string t231, .string (⟨#[]⟩ : ByteArray), .int .i64 0, .int .i64 0]) ?_ 2 _ (by first | rfl | (simp [*]; done)); (with_reducible repeat (first | apply kN | apply kD | apply kA)); refine blk_put (cs := #[.int .i64 t230, .string (⟨#[]⟩ : ByteArray), .string (⟨#[]⟩ : ByteArray), .int .i64 0, .int .i64 0]) ?_ 1 _ (by first | rfl | (simp [*]; done)); (with_reducible repeat (first | apply kN | apply kD | apply kA)); refine blk_put (cs := #[.int .i64 0, .string (⟨#[]⟩ : ByteArray), .string (⟨#[]⟩ : ByteArray), .int .i64 0, .int .i64 0]) ?_ 0 _ (by first | rfl | (simp [*]; done)); (with_reducible repeat (first | apply kN | apply kD | apply kA)); exact BK237.out) hb); have n2_ := mA (bP (by repeat (first | (with_reducible first | exact HB.out | apply bA | apply bN | apply bD | refine bS ?_ GE229.out | refine bS ?_ GE237.out) | exact HB.out)) hb); clear BK229; clear BK237; clear HB; have BK229 := n0_; have BK237 := n1_; have HB := n2_; clear n0_ n1_ n2_; (try clear hb); (try clear hb2); (try clear hk); (try clear hi)) | ((with_reducible refine gate_dst (N := 11) rfl ?_); refine box_event ?hg (N := 11) ?hd (cs := #[.int .i64 0, .int .i64 0, .string (⟨#[]⟩ : ByteArray)]) (t := 73) ?hr ?_; (case hd => rfl); (case hg => rfl); (case hr => first | (go_simp; done) | (go_simp; rfl)); intro gb255 hg w33 hbox hb; obtain ⟨n0_, nl229_⟩ := bt3 (g := gb229) (o := .cells #[.int .i64 0, .string (⟨#[]⟩ : ByteArray), .string (⟨#[]⟩ : ByteArray), .int .i64 0, .int .i64 0] 24 (0, 0)) (by (with_reducible repeat (first | apply kN | apply kD | apply kA)); exact BK229.out) hb; obtain ⟨n1_, nl237_⟩ := bt3 (g := gb237) (o := .cells #[.int .i64 t230, .string t231, .string t232, .int .i64 t233, .int .i64 t234] 24 (0, 0)) (by (with_reducible repeat (first | apply kN | apply kD | apply kA)); exact BK237.out) hb; obtain ⟨n2_, nq_⟩ := bpr (by repeat (first | (with_reducible first | exact HB.out | apply bA | apply bN | apply bD | refine bS ?_ GE229.out | refine bS ?_ GE237.out) | exact HB.out)) hb; have n3_ := mA (hbox); have n4_ := mA ((by rw [hg]; exact nq_ : w.heap.size ≤ gb255)); have n5_ := mA ((by rw [hg]; exact nq_ : w.heap.size ≤ gb255)); have n6_ := mA ((by rw [hg]; exact Nat.ne_of_lt nl229_ : gb229 ≠ gb255)); have n7_ := mA ((by rw [hg]; exact Nat.ne_of_gt nl229_ : gb255 ≠ gb229)); have n8_ := mA ((by rw [hg]; exact Nat.ne_of_lt nl237_ : gb237 ≠ gb255)); have n9_ := mA ((by rw [hg]; exact Nat.ne_of_gt nl237_ : gb255 ≠ gb237)); clear BK229; clear BK237; clear HB; have BK229 := n0_; have BK237 := n1_; have HB := n2_; have BK255 := n3_; have GW255 := n4_; have GE255 := n5_; have NB229_255 := n6_; have NB255_229 := n7_; have NB237_255 := n8_; have NB255_237 := n9_; clear nl229_; clear nl237_; clear nq_; clear n0_ n1_ n2_ n3_ n4_ n5_ n6_ n7_ n8_ n9_; clear hb hbox hg; have hnb34 := NB255_229.out; have hnc34 := NB229_255.out; have hnb35 := NB255_237.out; have hnc35 := NB237_255.out; obtain ⟨hcz36_0, hcz36_1, hcz36_2⟩ := bc3 BK255.out; obtain ⟨hfz36_0, hfz36_1, hfz36_2⟩ := bf3 BK255.out))
      have n0_ : Aside0 ((((w33.setCell ⟨gb255, 0, none⟩ (.int .i64 t250)).setCell ⟨gb255, 1, none⟩ (.int .i64 t251)).setCell ⟨gb255, 2, none⟩ (.string t252)).heap[gb229]? = some (.cells #[.int .i64 0, .string (⟨#[]⟩ : ByteArray), .string (⟨#[]⟩ : ByteArray), .int .i64 0, .int .i64 0] 24 (0, 0))) := ⟨by (with_reducible repeat (first | apply kN | apply kD | apply kA)); refine blk_far ?_ NB229_255.out _; (with_reducible repeat (first | apply kN | apply kD | apply kA)); refine blk_far ?_ NB229_255.out _; (with_reducible repeat (first | apply kN | apply kD | apply kA)); refine blk_far ?_ NB229_255.out _; (with_reducible repeat (first | apply kN | apply kD | apply kA)); exact BK229.out⟩
      have n1_ : Aside0 ((((w33.setCell ⟨gb255, 0, none⟩ (.int .i64 t250)).setCell ⟨gb255, 1, none⟩ (.int .i64 t251)).setCell ⟨gb255, 2, none⟩ (.string t252)).heap[gb237]? = some (.cells #[.int .i64 t230, .string t231, .string t232, .int .i64 t233, .int .i64 t234] 24 (0, 0))) := ⟨by (with_reducible repeat (first | apply kN | apply kD | apply kA)); refine blk_far ?_ NB237_255.out _; (with_reducible repeat (first | apply kN | apply kD | apply kA)); refine blk_far ?_ NB237_255.out _; (with_reducible repeat (first | apply kN | apply kD | apply kA)); refine blk_far ?_ NB237_255.out _; (with_reducible repeat (first | apply kN | apply kD | apply kA)); exact BK237.out⟩
      have n2_ : Aside0 ((((w33.setCell ⟨gb255, 0, none⟩ (.int .i64 t250)).setCell ⟨gb255, 1, none⟩ (.int .i64 t251)).setCell ⟨gb255, 2, none⟩ (.string t252)).heap[gb255]? = some (.cells #[.int .i64 t250, .int .i64 t251, .string t252] 73 (0, 0))) := ⟨by (with_reducible repeat (first | apply kN | apply kD | apply kA)); refine blk_put (cs := #[.int .i64 t250, .int .i64 t251, .string (⟨#[]⟩ : ByteArray)]) ?_ 2 _ (by first | rfl | (simp [*]; done)); (with_reducible repeat (first | apply kN | apply kD | apply kA)); refine blk_put (cs := #[.int .i64 t250, .int .i64 0, .string (⟨#[]⟩ : ByteArray)]) ?_ 1 _ (by first | rfl | (simp [*]; done)); (with_reducible repeat (first | apply kN | apply kD | apply kA)); refine blk_put (cs := #[.int .i64 0, .int .i64 0, .string (⟨#[]⟩ : ByteArray)]) ?_ 0 _ (by first | rfl | (simp [*]; done)); (with_reducible repeat (first | apply kN | apply kD | apply kA)); exact BK255.out⟩
      have n3_ : Aside0 (Below w.heap.size w (((w33.setCell ⟨gb255, 0, none⟩ (.int .i64 t250)).setCell ⟨gb255, 1, none⟩ (.int .i64 t251)).setCell ⟨gb255, 2, none⟩ (.string t252))) := ⟨by repeat (first | (with_reducible first | exact HB.out | apply bA | apply bN | apply bD | refine bS ?_ GE229.out | refine bS ?_ GE237.out | refine bS ?_ GE255.out) | exact HB.out)⟩
      (try clear BK229)
      (try clear BK237)
      (try clear BK255)
      (try clear HB)
      generalize (((w33.setCell ⟨gb255, 0, none⟩ (.int .i64 t250)).setCell ⟨gb255, 1, none⟩ (.int .i64 t251)).setCell ⟨gb255, 2, none⟩ (.string t252)) = w37 at n0_ n1_ n2_ n3_ ⊢
      have BK229 := n0_
      have BK237 := n1_
      have BK255 := n2_
      have HB := n3_
      clear n0_ n1_ n2_ n3_
      have n0_ := mA (kD BK229.out)
      have n1_ := mA (kD BK237.out)
      have n2_ := mA (kD BK255.out)
      have n3_ := mA (bD HB.out)
      clear BK229
      clear BK237
      clear BK255
      clear HB
      have BK229 := n0_
      have BK237 := n1_
      have BK255 := n2_
      have HB := n3_
      clear n0_ n1_ n2_ n3_
      refine start_ (n := 8) (S := fun w' => w'.cell? ⟨gb255, 0, none⟩ = some (.int .i64 t250) ∧ w'.cell? ⟨gb255, 1, none⟩ = some (.int .i64 t251) ∧ w'.cell? ⟨gb255, 2, none⟩ = some (.string t252)) (ds := []) (bv 8 0) (by kernel_rfl) rfl rfl ⟨(zC BK255.out 0).trans rfl, (zC BK255.out 1).trans rfl, (zC BK255.out 2).trans rfl⟩ (fun hHeld => ?_); refine with_tabW palanquinref09_Get.tab16 palanquinref09_Get.bits16 (fun HT_ HW_ => ?_)
      generalize w37.drew = w38 at BK229 BK237 BK255 HB hHeld ⊢
      refine pure_ (i := 0) (N := some 58) (v := ?_) (a' := ?_) (bv 8 1) rfl rfl (any_of HT_.out (by kernel_rfl)) (fun _ _ _ h => h) (Or.inl ⟨by rfl, ?_⟩) ?_ ?_; rotate_left; (intro w'; go_simp; with_reducible rfl); rotate_left; (simp only [Act.put, List.setIfInBounds_toArray, List.set_cons_zero, List.set_cons_succ, i64_w, i32_w]; rfl)
      refine pure_ (i := 2) (N := some 60) (v := ?_) (a' := ?_) (bv 8 5) rfl rfl (any_of HT_.out (by kernel_rfl)) (fun _ _ _ h => h) (Or.inl ⟨by rfl, ?_⟩) ?_ ?_; rotate_left; (intro w'; go_simp; with_reducible rfl); rotate_left; (simp only [Act.put, List.setIfInBounds_toArray, List.set_cons_zero, List.set_cons_succ, i64_w, i32_w]; rfl)
      refine take_ (i := 1) (N := some 59) (v := ?_) (a' := ?_) (bv 8 7) rfl rfl (take_ofW HT_.out HW_.out (by kernel_rfl)) (fun _ _ _ h => h) (Or.inl ⟨by rfl, ?_⟩) hHeld ?_ ?_; rotate_left; (rintro w' ⟨s0, s1, s2⟩; go_simp; with_reducible rfl); rotate_left; (simp only [Act.put, List.setIfInBounds_toArray, List.set_cons_zero, List.set_cons_succ, i64_w, i32_w]; rfl)
      refine pure_ (i := 4) (N := some 62) (v := ?_) (a' := ?_) (bv 8 23) rfl rfl (any_of HT_.out (by kernel_rfl)) (fun _ _ _ h => h) (Or.inl ⟨by rfl, ?_⟩) ?_ ?_; rotate_left; (intro w'; go_simp; with_reducible rfl); rotate_left; (simp only [Act.put, List.setIfInBounds_toArray, List.set_cons_zero, List.set_cons_succ, i64_w, i32_w]; rfl)
      refine take_ (i := 3) (N := some 61) (v := ?_) (a' := ?_) (bv 8 31) rfl rfl (take_ofW HT_.out HW_.out (by kernel_rfl)) (fun _ _ _ h => h) (Or.inl ⟨by rfl, ?_⟩) hHeld ?_ ?_; rotate_left; (rintro w' ⟨s0, s1, s2⟩; go_simp; with_reducible rfl); rotate_left; (simp only [Act.put, List.setIfInBounds_toArray, List.set_cons_zero, List.set_cons_succ, i64_w, i32_w]; rfl)
      refine one_ (i := 5) (N := none) (bv 8 63) rfl rfl (one_of HT_.out (by kernel_rfl)) (by decide) (fun K hK => ?_)
      have hs39 : w38.cell? ⟨gb237, 3, none⟩ = some (.int .i64 t233) := (zC BK237.out 3).trans rfl
      have hfs39 := zF BK237.out 3
      have hns39_0 := NB229_237.out
      have hns39_2 := NB255_237.out
      have hms39_0 := NB237_229.out
      have hms39_2 := NB237_255.out
      refine skip_ (w1 := ?_) (by rfl) rfl ?_ ?_
      rotate_left
      ·go_simp
       rfl
      refine hK.out _ _ ⟨((cell_far (p := ⟨gb237, _, none⟩) NB255_237.out _).trans (hHeld.1)), ((cell_far (p := ⟨gb237, _, none⟩) NB255_237.out _).trans (hHeld.2.1)), ((cell_far (p := ⟨gb237, _, none⟩) NB255_237.out _).trans (hHeld.2.2))⟩ (fun hHeld => ?_)
      clear hK K
      refine pure_ (i := 6) (N := some 63) (v := ?_) (a' := ?_) (bv 8 127) rfl rfl (any_of HT_.out (by kernel_rfl)) (fun _ _ _ h => h) (Or.inl ⟨by rfl, ?_⟩) ?_ ?_; rotate_left; (intro w'; go_simp; with_reducible rfl); rotate_left; (simp only [Act.put, List.setIfInBounds_toArray, List.set_cons_zero, List.set_cons_succ, i64_w, i32_w]; rfl)
      refine one_ (i := 7) (N := none) (bv 8 255) rfl rfl (one_of HT_.out (by kernel_rfl)) (by decide) (fun K hK => ?_)
      have hs40 : w38.cell? ⟨gb237, 4, none⟩ = some (.int .i64 t234) := (zC BK237.out 4).trans rfl
      have hfs40 := zF BK237.out 4
      have hns40_0 := NB229_237.out
      have hns40_2 := NB255_237.out
      have hms40_0 := NB237_229.out
      have hms40_2 := NB237_255.out
      refine skip_ (w1 := ?_) (by rfl) rfl ?_ ?_
      rotate_left
      ·go_simp
       rfl
      refine hK.out _ _ ⟨((cell_far (p := ⟨gb237, _, none⟩) NB255_237.out _).trans (hHeld.1)), ((cell_far (p := ⟨gb237, _, none⟩) NB255_237.out _).trans (hHeld.2.1)), ((cell_far (p := ⟨gb237, _, none⟩) NB255_237.out _).trans (hHeld.2.2))⟩ (fun hHeld => ?_)
      clear hK K
      refine done_ (done_of HT_.out (by kernel_rfl)) ?_
      try go_wp2
      go_meet
      case rel => exact ⟨_, ((t253 == 0)), (0), ((⟨#[]⟩ : ByteArray)), ((⟨#[]⟩ : ByteArray)), (0), (0), (t250), (t251), (by first | rfl | (simp; done) | (simp [*]; done)), H', ⟨by first | omega | exact Nat.le_refl _⟩, ⟨by (with_reducible repeat (first | apply kN | apply kD | apply kA)); refine blk_far ?_ NB229_237.out _; (with_reducible repeat (first | apply kN | apply kD | apply kA)); refine blk_far ?_ NB229_237.out _; (with_reducible repeat (first | apply kN | apply kD | apply kA)); exact BK229.out⟩, ⟨by (with_reducible repeat (first | apply kN | apply kD | apply kA)); refine blk_put (cs := #[.int .i64 t230, .string t231, .string t232, .int .i64 t250, .int .i64 t234]) ?_ 4 _ (by first | rfl | (simp [*]; done)); (with_reducible repeat (first | apply kN | apply kD | apply kA)); refine blk_put (cs := #[.int .i64 t230, .string t231, .string t232, .int .i64 t233, .int .i64 t234]) ?_ 3 _ (by first | rfl | (simp [*]; done)); (with_reducible repeat (first | apply kN | apply kD | apply kA)); exact BK237.out⟩, ⟨by repeat (first | (with_reducible first | exact HB.out | apply bA | apply bN | apply bD | refine bS ?_ GE229.out | refine bS ?_ GE237.out | refine bS ?_ GE255.out) | exact HB.out)⟩⟩
     ·rw [if_neg c31] at H
      have c31b0 : (t254 == 0) = false := beq_eq_false_iff_ne.mpr c31
      have c31b1 : (t254 != 0) = true := bne_iff_ne.mpr c31
      simp only [Option.some.injEq, Prod.mk.injEq] at H
      obtain ⟨rfl, rfl, rfl, rfl, rfl, rfl⟩ := H
      go_wp2_with (first | ((with_reducible refine gate_callee (f := 31) rfl ?_); refine goesL_ (some 50) rfl rfl Try.func31 (by kernel_rfl) rfl #[.string t235] rfl (by (try simp only [List.map_toArray, List.map_cons, List.map_nil]); first | done | rfl | (simp only [List.length_drop, List.length_take]; rfl)) ?_; (with_reducible refine (palanquinref08_Get.calls k t235 t250 t251 t252 t253 t254 _ A30.out).mono ?_); rintro e w41 ⟨rfl, hb⟩; refine ⟨_, rfl, ?_⟩; have n0_ := mA (blk_below (g := gb229) (o := .cells #[.int .i64 0, .string (⟨#[]⟩ : ByteArray), .string (⟨#[]⟩ : ByteArray), .int .i64 0, .int .i64 0] 24 (0, 0)) (by (with_reducible repeat (first | apply kN | apply kD | apply kA)); refine blk_far ?_ NB229_237.out _; (with_reducible repeat (first | apply kN | apply kD | apply kA)); refine blk_far ?_ NB229_237.out _; (with_reducible repeat (first | apply kN | apply kD | apply kA)); refine blk_far ?_ NB229_237.out _; (with_reducible repeat (first | apply kN | apply kD | apply kA)); refine blk_far ?_ NB229_237.out _; (with_reducible repeat (first | apply kN | apply kD | apply kA)); refine blk_far ?_ NB229_237.out _; (with_reducible repeat (first | apply kN | apply kD | apply kA)); exact BK229.out) hb); have n1_ := mA (blk_below (g := gb237) (o := .cells #[.int .i64 t230, .string t231, .string t232, .int .i64 t233, .int .i64 t234] 24 (0, 0)) (by (with_reducible repeat (first | apply kN | apply kD | apply kA)); refine blk_put (cs := #[.int .i64 t230, .string t231, .string t232, .int .i64 t233, .int .i64 0]) ?_ 4 _ (by first | rfl | (simp [*]; done)); (with_reducible repeat (first | apply kN | apply kD | apply kA)); refine blk_put (cs := #[.int .i64 t230, .string t231, .string t232, .int .i64 0, .int .i64 0]) ?_ 3 _ (by first | rfl | (simp [*]; done)); (with_reducible repeat (first | apply kN | apply kD | apply kA)); refine blk_put (cs := #[.int .i64 t230, .string t231, .string (⟨#[]⟩ : ByteArray), .int .i64 0, .int .i64 0]) ?_ 2 _ (by first | rfl | (simp [*]; done)); (with_reducible repeat (first | apply kN | apply kD | apply kA)); refine blk_put (cs := #[.int .i64 t230, .string (⟨#[]⟩ : ByteArray), .string (⟨#[]⟩ : ByteArray), .int .i64 0, .int .i64 0]) ?_ 1 _ (by first | rfl | (simp [*]; done)); (with_reducible repeat (first | apply kN | apply kD | apply kA)); refine blk_put (cs := #[.int .i64 0, .string (⟨#[]⟩ : ByteArray), .string (⟨#[]⟩ : ByteArray), .int .i64 0, .int .i64 0]) ?_ 0 _ (by first | rfl | (simp [*]; done)); (with_reducible repeat (first | apply kN | apply kD | apply kA)); exact BK237.out) hb); have n2_ := mA (bP (by repeat (first | (with_reducible first | exact HB.out | apply bA | apply bN | apply bD | refine bS ?_ GE229.out | refine bS ?_ GE237.out) | exact HB.out)) hb); clear BK229; clear BK237; clear HB; have BK229 := n0_; have BK237 := n1_; have HB := n2_; clear n0_ n1_ n2_; (try clear hb); (try clear hb2); (try clear hk); (try clear hi)) | ((with_reducible refine gate_dst (N := 11) rfl ?_); refine box_event ?hg (N := 11) ?hd (cs := #[.int .i64 0, .int .i64 0, .string (⟨#[]⟩ : ByteArray)]) (t := 73) ?hr ?_; (case hd => rfl); (case hg => rfl); (case hr => first | (go_simp; done) | (go_simp; rfl)); intro gb255 hg w42 hbox hb; obtain ⟨n0_, nl229_⟩ := bt3 (g := gb229) (o := .cells #[.int .i64 0, .string (⟨#[]⟩ : ByteArray), .string (⟨#[]⟩ : ByteArray), .int .i64 0, .int .i64 0] 24 (0, 0)) (by (with_reducible repeat (first | apply kN | apply kD | apply kA)); exact BK229.out) hb; obtain ⟨n1_, nl237_⟩ := bt3 (g := gb237) (o := .cells #[.int .i64 t230, .string t231, .string t232, .int .i64 t233, .int .i64 t234] 24 (0, 0)) (by (with_reducible repeat (first | apply kN | apply kD | apply kA)); exact BK237.out) hb; obtain ⟨n2_, nq_⟩ := bpr (by repeat (first | (with_reducible first | exact HB.out | apply bA | apply bN | apply bD | refine bS ?_ GE229.out | refine bS ?_ GE237.out) | exact HB.out)) hb; have n3_ := mA (hbox); have n4_ := mA ((by rw [hg]; exact nq_ : w.heap.size ≤ gb255)); have n5_ := mA ((by rw [hg]; exact nq_ : w.heap.size ≤ gb255)); have n6_ := mA ((by rw [hg]; exact Nat.ne_of_lt nl229_ : gb229 ≠ gb255)); have n7_ := mA ((by rw [hg]; exact Nat.ne_of_gt nl229_ : gb255 ≠ gb229)); have n8_ := mA ((by rw [hg]; exact Nat.ne_of_lt nl237_ : gb237 ≠ gb255)); have n9_ := mA ((by rw [hg]; exact Nat.ne_of_gt nl237_ : gb255 ≠ gb237)); clear BK229; clear BK237; clear HB; have BK229 := n0_; have BK237 := n1_; have HB := n2_; have BK255 := n3_; have GW255 := n4_; have GE255 := n5_; have NB229_255 := n6_; have NB255_229 := n7_; have NB237_255 := n8_; have NB255_237 := n9_; clear nl229_; clear nl237_; clear nq_; clear n0_ n1_ n2_ n3_ n4_ n5_ n6_ n7_ n8_ n9_; clear hb hbox hg; have hnb43 := NB255_229.out; have hnc43 := NB229_255.out; have hnb44 := NB255_237.out; have hnc44 := NB237_255.out; obtain ⟨hcz45_0, hcz45_1, hcz45_2⟩ := bc3 BK255.out; obtain ⟨hfz45_0, hfz45_1, hfz45_2⟩ := bf3 BK255.out; have hnb46 := NB229_237.out; have hnc46 := NB237_229.out; obtain ⟨hcz47_0, hcz47_1, hcz47_2, hcz47_3, hcz47_4⟩ := bc5 BK229.out; obtain ⟨hfz47_0, hfz47_1, hfz47_2, hfz47_3, hfz47_4⟩ := bf5 BK229.out))
      refine bodyPost_ret (results_ct rfl _ _ gb229 24 #[.int .i64 0, .string (⟨#[]⟩ : ByteArray), .string (⟨#[]⟩ : ByteArray), .int .i64 0, .int .i64 0] (0, 0) _ rfl (by (with_reducible repeat (first | apply kN | apply kD | apply kA)); refine blk_put (cs := #[.int .i64 0, .string (⟨#[]⟩ : ByteArray), .string (⟨#[]⟩ : ByteArray), .int .i64 0, .int .i64 0]) ?_ 4 _ (by first | rfl | (simp [*]; done)); (with_reducible repeat (first | apply kN | apply kD | apply kA)); refine blk_put (cs := #[.int .i64 0, .string (⟨#[]⟩ : ByteArray), .string (⟨#[]⟩ : ByteArray), .int .i64 0, .int .i64 0]) ?_ 3 _ (by first | rfl | (simp [*]; done)); (with_reducible repeat (first | apply kN | apply kD | apply kA)); refine blk_put (cs := #[.int .i64 0, .string (⟨#[]⟩ : ByteArray), .string (⟨#[]⟩ : ByteArray), .int .i64 0, .int .i64 0]) ?_ 2 _ (by first | rfl | (simp [*]; done)); (with_reducible repeat (first | apply kN | apply kD | apply kA)); refine blk_put (cs := #[.int .i64 0, .string (⟨#[]⟩ : ByteArray), .string (⟨#[]⟩ : ByteArray), .int .i64 0, .int .i64 0]) ?_ 1 _ (by first | rfl | (simp [*]; done)); (with_reducible repeat (first | apply kN | apply kD | apply kA)); refine blk_put (cs := #[.int .i64 0, .string (⟨#[]⟩ : ByteArray), .string (⟨#[]⟩ : ByteArray), .int .i64 0, .int .i64 0]) ?_ 0 _ (by first | rfl | (simp [*]; done)); (with_reducible repeat (first | apply kN | apply kD | apply kA)); refine blk_far ?_ NB229_255.out _; (with_reducible repeat (first | apply kN | apply kD | apply kA)); refine blk_far ?_ NB229_255.out _; (with_reducible repeat (first | apply kN | apply kD | apply kA)); refine blk_far ?_ NB229_255.out _; (with_reducible repeat (first | apply kN | apply kD | apply kA)); exact BK229.out) Try.underlying24 rfl (by kernel_rfl)) rfl ?_
      exact ⟨by first | rfl | (simp [errW_none, errW_some] <;> rfl) | (simp [*, errW_none, errW_some] <;> rfl), by repeat (first | (with_reducible first | exact HB.out | apply bA | apply bN | apply bD | refine bS ?_ GE229.out | refine bS ?_ GE237.out | refine bS ?_ GE255.out) | exact HB.out)⟩
    ·rw [if_neg c29] at H
     have c29b0 : (t230 == 17) = false := beq_eq_false_iff_ne.mpr c29
     have c29b1 : (t230 != 17) = true := bne_iff_ne.mpr c29
     simp only [Option.some.injEq, Prod.mk.injEq] at H
     obtain ⟨rfl, rfl, rfl, rfl, rfl, rfl⟩ := H
     have hnb48 := NB229_237.out
     have hnc48 := NB237_229.out
     obtain ⟨hcz49_0, hcz49_1, hcz49_2, hcz49_3, hcz49_4⟩ := bc5 BK229.out
     obtain ⟨hfz49_0, hfz49_1, hfz49_2, hfz49_3, hfz49_4⟩ := bf5 BK229.out
     go_wp2
     refine bodyPost_ret (results_ct rfl _ _ gb229 24 #[.int .i64 0, .string (⟨#[]⟩ : ByteArray), .string (⟨#[]⟩ : ByteArray), .int .i64 0, .int .i64 0] (0, 0) _ rfl (by (with_reducible repeat (first | apply kN | apply kD | apply kA)); refine blk_put (cs := #[.int .i64 0, .string (⟨#[]⟩ : ByteArray), .string (⟨#[]⟩ : ByteArray), .int .i64 0, .int .i64 0]) ?_ 4 _ (by first | rfl | (simp [*]; done)); (with_reducible repeat (first | apply kN | apply kD | apply kA)); refine blk_put (cs := #[.int .i64 0, .string (⟨#[]⟩ : ByteArray), .string (⟨#[]⟩ : ByteArray), .int .i64 0, .int .i64 0]) ?_ 3 _ (by first | rfl | (simp [*]; done)); (with_reducible repeat (first | apply kN | apply kD | apply kA)); refine blk_put (cs := #[.int .i64 0, .string (⟨#[]⟩ : ByteArray), .string (⟨#[]⟩ : ByteArray), .int .i64 0, .int .i64 0]) ?_ 2 _ (by first | rfl | (simp [*]; done)); (with_reducible repeat (first | apply kN | apply kD | apply kA)); refine blk_put (cs := #[.int .i64 0, .string (⟨#[]⟩ : ByteArray), .string (⟨#[]⟩ : ByteArray), .int .i64 0, .int .i64 0]) ?_ 1 _ (by first | rfl | (simp [*]; done)); (with_reducible repeat (first | apply kN | apply kD | apply kA)); refine blk_put (cs := #[.int .i64 0, .string (⟨#[]⟩ : ByteArray), .string (⟨#[]⟩ : ByteArray), .int .i64 0, .int .i64 0]) ?_ 0 _ (by first | rfl | (simp [*]; done)); (with_reducible repeat (first | apply kN | apply kD | apply kA)); refine blk_far ?_ NB229_237.out _; (with_reducible repeat (first | apply kN | apply kD | apply kA)); refine blk_far ?_ NB229_237.out _; (with_reducible repeat (first | apply kN | apply kD | apply kA)); refine blk_far ?_ NB229_237.out _; (with_reducible repeat (first | apply kN | apply kD | apply kA)); refine blk_far ?_ NB229_237.out _; (with_reducible repeat (first | apply kN | apply kD | apply kA)); refine blk_far ?_ NB229_237.out _; (with_reducible repeat (first | apply kN | apply kD | apply kA)); exact BK229.out) Try.underlying24 rfl (by kernel_rfl)) rfl ?_
     exact ⟨by first | rfl | (simp [errW_none, errW_some] <;> rfl) | (simp [*, errW_none, errW_some] <;> rfl), by repeat (first | (with_reducible first | exact HB.out | apply bA | apply bN | apply bD | refine bS ?_ GE229.out | refine bS ?_ GE237.out) | exact HB.out)⟩
  case rest =>
   clear HC4
   try clear c1
   try clear c2
   try clear p2
   try clear c3
   try clear c3b0
   try clear c3b1
   try clear c4
   try clear c8
   try clear c10
   try clear c10b0
   try clear c10b1
   try clear c12
   try clear c12b0
   try clear c12b1
   try clear c15
   try clear c16
   try clear c24
   try clear c25
   try clear c27
   try clear c29
   try clear c29b0
   try clear c29b1
   try clear c30
   try clear c31
   try clear c31b0
   try clear c31b1
   try clear c34
   try clear c35
   try clear c43
   try clear c44
   try clear c46
   try clear c48
   try clear hcz17_0 hcz17_1 hcz17_2 hcz17_3 hcz17_4 hcz17_5 hcz17_6 hcz17_7 hcz17_8
   try clear hcz26_0 hcz26_1 hcz26_2 hcz26_3 hcz26_4 hcz26_5 hcz26_6 hcz26_7 hcz26_8
   try clear hcz28_0 hcz28_1 hcz28_2 hcz28_3 hcz28_4
   try clear hcz36_0 hcz36_1 hcz36_2
   try clear hcz45_0 hcz45_1 hcz45_2
   try clear hcz47_0 hcz47_1 hcz47_2 hcz47_3 hcz47_4
   try clear hcz49_0 hcz49_1 hcz49_2 hcz49_3 hcz49_4
   try clear hcz9_0 hcz9_1 hcz9_2 hcz9_3 hcz9_4
   try clear hfz17_0 hfz17_1 hfz17_2 hfz17_3 hfz17_4 hfz17_5 hfz17_6 hfz17_7 hfz17_8
   try clear hfz26_0 hfz26_1 hfz26_2 hfz26_3 hfz26_4 hfz26_5 hfz26_6 hfz26_7 hfz26_8
   try clear hfz28_0 hfz28_1 hfz28_2 hfz28_3 hfz28_4
   try clear hfz36_0 hfz36_1 hfz36_2
   try clear hfz45_0 hfz45_1 hfz45_2
   try clear hfz47_0 hfz47_1 hfz47_2 hfz47_3 hfz47_4
   try clear hfz49_0 hfz49_1 hfz49_2 hfz49_3 hfz49_4
   try clear hfz9_0 hfz9_1 hfz9_2 hfz9_3 hfz9_4
   obtain ⟨kq, x7_3, x230000_3, x230001_3, x230002_3, x230003_3, x230004_3, x238003_3, x238004_3, rfl, HA, HJ3, BK229, BK237, HB⟩ := hcut
   cases kq with
   | zero => exact absurd HA.out (by simp [palanquinref09_Get.j0])
   | succ kj3 =>
    have H := HA.out
    clear HA
    simp only [palanquinref09_Get.j0] at H
    replace H := Option.bind_eq_some_iff.mp H
    obtain ⟨t256, A500, H⟩ := H
    replace H : (if t256.size + t235.size ≤ 9223372036854775807 then ((palanquinref02_Sum.f kj3 (t256 ++ t235)).bind fun t257 => (if x7_3 = true then (if ((t231.size : Int) = 4) then (some (t230, t231, t232, x238003_3, x238004_3, 0)) else (some (0, (⟨#[]⟩ : ByteArray), (⟨#[]⟩ : ByteArray), 0, 0, 5))) else (if t257 = 0 then (some (t230, t231, t232, x238003_3, x238004_3, 0)) else (some (0, (⟨#[]⟩ : ByteArray), (⟨#[]⟩ : ByteArray), 0, 0, 5))))) else (none)) = some (r1, r2, r3, r4, r5, r6) := H
    have A50 := mA A500
    clear A500
    by_cases c51 : t256.size + t235.size ≤ 9223372036854775807
    ·rw [if_pos c51] at H
     have c51b0 := eq_true c51
     have c51b1 : decide (t256.size + t235.size ≤ 9223372036854775807) = true := decide_eq_true c51
     try have c51b2 : (9223372036854775807 < t256.size + t235.size) = False := eq_false (Nat.not_lt.2 c51)
     replace H := Option.bind_eq_some_iff.mp H
     obtain ⟨t257, A520, H⟩ := H
     replace H : (if x7_3 = true then (if ((t231.size : Int) = 4) then (some (t230, t231, t232, x238003_3, x238004_3, 0)) else (some (0, (⟨#[]⟩ : ByteArray), (⟨#[]⟩ : ByteArray), 0, 0, 5))) else (if t257 = 0 then (some (t230, t231, t232, x238003_3, x238004_3, 0)) else (some (0, (⟨#[]⟩ : ByteArray), (⟨#[]⟩ : ByteArray), 0, 0, 5)))) = some (r1, r2, r3, r4, r5, r6) := H
     have A52 := mA A520
     clear A520
     by_cases c53 : x7_3 = true
     ·subst c53
      have H1 : (if ((t231.size : Int) = 4) then (some (t230, t231, t232, x238003_3, x238004_3, 0)) else (some (0, (⟨#[]⟩ : ByteArray), (⟨#[]⟩ : ByteArray), 0, 0, 5))) = some (r1, r2, r3, r4, r5, r6) := by rw [if_pos rfl] at H; exact H
      clear H
      have H := H1
      clear H1
      by_cases c54 : ((t231.size : Int) = 4)
      ·rw [if_pos c54] at H
       have c54b0 : ((t231.size : Int) == 4) = true := beq_iff_eq.mpr c54
       have c54b1 : ((t231.size : Int) != 4) = false := bne_eq_false_iff_eq.mpr c54
       clear c54
       simp only [Option.some.injEq, Prod.mk.injEq] at H
       obtain ⟨rfl, rfl, rfl, rfl, rfl, rfl⟩ := H
       have hnb55 := NB237_229.out
       have hnc55 := NB229_237.out
       obtain ⟨hcz56_0, hcz56_1, hcz56_2, hcz56_3, hcz56_4⟩ := bc5 BK237.out
       obtain ⟨hfz56_0, hfz56_1, hfz56_2, hfz56_3, hfz56_4⟩ := bf5 BK237.out
       go_wp2_with (first | ((with_reducible refine gate_callee (f := 33) rfl ?_); refine goesL_ (some 74) rfl rfl Try.func33 (by kernel_rfl) rfl #[.string t231, .string t232, .int .i64 t230, .int .i64 (t235.size : Int)] rfl (by (try simp only [List.map_toArray, List.map_cons, List.map_nil]); first | done | rfl | (simp only [List.length_drop, List.length_take]; rfl)) ?_; (with_reducible refine (palanquinref02_Pseudo.calls kj3 t231 t232 t230 (t235.size : Int) t256 _ A50.out).mono ?_); rintro e w57 ⟨rfl, hb⟩; refine ⟨_, rfl, ?_⟩; have n0_ := mA (blk_below (g := gb229) (o := .cells #[.int .i64 x230000_3, .string x230001_3, .string x230002_3, .int .i64 x230003_3, .int .i64 x230004_3] 24 (0, 0)) (by (with_reducible repeat (first | apply kN | apply kD | apply kA)); exact BK229.out) hb); have n1_ := mA (blk_below (g := gb237) (o := .cells #[.int .i64 t230, .string t231, .string t232, .int .i64 x238003_3, .int .i64 x238004_3] 24 (0, 0)) (by (with_reducible repeat (first | apply kN | apply kD | apply kA)); exact BK237.out) hb); have n2_ := mA (bP (by repeat (first | (with_reducible first | exact HB.out | apply bA | apply bN | apply bD | refine bS ?_ GE229.out | refine bS ?_ GE237.out) | exact HB.out)) hb); clear BK229; clear BK237; clear HB; have BK229 := n0_; have BK237 := n1_; have HB := n2_; clear n0_ n1_ n2_; (try clear hb); (try clear hb2); (try clear hk); (try clear hi)) | ((with_reducible refine gate_callee (f := 32) rfl ?_); refine goesL_ (some 77) rfl rfl Try.func32 (by kernel_rfl) rfl #[.string (t256 ++ t235)] rfl (by (try simp only [List.map_toArray, List.map_cons, List.map_nil]); first | done | rfl | (simp only [List.length_drop, List.length_take]; rfl)) ?_; (with_reducible refine (palanquinref02_Sum.calls kj3 (t256 ++ t235) t257 _ A52.out).mono ?_); rintro e w58 ⟨rfl, hb⟩; refine ⟨_, rfl, ?_⟩; have n0_ := mA (blk_below (g := gb229) (o := .cells #[.int .i64 x230000_3, .string x230001_3, .string x230002_3, .int .i64 x230003_3, .int .i64 x230004_3] 24 (0, 0)) (by (with_reducible repeat (first | apply kN | apply kD | apply kA)); exact BK229.out) hb); have n1_ := mA (blk_below (g := gb237) (o := .cells #[.int .i64 t230, .string t231, .string t232, .int .i64 x238003_3, .int .i64 x238004_3] 24 (0, 0)) (by (with_reducible repeat (first | apply kN | apply kD | apply kA)); exact BK237.out) hb); have n2_ := mA (bP (by repeat (first | (with_reducible first | exact HB.out | apply bA | apply bN | apply bD | refine bS ?_ GE229.out | refine bS ?_ GE237.out) | exact HB.out)) hb); clear BK229; clear BK237; clear HB; have BK229 := n0_; have BK237 := n1_; have HB := n2_; clear n0_ n1_ n2_; (try clear hb); (try clear hb2); (try clear hk); (try clear hi); obtain ⟨hcz59_0, hcz59_1, hcz59_2, hcz59_3, hcz59_4⟩ := bc5 BK237.out; obtain ⟨hfz59_0, hfz59_1, hfz59_2, hfz59_3, hfz59_4⟩ := bf5 BK237.out; obtain ⟨hcz60_0, hcz60_1, hcz60_2, hcz60_3, hcz60_4⟩ := bc5 BK229.out; obtain ⟨hfz60_0, hfz60_1, hfz60_2, hfz60_3, hfz60_4⟩ := bf5 BK229.out))
       refine bodyPost_ret (results_ct rfl _ _ gb229 24 #[.int .i64 t230, .string t231, .string t232, .int .i64 x238003_3, .int .i64 x238004_3] (0, 0) _ rfl (by (with_reducible repeat (first | apply kN | apply kD | apply kA)); refine blk_put (cs := #[.int .i64 t230, .string t231, .string t232, .int .i64 x238003_3, .int .i64 x230004_3]) ?_ 4 _ (by first | rfl | (simp [*]; done)); (with_reducible repeat (first | apply kN | apply kD | apply kA)); refine blk_put (cs := #[.int .i64 t230, .string t231, .string t232, .int .i64 x230003_3, .int .i64 x230004_3]) ?_ 3 _ (by first | rfl | (simp [*]; done)); (with_reducible repeat (first | apply kN | apply kD | apply kA)); refine blk_put (cs := #[.int .i64 t230, .string t231, .string x230002_3, .int .i64 x230003_3, .int .i64 x230004_3]) ?_ 2 _ (by first | rfl | (simp [*]; done)); (with_reducible repeat (first | apply kN | apply kD | apply kA)); refine blk_put (cs := #[.int .i64 t230, .string x230001_3, .string x230002_3, .int .i64 x230003_3, .int .i64 x230004_3]) ?_ 1 _ (by first | rfl | (simp [*]; done)); (with_reducible repeat (first | apply kN | apply kD | apply kA)); refine blk_put (cs := #[.int .i64 x230000_3, .string x230001_3, .string x230002_3, .int .i64 x230003_3, .int .i64 x230004_3]) ?_ 0 _ (by first | rfl | (simp [*]; done)); (with_reducible repeat (first | apply kN | apply kD | apply kA)); exact BK229.out) Try.underlying24 rfl (by kernel_rfl)) rfl ?_
       exact ⟨by first | rfl | (simp [errW_none, errW_some] <;> rfl) | (simp [*, errW_none, errW_some] <;> rfl), by repeat (first | (with_reducible first | exact HB.out | apply bA | apply bN | apply bD | refine bS ?_ GE229.out | refine bS ?_ GE237.out) | exact HB.out)⟩
      ·rw [if_neg c54] at H
       have c54b0 : ((t231.size : Int) == 4) = false := beq_eq_false_iff_ne.mpr c54
       have c54b1 : ((t231.size : Int) != 4) = true := bne_iff_ne.mpr c54
       simp only [Option.some.injEq, Prod.mk.injEq] at H
       obtain ⟨rfl, rfl, rfl, rfl, rfl, rfl⟩ := H
       have hnb61 := NB237_229.out
       have hnc61 := NB229_237.out
       obtain ⟨hcz62_0, hcz62_1, hcz62_2, hcz62_3, hcz62_4⟩ := bc5 BK237.out
       obtain ⟨hfz62_0, hfz62_1, hfz62_2, hfz62_3, hfz62_4⟩ := bf5 BK237.out
       go_wp2_with (first | ((with_reducible refine gate_callee (f := 33) rfl ?_); refine goesL_ (some 74) rfl rfl Try.func33 (by kernel_rfl) rfl #[.string t231, .string t232, .int .i64 t230, .int .i64 (t235.size : Int)] rfl (by (try simp only [List.map_toArray, List.map_cons, List.map_nil]); first | done | rfl | (simp only [List.length_drop, List.length_take]; rfl)) ?_; (with_reducible refine (palanquinref02_Pseudo.calls kj3 t231 t232 t230 (t235.size : Int) t256 _ A50.out).mono ?_); rintro e w63 ⟨rfl, hb⟩; refine ⟨_, rfl, ?_⟩; have n0_ := mA (blk_below (g := gb229) (o := .cells #[.int .i64 x230000_3, .string x230001_3, .string x230002_3, .int .i64 x230003_3, .int .i64 x230004_3] 24 (0, 0)) (by (with_reducible repeat (first | apply kN | apply kD | apply kA)); exact BK229.out) hb); have n1_ := mA (blk_below (g := gb237) (o := .cells #[.int .i64 t230, .string t231, .string t232, .int .i64 x238003_3, .int .i64 x238004_3] 24 (0, 0)) (by (with_reducible repeat (first | apply kN | apply kD | apply kA)); exact BK237.out) hb); have n2_ := mA (bP (by repeat (first | (with_reducible first | exact HB.out | apply bA | apply bN | apply bD | refine bS ?_ GE229.out | refine bS ?_ GE237.out) | exact HB.out)) hb); clear BK229; clear BK237; clear HB; have BK229 := n0_; have BK237 := n1_; have HB := n2_; clear n0_ n1_ n2_; (try clear hb); (try clear hb2); (try clear hk); (try clear hi)) | ((with_reducible refine gate_callee (f := 32) rfl ?_); refine goesL_ (some 77) rfl rfl Try.func32 (by kernel_rfl) rfl #[.string (t256 ++ t235)] rfl (by (try simp only [List.map_toArray, List.map_cons, List.map_nil]); first | done | rfl | (simp only [List.length_drop, List.length_take]; rfl)) ?_; (with_reducible refine (palanquinref02_Sum.calls kj3 (t256 ++ t235) t257 _ A52.out).mono ?_); rintro e w64 ⟨rfl, hb⟩; refine ⟨_, rfl, ?_⟩; have n0_ := mA (blk_below (g := gb229) (o := .cells #[.int .i64 x230000_3, .string x230001_3, .string x230002_3, .int .i64 x230003_3, .int .i64 x230004_3] 24 (0, 0)) (by (with_reducible repeat (first | apply kN | apply kD | apply kA)); exact BK229.out) hb); have n1_ := mA (blk_below (g := gb237) (o := .cells #[.int .i64 t230, .string t231, .string t232, .int .i64 x238003_3, .int .i64 x238004_3] 24 (0, 0)) (by (with_reducible repeat (first | apply kN | apply kD | apply kA)); exact BK237.out) hb); have n2_ := mA (bP (by repeat (first | (with_reducible first | exact HB.out | apply bA | apply bN | apply bD | refine bS ?_ GE229.out | refine bS ?_ GE237.out) | exact HB.out)) hb); clear BK229; clear BK237; clear HB; have BK229 := n0_; have BK237 := n1_; have HB := n2_; clear n0_ n1_ n2_; (try clear hb); (try clear hb2); (try clear hk); (try clear hi); obtain ⟨hcz65_0, hcz65_1, hcz65_2, hcz65_3, hcz65_4⟩ := bc5 BK237.out; obtain ⟨hfz65_0, hfz65_1, hfz65_2, hfz65_3, hfz65_4⟩ := bf5 BK237.out; obtain ⟨hcz66_0, hcz66_1, hcz66_2, hcz66_3, hcz66_4⟩ := bc5 BK229.out; obtain ⟨hfz66_0, hfz66_1, hfz66_2, hfz66_3, hfz66_4⟩ := bf5 BK229.out))
       refine bodyPost_ret (results_ct rfl _ _ gb229 24 #[.int .i64 0, .string (⟨#[]⟩ : ByteArray), .string (⟨#[]⟩ : ByteArray), .int .i64 0, .int .i64 0] (0, 0) _ rfl (by (with_reducible repeat (first | apply kN | apply kD | apply kA)); refine blk_put (cs := #[.int .i64 0, .string (⟨#[]⟩ : ByteArray), .string (⟨#[]⟩ : ByteArray), .int .i64 0, .int .i64 x230004_3]) ?_ 4 _ (by first | rfl | (simp [*]; done)); (with_reducible repeat (first | apply kN | apply kD | apply kA)); refine blk_put (cs := #[.int .i64 0, .string (⟨#[]⟩ : ByteArray), .string (⟨#[]⟩ : ByteArray), .int .i64 x230003_3, .int .i64 x230004_3]) ?_ 3 _ (by first | rfl | (simp [*]; done)); (with_reducible repeat (first | apply kN | apply kD | apply kA)); refine blk_put (cs := #[.int .i64 0, .string (⟨#[]⟩ : ByteArray), .string x230002_3, .int .i64 x230003_3, .int .i64 x230004_3]) ?_ 2 _ (by first | rfl | (simp [*]; done)); (with_reducible repeat (first | apply kN | apply kD | apply kA)); refine blk_put (cs := #[.int .i64 0, .string x230001_3, .string x230002_3, .int .i64 x230003_3, .int .i64 x230004_3]) ?_ 1 _ (by first | rfl | (simp [*]; done)); (with_reducible repeat (first | apply kN | apply kD | apply kA)); refine blk_put (cs := #[.int .i64 x230000_3, .string x230001_3, .string x230002_3, .int .i64 x230003_3, .int .i64 x230004_3]) ?_ 0 _ (by first | rfl | (simp [*]; done)); (with_reducible repeat (first | apply kN | apply kD | apply kA)); exact BK229.out) Try.underlying24 rfl (by kernel_rfl)) rfl ?_
       exact ⟨by first | rfl | (simp [errW_none, errW_some] <;> rfl) | (simp [*, errW_none, errW_some] <;> rfl), by repeat (first | (with_reducible first | exact HB.out | apply bA | apply bN | apply bD | refine bS ?_ GE229.out | refine bS ?_ GE237.out) | exact HB.out)⟩
     ·replace c53 := Bool.eq_false_iff.mpr c53
      subst c53
      have H1 : (if t257 = 0 then (some (t230, t231, t232, x238003_3, x238004_3, 0)) else (some (0, (⟨#[]⟩ : ByteArray), (⟨#[]⟩ : ByteArray), 0, 0, 5))) = some (r1, r2, r3, r4, r5, r6) := by rw [if_neg (show ¬ (false = true) by decide)] at H; exact H
      clear H
      have H := H1
      clear H1
      by_cases c67 : t257 = 0
      ·rw [if_pos c67] at H
       have c67b0 : (t257 == 0) = true := beq_iff_eq.mpr c67
       have c67b1 : (t257 != 0) = false := bne_eq_false_iff_eq.mpr c67
       clear c67
       simp only [Option.some.injEq, Prod.mk.injEq] at H
       obtain ⟨rfl, rfl, rfl, rfl, rfl, rfl⟩ := H
       have hnb68 := NB237_229.out
       have hnc68 := NB229_237.out
       obtain ⟨hcz69_0, hcz69_1, hcz69_2, hcz69_3, hcz69_4⟩ := bc5 BK237.out
       obtain ⟨hfz69_0, hfz69_1, hfz69_2, hfz69_3, hfz69_4⟩ := bf5 BK237.out
       go_wp2_with (first | ((with_reducible refine gate_callee (f := 33) rfl ?_); refine goesL_ (some 74) rfl rfl Try.func33 (by kernel_rfl) rfl #[.string t231, .string t232, .int .i64 t230, .int .i64 (t235.size : Int)] rfl (by (try simp only [List.map_toArray, List.map_cons, List.map_nil]); first | done | rfl | (simp only [List.length_drop, List.length_take]; rfl)) ?_; (with_reducible refine (palanquinref02_Pseudo.calls kj3 t231 t232 t230 (t235.size : Int) t256 _ A50.out).mono ?_); rintro e w70 ⟨rfl, hb⟩; refine ⟨_, rfl, ?_⟩; have n0_ := mA (blk_below (g := gb229) (o := .cells #[.int .i64 x230000_3, .string x230001_3, .string x230002_3, .int .i64 x230003_3, .int .i64 x230004_3] 24 (0, 0)) (by (with_reducible repeat (first | apply kN | apply kD | apply kA)); exact BK229.out) hb); have n1_ := mA (blk_below (g := gb237) (o := .cells #[.int .i64 t230, .string t231, .string t232, .int .i64 x238003_3, .int .i64 x238004_3] 24 (0, 0)) (by (with_reducible repeat (first | apply kN | apply kD | apply kA)); exact BK237.out) hb); have n2_ := mA (bP (by repeat (first | (with_reducible first | exact HB.out | apply bA | apply bN | apply bD | refine bS ?_ GE229.out | refine bS ?_ GE237.out) | exact HB.out)) hb); clear BK229; clear BK237; clear HB; have BK229 := n0_; have BK237 := n1_; have HB := n2_; clear n0_ n1_ n2_; (try clear hb); (try clear hb2); (try clear hk); (try clear hi)) | ((with_reducible refine gate_callee (f := 32) rfl ?_); refine goesL_ (some 77) rfl rfl Try.func32 (by kernel_rfl) rfl #[.string (t256 ++ t235)] rfl (by (try simp only [List.map_toArray, List.map_cons, List.map_nil]); first | done | rfl | (simp only [List.length_drop, List.length_take]; rfl)) ?_; (with_reducible refine (palanquinref02_Sum.calls kj3 (t256 ++ t235) t257 _ A52.out).mono ?_); rintro e w71 ⟨rfl, hb⟩; refine ⟨_, rfl, ?_⟩; have n0_ := mA (blk_below (g := gb229) (o := .cells #[.int .i64 x230000_3, .string x230001_3, .string x230002_3, .int .i64 x230003_3, .int .i64 x230004_3] 24 (0, 0)) (by (with_reducible repeat (first | apply kN | apply kD | apply kA)); exact BK229.out) hb); have n1_ := mA (blk_below (g := gb237) (o := .cells #[.int .i64 t230, .string t231, .string t232, .int .i64 x238003_3, .int .i64 x238004_3] 24 (0, 0)) (by (with_reducible repeat (first | apply kN | apply kD | apply kA)); exact BK237.out) hb); have n2_ := mA (bP (by repeat (first | (with_reducible first | exact HB.out | apply bA | apply bN | apply bD | refine bS ?_ GE229.out | refine bS ?_ GE237.out) | exact HB.out)) hb); clear BK229; clear BK237; clear HB; have BK229 := n0_; have BK237 := n1_; have HB := n2_; clear n0_ n1_ n2_; (try clear hb); (try clear hb2); (try clear hk); (try clear hi); obtain ⟨hcz72_0, hcz72_1, hcz72_2, hcz72_3, hcz72_4⟩ := bc5 BK237.out; obtain ⟨hfz72_0, hfz72_1, hfz72_2, hfz72_3, hfz72_4⟩ := bf5 BK237.out; obtain ⟨hcz73_0, hcz73_1, hcz73_2, hcz73_3, hcz73_4⟩ := bc5 BK229.out; obtain ⟨hfz73_0, hfz73_1, hfz73_2, hfz73_3, hfz73_4⟩ := bf5 BK229.out))
       refine bodyPost_ret (results_ct rfl _ _ gb229 24 #[.int .i64 t230, .string t231, .string t232, .int .i64 x238003_3, .int .i64 x238004_3] (0, 0) _ rfl (by (with_reducible repeat (first | apply kN | apply kD | apply kA)); refine blk_put (cs := #[.int .i64 t230, .string t231, .string t232, .int .i64 x238003_3, .int .i64 x230004_3]) ?_ 4 _ (by first | rfl | (simp [*]; done)); (with_reducible repeat (first | apply kN | apply kD | apply kA)); refine blk_put (cs := #[.int .i64 t230, .string t231, .string t232, .int .i64 x230003_3, .int .i64 x230004_3]) ?_ 3 _ (by first | rfl | (simp [*]; done)); (with_reducible repeat (first | apply kN | apply kD | apply kA)); refine blk_put (cs := #[.int .i64 t230, .string t231, .string x230002_3, .int .i64 x230003_3, .int .i64 x230004_3]) ?_ 2 _ (by first | rfl | (simp [*]; done)); (with_reducible repeat (first | apply kN | apply kD | apply kA)); refine blk_put (cs := #[.int .i64 t230, .string x230001_3, .string x230002_3, .int .i64 x230003_3, .int .i64 x230004_3]) ?_ 1 _ (by first | rfl | (simp [*]; done)); (with_reducible repeat (first | apply kN | apply kD | apply kA)); refine blk_put (cs := #[.int .i64 x230000_3, .string x230001_3, .string x230002_3, .int .i64 x230003_3, .int .i64 x230004_3]) ?_ 0 _ (by first | rfl | (simp [*]; done)); (with_reducible repeat (first | apply kN | apply kD | apply kA)); exact BK229.out) Try.underlying24 rfl (by kernel_rfl)) rfl ?_
       exact ⟨by first | rfl | (simp [errW_none, errW_some] <;> rfl) | (simp [*, errW_none, errW_some] <;> rfl), by repeat (first | (with_reducible first | exact HB.out | apply bA | apply bN | apply bD | refine bS ?_ GE229.out | refine bS ?_ GE237.out) | exact HB.out)⟩
      ·rw [if_neg c67] at H
       have c67b0 : (t257 == 0) = false := beq_eq_false_iff_ne.mpr c67
       have c67b1 : (t257 != 0) = true := bne_iff_ne.mpr c67
       simp only [Option.some.injEq, Prod.mk.injEq] at H
       obtain ⟨rfl, rfl, rfl, rfl, rfl, rfl⟩ := H
       have hnb74 := NB237_229.out
       have hnc74 := NB229_237.out
       obtain ⟨hcz75_0, hcz75_1, hcz75_2, hcz75_3, hcz75_4⟩ := bc5 BK237.out
       obtain ⟨hfz75_0, hfz75_1, hfz75_2, hfz75_3, hfz75_4⟩ := bf5 BK237.out
       go_wp2_with (first | ((with_reducible refine gate_callee (f := 33) rfl ?_); refine goesL_ (some 74) rfl rfl Try.func33 (by kernel_rfl) rfl #[.string t231, .string t232, .int .i64 t230, .int .i64 (t235.size : Int)] rfl (by (try simp only [List.map_toArray, List.map_cons, List.map_nil]); first | done | rfl | (simp only [List.length_drop, List.length_take]; rfl)) ?_; (with_reducible refine (palanquinref02_Pseudo.calls kj3 t231 t232 t230 (t235.size : Int) t256 _ A50.out).mono ?_); rintro e w76 ⟨rfl, hb⟩; refine ⟨_, rfl, ?_⟩; have n0_ := mA (blk_below (g := gb229) (o := .cells #[.int .i64 x230000_3, .string x230001_3, .string x230002_3, .int .i64 x230003_3, .int .i64 x230004_3] 24 (0, 0)) (by (with_reducible repeat (first | apply kN | apply kD | apply kA)); exact BK229.out) hb); have n1_ := mA (blk_below (g := gb237) (o := .cells #[.int .i64 t230, .string t231, .string t232, .int .i64 x238003_3, .int .i64 x238004_3] 24 (0, 0)) (by (with_reducible repeat (first | apply kN | apply kD | apply kA)); exact BK237.out) hb); have n2_ := mA (bP (by repeat (first | (with_reducible first | exact HB.out | apply bA | apply bN | apply bD | refine bS ?_ GE229.out | refine bS ?_ GE237.out) | exact HB.out)) hb); clear BK229; clear BK237; clear HB; have BK229 := n0_; have BK237 := n1_; have HB := n2_; clear n0_ n1_ n2_; (try clear hb); (try clear hb2); (try clear hk); (try clear hi)) | ((with_reducible refine gate_callee (f := 32) rfl ?_); refine goesL_ (some 77) rfl rfl Try.func32 (by kernel_rfl) rfl #[.string (t256 ++ t235)] rfl (by (try simp only [List.map_toArray, List.map_cons, List.map_nil]); first | done | rfl | (simp only [List.length_drop, List.length_take]; rfl)) ?_; (with_reducible refine (palanquinref02_Sum.calls kj3 (t256 ++ t235) t257 _ A52.out).mono ?_); rintro e w77 ⟨rfl, hb⟩; refine ⟨_, rfl, ?_⟩; have n0_ := mA (blk_below (g := gb229) (o := .cells #[.int .i64 x230000_3, .string x230001_3, .string x230002_3, .int .i64 x230003_3, .int .i64 x230004_3] 24 (0, 0)) (by (with_reducible repeat (first | apply kN | apply kD | apply kA)); exact BK229.out) hb); have n1_ := mA (blk_below (g := gb237) (o := .cells #[.int .i64 t230, .string t231, .string t232, .int .i64 x238003_3, .int .i64 x238004_3] 24 (0, 0)) (by (with_reducible repeat (first | apply kN | apply kD | apply kA)); exact BK237.out) hb); have n2_ := mA (bP (by repeat (first | (with_reducible first | exact HB.out | apply bA | apply bN | apply bD | refine bS ?_ GE229.out | refine bS ?_ GE237.out) | exact HB.out)) hb); clear BK229; clear BK237; clear HB; have BK229 := n0_; have BK237 := n1_; have HB := n2_; clear n0_ n1_ n2_; (try clear hb); (try clear hb2); (try clear hk); (try clear hi); obtain ⟨hcz78_0, hcz78_1, hcz78_2, hcz78_3, hcz78_4⟩ := bc5 BK229.out; obtain ⟨hfz78_0, hfz78_1, hfz78_2, hfz78_3, hfz78_4⟩ := bf5 BK229.out))
       refine bodyPost_ret (results_ct rfl _ _ gb229 24 #[.int .i64 0, .string (⟨#[]⟩ : ByteArray), .string (⟨#[]⟩ : ByteArray), .int .i64 0, .int .i64 0] (0, 0) _ rfl (by (with_reducible repeat (first | apply kN | apply kD | apply kA)); refine blk_put (cs := #[.int .i64 0, .string (⟨#[]⟩ : ByteArray), .string (⟨#[]⟩ : ByteArray), .int .i64 0, .int .i64 x230004_3]) ?_ 4 _ (by first | rfl | (simp [*]; done)); (with_reducible repeat (first | apply kN | apply kD | apply kA)); refine blk_put (cs := #[.int .i64 0, .string (⟨#[]⟩ : ByteArray), .string (⟨#[]⟩ : ByteArray), .int .i64 x230003_3, .int .i64 x230004_3]) ?_ 3 _ (by first | rfl | (simp [*]; done)); (with_reducible repeat (first | apply kN | apply kD | apply kA)); refine blk_put (cs := #[.int .i64 0, .string (⟨#[]⟩ : ByteArray), .string x230002_3, .int .i64 x230003_3, .int .i64 x230004_3]) ?_ 2 _ (by first | rfl | (simp [*]; done)); (with_reducible repeat (first | apply kN | apply kD | apply kA)); refine blk_put (cs := #[.int .i64 0, .string x230001_3, .string x230002_3, .int .i64 x230003_3, .int .i64 x230004_3]) ?_ 1 _ (by first | rfl | (simp [*]; done)); (with_reducible repeat (first | apply kN | apply kD | apply kA)); refine blk_put (cs := #[.int .i64 x230000_3, .string x230001_3, .string x230002_3, .int .i64 x230003_3, .int .i64 x230004_3]) ?_ 0 _ (by first | rfl | (simp [*]; done)); (with_reducible repeat (first | apply kN | apply kD | apply kA)); exact BK229.out) Try.underlying24 rfl (by kernel_rfl)) rfl ?_
       exact ⟨by first | rfl | (simp [errW_none, errW_some] <;> rfl) | (simp [*, errW_none, errW_some] <;> rfl), by repeat (first | (with_reducible first | exact HB.out | apply bA | apply bN | apply bD | refine bS ?_ GE229.out | refine bS ?_ GE237.out) | exact HB.out)⟩
    ·rw [if_neg c51] at H
     exact absurd H (by simp)
 ·rw [if_neg c3] at H
  have c3b0 : (t236 == 0) = false := beq_eq_false_iff_ne.mpr c3
  have c3b1 : (t236 != 0) = true := bne_iff_ne.mpr c3
  simp only [Option.some.injEq, Prod.mk.injEq] at H
  obtain ⟨rfl, rfl, rfl, rfl, rfl, rfl⟩ := H
  go_enter Try.func12, Try.ntmps12
  go_wp2_with (first | ((with_reducible refine gate_dst (N := 2) rfl ?_); refine box_event ?hg (N := 2) ?hd (cs := #[.int .i64 0, .string (⟨#[]⟩ : ByteArray), .string (⟨#[]⟩ : ByteArray), .int .i64 0, .int .i64 0]) (t := 24) ?hr ?_; (case hd => rfl); (case hg => rfl); (case hr => first | (go_simp; done) | (go_simp; rfl)); intro gb229 hg w79 hbox hb; obtain ⟨n0_, nq_⟩ := bpr (by repeat (first | (with_reducible first | exact HB.out | apply bA | apply bN | apply bD) | exact HB.out)) hb; have n1_ := mA (hbox); have n2_ := mA ((by rw [hg]; exact nq_ : w.heap.size ≤ gb229)); have n3_ := mA ((by rw [hg]; exact nq_ : w.heap.size ≤ gb229)); clear HB; have HB := n0_; have BK229 := n1_; have GW229 := n2_; have GE229 := n3_; clear nq_; clear n0_ n1_ n2_ n3_; clear hb hbox hg) | ((with_reducible refine gate_callee (f := 29) rfl ?_); refine goesL_ (some 17) rfl rfl Try.func29 (by kernel_rfl) rfl #[.string a0] rfl (by (try simp only [List.map_toArray, List.map_cons, List.map_nil]); first | done | rfl | (simp only [List.length_drop, List.length_take]; rfl)) ?_; (with_reducible refine (palanquinref09_open.calls k a0 t230 t231 t232 t233 t234 t235 t236 _ A2.out).mono ?_); rintro e w80 ⟨rfl, hb⟩; refine ⟨_, rfl, ?_⟩; have n0_ := mA (blk_below (g := gb229) (o := .cells #[.int .i64 0, .string (⟨#[]⟩ : ByteArray), .string (⟨#[]⟩ : ByteArray), .int .i64 0, .int .i64 0] 24 (0, 0)) (by (with_reducible repeat (first | apply kN | apply kD | apply kA)); exact BK229.out) hb); have n1_ := mA (bP (by repeat (first | (with_reducible first | exact HB.out | apply bA | apply bN | apply bD | refine bS ?_ GE229.out) | exact HB.out)) hb); clear BK229; clear HB; have BK229 := n0_; have HB := n1_; clear n0_ n1_; (try clear hb); (try clear hb2); (try clear hk); (try clear hi)) | ((with_reducible refine gate_dst (N := 4) rfl ?_); refine box_event ?hg (N := 4) ?hd (cs := #[.int .i64 0, .string (⟨#[]⟩ : ByteArray), .string (⟨#[]⟩ : ByteArray), .int .i64 0, .int .i64 0]) (t := 24) ?hr ?_; (case hd => rfl); (case hg => rfl); (case hr => first | (go_simp; done) | (go_simp; rfl)); intro gb237 hg w81 hbox hb; obtain ⟨n0_, nl229_⟩ := bt3 (g := gb229) (o := .cells #[.int .i64 0, .string (⟨#[]⟩ : ByteArray), .string (⟨#[]⟩ : ByteArray), .int .i64 0, .int .i64 0] 24 (0, 0)) (by (with_reducible repeat (first | apply kN | apply kD | apply kA)); exact BK229.out) hb; obtain ⟨n1_, nq_⟩ := bpr (by repeat (first | (with_reducible first | exact HB.out | apply bA | apply bN | apply bD | refine bS ?_ GE229.out) | exact HB.out)) hb; have n2_ := mA (hbox); have n3_ := mA ((by rw [hg]; exact nq_ : w.heap.size ≤ gb237)); have n4_ := mA ((by rw [hg]; exact nq_ : w.heap.size ≤ gb237)); have n5_ := mA ((by rw [hg]; exact Nat.ne_of_lt nl229_ : gb229 ≠ gb237)); have n6_ := mA ((by rw [hg]; exact Nat.ne_of_gt nl229_ : gb237 ≠ gb229)); clear BK229; clear HB; have BK229 := n0_; have HB := n1_; have BK237 := n2_; have GW237 := n3_; have GE237 := n4_; have NB229_237 := n5_; have NB237_229 := n6_; clear nl229_; clear nq_; clear n0_ n1_ n2_ n3_ n4_ n5_ n6_; clear hb hbox hg; have hnb82 := NB237_229.out; have hnc82 := NB229_237.out; obtain ⟨hcz83_0, hcz83_1, hcz83_2, hcz83_3, hcz83_4⟩ := bc5 BK237.out; obtain ⟨hfz83_0, hfz83_1, hfz83_2, hfz83_3, hfz83_4⟩ := bf5 BK237.out; obtain ⟨hcz84_0, hcz84_1, hcz84_2, hcz84_3, hcz84_4⟩ := bc5 BK229.out; obtain ⟨hfz84_0, hfz84_1, hfz84_2, hfz84_3, hfz84_4⟩ := bf5 BK229.out))
  refine bodyPost_ret (results_ct rfl _ _ gb229 24 #[.int .i64 0, .string (⟨#[]⟩ : ByteArray), .string (⟨#[]⟩ : ByteArray), .int .i64 0, .int .i64 0] (0, 0) _ rfl (by (with_reducible repeat (first | apply kN | apply kD | apply kA)); refine blk_put (cs := #[.int .i64 0, .string (⟨#[]⟩ : ByteArray), .string (⟨#[]⟩ : ByteArray), .int .i64 0, .int .i64 0]) ?_ 4 _ (by first | rfl | (simp [*]; done)); (with_reducible repeat (first | apply kN | apply kD | apply kA)); refine blk_put (cs := #[.int .i64 0, .string (⟨#[]⟩ : ByteArray), .string (⟨#[]⟩ : ByteArray), .int .i64 0, .int .i64 0]) ?_ 3 _ (by first | rfl | (simp [*]; done)); (with_reducible repeat (first | apply kN | apply kD | apply kA)); refine blk_put (cs := #[.int .i64 0, .string (⟨#[]⟩ : ByteArray), .string (⟨#[]⟩ : ByteArray), .int .i64 0, .int .i64 0]) ?_ 2 _ (by first | rfl | (simp [*]; done)); (with_reducible repeat (first | apply kN | apply kD | apply kA)); refine blk_put (cs := #[.int .i64 0, .string (⟨#[]⟩ : ByteArray), .string (⟨#[]⟩ : ByteArray), .int .i64 0, .int .i64 0]) ?_ 1 _ (by first | rfl | (simp [*]; done)); (with_reducible repeat (first | apply kN | apply kD | apply kA)); refine blk_put (cs := #[.int .i64 0, .string (⟨#[]⟩ : ByteArray), .string (⟨#[]⟩ : ByteArray), .int .i64 0, .int .i64 0]) ?_ 0 _ (by first | rfl | (simp [*]; done)); (with_reducible repeat (first | apply kN | apply kD | apply kA)); refine blk_far ?_ NB229_237.out _; (with_reducible repeat (first | apply kN | apply kD | apply kA)); refine blk_far ?_ NB229_237.out _; (with_reducible repeat (first | apply kN | apply kD | apply kA)); refine blk_far ?_ NB229_237.out _; (with_reducible repeat (first | apply kN | apply kD | apply kA)); refine blk_far ?_ NB229_237.out _; (with_reducible repeat (first | apply kN | apply kD | apply kA)); refine blk_far ?_ NB229_237.out _; (with_reducible repeat (first | apply kN | apply kD | apply kA)); exact BK229.out) Try.underlying24 rfl (by kernel_rfl)) rfl ?_
  exact ⟨by first | rfl | (simp [errW_none, errW_some] <;> rfl) | (simp [*, errW_none, errW_some] <;> rfl), by repeat (first | (with_reducible first | exact HB.out | apply bA | apply bN | apply bD | refine bS ?_ GE229.out | refine bS ?_ GE237.out) | exact HB.out)⟩

end Go.Proofs.Ytcmalglippmocaa.G
end

section
namespace Go.Proofs.Ytcmalglippmocaa.G
open Go.RowKit Go.Proofs.YtcmalglippmocaaW.PrintWords Go.Proofs.YtcmalglippmocaaW.PrintLast Go.Proofs.YtcmalglippmocaaW.PrintMore
attribute [local go_sem] max2_int min2_int max_two min_two max_three min_three max_four min_four   -- for this text's walks alone
set_option linter.unusedVariables false
set_option linter.unusedSimpArgs false

attribute [local go_sem high] eqA24
def palanquinlaw09_FlowGets.f (k : Nat) (a0 : ByteArray) : Option (Bool) := (palanquinlaw09_awake.f k).bind fun t258 => (if t258 = true then (if (a0.size : Int) > 70000 then (some true) else ((flow_Get.f a0).bind fun bt259 => ((palanquinref09_Get.f k a0).bind fun bt266 => (if (bt259.1 == bt266.1 && (bt259.2.1.toList == bt266.2.1.toList && (bt259.2.2.1.toList == bt266.2.2.1.toList && (bt259.2.2.2.1 == bt266.2.2.2.1 && (bt259.2.2.2.2.1 == bt266.2.2.2.2.1))))) = true then (some (bt259.2.2.2.2.2 == bt266.2.2.2.2.2)) else (some false))))) else (some false))
set_option maxHeartbeats 8000000 in
set_option maxRecDepth 100000 in
theorem palanquinlaw09_FlowGets.calls (k : Nat) (a0 : ByteArray) (r : Bool) (w : World) (h : palanquinlaw09_FlowGets.f k a0 = some r) (hrt_ : Aside0 (r = true)) :
  Calls Try.prog 3 #[.string a0] w fun e w' => e = .returned (.bool r) ∧ Below w.heap.size w w' := by
 have hu24 := Try.underlying24
 have HB := mA (Below.refl w.heap.size w)
 have H : ((palanquinlaw09_awake.f k).bind fun t258 => (if t258 = true then (if (a0.size : Int) > 70000 then (some true) else ((flow_Get.f a0).bind fun bt259 => ((palanquinref09_Get.f k a0).bind fun bt266 => (if (bt259.1 == bt266.1 && (bt259.2.1.toList == bt266.2.1.toList && (bt259.2.2.1.toList == bt266.2.2.1.toList && (bt259.2.2.2.1 == bt266.2.2.2.1 && (bt259.2.2.2.2.1 == bt266.2.2.2.2.1))))) = true then (some (bt259.2.2.2.2.2 == bt266.2.2.2.2.2)) else (some false))))) else (some false))) = some r := h
 clear h
 replace H := Option.bind_eq_some_iff.mp H
 obtain ⟨t258, A20, H⟩ := H
 replace H : (if t258 = true then (if (a0.size : Int) > 70000 then (some true) else ((flow_Get.f a0).bind fun bt259 => ((palanquinref09_Get.f k a0).bind fun bt266 => (if (bt259.1 == bt266.1 && (bt259.2.1.toList == bt266.2.1.toList && (bt259.2.2.1.toList == bt266.2.2.1.toList && (bt259.2.2.2.1 == bt266.2.2.2.1 && (bt259.2.2.2.2.1 == bt266.2.2.2.2.1))))) = true then (some (bt259.2.2.2.2.2 == bt266.2.2.2.2.2)) else (some false))))) else (some false)) = some r := H
 have A2 := mA A20
 clear A20
 by_cases c3 : t258 = true
 ·subst c3
  have H1 : (if (a0.size : Int) > 70000 then (some true) else ((flow_Get.f a0).bind fun bt259 => ((palanquinref09_Get.f k a0).bind fun bt266 => (if (bt259.1 == bt266.1 && (bt259.2.1.toList == bt266.2.1.toList && (bt259.2.2.1.toList == bt266.2.2.1.toList && (bt259.2.2.2.1 == bt266.2.2.2.1 && (bt259.2.2.2.2.1 == bt266.2.2.2.2.1))))) = true then (some (bt259.2.2.2.2.2 == bt266.2.2.2.2.2)) else (some false))))) = some r := by rw [if_pos rfl] at H; exact H
  clear H
  have H := H1
  clear H1
  by_cases c4 : (a0.size : Int) > 70000
  ·rw [if_pos c4] at H
   have c4b0 : decide (70000 < (a0.size : Int)) = true := decide_eq_true c4
   have c4b1 : decide (70000 < a0.size) = true := decide_eq_true (by omega)
   clear c4
   obtain rfl := Option.some.inj H
   go_enter Try.func3, Try.ntmps3
   go_wp2_with (first | ((with_reducible refine gate_callee (f := 10) rfl ?_); refine goesL_ (some 7) rfl rfl Try.func10 (by kernel_rfl) rfl #[] rfl (by (try simp only [List.map_toArray, List.map_cons, List.map_nil]); first | done | rfl | (simp only [List.length_drop, List.length_take]; rfl)) ?_; (with_reducible refine (palanquinlaw09_awake.calls k  true _ A2.out).mono ?_); rintro e w5 ⟨rfl, hb⟩; refine ⟨_, rfl, ?_⟩; have n0_ := mA (bP (by repeat (first | (with_reducible first | exact HB.out | apply bA | apply bN | apply bD) | exact HB.out)) hb); clear HB; have HB := n0_; clear n0_; (try clear hb); (try clear hb2); (try clear hk); (try clear hi)))
   go_ret
   exact ⟨by first | rfl | (simp [errW_none, errW_some] <;> rfl) | (simp [*, errW_none, errW_some] <;> rfl), by repeat (first | (with_reducible first | exact HB.out | apply bA | apply bN | apply bD) | exact HB.out)⟩
  ·rw [if_neg c4] at H
   have c4b0 : decide (70000 < (a0.size : Int)) = false := decide_eq_false c4
   have c4b1 : decide (70000 < a0.size) = false := decide_eq_false (by omega)
   clear c4
   replace H := Option.bind_eq_some_iff.mp H
   obtain ⟨⟨t259, t260, t261, t262, t263, t264⟩, A60, H⟩ := H
   replace H : ((palanquinref09_Get.f k a0).bind fun bt266 => (if (t259 == bt266.1 && (t260.toList == bt266.2.1.toList && (t261.toList == bt266.2.2.1.toList && (t262 == bt266.2.2.2.1 && (t263 == bt266.2.2.2.2.1))))) = true then (some (t264 == bt266.2.2.2.2.2)) else (some false))) = some r := H
   have A6 := mA A60
   clear A60
   replace H := Option.bind_eq_some_iff.mp H
   obtain ⟨⟨t266, t267, t268, t269, t270, t271⟩, A70, H⟩ := H
   replace H : (if (t259 == t266 && (t260.toList == t267.toList && (t261.toList == t268.toList && (t262 == t269 && (t263 == t270))))) = true then (some (t264 == t271)) else (some false)) = some r := H
   have A7 := mA A70
   clear A70
   by_cases c8 : (t259 == t266 && (t260.toList == t267.toList && (t261.toList == t268.toList && (t262 == t269 && (t263 == t270))))) = true
   ·rw [if_pos c8] at H
    have c8b0 : (t259 == t266 && (t260.toList == t267.toList && (t261.toList == t268.toList && (t262 == t269 && (t263 == t270))))) = true := c8
    (try (have c8b1 : decide (t259 = t266 && (t260.toList == t267.toList && (t261.toList == t268.toList && (t262 == t269 && (t263 == t270))))) = true := by simpa using c8))
    (try (have c8b2 : (t259 == t266 && (t260.toList == t267.toList && (t261.toList == t268.toList && (t262 == t269 && (t263 == t270))))) = true := by simpa using c8))
    (try (have c8b3 : ((t259 = t266 ∧ (t260.toList = t267.toList ∧ (t261.toList = t268.toList ∧ (t262 = t269 ∧ (t263 = t270)))))) = True := by simpa using c8))
    clear c8
    obtain rfl := Option.some.inj H
    go_enter Try.func3, Try.ntmps3
    go_wp2_with (first | ((with_reducible refine gate_callee (f := 10) rfl ?_); refine goesL_ (some 7) rfl rfl Try.func10 (by kernel_rfl) rfl #[] rfl (by (try simp only [List.map_toArray, List.map_cons, List.map_nil]); first | done | rfl | (simp only [List.length_drop, List.length_take]; rfl)) ?_; (with_reducible refine (palanquinlaw09_awake.calls k  true _ A2.out).mono ?_); rintro e w9 ⟨rfl, hb⟩; refine ⟨_, rfl, ?_⟩; have n0_ := mA (bP (by repeat (first | (with_reducible first | exact HB.out | apply bA | apply bN | apply bD) | exact HB.out)) hb); clear HB; have HB := n0_; clear n0_; (try clear hb); (try clear hb2); (try clear hk); (try clear hi)) | ((with_reducible refine gate_callee (f := 11) rfl ?_); refine goesL_ (some 14) rfl rfl Try.func11 (by kernel_rfl) rfl #[.string a0] rfl (by (try simp only [List.map_toArray, List.map_cons, List.map_nil]); first | done | rfl | (simp only [List.length_drop, List.length_take]; rfl)) ?_; (with_reducible refine (flow_Get.calls a0 t259 t260 t261 t262 t263 t264 _ A6.out).mono ?_); rintro e w10 ⟨rfl, hb⟩; refine ⟨_, rfl, ?_⟩; have n0_ := mA (bP (by repeat (first | (with_reducible first | exact HB.out | apply bA | apply bN | apply bD) | exact HB.out)) hb); clear HB; have HB := n0_; clear n0_; (try clear hb); (try clear hb2); (try clear hk); (try clear hi)) | ((with_reducible refine gate_dst (N := 3) rfl ?_); refine box_event ?hg (N := 3) ?hd (cs := #[.int .i64 0, .string (⟨#[]⟩ : ByteArray), .string (⟨#[]⟩ : ByteArray), .int .i64 0, .int .i64 0]) (t := 24) ?hr ?_; (case hd => rfl); (case hg => rfl); (case hr => first | (go_simp; done) | (go_simp; rfl)); intro gb265 hg w11 hbox hb; obtain ⟨n0_, nq_⟩ := bpr (by repeat (first | (with_reducible first | exact HB.out | apply bA | apply bN | apply bD) | exact HB.out)) hb; have n1_ := mA (hbox); have n2_ := mA ((by rw [hg]; exact nq_ : w.heap.size ≤ gb265)); have n3_ := mA ((by rw [hg]; exact nq_ : w.heap.size ≤ gb265)); clear HB; have HB := n0_; have BK265 := n1_; have GW265 := n2_; have GE265 := n3_; clear nq_; clear n0_ n1_ n2_ n3_; clear hb hbox hg; obtain ⟨hcz12_0, hcz12_1, hcz12_2, hcz12_3, hcz12_4⟩ := bc5 BK265.out; obtain ⟨hfz12_0, hfz12_1, hfz12_2, hfz12_3, hfz12_4⟩ := bf5 BK265.out) | ((with_reducible refine gate_callee (f := 12) rfl ?_); refine goesL_ (some 19) rfl rfl Try.func12 (by kernel_rfl) rfl #[.string a0] rfl (by (try simp only [List.map_toArray, List.map_cons, List.map_nil]); first | done | rfl | (simp only [List.length_drop, List.length_take]; rfl)) ?_; (with_reducible refine (palanquinref09_Get.calls k a0 t266 t267 t268 t269 t270 t271 _ A7.out).mono ?_); rintro e w13 ⟨rfl, hb⟩; refine ⟨_, rfl, ?_⟩; have n0_ := mA (blk_below (g := gb265) (o := .cells #[.int .i64 t259, .string t260, .string t261, .int .i64 t262, .int .i64 t263] 24 (0, 0)) (by (with_reducible repeat (first | apply kN | apply kD | apply kA)); refine blk_put (cs := #[.int .i64 t259, .string t260, .string t261, .int .i64 t262, .int .i64 0]) ?_ 4 _ (by first | rfl | (simp [*]; done)); (with_reducible repeat (first | apply kN | apply kD | apply kA)); refine blk_put (cs := #[.int .i64 t259, .string t260, .string t261, .int .i64 0, .int .i64 0]) ?_ 3 _ (by first | rfl | (simp [*]; done)); (with_reducible repeat (first | apply kN | apply kD | apply kA)); refine blk_put (cs := #[.int .i64 t259, .string t260, .string (⟨#[]⟩ : ByteArray), .int .i64 0, .int .i64 0]) ?_ 2 _ (by first | rfl | (simp [*]; done)); (with_reducible repeat (first | apply kN | apply kD | apply kA)); refine blk_put (cs := #[.int .i64 t259, .string (⟨#[]⟩ : ByteArray), .string (⟨#[]⟩ : ByteArray), .int .i64 0, .int .i64 0]) ?_ 1 _ (by first | rfl | (simp [*]; done)); (with_reducible repeat (first | apply kN | apply kD | apply kA)); refine blk_put (cs := #[.int .i64 0, .string (⟨#[]⟩ : ByteArray), .string (⟨#[]⟩ : ByteArray), .int .i64 0, .int .i64 0]) ?_ 0 _ (by first | rfl | (simp [*]; done)); (with_reducible repeat (first | apply kN | apply kD | apply kA)); exact BK265.out) hb); have n1_ := mA (bP (by repeat (first | (with_reducible first | exact HB.out | apply bA | apply bN | apply bD | refine bS ?_ GE265.out) | exact HB.out)) hb); clear BK265; clear HB; have BK265 := n0_; have HB := n1_; clear n0_ n1_; (try clear hb); (try clear hb2); (try clear hk); (try clear hi)) | ((with_reducible refine gate_dst (N := 5) rfl ?_); refine box_event ?hg (N := 5) ?hd (cs := #[.int .i64 0, .string (⟨#[]⟩ : ByteArray), .string (⟨#[]⟩ : ByteArray), .int .i64 0, .int .i64 0]) (t := 24) ?hr ?_; (case hd => rfl); (case hg => rfl); (case hr => first | (go_simp; done) | (go_simp; rfl)); intro gb272 hg w14 hbox hb; obtain ⟨n0_, nl265_⟩ := bt3 (g := gb265) (o := .cells #[.int .i64 t259, .string t260, .string t261, .int .i64 t262, .int .i64 t263] 24 (0, 0)) (by (with_reducible repeat (first | apply kN | apply kD | apply kA)); exact BK265.out) hb; obtain ⟨n1_, nq_⟩ := bpr (by repeat (first | (with_reducible first | exact HB.out | apply bA | apply bN | apply bD | refine bS ?_ GE265.out) | exact HB.out)) hb; have n2_ := mA (hbox); have n3_ := mA ((by rw [hg]; exact nq_ : w.heap.size ≤ gb272)); have n4_ := mA ((by rw [hg]; exact nq_ : w.heap.size ≤ gb272)); have n5_ := mA ((by rw [hg]; exact Nat.ne_of_lt nl265_ : gb265 ≠ gb272)); have n6_ := mA ((by rw [hg]; exact Nat.ne_of_gt nl265_ : gb272 ≠ gb265)); clear BK265; clear HB; have BK265 := n0_; have HB := n1_; have BK272 := n2_; have GW272 := n3_; have GE272 := n4_; have NB265_272 := n5_; have NB272_265 := n6_; clear nl265_; clear nq_; clear n0_ n1_ n2_ n3_ n4_ n5_ n6_; clear hb hbox hg; have hnb15 := NB272_265.out; have hnc15 := NB265_272.out; obtain ⟨hcz16_0, hcz16_1, hcz16_2, hcz16_3, hcz16_4⟩ := bc5 BK272.out; obtain ⟨hfz16_0, hfz16_1, hfz16_2, hfz16_3, hfz16_4⟩ := bf5 BK272.out; obtain ⟨hcz17_0, hcz17_1, hcz17_2, hcz17_3, hcz17_4⟩ := bc5 BK265.out; obtain ⟨hfz17_0, hfz17_1, hfz17_2, hfz17_3, hfz17_4⟩ := bf5 BK265.out))
    go_ret
    exact ⟨by first | rfl | (simp [errW_none, errW_some] <;> rfl) | (simp [*, errW_none, errW_some] <;> rfl), by repeat (first | (with_reducible first | exact HB.out | apply bA | apply bN | apply bD | refine bS ?_ GE265.out | refine bS ?_ GE272.out) | exact HB.out)⟩
   ·rw [if_neg c8] at H
    exact absurd ((Option.some.inj H).trans hrt_.out) (by decide)
 ·replace c3 := Bool.eq_false_iff.mpr c3
  subst c3
  have H1 : (some false) = some r := by rw [if_neg (show ¬ (false = true) by decide)] at H; exact H
  exact absurd ((Option.some.inj H1).trans hrt_.out) (by decide)
/-- THE ONE PURE STATEMENT of palanquinlaw09_FlowGets: yours. -/
def palanquinlaw09_FlowGets.Pure : Prop := ∀ (a0 : ByteArray), a0.size ≤ 140737488351232 → ∃ k, palanquinlaw09_FlowGets.f k a0 = some true
theorem palanquinlaw09_FlowGets.walk (P : palanquinlaw09_FlowGets.Pure) (a0 : ByteArray) (w : World) (w0 : a0.size ≤ 140737488351232) :
  Calls Try.prog 3 #[.string a0] w fun e w' => e = .returned (.bool true) ∧ Below w.heap.size w w' := by
 obtain ⟨k, h⟩ := P a0 w0
 refine (palanquinlaw09_FlowGets.calls k a0 true w h ⟨rfl⟩).mono ?_
 rintro e w' ⟨rfl, hd⟩
 exact ⟨rfl, hd⟩

end Go.Proofs.Ytcmalglippmocaa.G
end

section
/- By hand: flow.Seal, which reads the package-level tables of places. -/
namespace Go.Proofs.Ytcmalglippmocaa.G
open Go.RowKit Go.Proofs.YtcmalglippmocaaW.PrintWords Go.Proofs.YtcmalglippmocaaW.PrintLast Go.Proofs.YtcmalglippmocaaW.PrintMore Go.Proofs.Ytcmalglippmocaa.Pal
set_option linter.unusedVariables false
set_option linter.unusedSimpArgs false
/-- A writer that stands in a block of its own above k. -/
def SW (k b : Nat) (w w1 : World) (l : List UInt8) : Prop := WAt b l w1 ∧ Below k w w1 ∧ k ≤ b
theorem SW.next {k b : Nat} {w w1 w2 : World} {l l' : List UInt8} (h : SW k b w w1 l) (h1 : WAt b l' w2) (h2 : Below b w1 w2) : SW k b w w2 l' := ⟨h1, h.2.1.trans (h2.mono h.2.2), h.2.2⟩
theorem SW.start {k : Nat} {w w1 : World} (h : Below k w w1) (hk : k ≤ w1.heap.size) : SW k w1.heap.size w (w1.alloc (.cells #[.pointer none, .slice none 0 0] 117)) [] := ⟨WAt.new w1, h.alloc hk _, hk⟩
end Go.Proofs.Ytcmalglippmocaa.G
end

section
/- Plain theory: a text with its own checksum inside it, at an even place. No program in it. -/
namespace Go.Proofs.Ytcmalglippmocaa.Pal
end Go.Proofs.Ytcmalglippmocaa.Pal
end

section
/- Plain theory: a text with one bit turned. No program in it. -/
namespace Go.Proofs.Ytcmalglippmocaa.Pal
theorem cut_bl (s : ByteArray) (n m : Nat) : bl (s.extract n m) = ((bl s).take m).drop n := by simp [bl, ByteArray.data_extract, List.drop_take]
end Go.Proofs.Ytcmalglippmocaa.Pal
end

section
/- Plain theory: a text with its checksum inside it, 0 spelled FFFF; a bit turned in a part of a text. No program in it. -/
namespace Go.Proofs.Ytcmalglippmocaa.Pal
end Go.Proofs.Ytcmalglippmocaa.Pal
end

section
/- Plain facts of udp.Put and udp.Get as functions: what is put is got, what is got is put. -/
namespace Go.Proofs.Ytcmalglippmocaa.Pure
open Go.RowKit Go.Proofs.YtcmalglippmocaaW.PrintWords Go.Proofs.YtcmalglippmocaaW.PrintLast Go.Proofs.Ytcmalglippmocaa.G Go.Proofs.Ytcmalglippmocaa.Pal
theorem get_is {s : ByteArray} (hs : s.size ≤ 140737488351232) : udp_Get.f s = some (if udpErr s = 0 then (((be (bl (s.extract 0 2)) : Nat) : Int), ((be (bl (s.extract 2 4)) : Nat) : Int), s.extract 8 s.size, ((be (bl (s.extract 6 8)) : Nat) : Int), 0) else (0, 0, empty, 0, udpErr s)) := by
  unfold udp_Get.f; rw [if_pos hs]
end Go.Proofs.Ytcmalglippmocaa.Pure
end

section
/- Plain facts of flow.Seal: what is sealed; what palanquinref09 seals is the same. -/
namespace Go.Proofs.Ytcmalglippmocaa.Pure
open Go.RowKit Go.Proofs.YtcmalglippmocaaW.PrintWords Go.Proofs.YtcmalglippmocaaW.PrintLast Go.Proofs.Ytcmalglippmocaa.G Go.Proofs.Ytcmalglippmocaa.Pal
set_option linter.unusedVariables false
/-- The end of what stands ahead of a segment. -/
def psT (six : Bool) (a b : Int) : ByteArray := if six then strOfNums [b / 16777216 % 256, b / 65536 % 256, b / 256 % 256, b % 256, 0, 0, 0, a % 256] else strOfNums [0, a % 256, b / 256 % 256, b % 256]
theorem psT_size (six : Bool) (a b : Int) : (psT six a b).size % 2 = 0 ∧ (psT six a b).size ≤ 8 := by
  have sz_nums : ∀ xs : List Int, (strOfNums xs).size = xs.length := fun xs => by rw [← bl_length]; simp [bl, strOfNums]
  unfold psT; split <;> rw [sz_nums] <;> exact ⟨by simp, by simp⟩
def psB (s d : ByteArray) (a b : Int) : ByteArray := s ++ d ++ psT (s.size == 16) a b
theorem pseudo_some (s d : ByteArray) (hs : s.size ≤ 300) (hd : d.size ≤ 300) (a b : Int) : sum_Pseudo.f s d a b = some (psB s d a b) := by
  have sz_nums : ∀ xs : List Int, (strOfNums xs).size = xs.length := fun xs => by rw [← bl_length]; simp [bl, strOfNums]
  unfold sum_Pseudo.f psB psT
  by_cases h : (s.size : Int) = 16
  · have h' : (s.size == 16) = true := beq_iff_eq.mpr (by omega)
    rw [if_pos h, if_pos (by omega), Option.bind_some, if_pos (by rw [sz_nums, ByteArray.size_append]; simp; omega), if_pos h']
  · have h' : (s.size == 16) = false := beq_eq_false_iff_ne.mpr (by omega)
    rw [if_neg h, if_pos (by omega), Option.bind_some, if_pos (by rw [sz_nums, ByteArray.size_append]; simp; omega), if_neg (by rw [h']; decide)]
theorem psB_size (s d : ByteArray) (a b : Int) : (psB s d a b).size = s.size + d.size + (psT (s.size == 16) a b).size := by unfold psB; rw [ByteArray.size_append, ByteArray.size_append]
theorem sum_is (l : List ByteArray) (h : (cat l).length ≤ 1099511627776) : sum_Sum.f l = some ((csum (cat l) : Nat) : Int) := by unfold sum_Sum.f; rw [if_pos h]
theorem right2 (a b : ByteArray) (h : a.size + b.size ≤ 1099511627776) : sum_Right.f [a, b] = some (decide (csum (bl a ++ bl b) = 0)) := by
  unfold sum_Right.f
  rw [sum_is _ (by rw [cat_cons, cat_cons, cat_nil, List.append_nil, List.length_append, bl_length, bl_length]; exact h), Option.bind_some, cat_cons, cat_cons, cat_nil, List.append_nil]
  congr 1
  by_cases hc : csum (bl a ++ bl b) = 0
  · rw [hc]; rfl
  · rw [decide_eq_false hc]; exact beq_eq_false_iff_ne.mpr (by omega)
end Go.Proofs.Ytcmalglippmocaa.Pure
end

section
/- Plain facts of flow.Seal, more: sealed twice, between addresses that are exchanged; a number where the sum stands. -/
namespace Go.Proofs.Ytcmalglippmocaa.Pure
open Go.RowKit Go.Proofs.YtcmalglippmocaaW.PrintWords Go.Proofs.YtcmalglippmocaaW.PrintLast Go.Proofs.Ytcmalglippmocaa.G Go.Proofs.Ytcmalglippmocaa.Pal
namespace F2
set_option linter.unusedVariables false
end F2
end Go.Proofs.Ytcmalglippmocaa.Pure
end

section
/- Plain facts of ip4.Put and ip4.Get as functions: what is put is got. -/
namespace Go.Proofs.Ytcmalglippmocaa.Pure
open Go.RowKit Go.Proofs.YtcmalglippmocaaW.PrintWords Go.Proofs.YtcmalglippmocaaW.PrintLast Go.Proofs.Ytcmalglippmocaa.G Go.Proofs.Ytcmalglippmocaa.Pal
theorem cut4 (s : ByteArray) (n m : Nat) : bl (s.extract n m) = ((bl s).take m).drop n := by simp [bl, ByteArray.data_extract, List.drop_take]
theorem err4_zero {s : ByteArray} (h : ip4Err s = 0) : 20 ≤ s.size ∧ be (bl (s.extract 0 1)) / 16 = 4 ∧ (20 ≤ hl4 s ∧ hl4 s ≤ s.size ∧ be (bl (s.extract 2 4)) = s.size) ∧ csum (bl (s.extract 0 (hl4 s))) = 0 ∧ be (bl (s.extract 6 8)) / 32768 = 0 := by
  unfold ip4Err at h
  by_cases h1 : s.size < 20
  · rw [if_pos h1] at h; exact absurd h (by decide)
  rw [if_neg h1] at h
  by_cases h2 : be (bl (s.extract 0 1)) / 16 = 4
  case neg => rw [if_neg h2] at h; exact absurd h (by decide)
  rw [if_pos h2] at h
  by_cases h3 : 20 ≤ hl4 s ∧ hl4 s ≤ s.size ∧ be (bl (s.extract 2 4)) = s.size
  case neg => rw [if_neg h3] at h; exact absurd h (by decide)
  rw [if_pos h3] at h
  by_cases h4 : csum (bl (s.extract 0 (hl4 s))) = 0
  case neg => rw [if_neg h4] at h; exact absurd h (by decide)
  rw [if_pos h4] at h
  by_cases h5 : be (bl (s.extract 6 8)) / 32768 = 0
  case neg => rw [if_neg h5] at h; exact absurd h (by decide)
  exact ⟨by omega, h2, h3, h4, h5⟩
end Go.Proofs.Ytcmalglippmocaa.Pure
end

section
/- Plain facts of ip6.Put and ip6.Get as functions (begun). -/
namespace Go.Proofs.Ytcmalglippmocaa.Pure
open Go.RowKit Go.Proofs.YtcmalglippmocaaW.PrintWords Go.Proofs.YtcmalglippmocaaW.PrintLast Go.Proofs.Ytcmalglippmocaa.G Go.Proofs.Ytcmalglippmocaa.Pal
theorem low8 (x : Int) : Go.bits .and .i64 x 255 = x % 256 := by
  have e : Go.bits .and .i64 x 255 = IntKind.i64.wrap (((x % 18446744073709551616).toNat &&& 255 : Nat) : Int) := by
    show IntKind.i64.wrap (((BitVec.ofInt 64 x &&& BitVec.ofInt 64 255).toNat : Nat) : Int) = _
    rw [BitVec.toNat_and, BitVec.toNat_ofInt, show (BitVec.ofInt 64 255).toNat = 255 from rfl]
    rfl
  rw [e, Nat.and_two_pow_sub_one_eq_mod _ 8, IntKind.wrap_i64]; omega
theorem low20 (x : Int) : Go.bits .and .i64 x 1048575 = x % 1048576 := by
  have e : Go.bits .and .i64 x 1048575 = IntKind.i64.wrap (((x % 18446744073709551616).toNat &&& 1048575 : Nat) : Int) := by
    show IntKind.i64.wrap (((BitVec.ofInt 64 x &&& BitVec.ofInt 64 1048575).toNat : Nat) : Int) = _
    rw [BitVec.toNat_and, BitVec.toNat_ofInt, show (BitVec.ofInt 64 1048575).toNat = 1048575 from rfl]
    rfl
  rw [e, Nat.and_two_pow_sub_one_eq_mod _ 20, IntKind.wrap_i64]; omega
end Go.Proofs.Ytcmalglippmocaa.Pure
end
