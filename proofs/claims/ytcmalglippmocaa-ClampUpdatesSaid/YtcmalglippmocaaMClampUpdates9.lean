/- Texts of this session, joined: each is a section. -/
import Derived.Test.YtcmalglippmocaaMClampUpdates2
import Derived.Test.YtcmalglippmocaaMClampUpdates6
import Derived.Test.YtcmalglippmocaaMClampUpdates8
import Derived.Test.YtcmalglippmocaaMClampUpdates7
import Derived.WalkLawsBesides
import Derived.RegionTactic
import Derived.Deep.RegionWith
import Derived.StillTailTactics
set_option linter.unusedVariables false
set_option linter.unusedSimpArgs false
section
namespace Go.Proofs.Ytcmalglippmocaa.G
open Go.RowKit Go.Proofs.YtcmalglippmocaaW.PrintWords Go.Proofs.YtcmalglippmocaaW.PrintLast Go.Proofs.YtcmalglippmocaaW.PrintMore
attribute [local go_sem] max2_int min2_int max_two min_two max_three min_three max_four min_four

def palanquinref09_Get.j0 : Nat → ByteArray → Bool → Int → ByteArray → ByteArray → Int → Int → Option (Int × ByteArray × ByteArray × Int × Int × Int)
 | 0, _, _, _, _, _, _, _ => none
 | k + 1, x5, x7, x238000, x238001, x238002, x238003, x238004 => (palanquinref02_Pseudo.f k x238001 x238002 x238000 (x5.size : Int)).bind fun t256 => (if t256.size + x5.size ≤ 9223372036854775807 then ((palanquinref02_Sum.f k (t256 ++ x5)).bind fun t257 => (if x7 = true then (if ((x238001.size : Int) = 4) then (some (x238000, x238001, x238002, x238003, x238004, 0)) else (some (0, (⟨#[]⟩ : ByteArray), (⟨#[]⟩ : ByteArray), 0, 0, 5))) else (if t257 = 0 then (some (x238000, x238001, x238002, x238003, x238004, 0)) else (some (0, (⟨#[]⟩ : ByteArray), (⟨#[]⟩ : ByteArray), 0, 0, 5))))) else (none))
def palanquinref09_Get.f (k : Nat) (a0 : ByteArray) : Option (Int × ByteArray × ByteArray × Int × Int × Int) := (palanquinref09_open.f k a0).bind fun bt230 => (if bt230.2.2.2.2.2.2 = 0 then (if bt230.1 = 6 then ((palanquinref07_Get.f bt230.2.2.2.2.2.1).bind fun bt238 => (if bt238.2.2.2.2.2.2.2.2.2.2 = 0 then (palanquinref09_Get.j0 k bt230.2.2.2.2.2.1 false bt230.1 bt230.2.1 bt230.2.2.1 bt238.1 bt238.2.1) else (some (0, (⟨#[]⟩ : ByteArray), (⟨#[]⟩ : ByteArray), 0, 0, bt238.2.2.2.2.2.2.2.2.2.2)))) else (if bt230.1 = 17 then ((palanquinref08_Get.f k bt230.2.2.2.2.2.1).bind fun bt250 => (if bt250.2.2.2.2 = 0 then (palanquinref09_Get.j0 k bt230.2.2.2.2.2.1 (bt250.2.2.2.1 == 0) bt230.1 bt230.2.1 bt230.2.2.1 bt250.1 bt250.2.1) else (some (0, (⟨#[]⟩ : ByteArray), (⟨#[]⟩ : ByteArray), 0, 0, bt250.2.2.2.2)))) else (some (0, (⟨#[]⟩ : ByteArray), (⟨#[]⟩ : ByteArray), 0, 0, 6)))) else (some (0, (⟨#[]⟩ : ByteArray), (⟨#[]⟩ : ByteArray), 0, 0, bt230.2.2.2.2.2.2)))
def palanquinref09_Get.T11 : Bool × List (List Nat × List Nat) := (true, [([], []), ([0], [0]), ([], []), ([2], [2]), ([0, 1], []), ([4, 1, 0, 1], [1, 4]), ([0, 1, 2, 3, 4, 5], []), ([6, 3, 5, 0, 1, 2, 3, 4, 5], [3, 6])])
def palanquinref09_Get.B11 : List Nat := [0, 1, 0, 4, 3, 19, 63, 127]
theorem palanquinref09_Get.tab11 : rtab .any (opsOf Try.f12 11) = palanquinref09_Get.T11 := by kernel_rfl
theorem palanquinref09_Get.bits11 : waitsOk palanquinref09_Get.T11.2 palanquinref09_Get.B11 = true := by kernel_rfl
def palanquinref09_Get.T16 : Bool × List (List Nat × List Nat) := (true, [([], []), ([0], [0]), ([], []), ([2], [2]), ([0, 1], []), ([4, 1, 0, 1], [1, 4]), ([0, 1, 2, 3, 4, 5], []), ([6, 3, 5, 0, 1, 2, 3, 4, 5], [3, 6])])
def palanquinref09_Get.B16 : List Nat := [0, 1, 0, 4, 3, 19, 63, 127]
theorem palanquinref09_Get.tab16 : rtab .any (opsOf Try.f12 16) = palanquinref09_Get.T16 := by kernel_rfl
theorem palanquinref09_Get.bits16 : waitsOk palanquinref09_Get.T16.2 palanquinref09_Get.B16 = true := by kernel_rfl
set_option maxHeartbeats 8000000 in
set_option maxRecDepth 100000 in
theorem palanquinref09_Get.calls (k : Nat) (a0 : ByteArray) (r1 : Int) (r2 : ByteArray) (r3 : ByteArray) (r4 : Int) (r5 : Int) (r6 : Int) (w : World) (h : palanquinref09_Get.f k a0 = some (r1, r2, r3, r4, r5, r6)) :
  Calls Try.prog 12 #[.string a0] w fun e w' => e = .returned (.tuple #[.agg #[.int .i64 r1, .string r2, .string r3, .int .i64 r4, .int .i64 r5], .int .i64 r6]) ∧ Below w.heap.size w w' := by
 have hu24 := Try.underlying24
 have hu69 := Try.underlying69
 have hu73 := Try.underlying73
 have HB := mA (Below.refl w.heap.size w)
 have H : ((palanquinref09_open.f k a0).bind fun bt230 => (if bt230.2.2.2.2.2.2 = 0 then (if bt230.1 = 6 then ((palanquinref07_Get.f bt230.2.2.2.2.2.1).bind fun bt238 => (if bt238.2.2.2.2.2.2.2.2.2.2 = 0 then (palanquinref09_Get.j0 k bt230.2.2.2.2.2.1 false bt230.1 bt230.2.1 bt230.2.2.1 bt238.1 bt238.2.1) else (some (0, (⟨#[]⟩ : ByteArray), (⟨#[]⟩ : ByteArray), 0, 0, bt238.2.2.2.2.2.2.2.2.2.2)))) else (if bt230.1 = 17 then ((palanquinref08_Get.f k bt230.2.2.2.2.2.1).bind fun bt250 => (if bt250.2.2.2.2 = 0 then (palanquinref09_Get.j0 k bt230.2.2.2.2.2.1 (bt250.2.2.2.1 == 0) bt230.1 bt230.2.1 bt230.2.2.1 bt250.1 bt250.2.1) else (some (0, (⟨#[]⟩ : ByteArray), (⟨#[]⟩ : ByteArray), 0, 0, bt250.2.2.2.2)))) else (some (0, (⟨#[]⟩ : ByteArray), (⟨#[]⟩ : ByteArray), 0, 0, 6)))) else (some (0, (⟨#[]⟩ : ByteArray), (⟨#[]⟩ : ByteArray), 0, 0, bt230.2.2.2.2.2.2)))) = some (r1, r2, r3, r4, r5, r6) := h
 clear h
 replace H := Option.bind_eq_some_iff.mp H
 obtain ⟨⟨t230, t231, t232, t233, t234, t235, t236⟩, A20, H⟩ := H
 try dsimp +instances only at H
 have A2 := mA A20
 clear A20
 by_cases c3 : t236 = 0
 ·rw [if_pos c3] at H
  have c3b0 : (t236 == 0) = true := beq_iff_eq.mpr c3
  have c3b1 : (t236 != 0) = false := bne_eq_false_iff_eq.mpr c3
  clear c3
  have HC4 := mA H
  clear H
  go_enter Try.func12, Try.ntmps12
  go_upto_block 0 with (first | ((with_reducible refine gate_dst (N := 2) rfl ?_); refine box_event ?hg (N := 2) ?hd (cs := #[.int .i64 0, .string ⟨#[]⟩, .string ⟨#[]⟩, .int .i64 0, .int .i64 0]) (t := 24) ?hr ?_; (case hd => rfl); (case hg => rfl); (case hr => first | (go_simp; done) | (go_simp; rfl)); intro gb229 hg w5 hbox hb; obtain ⟨n0_, nq_⟩ := bpr (by repeat (first | (with_reducible first | exact HB.out | apply bA | apply bN | apply bD) | exact HB.out)) hb; have n1_ := mA (hbox); have n2_ := mA ((by rw [hg]; exact nq_ : w.heap.size ≤ gb229)); have n3_ := mA ((by rw [hg]; exact nq_ : w.heap.size ≤ gb229)); clear HB; have HB := n0_; have BK229 := n1_; have GW229 := n2_; have GE229 := n3_; clear nq_; clear n0_ n1_ n2_ n3_; clear hb hbox hg) | ((with_reducible refine gate_callee (f := 29) rfl ?_); refine goesL_ (some 17) rfl rfl Try.func29 (by kernel_rfl) rfl #[.string a0] rfl (by (try simp only [List.map_toArray, List.map_cons, List.map_nil]); first | done | rfl | (simp only [List.length_drop, List.length_take]; rfl)) ?_; (with_reducible refine (palanquinref09_open.calls k a0 t230 t231 t232 t233 t234 t235 t236 _ A2.out).mono ?_); rintro e w6 ⟨rfl, hb⟩; refine ⟨_, rfl, ?_⟩; have n0_ := mA (blk_below (g := gb229) (o := .cells #[.int .i64 0, .string ⟨#[]⟩, .string ⟨#[]⟩, .int .i64 0, .int .i64 0] 24 (0, 0)) (by (with_reducible repeat (first | apply kN | apply kD | apply kA)); exact BK229.out) hb); have n1_ := mA (bP (by repeat (first | (with_reducible first | exact HB.out | apply bA | apply bN | apply bD | refine bS ?_ GE229.out) | exact HB.out)) hb); clear BK229; clear HB; have BK229 := n0_; have HB := n1_; clear n0_ n1_; (try clear hb); (try clear hb2); (try clear hk); (try clear hi)) | ((with_reducible refine gate_dst (N := 4) rfl ?_); refine box_event ?hg (N := 4) ?hd (cs := #[.int .i64 0, .string ⟨#[]⟩, .string ⟨#[]⟩, .int .i64 0, .int .i64 0]) (t := 24) ?hr ?_; (case hd => rfl); (case hg => rfl); (case hr => first | (go_simp; done) | (go_simp; rfl)); intro gb237 hg w7 hbox hb; obtain ⟨n0_, nl229_⟩ := bt3 (g := gb229) (o := .cells #[.int .i64 0, .string ⟨#[]⟩, .string ⟨#[]⟩, .int .i64 0, .int .i64 0] 24 (0, 0)) (by (with_reducible repeat (first | apply kN | apply kD | apply kA)); exact BK229.out) hb; obtain ⟨n1_, nq_⟩ := bpr (by repeat (first | (with_reducible first | exact HB.out | apply bA | apply bN | apply bD | refine bS ?_ GE229.out) | exact HB.out)) hb; have n2_ := mA (hbox); have n3_ := mA ((by rw [hg]; exact nq_ : w.heap.size ≤ gb237)); have n4_ := mA ((by rw [hg]; exact nq_ : w.heap.size ≤ gb237)); have n5_ := mA ((by rw [hg]; exact Nat.ne_of_lt nl229_ : gb229 ≠ gb237)); have n6_ := mA ((by rw [hg]; exact Nat.ne_of_gt nl229_ : gb237 ≠ gb229)); clear BK229; clear HB; have BK229 := n0_; have HB := n1_; have BK237 := n2_; have GW237 := n3_; have GE237 := n4_; have NB229_237 := n5_; have NB237_229 := n6_; clear nl229_; clear nq_; clear n0_ n1_ n2_ n3_ n4_ n5_ n6_; clear hb hbox hg; have hnb8 := NB237_229.out; have hnc8 := NB229_237.out; obtain ⟨hcz9_0, hcz9_1, hcz9_2, hcz9_3, hcz9_4⟩ := bc5 BK237.out; obtain ⟨hfz9_0, hfz9_1, hfz9_2, hfz9_3, hfz9_4⟩ := bf5 BK237.out))
  (try simp only [Act.put, List.setIfInBounds_toArray, List.set_cons_zero, List.set_cons_succ])
  go_cut [7] (fun v7 wc => ∃ (kq : Nat) (x7_3 : Bool) (x230000_3 : Int) (x230001_3 : ByteArray) (x230002_3 : ByteArray) (x230003_3 : Int) (x230004_3 : Int) (x238003_3 : Int) (x238004_3 : Int), v7 = .bool x7_3 ∧ Aside0 (palanquinref09_Get.j0 kq t235 x7_3 t230 t231 t232 x238003_3 x238004_3 = some (r1, r2, r3, r4, r5, r6)) ∧ Aside0 (kq ≤ k) ∧ Aside0 (wc.heap[gb229]? = some (.cells #[.int .i64 x230000_3, .string x230001_3, .string x230002_3, .int .i64 x230003_3, .int .i64 x230004_3] 24 (0, 0))) ∧ Aside0 (wc.heap[gb237]? = some (.cells #[.int .i64 t230, .string t231, .string t232, .int .i64 x238003_3, .int .i64 x238004_3] 24 (0, 0))) ∧ Aside0 (Below w.heap.size w wc))
  case first =>
   have H := HC4.out
   clear HC4
   by_cases c10 : t230 = 6
   ·rw [if_pos c10] at H
    have c10b0 : (t230 == 6) = true := beq_iff_eq.mpr c10
    have c10b1 : (t230 != 6) = false := bne_eq_false_iff_eq.mpr c10
    clear c10
    (first | rw [c10b0] | (simp only [i64_w, i32_w]; rw [c10b0]) | skip)
    replace H := Option.bind_eq_some_iff.mp H
    obtain ⟨⟨t238, t239, t240, t241, t242, t243, t244, t245, t246, t247, t248⟩, A110, H⟩ := H
    try dsimp +instances only at H
    have A11 := mA A110
    clear A110
    by_cases c12 : t248 = 0
    ·rw [if_pos c12] at H
     have c12b0 : (t248 == 0) = true := beq_iff_eq.mpr c12
     have c12b1 : (t248 != 0) = false := bne_eq_false_iff_eq.mpr c12
     clear c12
     have H' := mA H
     clear H
     try go_wp2_with (first | ((with_reducible refine gate_callee (f := 30) rfl ?_); refine goesL_ (some 32) rfl rfl Try.func30 (by kernel_rfl) rfl #[.string t235] rfl (by (try simp only [List.map_toArray, List.map_cons, List.map_nil]); first | done | rfl | (simp only [List.length_drop, List.length_take]; rfl)) ?_; (with_reducible refine (palanquinref07_Get.calls t235 t238 t239 t240 t241 t242 t243 t244 t245 t246 t247 t248 _ A11.out).mono ?_); rintro e w13 ⟨rfl, hb⟩; refine ⟨_, rfl, ?_⟩; have n0_ := mA (blk_below (g := gb229) (o := .cells #[.int .i64 0, .string ⟨#[]⟩, .string ⟨#[]⟩, .int .i64 0, .int .i64 0] 24 (0, 0)) (by (with_reducible repeat (first | apply kN | apply kD | apply kA | refine blk_far ?_ NB229_237.out _)); exact BK229.out) hb); have n1_ := mA (blk_below (g := gb237) (o := .cells #[.int .i64 t230, .string t231, .string t232, .int .i64 t233, .int .i64 t234] 24 (0, 0)) (by (with_reducible repeat (first | apply kN | apply kD | apply kA)); refine blk_put (cs := #[.int .i64 t230, .string t231, .string t232, .int .i64 t233, .int .i64 0]) ?_ 4 _ (by first | rfl | (simp [*]; done)); (with_reducible repeat (first | apply kN | apply kD | apply kA)); refine blk_put (cs := #[.int .i64 t230, .string t231, .string t232, .int .i64 0, .int .i64 0]) ?_ 3 _ (by first | rfl | (simp [*]; done)); (with_reducible repeat (first | apply kN | apply kD | apply kA)); refine blk_put (cs := #[.int .i64 t230, .string t231, .string ⟨#[]⟩, .int .i64 0, .int .i64 0]) ?_ 2 _ (by first | rfl | (simp [*]; done)); (with_reducible repeat (first | apply kN | apply kD | apply kA)); refine blk_put (cs := #[.int .i64 t230, .string ⟨#[]⟩, .string ⟨#[]⟩, .int .i64 0, .int .i64 0]) ?_ 1 _ (by first | rfl | (simp [*]; done)); (with_reducible repeat (first | apply kN | apply kD | apply kA)); refine blk_put (cs := #[.int .i64 0, .string ⟨#[]⟩, .string ⟨#[]⟩, .int .i64 0, .int .i64 0]) ?_ 0 _ (by first | rfl | (simp [*]; done)); (with_reducible repeat (first | apply kN | apply kD | apply kA)); exact BK237.out) hb); have n2_ := mA (bP (by repeat (first | (with_reducible first | exact HB.out | apply bA | apply bN | apply bD | refine bS ?_ GE229.out | refine bS ?_ GE237.out) | exact HB.out)) hb); clear BK229; clear BK237; clear HB; have BK229 := n0_; have BK237 := n1_; have HB := n2_; clear n0_ n1_ n2_; (try clear hb); (try clear hb2); (try clear hk); (try clear hi)) | ((with_reducible refine gate_dst (N := 8) rfl ?_); refine box_event ?hg (N := 8) ?hd (cs := #[.int .i64 0, .int .i64 0, .int .u32 0, .int .u32 0, .int .i64 0, .int .i64 0, .int .i64 0, .string ⟨#[]⟩, .string ⟨#[]⟩]) (t := 69) ?hr ?_; (case hd => rfl); (case hg => rfl); (case hr => first | (go_simp; done) | (go_simp; rfl)); intro gb249 hg w14 hbox hb; obtain ⟨n0_, nl229_⟩ := bt3 (g := gb229) (o := .cells #[.int .i64 0, .string ⟨#[]⟩, .string ⟨#[]⟩, .int .i64 0, .int .i64 0] 24 (0, 0)) (by (with_reducible repeat (first | apply kN | apply kD | apply kA)); exact BK229.out) hb; obtain ⟨n1_, nl237_⟩ := bt3 (g := gb237) (o := .cells #[.int .i64 t230, .string t231, .string t232, .int .i64 t233, .int .i64 t234] 24 (0, 0)) (by (with_reducible repeat (first | apply kN | apply kD | apply kA)); exact BK237.out) hb; obtain ⟨n2_, nq_⟩ := bpr (by repeat (first | (with_reducible first | exact HB.out | apply bA | apply bN | apply bD | refine bS ?_ GE229.out | refine bS ?_ GE237.out) | exact HB.out)) hb; have n3_ := mA (hbox); have n4_ := mA ((by rw [hg]; exact nq_ : w.heap.size ≤ gb249)); have n5_ := mA ((by rw [hg]; exact nq_ : w.heap.size ≤ gb249)); have n6_ := mA ((by rw [hg]; exact Nat.ne_of_lt nl229_ : gb229 ≠ gb249)); have n7_ := mA ((by rw [hg]; exact Nat.ne_of_gt nl229_ : gb249 ≠ gb229)); have n8_ := mA ((by rw [hg]; exact Nat.ne_of_lt nl237_ : gb237 ≠ gb249)); have n9_ := mA ((by rw [hg]; exact Nat.ne_of_gt nl237_ : gb249 ≠ gb237)); clear BK229; clear BK237; clear HB; have BK229 := n0_; have BK237 := n1_; have HB := n2_; have BK249 := n3_; have GW249 := n4_; have GE249 := n5_; have NB229_249 := n6_; have NB249_229 := n7_; have NB237_249 := n8_; have NB249_237 := n9_; clear nl229_; clear nl237_; clear nq_; clear n0_ n1_ n2_ n3_ n4_ n5_ n6_ n7_ n8_ n9_; clear hb hbox hg; have hnb15 := NB249_229.out; have hnc15 := NB229_249.out; have hnb16 := NB249_237.out; have hnc16 := NB237_249.out; obtain ⟨hcz17_0, hcz17_1, hcz17_2, hcz17_3, hcz17_4, hcz17_5, hcz17_6, hcz17_7, hcz17_8⟩ := bc9 BK249.out; obtain ⟨hfz17_0, hfz17_1, hfz17_2, hfz17_3, hfz17_4, hfz17_5, hfz17_6, hfz17_7, hfz17_8⟩ := bf9 BK249.out))
     have n0_ : Aside0 ((((((((((w14.setCell ⟨gb249, 0, none⟩ (.int .i64 t238)).setCell ⟨gb249, 1, none⟩ (.int .i64 t239)).setCell ⟨gb249, 2, none⟩ (.int .u32 t240)).setCell ⟨gb249, 3, none⟩ (.int .u32 t241)).setCell ⟨gb249, 4, none⟩ (.int .i64 t242)).setCell ⟨gb249, 5, none⟩ (.int .i64 t243)).setCell ⟨gb249, 6, none⟩ (.int .i64 t244)).setCell ⟨gb249, 7, none⟩ (.string t245)).setCell ⟨gb249, 8, none⟩ (.string t246)).heap[gb229]? = some (.cells #[.int .i64 0, .string ⟨#[]⟩, .string ⟨#[]⟩, .int .i64 0, .int .i64 0] 24 (0, 0))) := ⟨by (with_reducible repeat (first | apply kN | apply kD | apply kA | refine blk_far ?_ NB229_249.out _)); exact BK229.out⟩
     have n1_ : Aside0 ((((((((((w14.setCell ⟨gb249, 0, none⟩ (.int .i64 t238)).setCell ⟨gb249, 1, none⟩ (.int .i64 t239)).setCell ⟨gb249, 2, none⟩ (.int .u32 t240)).setCell ⟨gb249, 3, none⟩ (.int .u32 t241)).setCell ⟨gb249, 4, none⟩ (.int .i64 t242)).setCell ⟨gb249, 5, none⟩ (.int .i64 t243)).setCell ⟨gb249, 6, none⟩ (.int .i64 t244)).setCell ⟨gb249, 7, none⟩ (.string t245)).setCell ⟨gb249, 8, none⟩ (.string t246)).heap[gb237]? = some (.cells #[.int .i64 t230, .string t231, .string t232, .int .i64 t233, .int .i64 t234] 24 (0, 0))) := ⟨by (with_reducible repeat (first | apply kN | apply kD | apply kA | refine blk_far ?_ NB237_249.out _)); exact BK237.out⟩
     have n2_ : Aside0 ((((((((((w14.setCell ⟨gb249, 0, none⟩ (.int .i64 t238)).setCell ⟨gb249, 1, none⟩ (.int .i64 t239)).setCell ⟨gb249, 2, none⟩ (.int .u32 t240)).setCell ⟨gb249, 3, none⟩ (.int .u32 t241)).setCell ⟨gb249, 4, none⟩ (.int .i64 t242)).setCell ⟨gb249, 5, none⟩ (.int .i64 t243)).setCell ⟨gb249, 6, none⟩ (.int .i64 t244)).setCell ⟨gb249, 7, none⟩ (.string t245)).setCell ⟨gb249, 8, none⟩ (.string t246)).heap[gb249]? = some (.cells #[.int .i64 t238, .int .i64 t239, .int .u32 t240, .int .u32 t241, .int .i64 t242, .int .i64 t243, .int .i64 t244, .string t245, .string t246] 69 (0, 0))) := ⟨by (with_reducible repeat (first | apply kN | apply kD | apply kA)); refine blk_put (cs := #[.int .i64 t238, .int .i64 t239, .int .u32 t240, .int .u32 t241, .int .i64 t242, .int .i64 t243, .int .i64 t244, .string t245, .string ⟨#[]⟩]) ?_ 8 _ (by first | rfl | (simp [*]; done)); (with_reducible repeat (first | apply kN | apply kD | apply kA)); refine blk_put (cs := #[.int .i64 t238, .int .i64 t239, .int .u32 t240, .int .u32 t241, .int .i64 t242, .int .i64 t243, .int .i64 t244, .string ⟨#[]⟩, .string ⟨#[]⟩]) ?_ 7 _ (by first | rfl | (simp [*]; done)); (with_reducible repeat (first | apply kN | apply kD | apply kA)); refine blk_put (cs := #[.int .i64 t238, .int .i64 t239, .int .u32 t240, .int .u32 t241, .int .i64 t242, .int .i64 t243, .int .i64 0, .string ⟨#[]⟩, .string ⟨#[]⟩]) ?_ 6 _ (by first | rfl | (simp [*]; done)); (with_reducible repeat (first | apply kN | apply kD | apply kA)); refine blk_put (cs := #[.int .i64 t238, .int .i64 t239, .int .u32 t240, .int .u32 t241, .int .i64 t242, .int .i64 0, .int .i64 0, .string ⟨#[]⟩, .string ⟨#[]⟩]) ?_ 5 _ (by first | rfl | (simp [*]; done)); (with_reducible repeat (first | apply kN | apply kD | apply kA)); refine blk_put (cs := #[.int .i64 t238, .int .i64 t239, .int .u32 t240, .int .u32 t241, .int .i64 0, .int .i64 0, .int .i64 0, .string ⟨#[]⟩, .string ⟨#[]⟩]) ?_ 4 _ (by first | rfl | (simp [*]; done)); (with_reducible repeat (first | apply kN | apply kD | apply kA)); refine blk_put (cs := #[.int .i64 t238, .int .i64 t239, .int .u32 t240, .int .u32 0, .int .i64 0, .int .i64 0, .int .i64 0, .string ⟨#[]⟩, .string ⟨#[]⟩]) ?_ 3 _ (by first | rfl | (simp [*]; done)); (with_reducible repeat (first | apply kN | apply kD | apply kA)); refine blk_put (cs := #[.int .i64 t238, .int .i64 t239, .int .u32 0, .int .u32 0, .int .i64 0, .int .i64 0, .int .i64 0, .string ⟨#[]⟩, .string ⟨#[]⟩]) ?_ 2 _ (by first | rfl | (simp [*]; done)); (with_reducible repeat (first | apply kN | apply kD | apply kA)); refine blk_put (cs := #[.int .i64 t238, .int .i64 0, .int .u32 0, .int .u32 0, .int .i64 0, .int .i64 0, .int .i64 0, .string ⟨#[]⟩, .string ⟨#[]⟩]) ?_ 1 _ (by first | rfl | (simp [*]; done)); (with_reducible repeat (first | apply kN | apply kD | apply kA)); refine blk_put (cs := #[.int .i64 0, .int .i64 0, .int .u32 0, .int .u32 0, .int .i64 0, .int .i64 0, .int .i64 0, .string ⟨#[]⟩, .string ⟨#[]⟩]) ?_ 0 _ (by first | rfl | (simp [*]; done)); (with_reducible repeat (first | apply kN | apply kD | apply kA)); exact BK249.out⟩
     have n3_ : Aside0 (Below w.heap.size w (((((((((w14.setCell ⟨gb249, 0, none⟩ (.int .i64 t238)).setCell ⟨gb249, 1, none⟩ (.int .i64 t239)).setCell ⟨gb249, 2, none⟩ (.int .u32 t240)).setCell ⟨gb249, 3, none⟩ (.int .u32 t241)).setCell ⟨gb249, 4, none⟩ (.int .i64 t242)).setCell ⟨gb249, 5, none⟩ (.int .i64 t243)).setCell ⟨gb249, 6, none⟩ (.int .i64 t244)).setCell ⟨gb249, 7, none⟩ (.string t245)).setCell ⟨gb249, 8, none⟩ (.string t246))) := ⟨by repeat (first | (with_reducible first | exact HB.out | apply bA | apply bN | apply bD | refine bS ?_ GE229.out | refine bS ?_ GE237.out | refine bS ?_ GE249.out) | exact HB.out)⟩
     (try clear BK229)
     (try clear BK237)
     (try clear BK249)
     (try clear HB)
     generalize (((((((((w14.setCell ⟨gb249, 0, none⟩ (.int .i64 t238)).setCell ⟨gb249, 1, none⟩ (.int .i64 t239)).setCell ⟨gb249, 2, none⟩ (.int .u32 t240)).setCell ⟨gb249, 3, none⟩ (.int .u32 t241)).setCell ⟨gb249, 4, none⟩ (.int .i64 t242)).setCell ⟨gb249, 5, none⟩ (.int .i64 t243)).setCell ⟨gb249, 6, none⟩ (.int .i64 t244)).setCell ⟨gb249, 7, none⟩ (.string t245)).setCell ⟨gb249, 8, none⟩ (.string t246)) = w18 at n0_ n1_ n2_ n3_ ⊢
     have BK229 := n0_
     have BK237 := n1_
     have BK249 := n2_
     have HB := n3_
     clear n0_ n1_ n2_ n3_
     have n0_ := mA (kD BK229.out)
     have n1_ := mA (kD BK237.out)
     have n2_ := mA (kD BK249.out)
     have n3_ := mA (bD HB.out)
     clear BK229
     clear BK237
     clear BK249
     clear HB
     have BK229 := n0_
     have BK237 := n1_
     have BK249 := n2_
     have HB := n3_
     clear n0_ n1_ n2_ n3_
     refine start_ (n := 8) (S := fun w' => w'.cell? ⟨gb249, 0, none⟩ = some (.int .i64 t238) ∧ w'.cell? ⟨gb249, 1, none⟩ = some (.int .i64 t239) ∧ w'.cell? ⟨gb249, 2, none⟩ = some (.int .u32 t240) ∧ w'.cell? ⟨gb249, 3, none⟩ = some (.int .u32 t241) ∧ w'.cell? ⟨gb249, 4, none⟩ = some (.int .i64 t242) ∧ w'.cell? ⟨gb249, 5, none⟩ = some (.int .i64 t243) ∧ w'.cell? ⟨gb249, 6, none⟩ = some (.int .i64 t244) ∧ w'.cell? ⟨gb249, 7, none⟩ = some (.string t245) ∧ w'.cell? ⟨gb249, 8, none⟩ = some (.string t246)) (ds := []) (bv 8 0) (by kernel_rfl) rfl rfl ⟨(zC BK249.out 0).trans rfl, (zC BK249.out 1).trans rfl, (zC BK249.out 2).trans rfl, (zC BK249.out 3).trans rfl, (zC BK249.out 4).trans rfl, (zC BK249.out 5).trans rfl, (zC BK249.out 6).trans rfl, (zC BK249.out 7).trans rfl, (zC BK249.out 8).trans rfl⟩ (fun hHeld => ?_); refine with_tabW palanquinref09_Get.tab11 palanquinref09_Get.bits11 (fun HT_ HW_ => ?_)
     generalize w18.drew = w19 at BK229 BK237 BK249 HB hHeld ⊢
     refine pure_ (i := 0) (N := some 40) (v := ?_) (a' := ?_) (bv 8 1) rfl rfl (any_of HT_.out (by kernel_rfl)) (fun _ _ _ h => h) (Or.inl ⟨by rfl, ?_⟩) ?_ ?_; rotate_left; (intro w'; go_simp; with_reducible rfl); rotate_left; (simp only [Act.put, List.setIfInBounds_toArray, List.set_cons_zero, List.set_cons_succ, i64_w, i32_w]; rfl)
     refine pure_ (i := 2) (N := some 42) (v := ?_) (a' := ?_) (bv 8 5) rfl rfl (any_of HT_.out (by kernel_rfl)) (fun _ _ _ h => h) (Or.inl ⟨by rfl, ?_⟩) ?_ ?_; rotate_left; (intro w'; go_simp; with_reducible rfl); rotate_left; (simp only [Act.put, List.setIfInBounds_toArray, List.set_cons_zero, List.set_cons_succ, i64_w, i32_w]; rfl)
     refine take_ (i := 1) (N := some 41) (v := ?_) (a' := ?_) (bv 8 7) rfl rfl (take_ofW HT_.out HW_.out (by kernel_rfl)) (fun _ _ _ h => h) (Or.inl ⟨by rfl, ?_⟩) hHeld ?_ ?_; rotate_left; (rintro w' ⟨s0, s1, s2, s3, s4, s5, s6, s7, s8⟩; go_simp; with_reducible rfl); rotate_left; (simp only [Act.put, List.setIfInBounds_toArray, List.set_cons_zero, List.set_cons_succ, i64_w, i32_w]; rfl)
     refine pure_ (i := 4) (N := some 44) (v := ?_) (a' := ?_) (bv 8 23) rfl rfl (any_of HT_.out (by kernel_rfl)) (fun _ _ _ h => h) (Or.inl ⟨by rfl, ?_⟩) ?_ ?_; rotate_left; (intro w'; go_simp; with_reducible rfl); rotate_left; (simp only [Act.put, List.setIfInBounds_toArray, List.set_cons_zero, List.set_cons_succ, i64_w, i32_w]; rfl)
     refine take_ (i := 3) (N := some 43) (v := ?_) (a' := ?_) (bv 8 31) rfl rfl (take_ofW HT_.out HW_.out (by kernel_rfl)) (fun _ _ _ h => h) (Or.inl ⟨by rfl, ?_⟩) hHeld ?_ ?_; rotate_left; (rintro w' ⟨s0, s1, s2, s3, s4, s5, s6, s7, s8⟩; go_simp; with_reducible rfl); rotate_left; (simp only [Act.put, List.setIfInBounds_toArray, List.set_cons_zero, List.set_cons_succ, i64_w, i32_w]; rfl)
     refine one_ (i := 5) (N := none) (bv 8 63) rfl rfl (one_of HT_.out (by kernel_rfl)) (by decide) (fun K hK => ?_)
     have hs20 : w19.cell? ⟨gb237, 3, none⟩ = some (.int .i64 t233) := (zC BK237.out 3).trans rfl
     have hfs20 := zF BK237.out 3
     have hns20_0 := NB229_237.out
     have hns20_2 := NB249_237.out
     have hms20_0 := NB237_229.out
     have hms20_2 := NB237_249.out
     refine skip_ (w1 := ?_) (by rfl) rfl ?_ ?_
     rotate_left
     ·go_simp
      rfl
     refine hK.out _ _ ⟨((cell_far (p := ⟨gb237, _, none⟩) NB249_237.out _).trans (hHeld.1)), ((cell_far (p := ⟨gb237, _, none⟩) NB249_237.out _).trans (hHeld.2.1)), ((cell_far (p := ⟨gb237, _, none⟩) NB249_237.out _).trans (hHeld.2.2.1)), ((cell_far (p := ⟨gb237, _, none⟩) NB249_237.out _).trans (hHeld.2.2.2.1)), ((cell_far (p := ⟨gb237, _, none⟩) NB249_237.out _).trans (hHeld.2.2.2.2.1)), ((cell_far (p := ⟨gb237, _, none⟩) NB249_237.out _).trans (hHeld.2.2.2.2.2.1)), ((cell_far (p := ⟨gb237, _, none⟩) NB249_237.out _).trans (hHeld.2.2.2.2.2.2.1)), ((cell_far (p := ⟨gb237, _, none⟩) NB249_237.out _).trans (hHeld.2.2.2.2.2.2.2.1)), ((cell_far (p := ⟨gb237, _, none⟩) NB249_237.out _).trans (hHeld.2.2.2.2.2.2.2.2))⟩ (fun hHeld => ?_)
     clear hK K
     refine pure_ (i := 6) (N := some 45) (v := ?_) (a' := ?_) (bv 8 127) rfl rfl (any_of HT_.out (by kernel_rfl)) (fun _ _ _ h => h) (Or.inl ⟨by rfl, ?_⟩) ?_ ?_; rotate_left; (intro w'; go_simp; with_reducible rfl); rotate_left; (simp only [Act.put, List.setIfInBounds_toArray, List.set_cons_zero, List.set_cons_succ, i64_w, i32_w]; rfl)
     refine one_ (i := 7) (N := none) (bv 8 255) rfl rfl (one_of HT_.out (by kernel_rfl)) (by decide) (fun K hK => ?_)
     have hs21 : w19.cell? ⟨gb237, 4, none⟩ = some (.int .i64 t234) := (zC BK237.out 4).trans rfl
     have hfs21 := zF BK237.out 4
     have hns21_0 := NB229_237.out
     have hns21_2 := NB249_237.out
     have hms21_0 := NB237_229.out
     have hms21_2 := NB237_249.out
     refine skip_ (w1 := ?_) (by rfl) rfl ?_ ?_
     rotate_left
     ·go_simp
      rfl
     refine hK.out _ _ ⟨((cell_far (p := ⟨gb237, _, none⟩) NB249_237.out _).trans (hHeld.1)), ((cell_far (p := ⟨gb237, _, none⟩) NB249_237.out _).trans (hHeld.2.1)), ((cell_far (p := ⟨gb237, _, none⟩) NB249_237.out _).trans (hHeld.2.2.1)), ((cell_far (p := ⟨gb237, _, none⟩) NB249_237.out _).trans (hHeld.2.2.2.1)), ((cell_far (p := ⟨gb237, _, none⟩) NB249_237.out _).trans (hHeld.2.2.2.2.1)), ((cell_far (p := ⟨gb237, _, none⟩) NB249_237.out _).trans (hHeld.2.2.2.2.2.1)), ((cell_far (p := ⟨gb237, _, none⟩) NB249_237.out _).trans (hHeld.2.2.2.2.2.2.1)), ((cell_far (p := ⟨gb237, _, none⟩) NB249_237.out _).trans (hHeld.2.2.2.2.2.2.2.1)), ((cell_far (p := ⟨gb237, _, none⟩) NB249_237.out _).trans (hHeld.2.2.2.2.2.2.2.2))⟩ (fun hHeld => ?_)
     clear hK K
     refine done_ (done_of HT_.out (by kernel_rfl)) ?_
     try go_wp2
     go_meet
     case rel => exact ⟨_, (false), (0), ((⟨#[]⟩ : ByteArray)), ((⟨#[]⟩ : ByteArray)), (0), (0), (t238), (t239), (by first | rfl | (simp; done) | (simp [*]; done)), H', ⟨by first | omega | exact Nat.le_refl _⟩, ⟨by (with_reducible repeat (first | apply kN | apply kD | apply kA | refine blk_far ?_ NB229_237.out _)); exact BK229.out⟩, ⟨by (with_reducible repeat (first | apply kN | apply kD | apply kA)); refine blk_put (cs := #[.int .i64 t230, .string t231, .string t232, .int .i64 t238, .int .i64 t234]) ?_ 4 _ (by first | rfl | (simp [*]; done)); (with_reducible repeat (first | apply kN | apply kD | apply kA)); refine blk_put (cs := #[.int .i64 t230, .string t231, .string t232, .int .i64 t233, .int .i64 t234]) ?_ 3 _ (by first | rfl | (simp [*]; done)); (with_reducible repeat (first | apply kN | apply kD | apply kA)); exact BK237.out⟩, ⟨by repeat (first | (with_reducible first | exact HB.out | apply bA | apply bN | apply bD | refine bS ?_ GE229.out | refine bS ?_ GE237.out | refine bS ?_ GE249.out) | exact HB.out)⟩⟩
    ·rw [if_neg c12] at H
     have c12b0 : (t248 == 0) = false := beq_eq_false_iff_ne.mpr c12
     have c12b1 : (t248 != 0) = true := bne_iff_ne.mpr c12
     simp only [Option.some.injEq, Prod.mk.injEq] at H
     obtain ⟨rfl, rfl, rfl, rfl, rfl, rfl⟩ := H
     go_wp2_with (first | ((with_reducible refine gate_callee (f := 30) rfl ?_); refine goesL_ (some 32) rfl rfl Try.func30 (by kernel_rfl) rfl #[.string t235] rfl (by (try simp only [List.map_toArray, List.map_cons, List.map_nil]); first | done | rfl | (simp only [List.length_drop, List.length_take]; rfl)) ?_; (with_reducible refine (palanquinref07_Get.calls t235 t238 t239 t240 t241 t242 t243 t244 t245 t246 t247 t248 _ A11.out).mono ?_); rintro e w22 ⟨rfl, hb⟩; refine ⟨_, rfl, ?_⟩; have n0_ := mA (blk_below (g := gb229) (o := .cells #[.int .i64 0, .string ⟨#[]⟩, .string ⟨#[]⟩, .int .i64 0, .int .i64 0] 24 (0, 0)) (by (with_reducible repeat (first | apply kN | apply kD | apply kA | refine blk_far ?_ NB229_237.out _)); exact BK229.out) hb); have n1_ := mA (blk_below (g := gb237) (o := .cells #[.int .i64 t230, .string t231, .string t232, .int .i64 t233, .int .i64 t234] 24 (0, 0)) (by (with_reducible repeat (first | apply kN | apply kD | apply kA)); refine blk_put (cs := #[.int .i64 t230, .string t231, .string t232, .int .i64 t233, .int .i64 0]) ?_ 4 _ (by first | rfl | (simp [*]; done)); (with_reducible repeat (first | apply kN | apply kD | apply kA)); refine blk_put (cs := #[.int .i64 t230, .string t231, .string t232, .int .i64 0, .int .i64 0]) ?_ 3 _ (by first | rfl | (simp [*]; done)); (with_reducible repeat (first | apply kN | apply kD | apply kA)); refine blk_put (cs := #[.int .i64 t230, .string t231, .string ⟨#[]⟩, .int .i64 0, .int .i64 0]) ?_ 2 _ (by first | rfl | (simp [*]; done)); (with_reducible repeat (first | apply kN | apply kD | apply kA)); refine blk_put (cs := #[.int .i64 t230, .string ⟨#[]⟩, .string ⟨#[]⟩, .int .i64 0, .int .i64 0]) ?_ 1 _ (by first | rfl | (simp [*]; done)); (with_reducible repeat (first | apply kN | apply kD | apply kA)); refine blk_put (cs := #[.int .i64 0, .string ⟨#[]⟩, .string ⟨#[]⟩, .int .i64 0, .int .i64 0]) ?_ 0 _ (by first | rfl | (simp [*]; done)); (with_reducible repeat (first | apply kN | apply kD | apply kA)); exact BK237.out) hb); have n2_ := mA (bP (by repeat (first | (with_reducible first | exact HB.out | apply bA | apply bN | apply bD | refine bS ?_ GE229.out | refine bS ?_ GE237.out) | exact HB.out)) hb); clear BK229; clear BK237; clear HB; have BK229 := n0_; have BK237 := n1_; have HB := n2_; clear n0_ n1_ n2_; (try clear hb); (try clear hb2); (try clear hk); (try clear hi)) | ((with_reducible refine gate_dst (N := 8) rfl ?_); refine box_event ?hg (N := 8) ?hd (cs := #[.int .i64 0, .int .i64 0, .int .u32 0, .int .u32 0, .int .i64 0, .int .i64 0, .int .i64 0, .string ⟨#[]⟩, .string ⟨#[]⟩]) (t := 69) ?hr ?_; (case hd => rfl); (case hg => rfl); (case hr => first | (go_simp; done) | (go_simp; rfl)); intro gb249 hg w23 hbox hb; obtain ⟨n0_, nl229_⟩ := bt3 (g := gb229) (o := .cells #[.int .i64 0, .string ⟨#[]⟩, .string ⟨#[]⟩, .int .i64 0, .int .i64 0] 24 (0, 0)) (by (with_reducible repeat (first | apply kN | apply kD | apply kA)); exact BK229.out) hb; obtain ⟨n1_, nl237_⟩ := bt3 (g := gb237) (o := .cells #[.int .i64 t230, .string t231, .string t232, .int .i64 t233, .int .i64 t234] 24 (0, 0)) (by (with_reducible repeat (first | apply kN | apply kD | apply kA)); exact BK237.out) hb; obtain ⟨n2_, nq_⟩ := bpr (by repeat (first | (with_reducible first | exact HB.out | apply bA | apply bN | apply bD | refine bS ?_ GE229.out | refine bS ?_ GE237.out) | exact HB.out)) hb; have n3_ := mA (hbox); have n4_ := mA ((by rw [hg]; exact nq_ : w.heap.size ≤ gb249)); have n5_ := mA ((by rw [hg]; exact nq_ : w.heap.size ≤ gb249)); have n6_ := mA ((by rw [hg]; exact Nat.ne_of_lt nl229_ : gb229 ≠ gb249)); have n7_ := mA ((by rw [hg]; exact Nat.ne_of_gt nl229_ : gb249 ≠ gb229)); have n8_ := mA ((by rw [hg]; exact Nat.ne_of_lt nl237_ : gb237 ≠ gb249)); have n9_ := mA ((by rw [hg]; exact Nat.ne_of_gt nl237_ : gb249 ≠ gb237)); clear BK229; clear BK237; clear HB; have BK229 := n0_; have BK237 := n1_; have HB := n2_; have BK249 := n3_; have GW249 := n4_; have GE249 := n5_; have NB229_249 := n6_; have NB249_229 := n7_; have NB237_249 := n8_; have NB249_237 := n9_; clear nl229_; clear nl237_; clear nq_; clear n0_ n1_ n2_ n3_ n4_ n5_ n6_ n7_ n8_ n9_; clear hb hbox hg; have hnb24 := NB249_229.out; have hnc24 := NB229_249.out; have hnb25 := NB249_237.out; have hnc25 := NB237_249.out; obtain ⟨hcz26_0, hcz26_1, hcz26_2, hcz26_3, hcz26_4, hcz26_5, hcz26_6, hcz26_7, hcz26_8⟩ := bc9 BK249.out; obtain ⟨hfz26_0, hfz26_1, hfz26_2, hfz26_3, hfz26_4, hfz26_5, hfz26_6, hfz26_7, hfz26_8⟩ := bf9 BK249.out; have hnb27 := NB229_237.out; have hnc27 := NB237_229.out; obtain ⟨hcz28_0, hcz28_1, hcz28_2, hcz28_3, hcz28_4⟩ := bc5 BK229.out; obtain ⟨hfz28_0, hfz28_1, hfz28_2, hfz28_3, hfz28_4⟩ := bf5 BK229.out))
     refine bodyPost_ret (results_ct rfl _ _ gb229 24 #[.int .i64 0, .string ⟨#[]⟩, .string ⟨#[]⟩, .int .i64 0, .int .i64 0] (0, 0) _ rfl (by (with_reducible repeat (first | apply kN | apply kD | apply kA)); refine blk_put (cs := #[.int .i64 0, .string ⟨#[]⟩, .string ⟨#[]⟩, .int .i64 0, .int .i64 0]) ?_ 4 _ (by first | rfl | (simp [*]; done)); (with_reducible repeat (first | apply kN | apply kD | apply kA)); refine blk_put (cs := #[.int .i64 0, .string ⟨#[]⟩, .string ⟨#[]⟩, .int .i64 0, .int .i64 0]) ?_ 3 _ (by first | rfl | (simp [*]; done)); (with_reducible repeat (first | apply kN | apply kD | apply kA)); refine blk_put (cs := #[.int .i64 0, .string ⟨#[]⟩, .string ⟨#[]⟩, .int .i64 0, .int .i64 0]) ?_ 2 _ (by first | rfl | (simp [*]; done)); (with_reducible repeat (first | apply kN | apply kD | apply kA)); refine blk_put (cs := #[.int .i64 0, .string ⟨#[]⟩, .string ⟨#[]⟩, .int .i64 0, .int .i64 0]) ?_ 1 _ (by first | rfl | (simp [*]; done)); (with_reducible repeat (first | apply kN | apply kD | apply kA)); refine blk_put (cs := #[.int .i64 0, .string ⟨#[]⟩, .string ⟨#[]⟩, .int .i64 0, .int .i64 0]) ?_ 0 _ (by first | rfl | (simp [*]; done)); (with_reducible repeat (first | apply kN | apply kD | apply kA | refine blk_far ?_ NB229_249.out _)); exact BK229.out) Try.underlying24 rfl (by kernel_rfl)) rfl ?_
     exact ⟨by first | rfl | (simp [errW_none, errW_some] <;> rfl) | (simp [*, errW_none, errW_some] <;> rfl), by repeat (first | (with_reducible first | exact HB.out | apply bA | apply bN | apply bD | refine bS ?_ GE229.out | refine bS ?_ GE237.out | refine bS ?_ GE249.out) | exact HB.out)⟩
   ·rw [if_neg c10] at H
    have c10b0 : (t230 == 6) = false := beq_eq_false_iff_ne.mpr c10
    have c10b1 : (t230 != 6) = true := bne_iff_ne.mpr c10
    (first | rw [c10b0] | (simp only [i64_w, i32_w]; rw [c10b0]) | skip)
    by_cases c29 : t230 = 17
    ·rw [if_pos c29] at H
     have c29b0 : (t230 == 17) = true := beq_iff_eq.mpr c29
     have c29b1 : (t230 != 17) = false := bne_eq_false_iff_eq.mpr c29
     clear c29
     replace H := Option.bind_eq_some_iff.mp H
     obtain ⟨⟨t250, t251, t252, t253, t254⟩, A300, H⟩ := H
     try dsimp +instances only at H
     have A30 := mA A300
     clear A300
     by_cases c31 : t254 = 0
     ·rw [if_pos c31] at H
      have c31b0 : (t254 == 0) = true := beq_iff_eq.mpr c31
      have c31b1 : (t254 != 0) = false := bne_eq_false_iff_eq.mpr c31
      clear c31
      have H' := mA H
      clear H
      try go_wp2_with (first | ((with_reducible refine gate_callee (f := 31) rfl ?_); refine goesL_ (some 50) rfl rfl Try.func31 (by kernel_rfl) rfl #[.string t235] rfl (by (try simp only [List.map_toArray, List.map_cons, List.map_nil]); first | done | rfl | (simp only [List.length_drop, List.length_take]; rfl)) ?_; (with_reducible refine (palanquinref08_Get.calls k t235 t250 t251 t252 t253 t254 _ A30.out).mono ?_); rintro e w32 ⟨rfl, hb⟩; refine ⟨_, rfl, ?_⟩; have n0_ := mA (blk_below (g := gb229) (o := .cells #[.int .i64 0, .string ⟨#[]⟩, .string ⟨#[]⟩, .int .i64 0, .int .i64 0] 24 (0, 0)) (by (with_reducible repeat (first | apply kN | apply kD | apply kA | refine blk_far ?_ NB229_237.out _)); exact BK229.out) hb); have n1_ := mA (blk_below (g := gb237) (o := .cells #[.int .i64 t230, .string t231, .string t232, .int .i64 t233, .int .i64 t234] 24 (0, 0)) (by (with_reducible repeat (first | apply kN | apply kD | apply kA)); refine blk_put (cs := #[.int .i64 t230, .string t231, .string t232, .int .i64 t233, .int .i64 0]) ?_ 4 _ (by first | rfl | (simp [*]; done)); (with_reducible repeat (first | apply kN | apply kD | apply kA)); refine blk_put (cs := #[.int .i64 t230, .string t231, .string t232, .int .i64 0, .int .i64 0]) ?_ 3 _ (by first | rfl | (simp [*]; done)); (with_reducible repeat (first | apply kN | apply kD | apply kA)); refine blk_put (cs := #[.int .i64 t230, .string t231, .string ⟨#[]⟩, .int .i64 0, .int .i64 0]) ?_ 2 _ (by first | rfl | (simp [*]; done)); (with_reducible repeat (first | apply kN | apply kD | apply kA)); refine blk_put (cs := #[.int .i64 t230, .string ⟨#[]⟩, .string ⟨#[]⟩, .int .i64 0, .int .i64 0]) ?_ 1 _ (by first | rfl | (simp [*]; done)); (with_reducible repeat (first | apply kN | apply kD | apply kA)); refine blk_put (cs := #[.int .i64 0, .string ⟨#[]⟩, .string ⟨#[]⟩, .int .i64 0, .int .i64 0]) ?_ 0 _ (by first | rfl | (simp [*]; done)); (with_reducible repeat (first | apply kN | apply kD | apply kA)); exact BK237.out) hb); have n2_ := mA (bP (by repeat (first | (with_reducible first | exact HB.out | apply bA | apply bN | apply bD | refine bS ?_ GE229.out | refine bS ?_ GE237.out) | exact HB.out)) hb); clear BK229; clear BK237; clear HB; have BK229 := n0_; have BK237 := n1_; have HB := n2_; clear n0_ n1_ n2_; (try clear hb); (try clear hb2); (try clear hk); (try clear hi)) | ((with_reducible refine gate_dst (N := 11) rfl ?_); refine box_event ?hg (N := 11) ?hd (cs := #[.int .i64 0, .int .i64 0, .string ⟨#[]⟩]) (t := 73) ?hr ?_; (case hd => rfl); (case hg => rfl); (case hr => first | (go_simp; done) | (go_simp; rfl)); intro gb255 hg w33 hbox hb; obtain ⟨n0_, nl229_⟩ := bt3 (g := gb229) (o := .cells #[.int .i64 0, .string ⟨#[]⟩, .string ⟨#[]⟩, .int .i64 0, .int .i64 0] 24 (0, 0)) (by (with_reducible repeat (first | apply kN | apply kD | apply kA)); exact BK229.out) hb; obtain ⟨n1_, nl237_⟩ := bt3 (g := gb237) (o := .cells #[.int .i64 t230, .string t231, .string t232, .int .i64 t233, .int .i64 t234] 24 (0, 0)) (by (with_reducible repeat (first | apply kN | apply kD | apply kA)); exact BK237.out) hb; obtain ⟨n2_, nq_⟩ := bpr (by repeat (first | (with_reducible first | exact HB.out | apply bA | apply bN | apply bD | refine bS ?_ GE229.out | refine bS ?_ GE237.out) | exact HB.out)) hb; have n3_ := mA (hbox); have n4_ := mA ((by rw [hg]; exact nq_ : w.heap.size ≤ gb255)); have n5_ := mA ((by rw [hg]; exact nq_ : w.heap.size ≤ gb255)); have n6_ := mA ((by rw [hg]; exact Nat.ne_of_lt nl229_ : gb229 ≠ gb255)); have n7_ := mA ((by rw [hg]; exact Nat.ne_of_gt nl229_ : gb255 ≠ gb229)); have n8_ := mA ((by rw [hg]; exact Nat.ne_of_lt nl237_ : gb237 ≠ gb255)); have n9_ := mA ((by rw [hg]; exact Nat.ne_of_gt nl237_ : gb255 ≠ gb237)); clear BK229; clear BK237; clear HB; have BK229 := n0_; have BK237 := n1_; have HB := n2_; have BK255 := n3_; have GW255 := n4_; have GE255 := n5_; have NB229_255 := n6_; have NB255_229 := n7_; have NB237_255 := n8_; have NB255_237 := n9_; clear nl229_; clear nl237_; clear nq_; clear n0_ n1_ n2_ n3_ n4_ n5_ n6_ n7_ n8_ n9_; clear hb hbox hg; have hnb34 := NB255_229.out; have hnc34 := NB229_255.out; have hnb35 := NB255_237.out; have hnc35 := NB237_255.out; obtain ⟨hcz36_0, hcz36_1, hcz36_2⟩ := bc3 BK255.out; obtain ⟨hfz36_0, hfz36_1, hfz36_2⟩ := bf3 BK255.out))
      have n0_ : Aside0 ((((w33.setCell ⟨gb255, 0, none⟩ (.int .i64 t250)).setCell ⟨gb255, 1, none⟩ (.int .i64 t251)).setCell ⟨gb255, 2, none⟩ (.string t252)).heap[gb229]? = some (.cells #[.int .i64 0, .string ⟨#[]⟩, .string ⟨#[]⟩, .int .i64 0, .int .i64 0] 24 (0, 0))) := ⟨by (with_reducible repeat (first | apply kN | apply kD | apply kA | refine blk_far ?_ NB229_255.out _)); exact BK229.out⟩
      have n1_ : Aside0 ((((w33.setCell ⟨gb255, 0, none⟩ (.int .i64 t250)).setCell ⟨gb255, 1, none⟩ (.int .i64 t251)).setCell ⟨gb255, 2, none⟩ (.string t252)).heap[gb237]? = some (.cells #[.int .i64 t230, .string t231, .string t232, .int .i64 t233, .int .i64 t234] 24 (0, 0))) := ⟨by (with_reducible repeat (first | apply kN | apply kD | apply kA | refine blk_far ?_ NB237_255.out _)); exact BK237.out⟩
      have n2_ : Aside0 ((((w33.setCell ⟨gb255, 0, none⟩ (.int .i64 t250)).setCell ⟨gb255, 1, none⟩ (.int .i64 t251)).setCell ⟨gb255, 2, none⟩ (.string t252)).heap[gb255]? = some (.cells #[.int .i64 t250, .int .i64 t251, .string t252] 73 (0, 0))) := ⟨by (with_reducible repeat (first | apply kN | apply kD | apply kA)); refine blk_put (cs := #[.int .i64 t250, .int .i64 t251, .string ⟨#[]⟩]) ?_ 2 _ (by first | rfl | (simp [*]; done)); (with_reducible repeat (first | apply kN | apply kD | apply kA)); refine blk_put (cs := #[.int .i64 t250, .int .i64 0, .string ⟨#[]⟩]) ?_ 1 _ (by first | rfl | (simp [*]; done)); (with_reducible repeat (first | apply kN | apply kD | apply kA)); refine blk_put (cs := #[.int .i64 0, .int .i64 0, .string ⟨#[]⟩]) ?_ 0 _ (by first | rfl | (simp [*]; done)); (with_reducible repeat (first | apply kN | apply kD | apply kA)); exact BK255.out⟩
      have n3_ : Aside0 (Below w.heap.size w (((w33.setCell ⟨gb255, 0, none⟩ (.int .i64 t250)).setCell ⟨gb255, 1, none⟩ (.int .i64 t251)).setCell ⟨gb255, 2, none⟩ (.string t252))) := ⟨by repeat (first | (with_reducible first | exact HB.out | apply bA | apply bN | apply bD | refine bS ?_ GE229.out | refine bS ?_ GE237.out | refine bS ?_ GE255.out) | exact HB.out)⟩
      (try clear BK229)
      (try clear BK237)
      (try clear BK255)
      (try clear HB)
      generalize (((w33.setCell ⟨gb255, 0, none⟩ (.int .i64 t250)).setCell ⟨gb255, 1, none⟩ (.int .i64 t251)).setCell ⟨gb255, 2, none⟩ (.string t252)) = w37 at n0_ n1_ n2_ n3_ ⊢
      have BK229 := n0_
      have BK237 := n1_
      have BK255 := n2_
      have HB := n3_
      clear n0_ n1_ n2_ n3_
      have n0_ := mA (kD BK229.out)
      have n1_ := mA (kD BK237.out)
      have n2_ := mA (kD BK255.out)
      have n3_ := mA (bD HB.out)
      clear BK229
      clear BK237
      clear BK255
      clear HB
      have BK229 := n0_
      have BK237 := n1_
      have BK255 := n2_
      have HB := n3_
      clear n0_ n1_ n2_ n3_
      refine start_ (n := 8) (S := fun w' => w'.cell? ⟨gb255, 0, none⟩ = some (.int .i64 t250) ∧ w'.cell? ⟨gb255, 1, none⟩ = some (.int .i64 t251) ∧ w'.cell? ⟨gb255, 2, none⟩ = some (.string t252)) (ds := []) (bv 8 0) (by kernel_rfl) rfl rfl ⟨(zC BK255.out 0).trans rfl, (zC BK255.out 1).trans rfl, (zC BK255.out 2).trans rfl⟩ (fun hHeld => ?_); refine with_tabW palanquinref09_Get.tab16 palanquinref09_Get.bits16 (fun HT_ HW_ => ?_)
      generalize w37.drew = w38 at BK229 BK237 BK255 HB hHeld ⊢
      refine pure_ (i := 0) (N := some 58) (v := ?_) (a' := ?_) (bv 8 1) rfl rfl (any_of HT_.out (by kernel_rfl)) (fun _ _ _ h => h) (Or.inl ⟨by rfl, ?_⟩) ?_ ?_; rotate_left; (intro w'; go_simp; with_reducible rfl); rotate_left; (simp only [Act.put, List.setIfInBounds_toArray, List.set_cons_zero, List.set_cons_succ, i64_w, i32_w]; rfl)
      refine pure_ (i := 2) (N := some 60) (v := ?_) (a' := ?_) (bv 8 5) rfl rfl (any_of HT_.out (by kernel_rfl)) (fun _ _ _ h => h) (Or.inl ⟨by rfl, ?_⟩) ?_ ?_; rotate_left; (intro w'; go_simp; with_reducible rfl); rotate_left; (simp only [Act.put, List.setIfInBounds_toArray, List.set_cons_zero, List.set_cons_succ, i64_w, i32_w]; rfl)
      refine take_ (i := 1) (N := some 59) (v := ?_) (a' := ?_) (bv 8 7) rfl rfl (take_ofW HT_.out HW_.out (by kernel_rfl)) (fun _ _ _ h => h) (Or.inl ⟨by rfl, ?_⟩) hHeld ?_ ?_; rotate_left; (rintro w' ⟨s0, s1, s2⟩; go_simp; with_reducible rfl); rotate_left; (simp only [Act.put, List.setIfInBounds_toArray, List.set_cons_zero, List.set_cons_succ, i64_w, i32_w]; rfl)
      refine pure_ (i := 4) (N := some 62) (v := ?_) (a' := ?_) (bv 8 23) rfl rfl (any_of HT_.out (by kernel_rfl)) (fun _ _ _ h => h) (Or.inl ⟨by rfl, ?_⟩) ?_ ?_; rotate_left; (intro w'; go_simp; with_reducible rfl); rotate_left; (simp only [Act.put, List.setIfInBounds_toArray, List.set_cons_zero, List.set_cons_succ, i64_w, i32_w]; rfl)
      refine take_ (i := 3) (N := some 61) (v := ?_) (a' := ?_) (bv 8 31) rfl rfl (take_ofW HT_.out HW_.out (by kernel_rfl)) (fun _ _ _ h => h) (Or.inl ⟨by rfl, ?_⟩) hHeld ?_ ?_; rotate_left; (rintro w' ⟨s0, s1, s2⟩; go_simp; with_reducible rfl); rotate_left; (simp only [Act.put, List.setIfInBounds_toArray, List.set_cons_zero, List.set_cons_succ, i64_w, i32_w]; rfl)
      refine one_ (i := 5) (N := none) (bv 8 63) rfl rfl (one_of HT_.out (by kernel_rfl)) (by decide) (fun K hK => ?_)
      have hs39 : w38.cell? ⟨gb237, 3, none⟩ = some (.int .i64 t233) := (zC BK237.out 3).trans rfl
      have hfs39 := zF BK237.out 3
      have hns39_0 := NB229_237.out
      have hns39_2 := NB255_237.out
      have hms39_0 := NB237_229.out
      have hms39_2 := NB237_255.out
      refine skip_ (w1 := ?_) (by rfl) rfl ?_ ?_
      rotate_left
      ·go_simp
       rfl
      refine hK.out _ _ ⟨((cell_far (p := ⟨gb237, _, none⟩) NB255_237.out _).trans (hHeld.1)), ((cell_far (p := ⟨gb237, _, none⟩) NB255_237.out _).trans (hHeld.2.1)), ((cell_far (p := ⟨gb237, _, none⟩) NB255_237.out _).trans (hHeld.2.2))⟩ (fun hHeld => ?_)
      clear hK K
      refine pure_ (i := 6) (N := some 63) (v := ?_) (a' := ?_) (bv 8 127) rfl rfl (any_of HT_.out (by kernel_rfl)) (fun _ _ _ h => h) (Or.inl ⟨by rfl, ?_⟩) ?_ ?_; rotate_left; (intro w'; go_simp; with_reducible rfl); rotate_left; (simp only [Act.put, List.setIfInBounds_toArray, List.set_cons_zero, List.set_cons_succ, i64_w, i32_w]; rfl)
      refine one_ (i := 7) (N := none) (bv 8 255) rfl rfl (one_of HT_.out (by kernel_rfl)) (by decide) (fun K hK => ?_)
      have hs40 : w38.cell? ⟨gb237, 4, none⟩ = some (.int .i64 t234) := (zC BK237.out 4).trans rfl
      have hfs40 := zF BK237.out 4
      have hns40_0 := NB229_237.out
      have hns40_2 := NB255_237.out
      have hms40_0 := NB237_229.out
      have hms40_2 := NB237_255.out
      refine skip_ (w1 := ?_) (by rfl) rfl ?_ ?_
      rotate_left
      ·go_simp
       rfl
      refine hK.out _ _ ⟨((cell_far (p := ⟨gb237, _, none⟩) NB255_237.out _).trans (hHeld.1)), ((cell_far (p := ⟨gb237, _, none⟩) NB255_237.out _).trans (hHeld.2.1)), ((cell_far (p := ⟨gb237, _, none⟩) NB255_237.out _).trans (hHeld.2.2))⟩ (fun hHeld => ?_)
      clear hK K
      refine done_ (done_of HT_.out (by kernel_rfl)) ?_
      try go_wp2
      go_meet
      case rel => exact ⟨_, ((t253 == 0)), (0), ((⟨#[]⟩ : ByteArray)), ((⟨#[]⟩ : ByteArray)), (0), (0), (t250), (t251), (by first | rfl | (simp; done) | (simp [*]; done)), H', ⟨by first | omega | exact Nat.le_refl _⟩, ⟨by (with_reducible repeat (first | apply kN | apply kD | apply kA | refine blk_far ?_ NB229_237.out _)); exact BK229.out⟩, ⟨by (with_reducible repeat (first | apply kN | apply kD | apply kA)); refine blk_put (cs := #[.int .i64 t230, .string t231, .string t232, .int .i64 t250, .int .i64 t234]) ?_ 4 _ (by first | rfl | (simp [*]; done)); (with_reducible repeat (first | apply kN | apply kD | apply kA)); refine blk_put (cs := #[.int .i64 t230, .string t231, .string t232, .int .i64 t233, .int .i64 t234]) ?_ 3 _ (by first | rfl | (simp [*]; done)); (with_reducible repeat (first | apply kN | apply kD | apply kA)); exact BK237.out⟩, ⟨by repeat (first | (with_reducible first | exact HB.out | apply bA | apply bN | apply bD | refine bS ?_ GE229.out | refine bS ?_ GE237.out | refine bS ?_ GE255.out) | exact HB.out)⟩⟩
     ·rw [if_neg c31] at H
      have c31b0 : (t254 == 0) = false := beq_eq_false_iff_ne.mpr c31
      have c31b1 : (t254 != 0) = true := bne_iff_ne.mpr c31
      simp only [Option.some.injEq, Prod.mk.injEq] at H
      obtain ⟨rfl, rfl, rfl, rfl, rfl, rfl⟩ := H
      go_wp2_with (first | ((with_reducible refine gate_callee (f := 31) rfl ?_); refine goesL_ (some 50) rfl rfl Try.func31 (by kernel_rfl) rfl #[.string t235] rfl (by (try simp only [List.map_toArray, List.map_cons, List.map_nil]); first | done | rfl | (simp only [List.length_drop, List.length_take]; rfl)) ?_; (with_reducible refine (palanquinref08_Get.calls k t235 t250 t251 t252 t253 t254 _ A30.out).mono ?_); rintro e w41 ⟨rfl, hb⟩; refine ⟨_, rfl, ?_⟩; have n0_ := mA (blk_below (g := gb229) (o := .cells #[.int .i64 0, .string ⟨#[]⟩, .string ⟨#[]⟩, .int .i64 0, .int .i64 0] 24 (0, 0)) (by (with_reducible repeat (first | apply kN | apply kD | apply kA | refine blk_far ?_ NB229_237.out _)); exact BK229.out) hb); have n1_ := mA (blk_below (g := gb237) (o := .cells #[.int .i64 t230, .string t231, .string t232, .int .i64 t233, .int .i64 t234] 24 (0, 0)) (by (with_reducible repeat (first | apply kN | apply kD | apply kA)); refine blk_put (cs := #[.int .i64 t230, .string t231, .string t232, .int .i64 t233, .int .i64 0]) ?_ 4 _ (by first | rfl | (simp [*]; done)); (with_reducible repeat (first | apply kN | apply kD | apply kA)); refine blk_put (cs := #[.int .i64 t230, .string t231, .string t232, .int .i64 0, .int .i64 0]) ?_ 3 _ (by first | rfl | (simp [*]; done)); (with_reducible repeat (first | apply kN | apply kD | apply kA)); refine blk_put (cs := #[.int .i64 t230, .string t231, .string ⟨#[]⟩, .int .i64 0, .int .i64 0]) ?_ 2 _ (by first | rfl | (simp [*]; done)); (with_reducible repeat (first | apply kN | apply kD | apply kA)); refine blk_put (cs := #[.int .i64 t230, .string ⟨#[]⟩, .string ⟨#[]⟩, .int .i64 0, .int .i64 0]) ?_ 1 _ (by first | rfl | (simp [*]; done)); (with_reducible repeat (first | apply kN | apply kD | apply kA)); refine blk_put (cs := #[.int .i64 0, .string ⟨#[]⟩, .string ⟨#[]⟩, .int .i64 0, .int .i64 0]) ?_ 0 _ (by first | rfl | (simp [*]; done)); (with_reducible repeat (first | apply kN | apply kD | apply kA)); exact BK237.out) hb); have n2_ := mA (bP (by repeat (first | (with_reducible first | exact HB.out | apply bA | apply bN | apply bD | refine bS ?_ GE229.out | refine bS ?_ GE237.out) | exact HB.out)) hb); clear BK229; clear BK237; clear HB; have BK229 := n0_; have BK237 := n1_; have HB := n2_; clear n0_ n1_ n2_; (try clear hb); (try clear hb2); (try clear hk); (try clear hi)) | ((with_reducible refine gate_dst (N := 11) rfl ?_); refine box_event ?hg (N := 11) ?hd (cs := #[.int .i64 0, .int .i64 0, .string ⟨#[]⟩]) (t := 73) ?hr ?_; (case hd => rfl); (case hg => rfl); (case hr => first | (go_simp; done) | (go_simp; rfl)); intro gb255 hg w42 hbox hb; obtain ⟨n0_, nl229_⟩ := bt3 (g := gb229) (o := .cells #[.int .i64 0, .string ⟨#[]⟩, .string ⟨#[]⟩, .int .i64 0, .int .i64 0] 24 (0, 0)) (by (with_reducible repeat (first | apply kN | apply kD | apply kA)); exact BK229.out) hb; obtain ⟨n1_, nl237_⟩ := bt3 (g := gb237) (o := .cells #[.int .i64 t230, .string t231, .string t232, .int .i64 t233, .int .i64 t234] 24 (0, 0)) (by (with_reducible repeat (first | apply kN | apply kD | apply kA)); exact BK237.out) hb; obtain ⟨n2_, nq_⟩ := bpr (by repeat (first | (with_reducible first | exact HB.out | apply bA | apply bN | apply bD | refine bS ?_ GE229.out | refine bS ?_ GE237.out) | exact HB.out)) hb; have n3_ := mA (hbox); have n4_ := mA ((by rw [hg]; exact nq_ : w.heap.size ≤ gb255)); have n5_ := mA ((by rw [hg]; exact nq_ : w.heap.size ≤ gb255)); have n6_ := mA ((by rw [hg]; exact Nat.ne_of_lt nl229_ : gb229 ≠ gb255)); have n7_ := mA ((by rw [hg]; exact Nat.ne_of_gt nl229_ : gb255 ≠ gb229)); have n8_ := mA ((by rw [hg]; exact Nat.ne_of_lt nl237_ : gb237 ≠ gb255)); have n9_ := mA ((by rw [hg]; exact Nat.ne_of_gt nl237_ : gb255 ≠ gb237)); clear BK229; clear BK237; clear HB; have BK229 := n0_; have BK237 := n1_; have HB := n2_; have BK255 := n3_; have GW255 := n4_; have GE255 := n5_; have NB229_255 := n6_; have NB255_229 := n7_; have NB237_255 := n8_; have NB255_237 := n9_; clear nl229_; clear nl237_; clear nq_; clear n0_ n1_ n2_ n3_ n4_ n5_ n6_ n7_ n8_ n9_; clear hb hbox hg; have hnb43 := NB255_229.out; have hnc43 := NB229_255.out; have hnb44 := NB255_237.out; have hnc44 := NB237_255.out; obtain ⟨hcz45_0, hcz45_1, hcz45_2⟩ := bc3 BK255.out; obtain ⟨hfz45_0, hfz45_1, hfz45_2⟩ := bf3 BK255.out; have hnb46 := NB229_237.out; have hnc46 := NB237_229.out; obtain ⟨hcz47_0, hcz47_1, hcz47_2, hcz47_3, hcz47_4⟩ := bc5 BK229.out; obtain ⟨hfz47_0, hfz47_1, hfz47_2, hfz47_3, hfz47_4⟩ := bf5 BK229.out))
      refine bodyPost_ret (results_ct rfl _ _ gb229 24 #[.int .i64 0, .string ⟨#[]⟩, .string ⟨#[]⟩, .int .i64 0, .int .i64 0] (0, 0) _ rfl (by (with_reducible repeat (first | apply kN | apply kD | apply kA)); refine blk_put (cs := #[.int .i64 0, .string ⟨#[]⟩, .string ⟨#[]⟩, .int .i64 0, .int .i64 0]) ?_ 4 _ (by first | rfl | (simp [*]; done)); (with_reducible repeat (first | apply kN | apply kD | apply kA)); refine blk_put (cs := #[.int .i64 0, .string ⟨#[]⟩, .string ⟨#[]⟩, .int .i64 0, .int .i64 0]) ?_ 3 _ (by first | rfl | (simp [*]; done)); (with_reducible repeat (first | apply kN | apply kD | apply kA)); refine blk_put (cs := #[.int .i64 0, .string ⟨#[]⟩, .string ⟨#[]⟩, .int .i64 0, .int .i64 0]) ?_ 2 _ (by first | rfl | (simp [*]; done)); (with_reducible repeat (first | apply kN | apply kD | apply kA)); refine blk_put (cs := #[.int .i64 0, .string ⟨#[]⟩, .string ⟨#[]⟩, .int .i64 0, .int .i64 0]) ?_ 1 _ (by first | rfl | (simp [*]; done)); (with_reducible repeat (first | apply kN | apply kD | apply kA)); refine blk_put (cs := #[.int .i64 0, .string ⟨#[]⟩, .string ⟨#[]⟩, .int .i64 0, .int .i64 0]) ?_ 0 _ (by first | rfl | (simp [*]; done)); (with_reducible repeat (first | apply kN | apply kD | apply kA | refine blk_far ?_ NB229_255.out _)); exact BK229.out) Try.underlying24 rfl (by kernel_rfl)) rfl ?_
      exact ⟨by first | rfl | (simp [errW_none, errW_some] <;> rfl) | (simp [*, errW_none, errW_some] <;> rfl), by repeat (first | (with_reducible first | exact HB.out | apply bA | apply bN | apply bD | refine bS ?_ GE229.out | refine bS ?_ GE237.out | refine bS ?_ GE255.out) | exact HB.out)⟩
    ·rw [if_neg c29] at H
     have c29b0 : (t230 == 17) = false := beq_eq_false_iff_ne.mpr c29
     have c29b1 : (t230 != 17) = true := bne_iff_ne.mpr c29
     simp only [Option.some.injEq, Prod.mk.injEq] at H
     obtain ⟨rfl, rfl, rfl, rfl, rfl, rfl⟩ := H
     have hnb48 := NB229_237.out
     have hnc48 := NB237_229.out
     obtain ⟨hcz49_0, hcz49_1, hcz49_2, hcz49_3, hcz49_4⟩ := bc5 BK229.out
     obtain ⟨hfz49_0, hfz49_1, hfz49_2, hfz49_3, hfz49_4⟩ := bf5 BK229.out
     go_wp2
     refine bodyPost_ret (results_ct rfl _ _ gb229 24 #[.int .i64 0, .string ⟨#[]⟩, .string ⟨#[]⟩, .int .i64 0, .int .i64 0] (0, 0) _ rfl (by (with_reducible repeat (first | apply kN | apply kD | apply kA)); refine blk_put (cs := #[.int .i64 0, .string ⟨#[]⟩, .string ⟨#[]⟩, .int .i64 0, .int .i64 0]) ?_ 4 _ (by first | rfl | (simp [*]; done)); (with_reducible repeat (first | apply kN | apply kD | apply kA)); refine blk_put (cs := #[.int .i64 0, .string ⟨#[]⟩, .string ⟨#[]⟩, .int .i64 0, .int .i64 0]) ?_ 3 _ (by first | rfl | (simp [*]; done)); (with_reducible repeat (first | apply kN | apply kD | apply kA)); refine blk_put (cs := #[.int .i64 0, .string ⟨#[]⟩, .string ⟨#[]⟩, .int .i64 0, .int .i64 0]) ?_ 2 _ (by first | rfl | (simp [*]; done)); (with_reducible repeat (first | apply kN | apply kD | apply kA)); refine blk_put (cs := #[.int .i64 0, .string ⟨#[]⟩, .string ⟨#[]⟩, .int .i64 0, .int .i64 0]) ?_ 1 _ (by first | rfl | (simp [*]; done)); (with_reducible repeat (first | apply kN | apply kD | apply kA)); refine blk_put (cs := #[.int .i64 0, .string ⟨#[]⟩, .string ⟨#[]⟩, .int .i64 0, .int .i64 0]) ?_ 0 _ (by first | rfl | (simp [*]; done)); (with_reducible repeat (first | apply kN | apply kD | apply kA | refine blk_far ?_ NB229_237.out _)); exact BK229.out) Try.underlying24 rfl (by kernel_rfl)) rfl ?_
     exact ⟨by first | rfl | (simp [errW_none, errW_some] <;> rfl) | (simp [*, errW_none, errW_some] <;> rfl), by repeat (first | (with_reducible first | exact HB.out | apply bA | apply bN | apply bD | refine bS ?_ GE229.out | refine bS ?_ GE237.out) | exact HB.out)⟩
  case rest =>
   clear HC4
   try clear c1
   try clear c2
   try clear p2
   try clear c3
   try clear c3b0
   try clear c3b1
   try clear c4
   try clear c8
   try clear c10
   try clear c10b0
   try clear c10b1
   try clear c12
   try clear c12b0
   try clear c12b1
   try clear c15
   try clear c16
   try clear c24
   try clear c25
   try clear c27
   try clear c29
   try clear c29b0
   try clear c29b1
   try clear c30
   try clear c31
   try clear c31b0
   try clear c31b1
   try clear c34
   try clear c35
   try clear c43
   try clear c44
   try clear c46
   try clear c48
   try clear hcz17_0 hcz17_1 hcz17_2 hcz17_3 hcz17_4 hcz17_5 hcz17_6 hcz17_7 hcz17_8
   try clear hcz26_0 hcz26_1 hcz26_2 hcz26_3 hcz26_4 hcz26_5 hcz26_6 hcz26_7 hcz26_8
   try clear hcz28_0 hcz28_1 hcz28_2 hcz28_3 hcz28_4
   try clear hcz36_0 hcz36_1 hcz36_2
   try clear hcz45_0 hcz45_1 hcz45_2
   try clear hcz47_0 hcz47_1 hcz47_2 hcz47_3 hcz47_4
   try clear hcz49_0 hcz49_1 hcz49_2 hcz49_3 hcz49_4
   try clear hcz9_0 hcz9_1 hcz9_2 hcz9_3 hcz9_4
   try clear hfz17_0 hfz17_1 hfz17_2 hfz17_3 hfz17_4 hfz17_5 hfz17_6 hfz17_7 hfz17_8
   try clear hfz26_0 hfz26_1 hfz26_2 hfz26_3 hfz26_4 hfz26_5 hfz26_6 hfz26_7 hfz26_8
   try clear hfz28_0 hfz28_1 hfz28_2 hfz28_3 hfz28_4
   try clear hfz36_0 hfz36_1 hfz36_2
   try clear hfz45_0 hfz45_1 hfz45_2
   try clear hfz47_0 hfz47_1 hfz47_2 hfz47_3 hfz47_4
   try clear hfz49_0 hfz49_1 hfz49_2 hfz49_3 hfz49_4
   try clear hfz9_0 hfz9_1 hfz9_2 hfz9_3 hfz9_4
   obtain ⟨kq, x7_3, x230000_3, x230001_3, x230002_3, x230003_3, x230004_3, x238003_3, x238004_3, rfl, HA, HJ3, BK229, BK237, HB⟩ := hcut
   cases kq with
   | zero => exact absurd HA.out (by simp [palanquinref09_Get.j0])
   | succ kj3 =>
    have H := HA.out
    clear HA
    simp only [palanquinref09_Get.j0] at H
    replace H := Option.bind_eq_some_iff.mp H
    obtain ⟨t256, A500, H⟩ := H
    try dsimp +instances only at H
    have A50 := mA A500
    clear A500
    by_cases c51 : t256.size + t235.size ≤ 9223372036854775807
    ·rw [if_pos c51] at H
     have c51b0 := eq_true c51
     have c51b1 : decide (t256.size + t235.size ≤ 9223372036854775807) = true := decide_eq_true c51
     try have c51b2 : (9223372036854775807 < t256.size + t235.size) = False := eq_false (Nat.not_lt.2 c51)
     replace H := Option.bind_eq_some_iff.mp H
     obtain ⟨t257, A520, H⟩ := H
     try dsimp +instances only at H
     have A52 := mA A520
     clear A520
     by_cases c53 : x7_3 = true
     ·subst c53
      rw [if_pos rfl] at H
      by_cases c54 : ((t231.size : Int) = 4)
      ·rw [if_pos c54] at H
       have c54b0 : ((t231.size : Int) == 4) = true := beq_iff_eq.mpr c54
       have c54b1 : ((t231.size : Int) != 4) = false := bne_eq_false_iff_eq.mpr c54
       clear c54
       simp only [Option.some.injEq, Prod.mk.injEq] at H
       obtain ⟨rfl, rfl, rfl, rfl, rfl, rfl⟩ := H
       have hnb55 := NB237_229.out
       have hnc55 := NB229_237.out
       obtain ⟨hcz56_0, hcz56_1, hcz56_2, hcz56_3, hcz56_4⟩ := bc5 BK237.out
       obtain ⟨hfz56_0, hfz56_1, hfz56_2, hfz56_3, hfz56_4⟩ := bf5 BK237.out
       go_wp2_with (first | ((with_reducible refine gate_callee (f := 33) rfl ?_); refine goesL_ (some 74) rfl rfl Try.func33 (by kernel_rfl) rfl #[.string t231, .string t232, .int .i64 t230, .int .i64 (t235.size : Int)] rfl (by (try simp only [List.map_toArray, List.map_cons, List.map_nil]); first | done | rfl | (simp only [List.length_drop, List.length_take]; rfl)) ?_; (with_reducible refine (palanquinref02_Pseudo.calls kj3 t231 t232 t230 (t235.size : Int) t256 _ A50.out).mono ?_); rintro e w57 ⟨rfl, hb⟩; refine ⟨_, rfl, ?_⟩; have n0_ := mA (blk_below (g := gb229) (o := .cells #[.int .i64 x230000_3, .string x230001_3, .string x230002_3, .int .i64 x230003_3, .int .i64 x230004_3] 24 (0, 0)) (by (with_reducible repeat (first | apply kN | apply kD | apply kA)); exact BK229.out) hb); have n1_ := mA (blk_below (g := gb237) (o := .cells #[.int .i64 t230, .string t231, .string t232, .int .i64 x238003_3, .int .i64 x238004_3] 24 (0, 0)) (by (with_reducible repeat (first | apply kN | apply kD | apply kA)); exact BK237.out) hb); have n2_ := mA (bP (by repeat (first | (with_reducible first | exact HB.out | apply bA | apply bN | apply bD | refine bS ?_ GE229.out | refine bS ?_ GE237.out) | exact HB.out)) hb); clear BK229; clear BK237; clear HB; have BK229 := n0_; have BK237 := n1_; have HB := n2_; clear n0_ n1_ n2_; (try clear hb); (try clear hb2); (try clear hk); (try clear hi)) | ((with_reducible refine gate_callee (f := 32) rfl ?_); refine goesL_ (some 77) rfl rfl Try.func32 (by kernel_rfl) rfl #[.string (t256 ++ t235)] rfl (by (try simp only [List.map_toArray, List.map_cons, List.map_nil]); first | done | rfl | (simp only [List.length_drop, List.length_take]; rfl)) ?_; (with_reducible refine (palanquinref02_Sum.calls kj3 (t256 ++ t235) t257 _ A52.out).mono ?_); rintro e w58 ⟨rfl, hb⟩; refine ⟨_, rfl, ?_⟩; have n0_ := mA (blk_below (g := gb229) (o := .cells #[.int .i64 x230000_3, .string x230001_3, .string x230002_3, .int .i64 x230003_3, .int .i64 x230004_3] 24 (0, 0)) (by (with_reducible repeat (first | apply kN | apply kD | apply kA)); exact BK229.out) hb); have n1_ := mA (blk_below (g := gb237) (o := .cells #[.int .i64 t230, .string t231, .string t232, .int .i64 x238003_3, .int .i64 x238004_3] 24 (0, 0)) (by (with_reducible repeat (first | apply kN | apply kD | apply kA)); exact BK237.out) hb); have n2_ := mA (bP (by repeat (first | (with_reducible first | exact HB.out | apply bA | apply bN | apply bD | refine bS ?_ GE229.out | refine bS ?_ GE237.out) | exact HB.out)) hb); clear BK229; clear BK237; clear HB; have BK229 := n0_; have BK237 := n1_; have HB := n2_; clear n0_ n1_ n2_; (try clear hb); (try clear hb2); (try clear hk); (try clear hi); obtain ⟨hcz59_0, hcz59_1, hcz59_2, hcz59_3, hcz59_4⟩ := bc5 BK237.out; obtain ⟨hfz59_0, hfz59_1, hfz59_2, hfz59_3, hfz59_4⟩ := bf5 BK237.out; obtain ⟨hcz60_0, hcz60_1, hcz60_2, hcz60_3, hcz60_4⟩ := bc5 BK229.out; obtain ⟨hfz60_0, hfz60_1, hfz60_2, hfz60_3, hfz60_4⟩ := bf5 BK229.out))
       refine bodyPost_ret (results_ct rfl _ _ gb229 24 #[.int .i64 t230, .string t231, .string t232, .int .i64 x238003_3, .int .i64 x238004_3] (0, 0) _ rfl (by (with_reducible repeat (first | apply kN | apply kD | apply kA)); refine blk_put (cs := #[.int .i64 t230, .string t231, .string t232, .int .i64 x238003_3, .int .i64 x230004_3]) ?_ 4 _ (by first | rfl | (simp [*]; done)); (with_reducible repeat (first | apply kN | apply kD | apply kA)); refine blk_put (cs := #[.int .i64 t230, .string t231, .string t232, .int .i64 x230003_3, .int .i64 x230004_3]) ?_ 3 _ (by first | rfl | (simp [*]; done)); (with_reducible repeat (first | apply kN | apply kD | apply kA)); refine blk_put (cs := #[.int .i64 t230, .string t231, .string x230002_3, .int .i64 x230003_3, .int .i64 x230004_3]) ?_ 2 _ (by first | rfl | (simp [*]; done)); (with_reducible repeat (first | apply kN | apply kD | apply kA)); refine blk_put (cs := #[.int .i64 t230, .string x230001_3, .string x230002_3, .int .i64 x230003_3, .int .i64 x230004_3]) ?_ 1 _ (by first | rfl | (simp [*]; done)); (with_reducible repeat (first | apply kN | apply kD | apply kA)); refine blk_put (cs := #[.int .i64 x230000_3, .string x230001_3, .string x230002_3, .int .i64 x230003_3, .int .i64 x230004_3]) ?_ 0 _ (by first | rfl | (simp [*]; done)); (with_reducible repeat (first | apply kN | apply kD | apply kA)); exact BK229.out) Try.underlying24 rfl (by kernel_rfl)) rfl ?_
       exact ⟨by first | rfl | (simp [errW_none, errW_some] <;> rfl) | (simp [*, errW_none, errW_some] <;> rfl), by repeat (first | (with_reducible first | exact HB.out | apply bA | apply bN | apply bD | refine bS ?_ GE229.out | refine bS ?_ GE237.out) | exact HB.out)⟩
      ·rw [if_neg c54] at H
       have c54b0 : ((t231.size : Int) == 4) = false := beq_eq_false_iff_ne.mpr c54
       have c54b1 : ((t231.size : Int) != 4) = true := bne_iff_ne.mpr c54
       simp only [Option.some.injEq, Prod.mk.injEq] at H
       obtain ⟨rfl, rfl, rfl, rfl, rfl, rfl⟩ := H
       have hnb61 := NB237_229.out
       have hnc61 := NB229_237.out
       obtain ⟨hcz62_0, hcz62_1, hcz62_2, hcz62_3, hcz62_4⟩ := bc5 BK237.out
       obtain ⟨hfz62_0, hfz62_1, hfz62_2, hfz62_3, hfz62_4⟩ := bf5 BK237.out
       go_wp2_with (first | ((with_reducible refine gate_callee (f := 33) rfl ?_); refine goesL_ (some 74) rfl rfl Try.func33 (by kernel_rfl) rfl #[.string t231, .string t232, .int .i64 t230, .int .i64 (t235.size : Int)] rfl (by (try simp only [List.map_toArray, List.map_cons, List.map_nil]); first | done | rfl | (simp only [List.length_drop, List.length_take]; rfl)) ?_; (with_reducible refine (palanquinref02_Pseudo.calls kj3 t231 t232 t230 (t235.size : Int) t256 _ A50.out).mono ?_); rintro e w63 ⟨rfl, hb⟩; refine ⟨_, rfl, ?_⟩; have n0_ := mA (blk_below (g := gb229) (o := .cells #[.int .i64 x230000_3, .string x230001_3, .string x230002_3, .int .i64 x230003_3, .int .i64 x230004_3] 24 (0, 0)) (by (with_reducible repeat (first | apply kN | apply kD | apply kA)); exact BK229.out) hb); have n1_ := mA (blk_below (g := gb237) (o := .cells #[.int .i64 t230, .string t231, .string t232, .int .i64 x238003_3, .int .i64 x238004_3] 24 (0, 0)) (by (with_reducible repeat (first | apply kN | apply kD | apply kA)); exact BK237.out) hb); have n2_ := mA (bP (by repeat (first | (with_reducible first | exact HB.out | apply bA | apply bN | apply bD | refine bS ?_ GE229.out | refine bS ?_ GE237.out) | exact HB.out)) hb); clear BK229; clear BK237; clear HB; have BK229 := n0_; have BK237 := n1_; have HB := n2_; clear n0_ n1_ n2_; (try clear hb); (try clear hb2); (try clear hk); (try clear hi)) | ((with_reducible refine gate_callee (f := 32) rfl ?_); refine goesL_ (some 77) rfl rfl Try.func32 (by kernel_rfl) rfl #[.string (t256 ++ t235)] rfl (by (try simp only [List.map_toArray, List.map_cons, List.map_nil]); first | done | rfl | (simp only [List.length_drop, List.length_take]; rfl)) ?_; (with_reducible refine (palanquinref02_Sum.calls kj3 (t256 ++ t235) t257 _ A52.out).mono ?_); rintro e w64 ⟨rfl, hb⟩; refine ⟨_, rfl, ?_⟩; have n0_ := mA (blk_below (g := gb229) (o := .cells #[.int .i64 x230000_3, .string x230001_3, .string x230002_3, .int .i64 x230003_3, .int .i64 x230004_3] 24 (0, 0)) (by (with_reducible repeat (first | apply kN | apply kD | apply kA)); exact BK229.out) hb); have n1_ := mA (blk_below (g := gb237) (o := .cells #[.int .i64 t230, .string t231, .string t232, .int .i64 x238003_3, .int .i64 x238004_3] 24 (0, 0)) (by (with_reducible repeat (first | apply kN | apply kD | apply kA)); exact BK237.out) hb); have n2_ := mA (bP (by repeat (first | (with_reducible first | exact HB.out | apply bA | apply bN | apply bD | refine bS ?_ GE229.out | refine bS ?_ GE237.out) | exact HB.out)) hb); clear BK229; clear BK237; clear HB; have BK229 := n0_; have BK237 := n1_; have HB := n2_; clear n0_ n1_ n2_; (try clear hb); (try clear hb2); (try clear hk); (try clear hi); obtain ⟨hcz65_0, hcz65_1, hcz65_2, hcz65_3, hcz65_4⟩ := bc5 BK237.out; obtain ⟨hfz65_0, hfz65_1, hfz65_2, hfz65_3, hfz65_4⟩ := bf5 BK237.out; obtain ⟨hcz66_0, hcz66_1, hcz66_2, hcz66_3, hcz66_4⟩ := bc5 BK229.out; obtain ⟨hfz66_0, hfz66_1, hfz66_2, hfz66_3, hfz66_4⟩ := bf5 BK229.out))
       refine bodyPost_ret (results_ct rfl _ _ gb229 24 #[.int .i64 0, .string ⟨#[]⟩, .string ⟨#[]⟩, .int .i64 0, .int .i64 0] (0, 0) _ rfl (by (with_reducible repeat (first | apply kN | apply kD | apply kA)); refine blk_put (cs := #[.int .i64 0, .string ⟨#[]⟩, .string ⟨#[]⟩, .int .i64 0, .int .i64 x230004_3]) ?_ 4 _ (by first | rfl | (simp [*]; done)); (with_reducible repeat (first | apply kN | apply kD | apply kA)); refine blk_put (cs := #[.int .i64 0, .string ⟨#[]⟩, .string ⟨#[]⟩, .int .i64 x230003_3, .int .i64 x230004_3]) ?_ 3 _ (by first | rfl | (simp [*]; done)); (with_reducible repeat (first | apply kN | apply kD | apply kA)); refine blk_put (cs := #[.int .i64 0, .string ⟨#[]⟩, .string x230002_3, .int .i64 x230003_3, .int .i64 x230004_3]) ?_ 2 _ (by first | rfl | (simp [*]; done)); (with_reducible repeat (first | apply kN | apply kD | apply kA)); refine blk_put (cs := #[.int .i64 0, .string x230001_3, .string x230002_3, .int .i64 x230003_3, .int .i64 x230004_3]) ?_ 1 _ (by first | rfl | (simp [*]; done)); (with_reducible repeat (first | apply kN | apply kD | apply kA)); refine blk_put (cs := #[.int .i64 x230000_3, .string x230001_3, .string x230002_3, .int .i64 x230003_3, .int .i64 x230004_3]) ?_ 0 _ (by first | rfl | (simp [*]; done)); (with_reducible repeat (first | apply kN | apply kD | apply kA)); exact BK229.out) Try.underlying24 rfl (by kernel_rfl)) rfl ?_
       exact ⟨by first | rfl | (simp [errW_none, errW_some] <;> rfl) | (simp [*, errW_none, errW_some] <;> rfl), by repeat (first | (with_reducible first | exact HB.out | apply bA | apply bN | apply bD | refine bS ?_ GE229.out | refine bS ?_ GE237.out) | exact HB.out)⟩
     ·replace c53 := Bool.eq_false_iff.mpr c53
      subst c53
      rw [if_neg (show ¬ (false = true) by decide)] at H
      by_cases c67 : t257 = 0
      ·rw [if_pos c67] at H
       have c67b0 : (t257 == 0) = true := beq_iff_eq.mpr c67
       have c67b1 : (t257 != 0) = false := bne_eq_false_iff_eq.mpr c67
       clear c67
       simp only [Option.some.injEq, Prod.mk.injEq] at H
       obtain ⟨rfl, rfl, rfl, rfl, rfl, rfl⟩ := H
       have hnb68 := NB237_229.out
       have hnc68 := NB229_237.out
       obtain ⟨hcz69_0, hcz69_1, hcz69_2, hcz69_3, hcz69_4⟩ := bc5 BK237.out
       obtain ⟨hfz69_0, hfz69_1, hfz69_2, hfz69_3, hfz69_4⟩ := bf5 BK237.out
       go_wp2_with (first | ((with_reducible refine gate_callee (f := 33) rfl ?_); refine goesL_ (some 74) rfl rfl Try.func33 (by kernel_rfl) rfl #[.string t231, .string t232, .int .i64 t230, .int .i64 (t235.size : Int)] rfl (by (try simp only [List.map_toArray, List.map_cons, List.map_nil]); first | done | rfl | (simp only [List.length_drop, List.length_take]; rfl)) ?_; (with_reducible refine (palanquinref02_Pseudo.calls kj3 t231 t232 t230 (t235.size : Int) t256 _ A50.out).mono ?_); rintro e w70 ⟨rfl, hb⟩; refine ⟨_, rfl, ?_⟩; have n0_ := mA (blk_below (g := gb229) (o := .cells #[.int .i64 x230000_3, .string x230001_3, .string x230002_3, .int .i64 x230003_3, .int .i64 x230004_3] 24 (0, 0)) (by (with_reducible repeat (first | apply kN | apply kD | apply kA)); exact BK229.out) hb); have n1_ := mA (blk_below (g := gb237) (o := .cells #[.int .i64 t230, .string t231, .string t232, .int .i64 x238003_3, .int .i64 x238004_3] 24 (0, 0)) (by (with_reducible repeat (first | apply kN | apply kD | apply kA)); exact BK237.out) hb); have n2_ := mA (bP (by repeat (first | (with_reducible first | exact HB.out | apply bA | apply bN | apply bD | refine bS ?_ GE229.out | refine bS ?_ GE237.out) | exact HB.out)) hb); clear BK229; clear BK237; clear HB; have BK229 := n0_; have BK237 := n1_; have HB := n2_; clear n0_ n1_ n2_; (try clear hb); (try clear hb2); (try clear hk); (try clear hi)) | ((with_reducible refine gate_callee (f := 32) rfl ?_); refine goesL_ (some 77) rfl rfl Try.func32 (by kernel_rfl) rfl #[.string (t256 ++ t235)] rfl (by (try simp only [List.map_toArray, List.map_cons, List.map_nil]); first | done | rfl | (simp only [List.length_drop, List.length_take]; rfl)) ?_; (with_reducible refine (palanquinref02_Sum.calls kj3 (t256 ++ t235) t257 _ A52.out).mono ?_); rintro e w71 ⟨rfl, hb⟩; refine ⟨_, rfl, ?_⟩; have n0_ := mA (blk_below (g := gb229) (o := .cells #[.int .i64 x230000_3, .string x230001_3, .string x230002_3, .int .i64 x230003_3, .int .i64 x230004_3] 24 (0, 0)) (by (with_reducible repeat (first | apply kN | apply kD | apply kA)); exact BK229.out) hb); have n1_ := mA (blk_below (g := gb237) (o := .cells #[.int .i64 t230, .string t231, .string t232, .int .i64 x238003_3, .int .i64 x238004_3] 24 (0, 0)) (by (with_reducible repeat (first | apply kN | apply kD | apply kA)); exact BK237.out) hb); have n2_ := mA (bP (by repeat (first | (with_reducible first | exact HB.out | apply bA | apply bN | apply bD | refine bS ?_ GE229.out | refine bS ?_ GE237.out) | exact HB.out)) hb); clear BK229; clear BK237; clear HB; have BK229 := n0_; have BK237 := n1_; have HB := n2_; clear n0_ n1_ n2_; (try clear hb); (try clear hb2); (try clear hk); (try clear hi); obtain ⟨hcz72_0, hcz72_1, hcz72_2, hcz72_3, hcz72_4⟩ := bc5 BK237.out; obtain ⟨hfz72_0, hfz72_1, hfz72_2, hfz72_3, hfz72_4⟩ := bf5 BK237.out; obtain ⟨hcz73_0, hcz73_1, hcz73_2, hcz73_3, hcz73_4⟩ := bc5 BK229.out; obtain ⟨hfz73_0, hfz73_1, hfz73_2, hfz73_3, hfz73_4⟩ := bf5 BK229.out))
       refine bodyPost_ret (results_ct rfl _ _ gb229 24 #[.int .i64 t230, .string t231, .string t232, .int .i64 x238003_3, .int .i64 x238004_3] (0, 0) _ rfl (by (with_reducible repeat (first | apply kN | apply kD | apply kA)); refine blk_put (cs := #[.int .i64 t230, .string t231, .string t232, .int .i64 x238003_3, .int .i64 x230004_3]) ?_ 4 _ (by first | rfl | (simp [*]; done)); (with_reducible repeat (first | apply kN | apply kD | apply kA)); refine blk_put (cs := #[.int .i64 t230, .string t231, .string t232, .int .i64 x230003_3, .int .i64 x230004_3]) ?_ 3 _ (by first | rfl | (simp [*]; done)); (with_reducible repeat (first | apply kN | apply kD | apply kA)); refine blk_put (cs := #[.int .i64 t230, .string t231, .string x230002_3, .int .i64 x230003_3, .int .i64 x230004_3]) ?_ 2 _ (by first | rfl | (simp [*]; done)); (with_reducible repeat (first | apply kN | apply kD | apply kA)); refine blk_put (cs := #[.int .i64 t230, .string x230001_3, .string x230002_3, .int .i64 x230003_3, .int .i64 x230004_3]) ?_ 1 _ (by first | rfl | (simp [*]; done)); (with_reducible repeat (first | apply kN | apply kD | apply kA)); refine blk_put (cs := #[.int .i64 x230000_3, .string x230001_3, .string x230002_3, .int .i64 x230003_3, .int .i64 x230004_3]) ?_ 0 _ (by first | rfl | (simp [*]; done)); (with_reducible repeat (first | apply kN | apply kD | apply kA)); exact BK229.out) Try.underlying24 rfl (by kernel_rfl)) rfl ?_
       exact ⟨by first | rfl | (simp [errW_none, errW_some] <;> rfl) | (simp [*, errW_none, errW_some] <;> rfl), by repeat (first | (with_reducible first | exact HB.out | apply bA | apply bN | apply bD | refine bS ?_ GE229.out | refine bS ?_ GE237.out) | exact HB.out)⟩
      ·rw [if_neg c67] at H
       have c67b0 : (t257 == 0) = false := beq_eq_false_iff_ne.mpr c67
       have c67b1 : (t257 != 0) = true := bne_iff_ne.mpr c67
       simp only [Option.some.injEq, Prod.mk.injEq] at H
       obtain ⟨rfl, rfl, rfl, rfl, rfl, rfl⟩ := H
       have hnb74 := NB237_229.out
       have hnc74 := NB229_237.out
       obtain ⟨hcz75_0, hcz75_1, hcz75_2, hcz75_3, hcz75_4⟩ := bc5 BK237.out
       obtain ⟨hfz75_0, hfz75_1, hfz75_2, hfz75_3, hfz75_4⟩ := bf5 BK237.out
       go_wp2_with (first | ((with_reducible refine gate_callee (f := 33) rfl ?_); refine goesL_ (some 74) rfl rfl Try.func33 (by kernel_rfl) rfl #[.string t231, .string t232, .int .i64 t230, .int .i64 (t235.size : Int)] rfl (by (try simp only [List.map_toArray, List.map_cons, List.map_nil]); first | done | rfl | (simp only [List.length_drop, List.length_take]; rfl)) ?_; (with_reducible refine (palanquinref02_Pseudo.calls kj3 t231 t232 t230 (t235.size : Int) t256 _ A50.out).mono ?_); rintro e w76 ⟨rfl, hb⟩; refine ⟨_, rfl, ?_⟩; have n0_ := mA (blk_below (g := gb229) (o := .cells #[.int .i64 x230000_3, .string x230001_3, .string x230002_3, .int .i64 x230003_3, .int .i64 x230004_3] 24 (0, 0)) (by (with_reducible repeat (first | apply kN | apply kD | apply kA)); exact BK229.out) hb); have n1_ := mA (blk_below (g := gb237) (o := .cells #[.int .i64 t230, .string t231, .string t232, .int .i64 x238003_3, .int .i64 x238004_3] 24 (0, 0)) (by (with_reducible repeat (first | apply kN | apply kD | apply kA)); exact BK237.out) hb); have n2_ := mA (bP (by repeat (first | (with_reducible first | exact HB.out | apply bA | apply bN | apply bD | refine bS ?_ GE229.out | refine bS ?_ GE237.out) | exact HB.out)) hb); clear BK229; clear BK237; clear HB; have BK229 := n0_; have BK237 := n1_; have HB := n2_; clear n0_ n1_ n2_; (try clear hb); (try clear hb2); (try clear hk); (try clear hi)) | ((with_reducible refine gate_callee (f := 32) rfl ?_); refine goesL_ (some 77) rfl rfl Try.func32 (by kernel_rfl) rfl #[.string (t256 ++ t235)] rfl (by (try simp only [List.map_toArray, List.map_cons, List.map_nil]); first | done | rfl | (simp only [List.length_drop, List.length_take]; rfl)) ?_; (with_reducible refine (palanquinref02_Sum.calls kj3 (t256 ++ t235) t257 _ A52.out).mono ?_); rintro e w77 ⟨rfl, hb⟩; refine ⟨_, rfl, ?_⟩; have n0_ := mA (blk_below (g := gb229) (o := .cells #[.int .i64 x230000_3, .string x230001_3, .string x230002_3, .int .i64 x230003_3, .int .i64 x230004_3] 24 (0, 0)) (by (with_reducible repeat (first | apply kN | apply kD | apply kA)); exact BK229.out) hb); have n1_ := mA (blk_below (g := gb237) (o := .cells #[.int .i64 t230, .string t231, .string t232, .int .i64 x238003_3, .int .i64 x238004_3] 24 (0, 0)) (by (with_reducible repeat (first | apply kN | apply kD | apply kA)); exact BK237.out) hb); have n2_ := mA (bP (by repeat (first | (with_reducible first | exact HB.out | apply bA | apply bN | apply bD | refine bS ?_ GE229.out | refine bS ?_ GE237.out) | exact HB.out)) hb); clear BK229; clear BK237; clear HB; have BK229 := n0_; have BK237 := n1_; have HB := n2_; clear n0_ n1_ n2_; (try clear hb); (try clear hb2); (try clear hk); (try clear hi); obtain ⟨hcz78_0, hcz78_1, hcz78_2, hcz78_3, hcz78_4⟩ := bc5 BK229.out; obtain ⟨hfz78_0, hfz78_1, hfz78_2, hfz78_3, hfz78_4⟩ := bf5 BK229.out))
       refine bodyPost_ret (results_ct rfl _ _ gb229 24 #[.int .i64 0, .string ⟨#[]⟩, .string ⟨#[]⟩, .int .i64 0, .int .i64 0] (0, 0) _ rfl (by (with_reducible repeat (first | apply kN | apply kD | apply kA)); refine blk_put (cs := #[.int .i64 0, .string ⟨#[]⟩, .string ⟨#[]⟩, .int .i64 0, .int .i64 x230004_3]) ?_ 4 _ (by first | rfl | (simp [*]; done)); (with_reducible repeat (first | apply kN | apply kD | apply kA)); refine blk_put (cs := #[.int .i64 0, .string ⟨#[]⟩, .string ⟨#[]⟩, .int .i64 x230003_3, .int .i64 x230004_3]) ?_ 3 _ (by first | rfl | (simp [*]; done)); (with_reducible repeat (first | apply kN | apply kD | apply kA)); refine blk_put (cs := #[.int .i64 0, .string ⟨#[]⟩, .string x230002_3, .int .i64 x230003_3, .int .i64 x230004_3]) ?_ 2 _ (by first | rfl | (simp [*]; done)); (with_reducible repeat (first | apply kN | apply kD | apply kA)); refine blk_put (cs := #[.int .i64 0, .string x230001_3, .string x230002_3, .int .i64 x230003_3, .int .i64 x230004_3]) ?_ 1 _ (by first | rfl | (simp [*]; done)); (with_reducible repeat (first | apply kN | apply kD | apply kA)); refine blk_put (cs := #[.int .i64 x230000_3, .string x230001_3, .string x230002_3, .int .i64 x230003_3, .int .i64 x230004_3]) ?_ 0 _ (by first | rfl | (simp [*]; done)); (with_reducible repeat (first | apply kN | apply kD | apply kA)); exact BK229.out) Try.underlying24 rfl (by kernel_rfl)) rfl ?_
       exact ⟨by first | rfl | (simp [errW_none, errW_some] <;> rfl) | (simp [*, errW_none, errW_some] <;> rfl), by repeat (first | (with_reducible first | exact HB.out | apply bA | apply bN | apply bD | refine bS ?_ GE229.out | refine bS ?_ GE237.out) | exact HB.out)⟩
    ·rw [if_neg c51] at H
     exact absurd H (by simp)
 ·rw [if_neg c3] at H
  have c3b0 : (t236 == 0) = false := beq_eq_false_iff_ne.mpr c3
  have c3b1 : (t236 != 0) = true := bne_iff_ne.mpr c3
  simp only [Option.some.injEq, Prod.mk.injEq] at H
  obtain ⟨rfl, rfl, rfl, rfl, rfl, rfl⟩ := H
  go_enter Try.func12, Try.ntmps12
  go_wp2_with (first | ((with_reducible refine gate_dst (N := 2) rfl ?_); refine box_event ?hg (N := 2) ?hd (cs := #[.int .i64 0, .string ⟨#[]⟩, .string ⟨#[]⟩, .int .i64 0, .int .i64 0]) (t := 24) ?hr ?_; (case hd => rfl); (case hg => rfl); (case hr => first | (go_simp; done) | (go_simp; rfl)); intro gb229 hg w79 hbox hb; obtain ⟨n0_, nq_⟩ := bpr (by repeat (first | (with_reducible first | exact HB.out | apply bA | apply bN | apply bD) | exact HB.out)) hb; have n1_ := mA (hbox); have n2_ := mA ((by rw [hg]; exact nq_ : w.heap.size ≤ gb229)); have n3_ := mA ((by rw [hg]; exact nq_ : w.heap.size ≤ gb229)); clear HB; have HB := n0_; have BK229 := n1_; have GW229 := n2_; have GE229 := n3_; clear nq_; clear n0_ n1_ n2_ n3_; clear hb hbox hg) | ((with_reducible refine gate_callee (f := 29) rfl ?_); refine goesL_ (some 17) rfl rfl Try.func29 (by kernel_rfl) rfl #[.string a0] rfl (by (try simp only [List.map_toArray, List.map_cons, List.map_nil]); first | done | rfl | (simp only [List.length_drop, List.length_take]; rfl)) ?_; (with_reducible refine (palanquinref09_open.calls k a0 t230 t231 t232 t233 t234 t235 t236 _ A2.out).mono ?_); rintro e w80 ⟨rfl, hb⟩; refine ⟨_, rfl, ?_⟩; have n0_ := mA (blk_below (g := gb229) (o := .cells #[.int .i64 0, .string ⟨#[]⟩, .string ⟨#[]⟩, .int .i64 0, .int .i64 0] 24 (0, 0)) (by (with_reducible repeat (first | apply kN | apply kD | apply kA)); exact BK229.out) hb); have n1_ := mA (bP (by repeat (first | (with_reducible first | exact HB.out | apply bA | apply bN | apply bD | refine bS ?_ GE229.out) | exact HB.out)) hb); clear BK229; clear HB; have BK229 := n0_; have HB := n1_; clear n0_ n1_; (try clear hb); (try clear hb2); (try clear hk); (try clear hi)) | ((with_reducible refine gate_dst (N := 4) rfl ?_); refine box_event ?hg (N := 4) ?hd (cs := #[.int .i64 0, .string ⟨#[]⟩, .string ⟨#[]⟩, .int .i64 0, .int .i64 0]) (t := 24) ?hr ?_; (case hd => rfl); (case hg => rfl); (case hr => first | (go_simp; done) | (go_simp; rfl)); intro gb237 hg w81 hbox hb; obtain ⟨n0_, nl229_⟩ := bt3 (g := gb229) (o := .cells #[.int .i64 0, .string ⟨#[]⟩, .string ⟨#[]⟩, .int .i64 0, .int .i64 0] 24 (0, 0)) (by (with_reducible repeat (first | apply kN | apply kD | apply kA)); exact BK229.out) hb; obtain ⟨n1_, nq_⟩ := bpr (by repeat (first | (with_reducible first | exact HB.out | apply bA | apply bN | apply bD | refine bS ?_ GE229.out) | exact HB.out)) hb; have n2_ := mA (hbox); have n3_ := mA ((by rw [hg]; exact nq_ : w.heap.size ≤ gb237)); have n4_ := mA ((by rw [hg]; exact nq_ : w.heap.size ≤ gb237)); have n5_ := mA ((by rw [hg]; exact Nat.ne_of_lt nl229_ : gb229 ≠ gb237)); have n6_ := mA ((by rw [hg]; exact Nat.ne_of_gt nl229_ : gb237 ≠ gb229)); clear BK229; clear HB; have BK229 := n0_; have HB := n1_; have BK237 := n2_; have GW237 := n3_; have GE237 := n4_; have NB229_237 := n5_; have NB237_229 := n6_; clear nl229_; clear nq_; clear n0_ n1_ n2_ n3_ n4_ n5_ n6_; clear hb hbox hg; have hnb82 := NB237_229.out; have hnc82 := NB229_237.out; obtain ⟨hcz83_0, hcz83_1, hcz83_2, hcz83_3, hcz83_4⟩ := bc5 BK237.out; obtain ⟨hfz83_0, hfz83_1, hfz83_2, hfz83_3, hfz83_4⟩ := bf5 BK237.out; obtain ⟨hcz84_0, hcz84_1, hcz84_2, hcz84_3, hcz84_4⟩ := bc5 BK229.out; obtain ⟨hfz84_0, hfz84_1, hfz84_2, hfz84_3, hfz84_4⟩ := bf5 BK229.out))
  refine bodyPost_ret (results_ct rfl _ _ gb229 24 #[.int .i64 0, .string ⟨#[]⟩, .string ⟨#[]⟩, .int .i64 0, .int .i64 0] (0, 0) _ rfl (by (with_reducible repeat (first | apply kN | apply kD | apply kA)); refine blk_put (cs := #[.int .i64 0, .string ⟨#[]⟩, .string ⟨#[]⟩, .int .i64 0, .int .i64 0]) ?_ 4 _ (by first | rfl | (simp [*]; done)); (with_reducible repeat (first | apply kN | apply kD | apply kA)); refine blk_put (cs := #[.int .i64 0, .string ⟨#[]⟩, .string ⟨#[]⟩, .int .i64 0, .int .i64 0]) ?_ 3 _ (by first | rfl | (simp [*]; done)); (with_reducible repeat (first | apply kN | apply kD | apply kA)); refine blk_put (cs := #[.int .i64 0, .string ⟨#[]⟩, .string ⟨#[]⟩, .int .i64 0, .int .i64 0]) ?_ 2 _ (by first | rfl | (simp [*]; done)); (with_reducible repeat (first | apply kN | apply kD | apply kA)); refine blk_put (cs := #[.int .i64 0, .string ⟨#[]⟩, .string ⟨#[]⟩, .int .i64 0, .int .i64 0]) ?_ 1 _ (by first | rfl | (simp [*]; done)); (with_reducible repeat (first | apply kN | apply kD | apply kA)); refine blk_put (cs := #[.int .i64 0, .string ⟨#[]⟩, .string ⟨#[]⟩, .int .i64 0, .int .i64 0]) ?_ 0 _ (by first | rfl | (simp [*]; done)); (with_reducible repeat (first | apply kN | apply kD | apply kA | refine blk_far ?_ NB229_237.out _)); exact BK229.out) Try.underlying24 rfl (by kernel_rfl)) rfl ?_
  exact ⟨by first | rfl | (simp [errW_none, errW_some] <;> rfl) | (simp [*, errW_none, errW_some] <;> rfl), by repeat (first | (with_reducible first | exact HB.out | apply bA | apply bN | apply bD | refine bS ?_ GE229.out | refine bS ?_ GE237.out) | exact HB.out)⟩

end Go.Proofs.Ytcmalglippmocaa.G
end

section
namespace Go.Proofs.Ytcmalglippmocaa.Pure
theorem and_low (i : Nat) (hi : i ≤ 62) (x : Nat) (hx : x < 9223372036854775808) : Go.bits .and .i64 (x : Int) (((2 ^ i - 1 : Nat)) : Int) = ((x % 2 ^ i : Nat) : Int) := by
  have hp : 2 ^ i ≤ 2 ^ 62 := Nat.pow_le_pow_right (by decide) hi
  have h1 : 1 ≤ 2 ^ i := Nat.one_le_two_pow
  rw [Pal.i64_and x (2 ^ i - 1) hx (by omega), Nat.and_two_pow_sub_one_eq_mod]
theorem and15 (x : Nat) (hx : x < 65536) : Go.bits .and .i64 (x : Int) 15 = ((x % 16 : Nat) : Int) := and_low 4 (by decide) x (by omega)
theorem and1 (x : Nat) (hx : x < 65536) : Go.bits .and .i64 (x : Int) 1 = ((x % 2 : Nat) : Int) := and_low 1 (by decide) x (by omega)
theorem and8191 (x : Nat) (hx : x < 65536) : Go.bits .and .i64 (x : Int) 8191 = ((x % 8192 : Nat) : Int) := and_low 13 (by decide) x (by omega)
end Go.Proofs.Ytcmalglippmocaa.Pure
namespace Go.Proofs.Ytcmalglippmocaa.G
open Go.Proofs.Ytcmalglippmocaa.Pal
def hl4 (s : ByteArray) : Nat := 4 * (be (bl (s.extract 0 1)) % 16)
def ip4Err (s : ByteArray) : Int :=
  if s.size < 20 then 2 else if be (bl (s.extract 0 1)) / 16 = 4 then (if 20 ≤ hl4 s ∧ hl4 s ≤ s.size ∧ be (bl (s.extract 2 4)) = s.size then (if csum (bl (s.extract 0 (hl4 s))) = 0 then (if be (bl (s.extract 6 8)) / 32768 = 0 then 0 else 9) else 5) else 4) else 3
end Go.Proofs.Ytcmalglippmocaa.G
end

section
namespace Go.Proofs.Ytcmalglippmocaa.G
open Go.RowKit Go.Proofs.YtcmalglippmocaaW.PrintWords Go.Proofs.YtcmalglippmocaaW.PrintLast Go.Proofs.YtcmalglippmocaaW.PrintMore Go.Proofs.Ytcmalglippmocaa.Pal
theorem panicOut4 {P : Program} {fn : Func} {R : Ending → World → Prop} {ch : List PanicEntry} {a : Act} {w : World} (h : wpAny P .any #[] (fun _ a w => bodyPost P fn R (.panic ch) a w) 0 #[] a w) : bodyPost P fn R (.panic ch) a w := h.2

theorem Take4.went (R : Nat) (s : ByteArray) (n m : Nat) (w : World) (h : Rd w R s n) (hm : n + m ≤ s.size) :
    Calls Try.prog 70 #[.pointer (some ⟨R, 0, none⟩), .int .i64 (m : Int)] w fun e w' => e = .returned (.string (s.extract n (n + m))) ∧ Went w w' R s (n + m) := by
  refine (Reader_Take.yes R s n m w h hm).mono ?_
  rintro e w' ⟨rfl, k, j, rfl⟩
  exact ⟨rfl, grown_drewN (World.grownBy.trans (grown_drewN (grown_refl w _) k) (grown_setCell _ _ _ _)) j, (((h.1.drewN k).set 1 (.int .i64 ((n + m : Nat) : Int))).drewN j), hm, h.2.2⟩
def VG4 (k : Nat) (s : ByteArray) (w w1 : World) (n : Nat) (cs : Array Value) (x : ByteArray) : Prop :=
  Rd w1 (k + 5) s n ∧ Hp w1 [(k, 9, #[.string s]), (k + 1, 50, #[.int .i64 0, .int .i64 0, .int .i64 0, .int .i64 0, .int .i64 0, .bool false, .bool false, .string ⟨#[]⟩, .string ⟨#[]⟩, .string ⟨#[]⟩]), (k + 2, 50, cs), (k + 3, 9, #[.string x]), (k + 4, 25, #[.int .i64 0])] ∧ Below k w w1
theorem VG4.went {k : Nat} {s : ByteArray} {w w1 w2 : World} {n m : Nat} {cs : Array Value} {x : ByteArray} (h : VG4 k s w w1 n cs x) (hw : Went w1 w2 (k + 5) s m) : VG4 k s w w2 m cs x :=
  ⟨hw.2, h.2.1.grown hw.1 (by simp), h.2.2.trans (below_of_grown hw.1 (by have := h.1.1.lt; omega) (by omega))⟩
theorem VG4.put {k : Nat} {s : ByteArray} {w w1 : World} {n : Nat} {cs : Array Value} {x : ByteArray} (h : VG4 k s w w1 n cs x) (j : Nat) (v : Value) : VG4 k s w (w1.setCell ⟨k + 2, j, none⟩ v) n (cs.setIfInBounds j v) x :=
  ⟨⟨h.1.1.other _ (by simp) _, h.1.2⟩, h.2.1.set (l1 := [_, _]) (l2 := [_, _]) j v (by simp) (by simp), h.2.2.setCell (by simp) _⟩
theorem VG4.putSum {k : Nat} {s : ByteArray} {w w1 : World} {n : Nat} {cs : Array Value} {x : ByteArray} (h : VG4 k s w w1 n cs x) (y : ByteArray) : VG4 k s w (w1.setCell ⟨k + 3, 0, none⟩ (.string y)) n cs y :=
  ⟨⟨h.1.1.other _ (by simp) _, h.1.2⟩, h.2.1.set (l1 := [_, _, _]) (l2 := [_]) 0 (.string y) (by simp) (by simp), h.2.2.setCell (by simp) _⟩
theorem VG4.drew {k : Nat} {s : ByteArray} {w w1 : World} {n : Nat} {cs : Array Value} {x : ByteArray} (h : VG4 k s w w1 n cs x) : VG4 k s w w1.drew n cs x := ⟨h.1, h.2.1, h.2.2.drew⟩
theorem VG4.drewN {k : Nat} {s : ByteArray} {w w1 : World} {n : Nat} {cs : Array Value} {x : ByteArray} (h : VG4 k s w w1 n cs x) (j : Nat) : VG4 k s w (w1.drewN j) n cs x := ⟨h.1, h.2.1, pw_below_drewN h.2.2 j⟩
theorem VG4.facts {k : Nat} {s : ByteArray} {w w1 : World} {n : Nat} {cs : Array Value} {x : ByteArray} (h : VG4 k s w w1 n cs x) :
    w1.cell? ⟨k, 0, none⟩ = some (.string s) ∧ (∀ j, w1.frozen? ⟨k + 2, j, none⟩ = false) ∧ (∀ j, w1.cell? ⟨k + 2, j, none⟩ = cs[j]?) ∧ w1.cell? ⟨k + 3, 0, none⟩ = some (.string x) ∧ w1.frozen? ⟨k + 3, 0, none⟩ = false :=
  ⟨h.2.1.head.cell 0 _ rfl, h.2.1.tail.tail.head.frees, h.2.1.tail.tail.head.cells, h.2.1.tail.tail.tail.head.cell 0 _ rfl, h.2.1.tail.tail.tail.head.free 0⟩

def zero4 : Array Value := #[.int .i64 0, .int .i64 0, .int .i64 0, .int .i64 0, .int .i64 0, .bool false, .bool false, .string ⟨#[]⟩, .string ⟨#[]⟩, .string ⟨#[]⟩]

theorem VG4.step {k : Nat} {s : ByteArray} {w w1 w2 : World} {n : Nat} {cs : Array Value} {x : ByteArray} (h : VG4 k s w w1 n cs x) (hb : Below w1.heap.size w1 w2) : VG4 k s w w2 n cs x :=
  ⟨⟨h.1.1.below hb h.1.1.lt, h.1.2⟩, h.2.1.below hb (fun y hy => (h.2.1 y hy).lt), h.2.2.trans (hb.mono (by have := h.1.1.lt; omega))⟩
theorem right_one (t : ByteArray) (h : t.size ≤ 1099511627776) : sum_Right.f [t] = some (csum (bl t) == 0) := by
  have e : cat [t] = bl t := by rw [cat_cons, cat_nil, List.append_nil]
  unfold sum_Right.f sum_Sum.f
  rw [if_pos (by rw [e, bl_length]; exact h), e, Option.bind_some]
  congr 1
  rw [Bool.eq_iff_iff]; simp
theorem flagA (F : Nat) : (((F : Int) / 16384 % 2) == 1) = (F / 16384 % 2 == 1) := by rw [Bool.eq_iff_iff, beq_iff_eq, beq_iff_eq]; omega
theorem flagB (F : Nat) : (((F : Int) / 8192 % 2) == 1) = (F / 8192 % 2 == 1) := by rw [Bool.eq_iff_iff, beq_iff_eq, beq_iff_eq]; omega
theorem flagC (F : Nat) : ((F : Int) % 8192) = ((F % 8192 : Nat) : Int) := by omega
theorem less20 (N : Nat) (h : 20 ≤ N) (h2 : N ≤ 60) : ∃ M : Nat, 20 + M = N ∧ ((N : Int) - 20) = (M : Int) ∧ wrap64 ((N : Int) - 20) = (M : Int) ∧ IntKind.i64.wrap ((N : Int) - 20) = (M : Int) := by
  refine ⟨N - 20, by omega, by omega, ?_, ?_⟩
  · unfold wrap64; omega
  · rw [IntKind.wrap_i64]; omega
def final4 (s : ByteArray) : Array Value := #[(.int .i64 (be (bl (s.extract 1 2)) : Nat)), (.int .i64 (be (bl (s.extract 4 6)) : Nat)), (.int .i64 ((be (bl (s.extract 6 8)) % 8192 : Nat) : Int)), (.int .i64 (be (bl (s.extract 8 9)) : Nat)), (.int .i64 (be (bl (s.extract 9 10)) : Nat)), (.bool (be (bl (s.extract 6 8)) / 16384 % 2 == 1)), (.bool (be (bl (s.extract 6 8)) / 8192 % 2 == 1)), (.string (s.extract 12 16)), (.string (s.extract 16 20)), (.string (s.extract 20 (hl4 s)))]


set_option maxHeartbeats 8000000 in
set_option maxRecDepth 100000 in
theorem ip4_Get1.walk (k : Nat) (s : ByteArray) (w w1 : World) (h : VG4 k s w w1 0 zero4 ⟨#[]⟩) :
    Calls Try.prog 66 #[.pointer (some ⟨k + 5, 0, none⟩), .pointer (some ⟨k, 0, none⟩), .pointer (some ⟨k + 2, 0, none⟩), .pointer (some ⟨k + 3, 0, none⟩)] w1 fun e w2 => e = did (ip4Err s) ∧ ∃ n cs x, VG4 k s w w2 n cs x ∧ (ip4Err s = 0 → cs = final4 s ∧ x = s.extract (hl4 s) s.size) := by
  have HG := Aside0.mk h
  obtain ⟨c0, c1, c2, c3, c4⟩ := h.facts
  clear h c1 c2 c3 c4
  go_enter Try.func66, Try.ntmps66
  by_cases h20 : s.size < 20
  · have he : ip4Err s = 2 := if_pos h20
    have d1 : decide ((20 : Int) ≤ (s.size : Int)) = false := decide_eq_false (by omega)
    have d2 : decide (20 ≤ s.size) = false := decide_eq_false (by omega)
    clear h20
    go_wp2_with fail
    refine (Reader_Need.no _ _ _).mono ?_
    rintro e w2 ⟨rfl, rfl⟩
    exact ⟨rfl, by rw [he]; rfl, _, _, _, HG.out, fun h0 => absurd (he.symm.trans h0) (by decide)⟩
  have d1 : decide ((20 : Int) ≤ (s.size : Int)) = true := decide_eq_true (by omega)
  have d2 : decide (20 ≤ s.size) = true := decide_eq_true (by omega)
  go_wp2_with fail
  refine (Reader_Need.yes _ _ _).mono ?_
  rintro e w2 ⟨rfl, rfl⟩
  clear d1 d2
  go_wp2_with fail
  refine (Reader_U8.yes _ _ _ _ HG.out.1 (by omega)).mono ?_
  rintro e w2 ⟨rfl, g1⟩
  replace HG := Aside0.mk (HG.out.went g1)
  clear g1 c0
  have hB : be (bl (s.extract 0 1)) < 256 := be_lt_of _ 1 (by rw [bl_length, ByteArray.size_extract]; omega)
  have m1 : Go.bits .and .i64 ((be (bl (s.extract 0 1)) : Nat) : Int) 15 = ((be (bl (s.extract 0 1)) % 16 : Nat) : Int) := by exact Pure.and15 _ (by omega)
  have m2 : wrap64 (4 * ((be (bl (s.extract 0 1)) % 16 : Nat) : Int)) = ((hl4 s : Nat) : Int) := by unfold hl4 wrap64; omega
  have m3 : IntKind.i64.wrap (4 * ((be (bl (s.extract 0 1)) % 16 : Nat) : Int)) = ((hl4 s : Nat) : Int) := by rw [IntKind.wrap_i64]; unfold hl4; omega
  have HN := Aside0.mk (show hl4 s ≤ 60 by unfold hl4; omega)
  by_cases hv : be (bl (s.extract 0 1)) / 16 = 4
  case neg =>
    have he : ip4Err s = 3 := by unfold ip4Err; rw [if_neg h20, if_neg hv]
    have v1 : (((be (bl (s.extract 0 1)) : Nat) : Int) / 16 == 4) = false := by rw [beq_eq_false_iff_ne]; omega
    have v2 : ((be (bl (s.extract 0 1))) / 16 == 4) = false := by rw [beq_eq_false_iff_ne]; exact hv
    go_wp2_with fail
    refine (Reader_Need.no _ _ _).mono ?_
    rintro e w3 ⟨rfl, rfl⟩
    exact ⟨rfl, by rw [he]; rfl, _, _, _, HG.out, fun h0 => absurd (he.symm.trans h0) (by decide)⟩
  have v1 : (((be (bl (s.extract 0 1)) : Nat) : Int) / 16 == 4) = true := by rw [beq_iff_eq]; omega
  have v2 : ((be (bl (s.extract 0 1))) / 16 == 4) = true := by rw [beq_iff_eq]; exact hv
  have HV := Aside0.mk hv
  clear hv
  have e4 : (4 * (((be (bl (s.extract 0 1)) : Nat) : Int) % 16)) = ((hl4 s : Nat) : Int) := by unfold hl4; omega
  go_wp2_with fail
  clear e4
  refine (Reader_Need.yes _ _ _).mono ?_
  rintro e w3 ⟨rfl, rfl⟩
  clear v1 v2 m1 m2 m3 hB
  go_wp2_with fail
  refine (Reader_U8.yes _ _ _ _ HG.out.1 (by omega)).mono ?_
  rintro e w3 ⟨rfl, g1⟩
  replace HG := Aside0.mk (HG.out.went g1)
  clear g1
  obtain ⟨c0, c1, c2, c3, c4⟩ := HG.out.facts
  simp only [zero4] at c2
  clear c0 c3 c4
  have HX := Aside0.mk h20
  clear h20
  go_wp2
  clear c1 c2
  replace HG := Aside0.mk (HG.out.put 0 (.int .i64 (be (bl (s.extract 1 2)) : Nat)))
  simp only [zero4, List.setIfInBounds_toArray, List.set_cons_zero, List.set_cons_succ] at HG
  generalize w3.setCell ⟨k + 2, 0, none⟩ (.int .i64 (be (bl (s.extract 1 2)) : Nat)) = w4 at HG ⊢
  generalize hN : hl4 s = N at HN ⊢
  have HNN := Aside0.mk hN
  clear hN
  have c0 := HG.out.facts.1
  by_cases hl : 20 ≤ N
  case neg =>
    have l1 : decide ((20 : Int) ≤ (N : Int)) = false := decide_eq_false (by omega)
    have l2 : decide (20 ≤ N) = false := decide_eq_false hl
    have he : ip4Err s = 4 := by unfold ip4Err; rw [if_neg HX.out, if_pos HV.out, if_neg (by rw [HNN.out]; exact fun h => hl h.1)]
    go_still_tail 16, (by kernel_rfl)
    change wpList _ _ _ _ _ w4.drew
    go_wp2_with fail
    refine (Reader_Need.no _ _ _).mono ?_
    rintro e w6 ⟨rfl, rfl⟩
    exact ⟨rfl, by rw [he]; rfl, _, _, _, HG.out.drew, fun h0 => absurd (he.symm.trans h0) (by decide)⟩
  have l1 : decide ((20 : Int) ≤ (N : Int)) = true := decide_eq_true (by omega)
  have l2 : decide (20 ≤ N) = true := decide_eq_true hl
  by_cases hm : N ≤ s.size
  case neg =>
    have m1 : decide ((N : Int) ≤ (s.size : Int)) = false := decide_eq_false (by omega)
    have m2 : decide (N ≤ s.size) = false := decide_eq_false hm
    have he : ip4Err s = 4 := by unfold ip4Err; rw [if_neg HX.out, if_pos HV.out, if_neg (by rw [HNN.out]; exact fun h => hm h.2.1)]
    go_still_tail 16, (by kernel_rfl)
    change wpList _ _ _ _ _ w4.drew
    go_wp2_with fail
    refine (Reader_Need.no _ _ _).mono ?_
    rintro e w6 ⟨rfl, rfl⟩
    exact ⟨rfl, by rw [he]; rfl, _, _, _, HG.out.drew, fun h0 => absurd (he.symm.trans h0) (by decide)⟩
  have m1 : decide ((N : Int) ≤ (s.size : Int)) = true := decide_eq_true (by omega)
  have m2 : decide (N ≤ s.size) = true := decide_eq_true hm
  by_cases ht : be (bl (s.extract 2 4)) = s.size
  case neg =>
    have t1 : (((be (bl (s.extract 2 4)) : Nat) : Int) == (s.size : Int)) = false := by rw [beq_eq_false_iff_ne]; omega
    have t2 : (be (bl (s.extract 2 4)) == s.size) = false := by rw [beq_eq_false_iff_ne]; exact ht
    have he : ip4Err s = 4 := by unfold ip4Err; rw [if_neg HX.out, if_pos HV.out, if_neg (fun h => ht h.2.2)]
    clear hl hm ht
    go_region_with ((first
      | (go_at_call 69; refine (Reader_U16.yes _ _ 2 _ HG.out.drew.1 ?_).mono ?_; (have := HX.out; omega); rintro e w5 ⟨rfl, g1⟩; have HG3 := Aside0.mk (HG.out.drew.went g1); have c3 := HG3.out.facts.1; clear g1)
      | (go_at_call 67; refine (Reader_Need.no _ _ _).mono ?_; rintro e w6 ⟨rfl, rfl⟩; refine panicOut4 ?_)))
    all_goals exact ⟨rfl, by rw [he]; rfl, _, _, _, HG3.out, fun h0 => absurd (he.symm.trans h0) (by decide)⟩
  have t1 : (((be (bl (s.extract 2 4)) : Nat) : Int) == (s.size : Int)) = true := by rw [beq_iff_eq]; omega
  have t2 : (be (bl (s.extract 2 4)) == s.size) = true := by rw [beq_iff_eq]; exact ht
  have HM := Aside0.mk (show 20 ≤ N ∧ N ≤ s.size ∧ be (bl (s.extract 2 4)) = s.size from ⟨hl, hm, ht⟩)
  clear hl hm ht
  go_region_with ((first
    | (go_at_call 69; refine (Reader_U16.yes _ _ 2 _ HG.out.drew.1 ?_).mono ?_; (have := HX.out; omega); rintro e w5 ⟨rfl, g1⟩; have HG3 := Aside0.mk (HG.out.drew.went g1); have c3 := HG3.out.facts.1; clear g1)
    | (go_at_call 67; refine (Reader_Need.yes _ _ _).mono ?_; rintro e w6 ⟨rfl, rfl⟩)))
  all_goals
    clear c0 l1 l2 m1 m2 t1 t2
    replace HG := HG3
    clear HG3
    have s1 : ((N : Int) ≤ (s.size : Int)) = True := eq_true (by have := HM.out; omega)
    have s2 : (N ≤ s.size) = True := eq_true HM.out.2.1
    go_wp2_with fail
    refine (sum_Right.calls _ _ [s.extract 0 N] (csum (bl (s.extract 0 N)) == 0) _ (C_one _ _ _) (by simp) (right_one _ (by simp only [ByteArray.size_extract]; have := HN.out; omega))).mono ?_
    rintro e w7 ⟨rfl, g1⟩
    replace HG := Aside0.mk (HG.out.step (((Below.refl w6.heap.size w6).alloc (Nat.le_refl _) _).trans (g1.mono (by simp))))
    clear g1 s1 s2
    by_cases hz : csum (bl (s.extract 0 N)) = 0
    case neg =>
      have z1 : (csum (bl (s.extract 0 N)) == 0) = false := by rw [beq_eq_false_iff_ne]; exact hz
      have he : ip4Err s = 5 := by unfold ip4Err; rw [if_neg HX.out, if_pos HV.out, HNN.out, if_pos HM.out, if_neg hz]
      rw [z1]
      clear hz z1
      go_wp2_with fail
      refine (Reader_Need.no _ _ _).mono ?_
      rintro e w8 ⟨rfl, rfl⟩
      exact ⟨rfl, by rw [he]; rfl, _, _, _, HG.out, fun h0 => absurd (he.symm.trans h0) (by decide)⟩
    have z1 : (csum (bl (s.extract 0 N)) == 0) = true := by rw [beq_iff_eq]; exact hz
    rw [z1]
    have HZ := Aside0.mk hz
    clear hz z1
    go_wp2_with fail
    refine (Reader_Need.yes _ _ _).mono ?_
    rintro e w8 ⟨rfl, rfl⟩
    go_wp2_with fail
    refine (Reader_U16.yes _ _ _ _ HG.out.1 (by have := HM.out; have := HX.out; omega)).mono ?_
    rintro e w9 ⟨rfl, g1⟩
    replace HG := Aside0.mk (HG.out.went g1)
    clear g1
    obtain ⟨c0, c1, c2, c3, c4⟩ := HG.out.facts
    clear c0 c3 c4
    go_wp2_with fail
    clear c1 c2
    replace HG := Aside0.mk (HG.out.put 1 (.int .i64 (be (bl (s.extract 4 6)) : Nat)))
    simp only [List.setIfInBounds_toArray, List.set_cons_zero, List.set_cons_succ] at HG
    generalize (w9.setCell ⟨k + 2, 1, none⟩ (.int .i64 (be (bl (s.extract 4 6)) : Nat))) = wa at HG ⊢
    refine (Reader_U16.yes _ _ _ _ HG.out.1 (by have := HM.out; have := HX.out; omega)).mono ?_
    rintro e w10 ⟨rfl, g1⟩
    replace HG := Aside0.mk (HG.out.went g1)
    clear g1
    have hF : be (bl (s.extract 6 8)) < 65536 := be_lt_of _ 2 (by rw [bl_length, ByteArray.size_extract]; have := HX.out; omega)
    by_cases hf : be (bl (s.extract 6 8)) / 32768 = 0
    case neg =>
      have z1 : (((be (bl (s.extract 6 8)) : Nat) : Int) / 32768 == 0) = false := by rw [beq_eq_false_iff_ne]; omega
      have z2 : (be (bl (s.extract 6 8)) / 32768 == 0) = false := by rw [beq_eq_false_iff_ne]; exact hf
      have he : ip4Err s = 9 := by unfold ip4Err; rw [if_neg HX.out, if_pos HV.out, HNN.out, if_pos HM.out, if_pos HZ.out, if_neg hf]
      clear hf hF
      go_wp2_with fail
      refine (Reader_Need.no _ _ _).mono ?_
      rintro e w11 ⟨rfl, rfl⟩
      exact ⟨rfl, by rw [he]; rfl, _, _, _, HG.out, fun h0 => absurd (he.symm.trans h0) (by decide)⟩
    have z1 : (((be (bl (s.extract 6 8)) : Nat) : Int) / 32768 == 0) = true := by rw [beq_iff_eq]; omega
    have z2 : (be (bl (s.extract 6 8)) / 32768 == 0) = true := by rw [beq_iff_eq]; exact hf
    have he : ip4Err s = 0 := by unfold ip4Err; rw [if_neg HX.out, if_pos HV.out, HNN.out, if_pos HM.out, if_pos HZ.out, if_pos hf]
    have HE := Aside0.mk he
    clear hf he
    go_wp2_with fail
    refine (Reader_Need.yes _ _ _).mono ?_
    rintro e w11 ⟨rfl, rfl⟩
    clear z1 z2
    have a1 : Go.bits .and .i64 (((be (bl (s.extract 6 8)) : Nat) : Int) / 16384) 1 = ((be (bl (s.extract 6 8)) / 16384 % 2 : Nat) : Int) := by rw [show ((be (bl (s.extract 6 8)) : Nat) : Int) / 16384 = ((be (bl (s.extract 6 8)) / 16384 : Nat) : Int) by omega]; exact Pure.and1 _ (by omega)
    have a2 : Go.bits .and .i64 (((be (bl (s.extract 6 8)) : Nat) : Int) / 8192) 1 = ((be (bl (s.extract 6 8)) / 8192 % 2 : Nat) : Int) := by rw [show ((be (bl (s.extract 6 8)) : Nat) : Int) / 8192 = ((be (bl (s.extract 6 8)) / 8192 : Nat) : Int) by omega]; exact Pure.and1 _ (by omega)
    have a3 : Go.bits .and .i64 ((be (bl (s.extract 6 8)) : Nat) : Int) 8191 = ((be (bl (s.extract 6 8)) % 8192 : Nat) : Int) := Pure.and8191 _ hF
    obtain ⟨c0, c1, c2, c3, c4⟩ := HG.out.facts
    clear c0 c3 c4
    go_wp2_with fail
    rw [flagA, flagB, flagC]
    clear c1 c2 a1 a2 a3 hF
    replace HG := Aside0.mk (((HG.out.put 5 (.bool (be (bl (s.extract 6 8)) / 16384 % 2 == 1))).put 6 (.bool (be (bl (s.extract 6 8)) / 8192 % 2 == 1))).put 2 (.int .i64 ((be (bl (s.extract 6 8)) % 8192 : Nat) : Int)))
    simp only [List.setIfInBounds_toArray, List.set_cons_zero, List.set_cons_succ] at HG
    generalize (((w11.setCell ⟨k + 2, 5, none⟩ (.bool (be (bl (s.extract 6 8)) / 16384 % 2 == 1))).setCell ⟨k + 2, 6, none⟩ (.bool (be (bl (s.extract 6 8)) / 8192 % 2 == 1))).setCell ⟨k + 2, 2, none⟩ (.int .i64 ((be (bl (s.extract 6 8)) % 8192 : Nat) : Int))) = wa at HG ⊢
    refine (Reader_U8.yes _ _ _ _ HG.out.1 (by have := HM.out; have := HX.out; omega)).mono ?_
    rintro e w12 ⟨rfl, g1⟩
    replace HG := Aside0.mk (HG.out.went g1)
    clear g1
    go_wp2_with fail
    refine (Reader_U8.yes _ _ _ _ HG.out.1 (by have := HM.out; have := HX.out; omega)).mono ?_
    rintro e w13 ⟨rfl, g1⟩
    replace HG := Aside0.mk (HG.out.went g1)
    clear g1
    obtain ⟨c0, c1, c2, c3, c4⟩ := HG.out.facts
    clear c0 c3 c4
    go_wp2_with fail
    clear c1 c2
    replace HG := Aside0.mk ((HG.out.put 3 (.int .i64 (be (bl (s.extract 8 9)) : Nat))).put 4 (.int .i64 (be (bl (s.extract 9 10)) : Nat)))
    simp only [List.setIfInBounds_toArray, List.set_cons_zero, List.set_cons_succ] at HG
    generalize ((w13.setCell ⟨k + 2, 3, none⟩ (.int .i64 (be (bl (s.extract 8 9)) : Nat))).setCell ⟨k + 2, 4, none⟩ (.int .i64 (be (bl (s.extract 9 10)) : Nat))) = wa at HG ⊢
    refine (Reader_U16.yes _ _ _ _ HG.out.1 (by have := HM.out; have := HX.out; omega)).mono ?_
    rintro e w14 ⟨rfl, g1⟩
    replace HG := Aside0.mk (HG.out.went g1)
    clear g1
    go_wp2_with fail
    refine (Take4.went _ _ _ 4 _ HG.out.1 (by have := HM.out; have := HX.out; omega)).mono ?_
    rintro e w15 ⟨rfl, g1⟩
    replace HG := Aside0.mk (HG.out.went g1)
    clear g1
    go_wp2_with fail
    refine (Take4.went _ _ _ 4 _ HG.out.1 (by have := HM.out; have := HX.out; omega)).mono ?_
    rintro e w16 ⟨rfl, g1⟩
    replace HG := Aside0.mk (HG.out.went g1)
    clear g1
    obtain ⟨c0, c1, c2, c3, c4⟩ := HG.out.facts
    clear c0 c3 c4
    obtain ⟨M, hM, e1, e2, e3⟩ := less20 N HM.out.1 HN.out
    have HS := Aside0.mk hM
    have HS2 := Aside0.mk e2
    clear hM e1 e2 e3
    go_wp2_with fail
    rw [HS2.out]
    clear c1 c2
    replace HG := Aside0.mk ((HG.out.put 7 (.string (s.extract 12 16))).put 8 (.string (s.extract 16 20)))
    simp only [List.setIfInBounds_toArray, List.set_cons_zero, List.set_cons_succ] at HG
    generalize ((w16.setCell ⟨k + 2, 7, none⟩ (.string (s.extract 12 16))).setCell ⟨k + 2, 8, none⟩ (.string (s.extract 16 20))) = wa at HG ⊢
    refine (Take4.went _ _ _ M _ HG.out.1 (by have := HM.out; have := HS.out; omega)).mono ?_
    rintro e w17 ⟨rfl, g1⟩
    replace HG := Aside0.mk (HG.out.went g1)
    clear g1
    go_wp2_with fail
    refine (Reader_Rest.calls _ _ _ _ HG.out.1).mono ?_
    rintro e w18 ⟨rfl, g1⟩
    replace HG := Aside0.mk (HG.out.went g1)
    clear g1
    obtain ⟨c0, c1, c2, c3, c4⟩ := HG.out.facts
    clear c0
    go_wp2
    go_end0
    refine ⟨by rw [HE.out]; rfl, _, _, _, (HG.out.put 9 _).putSum _, fun _ => ⟨?_, ?_⟩⟩
    · have h20 : 20 + M = N := HS.out
      simp only [List.setIfInBounds_toArray, List.set_cons_zero, List.set_cons_succ, final4, HNN.out, h20]
    · have h20 : 20 + M = N := HS.out
      simp only [HNN.out, h20]

end Go.Proofs.Ytcmalglippmocaa.G
end

section
namespace Go.Proofs.Ytcmalglippmocaa.G
open Go.Proofs.Ytcmalglippmocaa.Pal
def ip4_Get.f (s : ByteArray) : Option (Int × Int × Int × Int × Int × Bool × Bool × ByteArray × ByteArray × ByteArray × ByteArray × Int) :=
  if s.size ≤ 140737488351232 then some (if ip4Err s = 0 then (((be (bl (s.extract 1 2)) : Nat) : Int), ((be (bl (s.extract 4 6)) : Nat) : Int), ((be (bl (s.extract 6 8)) % 8192 : Nat) : Int), ((be (bl (s.extract 8 9)) : Nat) : Int), ((be (bl (s.extract 9 10)) : Nat) : Int), (be (bl (s.extract 6 8)) / 16384 % 2 == 1), (be (bl (s.extract 6 8)) / 8192 % 2 == 1), s.extract 12 16, s.extract 16 20, s.extract 20 (hl4 s), s.extract (hl4 s) s.size, 0) else (0, 0, 0, 0, 0, false, false, ⟨#[]⟩, ⟨#[]⟩, ⟨#[]⟩, ⟨#[]⟩, ip4Err s)) else none
end Go.Proofs.Ytcmalglippmocaa.G
end

section
namespace Go.Proofs.Ytcmalglippmocaa.G
open Go.RowKit Go.Proofs.YtcmalglippmocaaW.PrintWords Go.Proofs.YtcmalglippmocaaW.PrintLast Go.Proofs.YtcmalglippmocaaW.PrintMore Go.Proofs.Ytcmalglippmocaa.Pal
def VR4 (k : Nat) (s : ByteArray) (w w1 : World) : Prop :=
  ∃ cs x, Hp w1 [(k, 9, #[.string s]), (k + 1, 50, #[.int .i64 0, .int .i64 0, .int .i64 0, .int .i64 0, .int .i64 0, .bool false, .bool false, .string ⟨#[]⟩, .string ⟨#[]⟩, .string ⟨#[]⟩]), (k + 2, 50, cs), (k + 3, 9, #[.string x])] ∧ Below k w w1 ∧
    (ip4Err s = 0 → cs = final4 s ∧ x = s.extract (hl4 s) s.size)
theorem VG4.done {k : Nat} {s : ByteArray} {w w1 w2 : World} {n : Nat} {cs : Array Value} {x : ByteArray} (h : VG4 k s w w1 n cs x) (hw : w1.grownBy w2 (some (k + 4)))
    (hx : ip4Err s = 0 → cs = final4 s ∧ x = s.extract (hl4 s) s.size) : VR4 k s w w2 :=
  ⟨cs, x, Hp.grown (R := k + 4) (fun y hy => h.2.1 y (by simp at hy ⊢; rcases hy with rfl | rfl | rfl | rfl <;> simp)) hw (by simp), h.2.2.trans (below_of_grown hw (by have := h.1.1.lt; omega) (by omega)), hx⟩

set_option maxRecDepth 100000 in
theorem ip4_Get.reads (s : ByteArray) (hs : s.size ≤ 140737488351232) (w : World) :
    Calls Try.prog 65 #[.string s, .func (.func 66) #[] #[.pointer (some ⟨w.heap.size, 0, none⟩), .pointer (some ⟨w.heap.size + 1 + 1, 0, none⟩), .pointer (some ⟨w.heap.size + 1 + 1 + 1, 0, none⟩)]]
      ((((w.alloc (.cells #[.string s] 9)).alloc (.cells #[.int .i64 0, .int .i64 0, .int .i64 0, .int .i64 0, .int .i64 0, .bool false, .bool false, .string ⟨#[]⟩, .string ⟨#[]⟩, .string ⟨#[]⟩] 50)).alloc (.cells #[.int .i64 0, .int .i64 0, .int .i64 0, .int .i64 0, .int .i64 0, .bool false, .bool false, .string ⟨#[]⟩, .string ⟨#[]⟩, .string ⟨#[]⟩] 50)).alloc (.cells #[.string ⟨#[]⟩] 9))
      fun e w' => e = .returned (.int .i64 (ip4Err s)) ∧ VR4 w.heap.size s w w' := by
  obtain ⟨W, hW⟩ : ∃ W, W = ((((w.alloc (.cells #[.string s] 9)).alloc (.cells #[.int .i64 0, .int .i64 0, .int .i64 0, .int .i64 0, .int .i64 0, .bool false, .bool false, .string ⟨#[]⟩, .string ⟨#[]⟩, .string ⟨#[]⟩] 50)).alloc (.cells #[.int .i64 0, .int .i64 0, .int .i64 0, .int .i64 0, .int .i64 0, .bool false, .bool false, .string ⟨#[]⟩, .string ⟨#[]⟩, .string ⟨#[]⟩] 50)).alloc (.cells #[.string ⟨#[]⟩] 9)) := ⟨_, rfl⟩
  have hk : W.heap.size = w.heap.size + 4 := by rw [hW]; simp
  have b0 : Blk W w.heap.size 9 #[.string s] := by rw [hW]; exact (((Blk.new w _ _).alloc _).alloc _).alloc _
  have b1 : Blk W (w.heap.size + 1) 50 #[.int .i64 0, .int .i64 0, .int .i64 0, .int .i64 0, .int .i64 0, .bool false, .bool false, .string ⟨#[]⟩, .string ⟨#[]⟩, .string ⟨#[]⟩] := by
    rw [hW]
    have := Blk.new (w.alloc (.cells #[.string s] 9)) 50 #[.int .i64 0, .int .i64 0, .int .i64 0, .int .i64 0, .int .i64 0, .bool false, .bool false, .string ⟨#[]⟩, .string ⟨#[]⟩, .string ⟨#[]⟩]
    rw [World.size_alloc] at this
    exact (this.alloc _).alloc _
  have b2 : Blk W (w.heap.size + 2) 50 #[.int .i64 0, .int .i64 0, .int .i64 0, .int .i64 0, .int .i64 0, .bool false, .bool false, .string ⟨#[]⟩, .string ⟨#[]⟩, .string ⟨#[]⟩] := by
    rw [hW]
    have := Blk.new ((w.alloc (.cells #[.string s] 9)).alloc (.cells #[.int .i64 0, .int .i64 0, .int .i64 0, .int .i64 0, .int .i64 0, .bool false, .bool false, .string ⟨#[]⟩, .string ⟨#[]⟩, .string ⟨#[]⟩] 50)) 50 #[.int .i64 0, .int .i64 0, .int .i64 0, .int .i64 0, .int .i64 0, .bool false, .bool false, .string ⟨#[]⟩, .string ⟨#[]⟩, .string ⟨#[]⟩]
    rw [World.size_alloc, World.size_alloc] at this
    exact this.alloc _
  have b3 : Blk W (w.heap.size + 3) 9 #[.string ⟨#[]⟩] := by
    rw [hW]
    have := Blk.new (((w.alloc (.cells #[.string s] 9)).alloc (.cells #[.int .i64 0, .int .i64 0, .int .i64 0, .int .i64 0, .int .i64 0, .bool false, .bool false, .string ⟨#[]⟩, .string ⟨#[]⟩, .string ⟨#[]⟩] 50)).alloc (.cells #[.int .i64 0, .int .i64 0, .int .i64 0, .int .i64 0, .int .i64 0, .bool false, .bool false, .string ⟨#[]⟩, .string ⟨#[]⟩, .string ⟨#[]⟩] 50)) 9 #[.string ⟨#[]⟩]
    rw [World.size_alloc, World.size_alloc, World.size_alloc] at this
    exact this
  have hb : Below w.heap.size w W := by
    rw [hW]
    exact ((((Below.refl _ _).alloc (Nat.le_refl _) _).alloc (by simp) _).alloc (by simp; omega) _).alloc (by simp; omega) _
  rw [← hW]
  clear hW
  have hrd := readW_rd W s hs
  have hres := readW_res W s
  have hbl := readW_below W s
  rw [hk] at hrd hres hbl
  have hG : VG4 w.heap.size s w (readW W s) 0 zero4 ⟨#[]⟩ :=
    ⟨hrd, .cons (b0.below hbl (by omega)) (.cons (b1.below hbl (by omega)) (.cons (b2.below hbl (by omega)) (.cons (b3.below hbl (by omega)) (.cons hres (.nil _))))), hb.trans (hbl.mono (by omega))⟩
  have hrd' : ∀ Q : World → Prop, Calls Try.prog 66 (#[.pointer (some ⟨W.heap.size + 1, 0, none⟩)] ++ #[.pointer (some ⟨w.heap.size, 0, none⟩), .pointer (some ⟨w.heap.size + 1 + 1, 0, none⟩), .pointer (some ⟨w.heap.size + 1 + 1 + 1, 0, none⟩)]) (readW W s) (fun e w2 => e = did (ip4Err s) ∧ Blk w2 W.heap.size 25 #[.int .i64 0] ∧ Q w2) →
      Calls Try.prog 65 #[.string s, .func (.func 66) #[] #[.pointer (some ⟨w.heap.size, 0, none⟩), .pointer (some ⟨w.heap.size + 1 + 1, 0, none⟩), .pointer (some ⟨w.heap.size + 1 + 1 + 1, 0, none⟩)]] W
        fun e w' => e = .returned (.int .i64 (ip4Err s)) ∧ ∃ w2, Q w2 ∧ w2.grownBy w' (some W.heap.size) :=
    fun Q h => Read_calls 66 _ s (ip4Err s) W Q (fun _ _ => rfl) h
  rw [hk] at hrd'
  clear hrd hres hbl b0 b1 b2 b3 hb
  refine (hrd' (fun w2 => ∃ n cs x, VG4 w.heap.size s w w2 n cs x ∧ (ip4Err s = 0 → cs = final4 s ∧ x = s.extract (hl4 s) s.size)) ?_).mono ?_
  · refine (ip4_Get1.walk w.heap.size s w (readW W s) hG).mono ?_
    rintro e w2 ⟨rfl, n, cs, x, hu, hx⟩
    exact ⟨rfl, hu.2.1.tail.tail.tail.tail.head, n, cs, x, hu, hx⟩
  · rintro e w' ⟨rfl, w2, ⟨n, cs, x, hu, hx⟩, hg⟩
    exact ⟨rfl, hu.done hg hx⟩

set_option maxHeartbeats 1000000 in
set_option maxRecDepth 100000 in
theorem ip4_Get.calls (s : ByteArray) (r1 r2 r3 r4 r5 : Int) (r6 r7 : Bool) (r8 r9 r10 r11 : ByteArray) (r12 : Int) (w : World) (h : ip4_Get.f s = some (r1, r2, r3, r4, r5, r6, r7, r8, r9, r10, r11, r12)) :
    Calls Try.prog 47 #[.string s] w fun e w' => e = .returned (.tuple #[.agg #[.int .i64 r1, .int .i64 r2, .int .i64 r3, .int .i64 r4, .int .i64 r5, .bool r6, .bool r7, .string r8, .string r9, .string r10], .string r11, .int .i64 r12]) ∧ Below w.heap.size w w' := by
  unfold ip4_Get.f at h
  by_cases hs : s.size ≤ 140737488351232
  case neg => rw [if_neg hs] at h; exact absurd h (by simp)
  rw [if_pos hs] at h
  have hmf : ∀ (fn : Fn) (first cap : Array Value) (w : World), (Instr.makeFunc fn first cap).run Try.prog w = .ok (.func fn first cap) w := fun _ _ _ _ => rfl
  have hu := Try.underlying50
  have HS := Aside0.mk hs
  clear hs
  by_cases h0 : ip4Err s = 0
  · rw [if_pos h0] at h
    replace h := Option.some.inj h
    simp only [Prod.mk.injEq] at h
    obtain ⟨rfl, rfl, rfl, rfl, rfl, rfl, rfl, rfl, rfl, rfl, rfl, rfl⟩ := h
    have d1 : (ip4Err s != 0) = false := bne_eq_false_iff_eq.mpr h0
    have h := Aside0.mk h0
    clear h0
    go_enter Try.func47, Try.ntmps47
    go_wp2_with fail
    refine (ip4_Get.reads s HS.out w).mono ?_
    rintro e w2 ⟨rfl, cs, x, hp, hb, hx⟩
    obtain ⟨rfl, rfl⟩ := hx h.out
    have HB := Aside0.mk hb
    have c1 := hp.tail.head.cells
    have c2 := hp.tail.head.frees
    have c3 := hp.tail.tail.head.cells
    simp only [final4] at c3
    have c4 := hp.tail.tail.tail.head.cell 0 _ rfl
    have HK := Aside0.mk hp.tail.head
    clear hp hb hx
    go_wp2_with fail
    go_region
    all_goals
      have c5 := ((((((((((HK.out.set 0 (.int .i64 (be (bl (s.extract 1 2)) : Nat))).set 1 (.int .i64 (be (bl (s.extract 4 6)) : Nat))).set 2 (.int .i64 (((be (bl (s.extract 6 8)) : Nat) : Int) % 8192))).set 3 (.int .i64 (be (bl (s.extract 8 9)) : Nat))).set 4 (.int .i64 (be (bl (s.extract 9 10)) : Nat))).set 5 (.bool (be (bl (s.extract 6 8)) / 16384 % 2 == 1))).set 6 (.bool (be (bl (s.extract 6 8)) / 8192 % 2 == 1))).set 7 (.string (s.extract 12 16))).set 8 (.string (s.extract 16 20))).set 9 (.string (s.extract 20 (hl4 s)))).drew.cells
      simp only [List.setIfInBounds_toArray, List.set_cons_zero, List.set_cons_succ] at c5
      clear c1 c2 c3 c4
      go_wp2
      refine ⟨rfl, _, ?_, rfl, ?_⟩
      rotate_left
      · exact ((((((((((HB.out.setCell (by simp) _).setCell (by simp) _).setCell (by simp) _).setCell (by simp) _).setCell (by simp) _).setCell (by simp) _).setCell (by simp) _).setCell (by simp) _).setCell (by simp) _).setCell (by simp) _).drew
      simp [results, Try.results47, go_sem, hu, c5]
  · rw [if_neg h0] at h
    replace h := Option.some.inj h
    simp only [Prod.mk.injEq] at h
    obtain ⟨rfl, rfl, rfl, rfl, rfl, rfl, rfl, rfl, rfl, rfl, rfl, rfl⟩ := h
    have d1 : (ip4Err s != 0) = true := bne_iff_ne.mpr h0
    clear h0
    go_enter Try.func47, Try.ntmps47
    go_wp2_with fail
    refine (ip4_Get.reads s HS.out w).mono ?_
    rintro e w2 ⟨rfl, cs, x, hp, hb, hx⟩
    have HB := Aside0.mk hb
    have c1 := hp.tail.head.cells
    have c2 := hp.tail.head.frees
    have HK := Aside0.mk hp.tail.head
    clear hp hb hx
    go_wp2
    have c5 := ((((((((((HK.out.set 0 (.int .i64 0)).set 1 (.int .i64 0)).set 2 (.int .i64 0)).set 3 (.int .i64 0)).set 4 (.int .i64 0)).set 5 (.bool false)).set 6 (.bool false)).set 7 (.string ⟨#[]⟩)).set 8 (.string ⟨#[]⟩)).set 9 (.string ⟨#[]⟩)).cells
    simp only [List.setIfInBounds_toArray, List.set_cons_zero, List.set_cons_succ] at c5
    clear c1 c2
    refine ⟨rfl, _, ?_, rfl, ?_⟩
    rotate_left
    · exact ((((((((((HB.out.setCell (by simp) _).setCell (by simp) _).setCell (by simp) _).setCell (by simp) _).setCell (by simp) _).setCell (by simp) _).setCell (by simp) _).setCell (by simp) _).setCell (by simp) _).setCell (by simp) _)
    simp [results, Try.results47, go_sem, hu, c5]
end Go.Proofs.Ytcmalglippmocaa.G
end
