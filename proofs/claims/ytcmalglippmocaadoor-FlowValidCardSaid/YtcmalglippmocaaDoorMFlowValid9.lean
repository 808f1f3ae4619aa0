/- Texts of this session, joined: each is a section. -/
import Derived.Test.YtcmalglippmocaaDoorMFlowValid2
import Derived.Test.YtcmalglippmocaaDoorMFlowValid7
import Derived.Test.YtcmalglippmocaaDoorMFlowValid8
set_option linter.unusedVariables false
set_option linter.unusedSimpArgs false
section
namespace Go.Proofs.YtcmalglippmocaaDoor.G
open Go.RowKit Go.Proofs.YtcmalglippmocaaDoorW.PrintWords Go.Proofs.YtcmalglippmocaaDoorW.PrintLast Go.Proofs.YtcmalglippmocaaDoorW.PrintMore
attribute [local go_sem] max2_int min2_int max_two min_two max_three min_three max_four min_four

def palanquinlaw09_awake.f (k : Nat)  : Option (Bool) := if 16 ≤ 281474976710656 then ((some (List.replicate 16 0 : List Int)).bind fun y391 => ((palanquinref05_Put.f k 0 0 0 0 17 false false (⟨#[97, 98, 99, 100]⟩ : ByteArray) (⟨#[101, 102, 103, 104]⟩ : ByteArray) (⟨#[]⟩ : ByteArray) (⟨#[0, 1, 0, 2, 0, 8, 0, 0]⟩ : ByteArray)).bind fun bt394 => ((palanquinref06_Put.f k 0 0 17 0 (strOfNums y391) (strOfNums y391) (⟨#[0, 1, 0, 2, 0, 8, 0, 0]⟩ : ByteArray)).bind fun bt396 => ((flow_Get.f bt394.1).bind fun bt398 => ((flow_Get.f bt396.1).bind fun bt405 => (if bt398.2.2.2.2.1 = 2 then (if bt398.2.2.2.2.2 = 0 then (some (bt405.2.2.2.2.2 == 5)) else (some false)) else (some false))))))) else (none)
set_option maxHeartbeats 8000000 in
set_option maxRecDepth 100000 in
theorem palanquinlaw09_awake.calls (k : Nat)  (r : Bool) (w : World) (h : palanquinlaw09_awake.f k  = some r) :
  Calls Tryd.prog 40 #[] w fun e w' => e = .returned (.bool r) ∧ Below w.heap.size w w' := by
 have hu69 := Tryd.underlying69
 have hu71 := Tryd.underlying71
 have hu88 := Tryd.underlying88
 have HB := mA (Below.refl w.heap.size w)
 have H : (if 16 ≤ 281474976710656 then ((some (List.replicate 16 0 : List Int)).bind fun y391 => ((palanquinref05_Put.f k 0 0 0 0 17 false false (⟨#[97, 98, 99, 100]⟩ : ByteArray) (⟨#[101, 102, 103, 104]⟩ : ByteArray) (⟨#[]⟩ : ByteArray) (⟨#[0, 1, 0, 2, 0, 8, 0, 0]⟩ : ByteArray)).bind fun bt394 => ((palanquinref06_Put.f k 0 0 17 0 (strOfNums y391) (strOfNums y391) (⟨#[0, 1, 0, 2, 0, 8, 0, 0]⟩ : ByteArray)).bind fun bt396 => ((flow_Get.f bt394.1).bind fun bt398 => ((flow_Get.f bt396.1).bind fun bt405 => (if bt398.2.2.2.2.1 = 2 then (if bt398.2.2.2.2.2 = 0 then (some (bt405.2.2.2.2.2 == 5)) else (some false)) else (some false))))))) else (none)) = some r := h
 clear h
 by_cases c1 : 16 ≤ 281474976710656
 ·rw [if_pos c1] at H
  have c1b0 := eq_true c1
  have c1b1 : decide (16 ≤ 281474976710656) = true := decide_eq_true c1
  clear c1
  obtain ⟨y391, hy391⟩ : ∃ y_ : List Int, y_ = (List.replicate 16 0) := ⟨_, rfl⟩
  replace H : ((palanquinref05_Put.f k 0 0 0 0 17 false false (⟨#[97, 98, 99, 100]⟩ : ByteArray) (⟨#[101, 102, 103, 104]⟩ : ByteArray) (⟨#[]⟩ : ByteArray) (⟨#[0, 1, 0, 2, 0, 8, 0, 0]⟩ : ByteArray)).bind fun bt394 => ((palanquinref06_Put.f k 0 0 17 0 (strOfNums y391) (strOfNums y391) (⟨#[0, 1, 0, 2, 0, 8, 0, 0]⟩ : ByteArray)).bind fun bt396 => ((flow_Get.f bt394.1).bind fun bt398 => ((flow_Get.f bt396.1).bind fun bt405 => (if bt398.2.2.2.2.1 = 2 then (if bt398.2.2.2.2.2 = 0 then (some (bt405.2.2.2.2.2 == 5)) else (some false)) else (some false)))))) = some r := by first | (rw [hy391]; with_reducible exact H) | (have H2_ := (Option.bind_some _ _).symm.trans H; rw [hy391]; with_reducible exact H2_) | (have H2_ := (Option.bind_some _ _).symm.trans H; with_reducible exact H2_) | with_reducible exact H | (rw [hy391]; exact H) | exact H
  have Ny391 := mA hy391
  clear hy391
  replace H := Option.bind_eq_some_iff.mp H
  obtain ⟨⟨t394, t395⟩, A20, H⟩ := H
  try dsimp +instances only at H
  have A2 := mA A20
  clear A20
  replace H := Option.bind_eq_some_iff.mp H
  obtain ⟨⟨t396, t397⟩, A30, H⟩ := H
  try dsimp +instances only at H
  have A3 := mA A30
  clear A30
  replace H := Option.bind_eq_some_iff.mp H
  obtain ⟨⟨t398, t399, t400, t401, t402, t403⟩, A40, H⟩ := H
  try dsimp +instances only at H
  have A4 := mA A40
  clear A40
  replace H := Option.bind_eq_some_iff.mp H
  obtain ⟨⟨t405, t406, t407, t408, t409, t410⟩, A50, H⟩ := H
  try dsimp +instances only at H
  have A5 := mA A50
  clear A50
  by_cases c6 : t402 = 2
  ·rw [if_pos c6] at H
   have c6b0 : (t402 == 2) = true := beq_iff_eq.mpr c6
   have c6b1 : (t402 != 2) = false := bne_eq_false_iff_eq.mpr c6
   clear c6
   by_cases c7 : t403 = 0
   ·rw [if_pos c7] at H
    have c7b0 : (t403 == 0) = true := beq_iff_eq.mpr c7
    have c7b1 : (t403 != 0) = false := bne_eq_false_iff_eq.mpr c7
    clear c7
    obtain rfl := Option.some.inj H
    go_enter Tryd.func40, Tryd.ntmps40
    go_wp2_with (first | ((with_reducible refine gate_dst (N := 11) rfl ?_); refine Kd.R_make (Kd.int .u8) _ 5 rfl (N := 11) rfl 23 _ _ rfl 16 rfl rfl Tryd.underlying23 (.int .u8 0) 1 info5 rfl (by decide) (by omega) 0 (ok := fun _ => True) (okp := fun _ => True) rfl (fun _ hk => hk) trivial (by omega) (by omega) (Below.refl _ _) (Nat.le_refl _) ?_; intro v392 w8 ho9 hb hg_ hnew_; clear hg_ hnew_; (first | rw [← Ny391.out] at ho9 | (simp only [Int.reduceToNat] at ho9; rw [← Ny391.out] at ho9)); have n0_ := mA (Kd.R_lower ho9 (below_size (by repeat (first | (with_reducible first | exact HB.out | apply bA | apply bN | apply bD) | exact HB.out)))); have n1_ := mA (bP (by repeat (first | (with_reducible first | exact HB.out | apply bA | apply bN | apply bD) | exact HB.out)) hb); clear HB; have HO393 := n0_; have HB := n1_; clear n0_ n1_; clear hb ho9; have hcv10 := own_string (P := Tryd.prog) Tryd.underlying23 Tryd.underlying5 Tryd.underlying9 (Kd.own_of_R HO393.out)) | ((with_reducible refine gate_callee (f := 82) rfl ?_); refine goesL_ (some 16) rfl rfl Tryd.func82 (by kernel_rfl) rfl #[.agg #[.int .i64 0, .int .i64 0, .int .i64 0, .int .i64 0, .int .i64 17, .bool false, .bool false, .string (⟨#[97, 98, 99, 100]⟩ : ByteArray), .string (⟨#[101, 102, 103, 104]⟩ : ByteArray), .string ⟨#[]⟩], .string (⟨#[0, 1, 0, 2, 0, 8, 0, 0]⟩ : ByteArray)] rfl (by (try simp only [List.map_toArray, List.map_cons, List.map_nil]); first | done | rfl | (simp only [List.length_drop, List.length_take]; rfl)) ?_; (with_reducible refine (palanquinref05_Put.calls k 0 0 0 0 17 false false (⟨#[97, 98, 99, 100]⟩ : ByteArray) (⟨#[101, 102, 103, 104]⟩ : ByteArray) (⟨#[]⟩ : ByteArray) (⟨#[0, 1, 0, 2, 0, 8, 0, 0]⟩ : ByteArray) t394 t395 _ A2.out).mono ?_); rintro e w11 ⟨rfl, hb⟩; refine ⟨_, rfl, ?_⟩; have n0_ := mA (Kd.R_below (by (with_reducible repeat (first | apply Kd.R_alloc | apply Kd.R_drewN | apply Kd.R_drew)); exact HO393.out) hb); have n1_ := mA (bP (by repeat (first | (with_reducible first | exact HB.out | apply bA | apply bN | apply bD) | exact HB.out)) hb); clear HO393; clear HB; have HO393 := n0_; have HB := n1_; clear n0_ n1_; (try clear hb); (try clear hb2); (try clear hk); (try clear hi)) | ((with_reducible refine gate_callee (f := 83) rfl ?_); refine goesL_ (some 24) rfl rfl Tryd.func83 (by kernel_rfl) rfl #[.agg #[.int .i64 0, .int .i64 0, .int .i64 17, .int .i64 0, .string (strOfNums y391), .string (strOfNums y391)], .string (⟨#[0, 1, 0, 2, 0, 8, 0, 0]⟩ : ByteArray)] rfl (by (try simp only [List.map_toArray, List.map_cons, List.map_nil]); first | done | rfl | (simp only [List.length_drop, List.length_take]; rfl)) ?_; (with_reducible refine (palanquinref06_Put.calls k 0 0 17 0 (strOfNums y391) (strOfNums y391) (⟨#[0, 1, 0, 2, 0, 8, 0, 0]⟩ : ByteArray) t396 t397 _ A3.out).mono ?_); rintro e w12 ⟨rfl, hb⟩; refine ⟨_, rfl, ?_⟩; have n0_ := mA (Kd.R_below (by (with_reducible repeat (first | apply Kd.R_alloc | apply Kd.R_drewN | apply Kd.R_drew)); exact HO393.out) hb); have n1_ := mA (bP (by repeat (first | (with_reducible first | exact HB.out | apply bA | apply bN | apply bD) | exact HB.out)) hb); clear HO393; clear HB; have HO393 := n0_; have HB := n1_; clear n0_ n1_; (try clear hb); (try clear hb2); (try clear hk); (try clear hi)) | ((with_reducible refine gate_callee (f := 51) rfl ?_); refine goesL_ (some 29) rfl rfl Tryd.func51 (by kernel_rfl) rfl #[.string t394] rfl (by (try simp only [List.map_toArray, List.map_cons, List.map_nil]); first | done | rfl | (simp only [List.length_drop, List.length_take]; rfl)) ?_; (with_reducible refine (flow_Get.calls t394 t398 t399 t400 t401 t402 t403 _ A4.out).mono ?_); rintro e w13 ⟨rfl, hb⟩; refine ⟨_, rfl, ?_⟩; have n0_ := mA (Kd.R_below (by (with_reducible repeat (first | apply Kd.R_alloc | apply Kd.R_drewN | apply Kd.R_drew)); exact HO393.out) hb); have n1_ := mA (bP (by repeat (first | (with_reducible first | exact HB.out | apply bA | apply bN | apply bD) | exact HB.out)) hb); clear HO393; clear HB; have HO393 := n0_; have HB := n1_; clear n0_ n1_; (try clear hb); (try clear hb2); (try clear hk); (try clear hi)) | ((with_reducible refine gate_dst (N := 7) rfl ?_); refine box_event ?hg (N := 7) ?hd (cs := #[.int .i64 0, .string ⟨#[]⟩, .string ⟨#[]⟩, .int .i64 0, .int .i64 0]) (t := 88) ?hr ?_; (case hd => rfl); (case hg => rfl); (case hr => first | (go_simp; done) | (go_simp; rfl)); intro gb404 hg w14 hbox hb; have n0_ := mA (Kd.R_below (by (with_reducible repeat (first | apply Kd.R_alloc | apply Kd.R_drewN | apply Kd.R_drew)); exact HO393.out) hb); obtain ⟨n1_, nq_⟩ := bpr (by repeat (first | (with_reducible first | exact HB.out | apply bA | apply bN | apply bD) | exact HB.out)) hb; have n2_ := mA (hbox); have n3_ := mA ((by rw [hg]; exact nq_ : w.heap.size ≤ gb404)); have n4_ := mA ((by rw [hg]; exact nq_ : w.heap.size ≤ gb404)); clear HO393; clear HB; have HO393 := n0_; have HB := n1_; have BK404 := n2_; have GW404 := n3_; have GE404 := n4_; clear nq_; clear n0_ n1_ n2_ n3_ n4_; clear hb hbox hg; obtain ⟨hcz15_0, hcz15_1, hcz15_2, hcz15_3, hcz15_4⟩ := bc5 BK404.out; obtain ⟨hfz15_0, hfz15_1, hfz15_2, hfz15_3, hfz15_4⟩ := bf5 BK404.out) | ((with_reducible refine gate_callee (f := 51) rfl ?_); refine goesL_ (some 34) rfl rfl Tryd.func51 (by kernel_rfl) rfl #[.string t396] rfl (by (try simp only [List.map_toArray, List.map_cons, List.map_nil]); first | done | rfl | (simp only [List.length_drop, List.length_take]; rfl)) ?_; (with_reducible refine (flow_Get.calls t396 t405 t406 t407 t408 t409 t410 _ A5.out).mono ?_); rintro e w16 ⟨rfl, hb⟩; refine ⟨_, rfl, ?_⟩; have n0_ := mA (Kd.R_below (by (with_reducible repeat (first | apply Kd.R_alloc | apply Kd.R_drewN | apply Kd.R_drew)); exact (Kd.R_mono (Kd.R_far (p := ⟨gb404, 4, none⟩) (Kd.R_far (p := ⟨gb404, 3, none⟩) (Kd.R_far (p := ⟨gb404, 2, none⟩) (Kd.R_far (p := ⟨gb404, 1, none⟩) (Kd.R_far (p := ⟨gb404, 0, none⟩) (Kd.R_types HO393.out BK404.out (by decide)) (fun _ hk => hk.2) (.int .i64 t398)) (fun _ hk => hk.2) (.string t399)) (fun _ hk => hk.2) (.string t400)) (fun _ hk => hk.2) (.int .i64 t401)) (fun _ hk => hk.2) (.int .i64 t402)) (fun _ h_ => h_.1))) hb); have n1_ := mA (blk_below (g := gb404) (o := .cells #[.int .i64 t398, .string t399, .string t400, .int .i64 t401, .int .i64 t402] 88 (0, 0)) (by (with_reducible repeat (first | apply kN | apply kD | apply kA)); refine blk_put (cs := #[.int .i64 t398, .string t399, .string t400, .int .i64 t401, .int .i64 0]) ?_ 4 _ (by first | rfl | (simp [*]; done)); (with_reducible repeat (first | apply kN | apply kD | apply kA)); refine blk_put (cs := #[.int .i64 t398, .string t399, .string t400, .int .i64 0, .int .i64 0]) ?_ 3 _ (by first | rfl | (simp [*]; done)); (with_reducible repeat (first | apply kN | apply kD | apply kA)); refine blk_put (cs := #[.int .i64 t398, .string t399, .string ⟨#[]⟩, .int .i64 0, .int .i64 0]) ?_ 2 _ (by first | rfl | (simp [*]; done)); (with_reducible repeat (first | apply kN | apply kD | apply kA)); refine blk_put (cs := #[.int .i64 t398, .string ⟨#[]⟩, .string ⟨#[]⟩, .int .i64 0, .int .i64 0]) ?_ 1 _ (by first | rfl | (simp [*]; done)); (with_reducible repeat (first | apply kN | apply kD | apply kA)); refine blk_put (cs := #[.int .i64 0, .string ⟨#[]⟩, .string ⟨#[]⟩, .int .i64 0, .int .i64 0]) ?_ 0 _ (by first | rfl | (simp [*]; done)); (with_reducible repeat (first | apply kN | apply kD | apply kA)); exact BK404.out) hb); have n2_ := mA (bP (by repeat (first | (with_reducible first | exact HB.out | apply bA | apply bN | apply bD | refine bS ?_ GE404.out) | exact HB.out)) hb); clear HO393; clear BK404; clear HB; have HO393 := n0_; have BK404 := n1_; have HB := n2_; clear n0_ n1_ n2_; (try clear hb); (try clear hb2); (try clear hk); (try clear hi)) | ((with_reducible refine gate_dst (N := 9) rfl ?_); refine box_event ?hg (N := 9) ?hd (cs := #[.int .i64 0, .string ⟨#[]⟩, .string ⟨#[]⟩, .int .i64 0, .int .i64 0]) (t := 88) ?hr ?_; (case hd => rfl); (case hg => rfl); (case hr => first | (go_simp; done) | (go_simp; rfl)); intro gb411 hg w17 hbox hb; have n0_ := mA (Kd.R_below (by (with_reducible repeat (first | apply Kd.R_alloc | apply Kd.R_drewN | apply Kd.R_drew)); exact HO393.out) hb); obtain ⟨n1_, nl404_⟩ := bt3 (g := gb404) (o := .cells #[.int .i64 t398, .string t399, .string t400, .int .i64 t401, .int .i64 t402] 88 (0, 0)) (by (with_reducible repeat (first | apply kN | apply kD | apply kA)); exact BK404.out) hb; obtain ⟨n2_, nq_⟩ := bpr (by repeat (first | (with_reducible first | exact HB.out | apply bA | apply bN | apply bD | refine bS ?_ GE404.out) | exact HB.out)) hb; have n3_ := mA (hbox); have n4_ := mA ((by rw [hg]; exact nq_ : w.heap.size ≤ gb411)); have n5_ := mA ((by rw [hg]; exact nq_ : w.heap.size ≤ gb411)); have n6_ := mA ((by rw [hg]; exact Nat.ne_of_lt nl404_ : gb404 ≠ gb411)); have n7_ := mA ((by rw [hg]; exact Nat.ne_of_gt nl404_ : gb411 ≠ gb404)); clear HO393; clear BK404; clear HB; have HO393 := n0_; have BK404 := n1_; have HB := n2_; have BK411 := n3_; have GW411 := n4_; have GE411 := n5_; have NB404_411 := n6_; have NB411_404 := n7_; clear nl404_; clear nq_; clear n0_ n1_ n2_ n3_ n4_ n5_ n6_ n7_; clear hb hbox hg; have hnb18 := NB411_404.out; have hnc18 := NB404_411.out; obtain ⟨hcz19_0, hcz19_1, hcz19_2, hcz19_3, hcz19_4⟩ := bc5 BK411.out; obtain ⟨hfz19_0, hfz19_1, hfz19_2, hfz19_3, hfz19_4⟩ := bf5 BK411.out; obtain ⟨hcz20_0, hcz20_1, hcz20_2, hcz20_3, hcz20_4⟩ := bc5 BK404.out; obtain ⟨hfz20_0, hfz20_1, hfz20_2, hfz20_3, hfz20_4⟩ := bf5 BK404.out))
    go_ret
    exact ⟨by first | rfl | (simp [errW_none, errW_some] <;> rfl) | (simp [*, errW_none, errW_some] <;> rfl), by repeat (first | (with_reducible first | exact HB.out | apply bA | apply bN | apply bD | refine bS ?_ GE404.out | refine bS ?_ GE411.out) | exact HB.out)⟩
   ·rw [if_neg c7] at H
    have c7b0 : (t403 == 0) = false := beq_eq_false_iff_ne.mpr c7
    have c7b1 : (t403 != 0) = true := bne_iff_ne.mpr c7
    obtain rfl := Option.some.inj H
    go_enter Tryd.func40, Tryd.ntmps40
    go_wp2_with (first | ((with_reducible refine gate_dst (N := 11) rfl ?_); refine Kd.R_make (Kd.int .u8) _ 5 rfl (N := 11) rfl 23 _ _ rfl 16 rfl rfl Tryd.underlying23 (.int .u8 0) 1 info5 rfl (by decide) (by omega) 0 (ok := fun _ => True) (okp := fun _ => True) rfl (fun _ hk => hk) trivial (by omega) (by omega) (Below.refl _ _) (Nat.le_refl _) ?_; intro v392 w21 ho22 hb hg_ hnew_; clear hg_ hnew_; (first | rw [← Ny391.out] at ho22 | (simp only [Int.reduceToNat] at ho22; rw [← Ny391.out] at ho22)); have n0_ := mA (Kd.R_lower ho22 (below_size (by repeat (first | (with_reducible first | exact HB.out | apply bA | apply bN | apply bD) | exact HB.out)))); have n1_ := mA (bP (by repeat (first | (with_reducible first | exact HB.out | apply bA | apply bN | apply bD) | exact HB.out)) hb); clear HB; have HO393 := n0_; have HB := n1_; clear n0_ n1_; clear hb ho22; have hcv23 := own_string (P := Tryd.prog) Tryd.underlying23 Tryd.underlying5 Tryd.underlying9 (Kd.own_of_R HO393.out)) | ((with_reducible refine gate_callee (f := 82) rfl ?_); refine goesL_ (some 16) rfl rfl Tryd.func82 (by kernel_rfl) rfl #[.agg #[.int .i64 0, .int .i64 0, .int .i64 0, .int .i64 0, .int .i64 17, .bool false, .bool false, .string (⟨#[97, 98, 99, 100]⟩ : ByteArray), .string (⟨#[101, 102, 103, 104]⟩ : ByteArray), .string ⟨#[]⟩], .string (⟨#[0, 1, 0, 2, 0, 8, 0, 0]⟩ : ByteArray)] rfl (by (try simp only [List.map_toArray, List.map_cons, List.map_nil]); first | done | rfl | (simp only [List.length_drop, List.length_take]; rfl)) ?_; (with_reducible refine (palanquinref05_Put.calls k 0 0 0 0 17 false false (⟨#[97, 98, 99, 100]⟩ : ByteArray) (⟨#[101, 102, 103, 104]⟩ : ByteArray) (⟨#[]⟩ : ByteArray) (⟨#[0, 1, 0, 2, 0, 8, 0, 0]⟩ : ByteArray) t394 t395 _ A2.out).mono ?_); rintro e w24 ⟨rfl, hb⟩; refine ⟨_, rfl, ?_⟩; have n0_ := mA (Kd.R_below (by (with_reducible repeat (first | apply Kd.R_alloc | apply Kd.R_drewN | apply Kd.R_drew)); exact HO393.out) hb); have n1_ := mA (bP (by repeat (first | (with_reducible first | exact HB.out | apply bA | apply bN | apply bD) | exact HB.out)) hb); clear HO393; clear HB; have HO393 := n0_; have HB := n1_; clear n0_ n1_; (try clear hb); (try clear hb2); (try clear hk); (try clear hi)) | ((with_reducible refine gate_callee (f := 83) rfl ?_); refine goesL_ (some 24) rfl rfl Tryd.func83 (by kernel_rfl) rfl #[.agg #[.int .i64 0, .int .i64 0, .int .i64 17, .int .i64 0, .string (strOfNums y391), .string (strOfNums y391)], .string (⟨#[0, 1, 0, 2, 0, 8, 0, 0]⟩ : ByteArray)] rfl (by (try simp only [List.map_toArray, List.map_cons, List.map_nil]); first | done | rfl | (simp only [List.length_drop, List.length_take]; rfl)) ?_; (with_reducible refine (palanquinref06_Put.calls k 0 0 17 0 (strOfNums y391) (strOfNums y391) (⟨#[0, 1, 0, 2, 0, 8, 0, 0]⟩ : ByteArray) t396 t397 _ A3.out).mono ?_); rintro e w25 ⟨rfl, hb⟩; refine ⟨_, rfl, ?_⟩; have n0_ := mA (Kd.R_below (by (with_reducible repeat (first | apply Kd.R_alloc | apply Kd.R_drewN | apply Kd.R_drew)); exact HO393.out) hb); have n1_ := mA (bP (by repeat (first | (with_reducible first | exact HB.out | apply bA | apply bN | apply bD) | exact HB.out)) hb); clear HO393; clear HB; have HO393 := n0_; have HB := n1_; clear n0_ n1_; (try clear hb); (try clear hb2); (try clear hk); (try clear hi)) | ((with_reducible refine gate_callee (f := 51) rfl ?_); refine goesL_ (some 29) rfl rfl Tryd.func51 (by kernel_rfl) rfl #[.string t394] rfl (by (try simp only [List.map_toArray, List.map_cons, List.map_nil]); first | done | rfl | (simp only [List.length_drop, List.length_take]; rfl)) ?_; (with_reducible refine (flow_Get.calls t394 t398 t399 t400 t401 t402 t403 _ A4.out).mono ?_); rintro e w26 ⟨rfl, hb⟩; refine ⟨_, rfl, ?_⟩; have n0_ := mA (Kd.R_below (by (with_reducible repeat (first | apply Kd.R_alloc | apply Kd.R_drewN | apply Kd.R_drew)); exact HO393.out) hb); have n1_ := mA (bP (by repeat (first | (with_reducible first | exact HB.out | apply bA | apply bN | apply bD) | exact HB.out)) hb); clear HO393; clear HB; have HO393 := n0_; have HB := n1_; clear n0_ n1_; (try clear hb); (try clear hb2); (try clear hk); (try clear hi)) | ((with_reducible refine gate_dst (N := 7) rfl ?_); refine box_event ?hg (N := 7) ?hd (cs := #[.int .i64 0, .string ⟨#[]⟩, .string ⟨#[]⟩, .int .i64 0, .int .i64 0]) (t := 88) ?hr ?_; (case hd => rfl); (case hg => rfl); (case hr => first | (go_simp; done) | (go_simp; rfl)); intro gb404 hg w27 hbox hb; have n0_ := mA (Kd.R_below (by (with_reducible repeat (first | apply Kd.R_alloc | apply Kd.R_drewN | apply Kd.R_drew)); exact HO393.out) hb); obtain ⟨n1_, nq_⟩ := bpr (by repeat (first | (with_reducible first | exact HB.out | apply bA | apply bN | apply bD) | exact HB.out)) hb; have n2_ := mA (hbox); have n3_ := mA ((by rw [hg]; exact nq_ : w.heap.size ≤ gb404)); have n4_ := mA ((by rw [hg]; exact nq_ : w.heap.size ≤ gb404)); clear HO393; clear HB; have HO393 := n0_; have HB := n1_; have BK404 := n2_; have GW404 := n3_; have GE404 := n4_; clear nq_; clear n0_ n1_ n2_ n3_ n4_; clear hb hbox hg; obtain ⟨hcz28_0, hcz28_1, hcz28_2, hcz28_3, hcz28_4⟩ := bc5 BK404.out; obtain ⟨hfz28_0, hfz28_1, hfz28_2, hfz28_3, hfz28_4⟩ := bf5 BK404.out) | ((with_reducible refine gate_callee (f := 51) rfl ?_); refine goesL_ (some 34) rfl rfl Tryd.func51 (by kernel_rfl) rfl #[.string t396] rfl (by (try simp only [List.map_toArray, List.map_cons, List.map_nil]); first | done | rfl | (simp only [List.length_drop, List.length_take]; rfl)) ?_; (with_reducible refine (flow_Get.calls t396 t405 t406 t407 t408 t409 t410 _ A5.out).mono ?_); rintro e w29 ⟨rfl, hb⟩; refine ⟨_, rfl, ?_⟩; have n0_ := mA (Kd.R_below (by (with_reducible repeat (first | apply Kd.R_alloc | apply Kd.R_drewN | apply Kd.R_drew)); exact (Kd.R_mono (Kd.R_far (p := ⟨gb404, 4, none⟩) (Kd.R_far (p := ⟨gb404, 3, none⟩) (Kd.R_far (p := ⟨gb404, 2, none⟩) (Kd.R_far (p := ⟨gb404, 1, none⟩) (Kd.R_far (p := ⟨gb404, 0, none⟩) (Kd.R_types HO393.out BK404.out (by decide)) (fun _ hk => hk.2) (.int .i64 t398)) (fun _ hk => hk.2) (.string t399)) (fun _ hk => hk.2) (.string t400)) (fun _ hk => hk.2) (.int .i64 t401)) (fun _ hk => hk.2) (.int .i64 t402)) (fun _ h_ => h_.1))) hb); have n1_ := mA (blk_below (g := gb404) (o := .cells #[.int .i64 t398, .string t399, .string t400, .int .i64 t401, .int .i64 t402] 88 (0, 0)) (by (with_reducible repeat (first | apply kN | apply kD | apply kA)); refine blk_put (cs := #[.int .i64 t398, .string t399, .string t400, .int .i64 t401, .int .i64 0]) ?_ 4 _ (by first | rfl | (simp [*]; done)); (with_reducible repeat (first | apply kN | apply kD | apply kA)); refine blk_put (cs := #[.int .i64 t398, .string t399, .string t400, .int .i64 0, .int .i64 0]) ?_ 3 _ (by first | rfl | (simp [*]; done)); (with_reducible repeat (first | apply kN | apply kD | apply kA)); refine blk_put (cs := #[.int .i64 t398, .string t399, .string ⟨#[]⟩, .int .i64 0, .int .i64 0]) ?_ 2 _ (by first | rfl | (simp [*]; done)); (with_reducible repeat (first | apply kN | apply kD | apply kA)); refine blk_put (cs := #[.int .i64 t398, .string ⟨#[]⟩, .string ⟨#[]⟩, .int .i64 0, .int .i64 0]) ?_ 1 _ (by first | rfl | (simp [*]; done)); (with_reducible repeat (first | apply kN | apply kD | apply kA)); refine blk_put (cs := #[.int .i64 0, .string ⟨#[]⟩, .string ⟨#[]⟩, .int .i64 0, .int .i64 0]) ?_ 0 _ (by first | rfl | (simp [*]; done)); (with_reducible repeat (first | apply kN | apply kD | apply kA)); exact BK404.out) hb); have n2_ := mA (bP (by repeat (first | (with_reducible first | exact HB.out | apply bA | apply bN | apply bD | refine bS ?_ GE404.out) | exact HB.out)) hb); clear HO393; clear BK404; clear HB; have HO393 := n0_; have BK404 := n1_; have HB := n2_; clear n0_ n1_ n2_; (try clear hb); (try clear hb2); (try clear hk); (try clear hi)) | ((with_reducible refine gate_dst (N := 9) rfl ?_); refine box_event ?hg (N := 9) ?hd (cs := #[.int .i64 0, .string ⟨#[]⟩, .string ⟨#[]⟩, .int .i64 0, .int .i64 0]) (t := 88) ?hr ?_; (case hd => rfl); (case hg => rfl); (case hr => first | (go_simp; done) | (go_simp; rfl)); intro gb411 hg w30 hbox hb; have n0_ := mA (Kd.R_below (by (with_reducible repeat (first | apply Kd.R_alloc | apply Kd.R_drewN | apply Kd.R_drew)); exact HO393.out) hb); obtain ⟨n1_, nl404_⟩ := bt3 (g := gb404) (o := .cells #[.int .i64 t398, .string t399, .string t400, .int .i64 t401, .int .i64 t402] 88 (0, 0)) (by (with_reducible repeat (first | apply kN | apply kD | apply kA)); exact BK404.out) hb; obtain ⟨n2_, nq_⟩ := bpr (by repeat (first | (with_reducible first | exact HB.out | apply bA | apply bN | apply bD | refine bS ?_ GE404.out) | exact HB.out)) hb; have n3_ := mA (hbox); have n4_ := mA ((by rw [hg]; exact nq_ : w.heap.size ≤ gb411)); have n5_ := mA ((by rw [hg]; exact nq_ : w.heap.size ≤ gb411)); have n6_ := mA ((by rw [hg]; exact Nat.ne_of_lt nl404_ : gb404 ≠ gb411)); have n7_ := mA ((by rw [hg]; exact Nat.ne_of_gt nl404_ : gb411 ≠ gb404)); clear HO393; clear BK404; clear HB; have HO393 := n0_; have BK404 := n1_; have HB := n2_; have BK411 := n3_; have GW411 := n4_; have GE411 := n5_; have NB404_411 := n6_; have NB411_404 := n7_; clear nl404_; clear nq_; clear n0_ n1_ n2_ n3_ n4_ n5_ n6_ n7_; clear hb hbox hg; have hnb31 := NB411_404.out; have hnc31 := NB404_411.out; obtain ⟨hcz32_0, hcz32_1, hcz32_2, hcz32_3, hcz32_4⟩ := bc5 BK411.out; obtain ⟨hfz32_0, hfz32_1, hfz32_2, hfz32_3, hfz32_4⟩ := bf5 BK411.out; obtain ⟨hcz33_0, hcz33_1, hcz33_2, hcz33_3, hcz33_4⟩ := bc5 BK404.out; obtain ⟨hfz33_0, hfz33_1, hfz33_2, hfz33_3, hfz33_4⟩ := bf5 BK404.out))
    go_ret
    exact ⟨by first | rfl | (simp [errW_none, errW_some] <;> rfl) | (simp [*, errW_none, errW_some] <;> rfl), by repeat (first | (with_reducible first | exact HB.out | apply bA | apply bN | apply bD | refine bS ?_ GE404.out | refine bS ?_ GE411.out) | exact HB.out)⟩
  ·rw [if_neg c6] at H
   have c6b0 : (t402 == 2) = false := beq_eq_false_iff_ne.mpr c6
   have c6b1 : (t402 != 2) = true := bne_iff_ne.mpr c6
   obtain rfl := Option.some.inj H
   go_enter Tryd.func40, Tryd.ntmps40
   go_wp2_with (first | ((with_reducible refine gate_dst (N := 11) rfl ?_); refine Kd.R_make (Kd.int .u8) _ 5 rfl (N := 11) rfl 23 _ _ rfl 16 rfl rfl Tryd.underlying23 (.int .u8 0) 1 info5 rfl (by decide) (by omega) 0 (ok := fun _ => True) (okp := fun _ => True) rfl (fun _ hk => hk) trivial (by omega) (by omega) (Below.refl _ _) (Nat.le_refl _) ?_; intro v392 w34 ho35 hb hg_ hnew_; clear hg_ hnew_; (first | rw [← Ny391.out] at ho35 | (simp only [Int.reduceToNat] at ho35; rw [← Ny391.out] at ho35)); have n0_ := mA (Kd.R_lower ho35 (below_size (by repeat (first | (with_reducible first | exact HB.out | apply bA | apply bN | apply bD) | exact HB.out)))); have n1_ := mA (bP (by repeat (first | (with_reducible first | exact HB.out | apply bA | apply bN | apply bD) | exact HB.out)) hb); clear HB; have HO393 := n0_; have HB := n1_; clear n0_ n1_; clear hb ho35; have hcv36 := own_string (P := Tryd.prog) Tryd.underlying23 Tryd.underlying5 Tryd.underlying9 (Kd.own_of_R HO393.out)) | ((with_reducible refine gate_callee (f := 82) rfl ?_); refine goesL_ (some 16) rfl rfl Tryd.func82 (by kernel_rfl) rfl #[.agg #[.int .i64 0, .int .i64 0, .int .i64 0, .int .i64 0, .int .i64 17, .bool false, .bool false, .string (⟨#[97, 98, 99, 100]⟩ : ByteArray), .string (⟨#[101, 102, 103, 104]⟩ : ByteArray), .string ⟨#[]⟩], .string (⟨#[0, 1, 0, 2, 0, 8, 0, 0]⟩ : ByteArray)] rfl (by (try simp only [List.map_toArray, List.map_cons, List.map_nil]); first | done | rfl | (simp only [List.length_drop, List.length_take]; rfl)) ?_; (with_reducible refine (palanquinref05_Put.calls k 0 0 0 0 17 false false (⟨#[97, 98, 99, 100]⟩ : ByteArray) (⟨#[101, 102, 103, 104]⟩ : ByteArray) (⟨#[]⟩ : ByteArray) (⟨#[0, 1, 0, 2, 0, 8, 0, 0]⟩ : ByteArray) t394 t395 _ A2.out).mono ?_); rintro e w37 ⟨rfl, hb⟩; refine ⟨_, rfl, ?_⟩; have n0_ := mA (Kd.R_below (by (with_reducible repeat (first | apply Kd.R_alloc | apply Kd.R_drewN | apply Kd.R_drew)); exact HO393.out) hb); have n1_ := mA (bP (by repeat (first | (with_reducible first | exact HB.out | apply bA | apply bN | apply bD) | exact HB.out)) hb); clear HO393; clear HB; have HO393 := n0_; have HB := n1_; clear n0_ n1_; (try clear hb); (try clear hb2); (try clear hk); (try clear hi)) | ((with_reducible refine gate_callee (f := 83) rfl ?_); refine goesL_ (some 24) rfl rfl Tryd.func83 (by kernel_rfl) rfl #[.agg #[.int .i64 0, .int .i64 0, .int .i64 17, .int .i64 0, .string (strOfNums y391), .string (strOfNums y391)], .string (⟨#[0, 1, 0, 2, 0, 8, 0, 0]⟩ : ByteArray)] rfl (by (try simp only [List.map_toArray, List.map_cons, List.map_nil]); first | done | rfl | (simp only [List.length_drop, List.length_take]; rfl)) ?_; (with_reducible refine (palanquinref06_Put.calls k 0 0 17 0 (strOfNums y391) (strOfNums y391) (⟨#[0, 1, 0, 2, 0, 8, 0, 0]⟩ : ByteArray) t396 t397 _ A3.out).mono ?_); rintro e w38 ⟨rfl, hb⟩; refine ⟨_, rfl, ?_⟩; have n0_ := mA (Kd.R_below (by (with_reducible repeat (first | apply Kd.R_alloc | apply Kd.R_drewN | apply Kd.R_drew)); exact HO393.out) hb); have n1_ := mA (bP (by repeat (first | (with_reducible first | exact HB.out | apply bA | apply bN | apply bD) | exact HB.out)) hb); clear HO393; clear HB; have HO393 := n0_; have HB := n1_; clear n0_ n1_; (try clear hb); (try clear hb2); (try clear hk); (try clear hi)) | ((with_reducible refine gate_callee (f := 51) rfl ?_); refine goesL_ (some 29) rfl rfl Tryd.func51 (by kernel_rfl) rfl #[.string t394] rfl (by (try simp only [List.map_toArray, List.map_cons, List.map_nil]); first | done | rfl | (simp only [List.length_drop, List.length_take]; rfl)) ?_; (with_reducible refine (flow_Get.calls t394 t398 t399 t400 t401 t402 t403 _ A4.out).mono ?_); rintro e w39 ⟨rfl, hb⟩; refine ⟨_, rfl, ?_⟩; have n0_ := mA (Kd.R_below (by (with_reducible repeat (first | apply Kd.R_alloc | apply Kd.R_drewN | apply Kd.R_drew)); exact HO393.out) hb); have n1_ := mA (bP (by repeat (first | (with_reducible first | exact HB.out | apply bA | apply bN | apply bD) | exact HB.out)) hb); clear HO393; clear HB; have HO393 := n0_; have HB := n1_; clear n0_ n1_; (try clear hb); (try clear hb2); (try clear hk); (try clear hi)) | ((with_reducible refine gate_dst (N := 7) rfl ?_); refine box_event ?hg (N := 7) ?hd (cs := #[.int .i64 0, .string ⟨#[]⟩, .string ⟨#[]⟩, .int .i64 0, .int .i64 0]) (t := 88) ?hr ?_; (case hd => rfl); (case hg => rfl); (case hr => first | (go_simp; done) | (go_simp; rfl)); intro gb404 hg w40 hbox hb; have n0_ := mA (Kd.R_below (by (with_reducible repeat (first | apply Kd.R_alloc | apply Kd.R_drewN | apply Kd.R_drew)); exact HO393.out) hb); obtain ⟨n1_, nq_⟩ := bpr (by repeat (first | (with_reducible first | exact HB.out | apply bA | apply bN | apply bD) | exact HB.out)) hb; have n2_ := mA (hbox); have n3_ := mA ((by rw [hg]; exact nq_ : w.heap.size ≤ gb404)); have n4_ := mA ((by rw [hg]; exact nq_ : w.heap.size ≤ gb404)); clear HO393; clear HB; have HO393 := n0_; have HB := n1_; have BK404 := n2_; have GW404 := n3_; have GE404 := n4_; clear nq_; clear n0_ n1_ n2_ n3_ n4_; clear hb hbox hg; obtain ⟨hcz41_0, hcz41_1, hcz41_2, hcz41_3, hcz41_4⟩ := bc5 BK404.out; obtain ⟨hfz41_0, hfz41_1, hfz41_2, hfz41_3, hfz41_4⟩ := bf5 BK404.out) | ((with_reducible refine gate_callee (f := 51) rfl ?_); refine goesL_ (some 34) rfl rfl Tryd.func51 (by kernel_rfl) rfl #[.string t396] rfl (by (try simp only [List.map_toArray, List.map_cons, List.map_nil]); first | done | rfl | (simp only [List.length_drop, List.length_take]; rfl)) ?_; (with_reducible refine (flow_Get.calls t396 t405 t406 t407 t408 t409 t410 _ A5.out).mono ?_); rintro e w42 ⟨rfl, hb⟩; refine ⟨_, rfl, ?_⟩; have n0_ := mA (Kd.R_below (by (with_reducible repeat (first | apply Kd.R_alloc | apply Kd.R_drewN | apply Kd.R_drew)); exact (Kd.R_mono (Kd.R_far (p := ⟨gb404, 4, none⟩) (Kd.R_far (p := ⟨gb404, 3, none⟩) (Kd.R_far (p := ⟨gb404, 2, none⟩) (Kd.R_far (p := ⟨gb404, 1, none⟩) (Kd.R_far (p := ⟨gb404, 0, none⟩) (Kd.R_types HO393.out BK404.out (by decide)) (fun _ hk => hk.2) (.int .i64 t398)) (fun _ hk => hk.2) (.string t399)) (fun _ hk => hk.2) (.string t400)) (fun _ hk => hk.2) (.int .i64 t401)) (fun _ hk => hk.2) (.int .i64 t402)) (fun _ h_ => h_.1))) hb); have n1_ := mA (blk_below (g := gb404) (o := .cells #[.int .i64 t398, .string t399, .string t400, .int .i64 t401, .int .i64 t402] 88 (0, 0)) (by (with_reducible repeat (first | apply kN | apply kD | apply kA)); refine blk_put (cs := #[.int .i64 t398, .string t399, .string t400, .int .i64 t401, .int .i64 0]) ?_ 4 _ (by first | rfl | (simp [*]; done)); (with_reducible repeat (first | apply kN | apply kD | apply kA)); refine blk_put (cs := #[.int .i64 t398, .string t399, .string t400, .int .i64 0, .int .i64 0]) ?_ 3 _ (by first | rfl | (simp [*]; done)); (with_reducible repeat (first | apply kN | apply kD | apply kA)); refine blk_put (cs := #[.int .i64 t398, .string t399, .string ⟨#[]⟩, .int .i64 0, .int .i64 0]) ?_ 2 _ (by first | rfl | (simp [*]; done)); (with_reducible repeat (first | apply kN | apply kD | apply kA)); refine blk_put (cs := #[.int .i64 t398, .string ⟨#[]⟩, .string ⟨#[]⟩, .int .i64 0, .int .i64 0]) ?_ 1 _ (by first | rfl | (simp [*]; done)); (with_reducible repeat (first | apply kN | apply kD | apply kA)); refine blk_put (cs := #[.int .i64 0, .string ⟨#[]⟩, .string ⟨#[]⟩, .int .i64 0, .int .i64 0]) ?_ 0 _ (by first | rfl | (simp [*]; done)); (with_reducible repeat (first | apply kN | apply kD | apply kA)); exact BK404.out) hb); have n2_ := mA (bP (by repeat (first | (with_reducible first | exact HB.out | apply bA | apply bN | apply bD | refine bS ?_ GE404.out) | exact HB.out)) hb); clear HO393; clear BK404; clear HB; have HO393 := n0_; have BK404 := n1_; have HB := n2_; clear n0_ n1_ n2_; (try clear hb); (try clear hb2); (try clear hk); (try clear hi)) | ((with_reducible refine gate_dst (N := 9) rfl ?_); refine box_event ?hg (N := 9) ?hd (cs := #[.int .i64 0, .string ⟨#[]⟩, .string ⟨#[]⟩, .int .i64 0, .int .i64 0]) (t := 88) ?hr ?_; (case hd => rfl); (case hg => rfl); (case hr => first | (go_simp; done) | (go_simp; rfl)); intro gb411 hg w43 hbox hb; have n0_ := mA (Kd.R_below (by (with_reducible repeat (first | apply Kd.R_alloc | apply Kd.R_drewN | apply Kd.R_drew)); exact HO393.out) hb); obtain ⟨n1_, nl404_⟩ := bt3 (g := gb404) (o := .cells #[.int .i64 t398, .string t399, .string t400, .int .i64 t401, .int .i64 t402] 88 (0, 0)) (by (with_reducible repeat (first | apply kN | apply kD | apply kA)); exact BK404.out) hb; obtain ⟨n2_, nq_⟩ := bpr (by repeat (first | (with_reducible first | exact HB.out | apply bA | apply bN | apply bD | refine bS ?_ GE404.out) | exact HB.out)) hb; have n3_ := mA (hbox); have n4_ := mA ((by rw [hg]; exact nq_ : w.heap.size ≤ gb411)); have n5_ := mA ((by rw [hg]; exact nq_ : w.heap.size ≤ gb411)); have n6_ := mA ((by rw [hg]; exact Nat.ne_of_lt nl404_ : gb404 ≠ gb411)); have n7_ := mA ((by rw [hg]; exact Nat.ne_of_gt nl404_ : gb411 ≠ gb404)); clear HO393; clear BK404; clear HB; have HO393 := n0_; have BK404 := n1_; have HB := n2_; have BK411 := n3_; have GW411 := n4_; have GE411 := n5_; have NB404_411 := n6_; have NB411_404 := n7_; clear nl404_; clear nq_; clear n0_ n1_ n2_ n3_ n4_ n5_ n6_ n7_; clear hb hbox hg; have hnb44 := NB411_404.out; have hnc44 := NB404_411.out; obtain ⟨hcz45_0, hcz45_1, hcz45_2, hcz45_3, hcz45_4⟩ := bc5 BK411.out; obtain ⟨hfz45_0, hfz45_1, hfz45_2, hfz45_3, hfz45_4⟩ := bf5 BK411.out; obtain ⟨hcz46_0, hcz46_1, hcz46_2, hcz46_3, hcz46_4⟩ := bc5 BK404.out; obtain ⟨hfz46_0, hfz46_1, hfz46_2, hfz46_3, hfz46_4⟩ := bf5 BK404.out))
   go_ret
   exact ⟨by first | rfl | (simp [errW_none, errW_some] <;> rfl) | (simp [*, errW_none, errW_some] <;> rfl), by repeat (first | (with_reducible first | exact HB.out | apply bA | apply bN | apply bD | refine bS ?_ GE404.out | refine bS ?_ GE411.out) | exact HB.out)⟩
 ·rw [if_neg c1] at H
  exact absurd H (by simp)

def palanquinlaw09_few.f (a0 : ByteArray) (a1 : ByteArray) (a2 : ByteArray) : Option (Bool) := if (a0.size : Int) ≤ 300 then (if (a1.size : Int) ≤ 300 then (some (decide ((a2.size : Int) ≤ 300))) else (some false)) else (some false)
set_option maxHeartbeats 8000000 in
set_option maxRecDepth 100000 in
theorem palanquinlaw09_few.calls (a0 : ByteArray) (a1 : ByteArray) (a2 : ByteArray) (r : Bool) (w : World) (h : palanquinlaw09_few.f a0 a1 a2 = some r) :
  Calls Tryd.prog 42 #[.string a0, .string a1, .string a2] w fun e w' => e = .returned (.bool r) ∧ Drawn0 w w' := by
 have H : (if (a0.size : Int) ≤ 300 then (if (a1.size : Int) ≤ 300 then (some (decide ((a2.size : Int) ≤ 300))) else (some false)) else (some false)) = some r := h
 clear h
 by_cases c4 : (a0.size : Int) ≤ 300
 ·rw [if_pos c4] at H
  have c4b0 : decide ((a0.size : Int) ≤ 300) = true := decide_eq_true c4
  have c4b1 : decide (a0.size ≤ 300) = true := decide_eq_true (by omega)
  clear c4
  by_cases c5 : (a1.size : Int) ≤ 300
  ·rw [if_pos c5] at H
   have c5b0 : decide ((a1.size : Int) ≤ 300) = true := decide_eq_true c5
   have c5b1 : decide (a1.size ≤ 300) = true := decide_eq_true (by omega)
   clear c5
   obtain rfl := Option.some.inj H
   go_enter Tryd.func42, Tryd.ntmps42
   go_wp2
   go_ret
   exact ⟨by first | rfl | (simp; done) | (simp [*]; done), by repeat (first | exact Drawn0.refl _ | apply Drawn0.step)⟩
  ·rw [if_neg c5] at H
   have c5b0 : decide ((a1.size : Int) ≤ 300) = false := decide_eq_false c5
   have c5b1 : decide (a1.size ≤ 300) = false := decide_eq_false (by omega)
   clear c5
   obtain rfl := Option.some.inj H
   go_enter Tryd.func42, Tryd.ntmps42
   go_wp2
   go_ret
   exact ⟨by first | rfl | (simp; done) | (simp [*]; done), by repeat (first | exact Drawn0.refl _ | apply Drawn0.step)⟩
 ·rw [if_neg c4] at H
  have c4b0 : decide ((a0.size : Int) ≤ 300) = false := decide_eq_false c4
  have c4b1 : decide (a0.size ≤ 300) = false := decide_eq_false (by omega)
  clear c4
  obtain rfl := Option.some.inj H
  go_enter Tryd.func42, Tryd.ntmps42
  go_wp2
  go_ret
  exact ⟨by first | rfl | (simp; done) | (simp [*]; done), by repeat (first | exact Drawn0.refl _ | apply Drawn0.step)⟩

end Go.Proofs.YtcmalglippmocaaDoor.G
end

section
namespace Go.Proofs.YtcmalglippmocaaDoor.G
open Go.RowKit Go.Proofs.YtcmalglippmocaaDoorW.PrintWords Go.Proofs.YtcmalglippmocaaDoorW.PrintLast Go.Proofs.YtcmalglippmocaaDoorW.PrintMore
attribute [local go_sem] max2_int min2_int max_two min_two max_three min_three max_four min_four

def palanquinref07_in.f (a0 : Int) (a1 : Int) (a2 : Int) : Option (Bool) := if a0 ≥ a1 then (some (decide (a0 ≤ a2))) else (some false)
set_option maxHeartbeats 8000000 in
set_option maxRecDepth 100000 in
theorem palanquinref07_in.calls (a0 : Int) (a1 : Int) (a2 : Int) (r : Bool) (w : World) (h : palanquinref07_in.f a0 a1 a2 = some r) :
  Calls Tryd.prog 90 #[.int .i64 a0, .int .i64 a1, .int .i64 a2] w fun e w' => e = .returned (.bool r) ∧ Drawn0 w w' := by
 have H : (if a0 ≥ a1 then (some (decide (a0 ≤ a2))) else (some false)) = some r := h
 clear h
 by_cases c4 : a0 ≥ a1
 ·rw [if_pos c4] at H
  have c4b0 : decide (a1 ≤ a0) = true := decide_eq_true c4
  clear c4
  obtain rfl := Option.some.inj H
  go_enter Tryd.func90, Tryd.ntmps90
  go_wp2
  go_ret
  exact ⟨by first | rfl | (simp; done) | (simp [*]; done), by repeat (first | exact Drawn0.refl _ | apply Drawn0.step)⟩
 ·rw [if_neg c4] at H
  have c4b0 : decide (a1 ≤ a0) = false := decide_eq_false c4
  clear c4
  obtain rfl := Option.some.inj H
  go_enter Tryd.func90, Tryd.ntmps90
  go_wp2
  go_ret
  exact ⟨by first | rfl | (simp; done) | (simp [*]; done), by repeat (first | exact Drawn0.refl _ | apply Drawn0.step)⟩

def palanquinref07_May.f (a0_0 : Int) (a0_1 : Int) (a0_2 : Int) (a0_3 : Int) (a0_4 : Int) (a0_5 : Int) (a0_6 : Int) (a0_7 : ByteArray) (a0_8 : ByteArray) : Option (Bool) := (palanquinref07_in.f a0_0 0 65535).bind fun t458 => (if t458 = true then ((palanquinref07_in.f a0_1 0 65535).bind fun t459 => (if t459 = true then ((palanquinref07_in.f a0_5 0 65535).bind fun t460 => (if t460 = true then ((palanquinref07_in.f a0_6 0 65535).bind fun t461 => (if t461 = true then ((palanquinref07_in.f a0_4 0 255).bind fun t462 => (if t462 = true then (if (a0_7.size : Int) ≤ 40 then (some (((a0_7.size : Int) % 4) == 0)) else (some false)) else (some false))) else (some false))) else (some false))) else (some false))) else (some false))
set_option maxHeartbeats 8000000 in
set_option maxRecDepth 100000 in
theorem palanquinref07_May.calls (a0_0 : Int) (a0_1 : Int) (a0_2 : Int) (a0_3 : Int) (a0_4 : Int) (a0_5 : Int) (a0_6 : Int) (a0_7 : ByteArray) (a0_8 : ByteArray) (r : Bool) (w : World) (h : palanquinref07_May.f a0_0 a0_1 a0_2 a0_3 a0_4 a0_5 a0_6 a0_7 a0_8 = some r) :
  Calls Tryd.prog 89 #[.agg #[.int .i64 a0_0, .int .i64 a0_1, .int .u32 a0_2, .int .u32 a0_3, .int .i64 a0_4, .int .i64 a0_5, .int .i64 a0_6, .string a0_7, .string a0_8]] w fun e w' => e = .returned (.bool r) ∧ Below w.heap.size w w' := by
 have hu79 := Tryd.underlying79
 have HB := mA (Below.refl w.heap.size w)
 have H : ((palanquinref07_in.f a0_0 0 65535).bind fun t458 => (if t458 = true then ((palanquinref07_in.f a0_1 0 65535).bind fun t459 => (if t459 = true then ((palanquinref07_in.f a0_5 0 65535).bind fun t460 => (if t460 = true then ((palanquinref07_in.f a0_6 0 65535).bind fun t461 => (if t461 = true then ((palanquinref07_in.f a0_4 0 255).bind fun t462 => (if t462 = true then (if (a0_7.size : Int) ≤ 40 then (some (((a0_7.size : Int) % 4) == 0)) else (some false)) else (some false))) else (some false))) else (some false))) else (some false))) else (some false))) = some r := h
 clear h
 replace H := Option.bind_eq_some_iff.mp H
 obtain ⟨t458, A20, H⟩ := H
 try dsimp +instances only at H
 have A2 := mA A20
 clear A20
 by_cases c3 : t458 = true
 ·subst c3
  rw [if_pos rfl] at H
  replace H := Option.bind_eq_some_iff.mp H
  obtain ⟨t459, A40, H⟩ := H
  try dsimp +instances only at H
  have A4 := mA A40
  clear A40
  by_cases c5 : t459 = true
  ·subst c5
   rw [if_pos rfl] at H
   replace H := Option.bind_eq_some_iff.mp H
   obtain ⟨t460, A60, H⟩ := H
   try dsimp +instances only at H
   have A6 := mA A60
   clear A60
   by_cases c7 : t460 = true
   ·subst c7
    rw [if_pos rfl] at H
    replace H := Option.bind_eq_some_iff.mp H
    obtain ⟨t461, A80, H⟩ := H
    try dsimp +instances only at H
    have A8 := mA A80
    clear A80
    by_cases c9 : t461 = true
    ·subst c9
     rw [if_pos rfl] at H
     replace H := Option.bind_eq_some_iff.mp H
     obtain ⟨t462, A100, H⟩ := H
     try dsimp +instances only at H
     have A10 := mA A100
     clear A100
     by_cases c11 : t462 = true
     ·subst c11
      rw [if_pos rfl] at H
      by_cases c12 : (a0_7.size : Int) ≤ 40
      ·rw [if_pos c12] at H
       have c12b0 : decide ((a0_7.size : Int) ≤ 40) = true := decide_eq_true c12
       have c12b1 : decide (a0_7.size ≤ 40) = true := decide_eq_true (by omega)
       clear c12
       obtain rfl := Option.some.inj H
       go_enter Tryd.func89, Tryd.ntmps89
       go_wp2_with (first | ((with_reducible refine gate_dst (N := 1) rfl ?_); (try (refine gate_guard (by rfl) ?_; dsimp only)); refine box_event ?hg (N := 1) ?hd (cs := #[.int .i64 a0_0, .int .i64 a0_1, .int .u32 a0_2, .int .u32 a0_3, .int .i64 a0_4, .int .i64 a0_5, .int .i64 a0_6, .string a0_7, .string a0_8]) (t := 79) ?hr ?_; (case hd => rfl); (case hg => rfl); (case hr => first | (go_simp; done) | (go_simp; rfl)); intro gb457 hg w13 hbox hb; obtain ⟨n0_, nq_⟩ := bpr (by repeat (first | (with_reducible first | exact HB.out | apply bA | apply bN | apply bD) | exact HB.out)) hb; have n1_ := mA (hbox); have n2_ := mA ((by rw [hg]; exact nq_ : w.heap.size ≤ gb457)); have n3_ := mA ((by rw [hg]; exact nq_ : w.heap.size ≤ gb457)); clear HB; have HB := n0_; have BK457 := n1_; have GW457 := n2_; have GE457 := n3_; clear nq_; clear n0_ n1_ n2_ n3_; clear hb hbox hg; obtain ⟨hcz14_0, hcz14_1, hcz14_2, hcz14_3, hcz14_4, hcz14_5, hcz14_6, hcz14_7, hcz14_8⟩ := bc9 BK457.out; obtain ⟨hfz14_0, hfz14_1, hfz14_2, hfz14_3, hfz14_4, hfz14_5, hfz14_6, hfz14_7, hfz14_8⟩ := bf9 BK457.out) | ((with_reducible refine gate_callee (f := 90) rfl ?_); refine goesL_ (some 5) rfl rfl Tryd.func90 (by kernel_rfl) rfl #[.int .i64 a0_0, .int .i64 0, .int .i64 65535] rfl (by (try simp only [List.map_toArray, List.map_cons, List.map_nil]); first | done | rfl | (simp only [List.length_drop, List.length_take]; rfl)) ?_; (with_reducible refine (palanquinref07_in.calls a0_0 0 65535 true _ A2.out).mono ?_); rintro e w' ⟨rfl, ⟨nd, rfl⟩⟩; refine ⟨_, rfl, ?_⟩) | (go_at_call 90; (with_reducible refine (palanquinref07_in.calls a0_1 0 65535 true _ A4.out).mono ?_); rintro e w' ⟨rfl, ⟨nd, rfl⟩⟩) | (go_at_call 90; (with_reducible refine (palanquinref07_in.calls a0_5 0 65535 true _ A6.out).mono ?_); rintro e w' ⟨rfl, ⟨nd, rfl⟩⟩) | (go_at_call 90; (with_reducible refine (palanquinref07_in.calls a0_6 0 65535 true _ A8.out).mono ?_); rintro e w' ⟨rfl, ⟨nd, rfl⟩⟩) | (go_at_call 90; (with_reducible refine (palanquinref07_in.calls a0_4 0 255 true _ A10.out).mono ?_); rintro e w' ⟨rfl, ⟨nd, rfl⟩⟩))
       go_ret
       exact ⟨by first | rfl | (simp [errW_none, errW_some] <;> rfl) | (simp [*, errW_none, errW_some] <;> rfl), by repeat (first | (with_reducible first | exact HB.out | apply bA | apply bN | apply bD | refine bS ?_ GE457.out) | exact HB.out)⟩
      ·rw [if_neg c12] at H
       have c12b0 : decide ((a0_7.size : Int) ≤ 40) = false := decide_eq_false c12
       have c12b1 : decide (a0_7.size ≤ 40) = false := decide_eq_false (by omega)
       clear c12
       obtain rfl := Option.some.inj H
       go_enter Tryd.func89, Tryd.ntmps89
       go_wp2_with (first | ((with_reducible refine gate_dst (N := 1) rfl ?_); (try (refine gate_guard (by rfl) ?_; dsimp only)); refine box_event ?hg (N := 1) ?hd (cs := #[.int .i64 a0_0, .int .i64 a0_1, .int .u32 a0_2, .int .u32 a0_3, .int .i64 a0_4, .int .i64 a0_5, .int .i64 a0_6, .string a0_7, .string a0_8]) (t := 79) ?hr ?_; (case hd => rfl); (case hg => rfl); (case hr => first | (go_simp; done) | (go_simp; rfl)); intro gb457 hg w15 hbox hb; obtain ⟨n0_, nq_⟩ := bpr (by repeat (first | (with_reducible first | exact HB.out | apply bA | apply bN | apply bD) | exact HB.out)) hb; have n1_ := mA (hbox); have n2_ := mA ((by rw [hg]; exact nq_ : w.heap.size ≤ gb457)); have n3_ := mA ((by rw [hg]; exact nq_ : w.heap.size ≤ gb457)); clear HB; have HB := n0_; have BK457 := n1_; have GW457 := n2_; have GE457 := n3_; clear nq_; clear n0_ n1_ n2_ n3_; clear hb hbox hg; obtain ⟨hcz16_0, hcz16_1, hcz16_2, hcz16_3, hcz16_4, hcz16_5, hcz16_6, hcz16_7, hcz16_8⟩ := bc9 BK457.out; obtain ⟨hfz16_0, hfz16_1, hfz16_2, hfz16_3, hfz16_4, hfz16_5, hfz16_6, hfz16_7, hfz16_8⟩ := bf9 BK457.out) | ((with_reducible refine gate_callee (f := 90) rfl ?_); refine goesL_ (some 5) rfl rfl Tryd.func90 (by kernel_rfl) rfl #[.int .i64 a0_0, .int .i64 0, .int .i64 65535] rfl (by (try simp only [List.map_toArray, List.map_cons, List.map_nil]); first | done | rfl | (simp only [List.length_drop, List.length_take]; rfl)) ?_; (with_reducible refine (palanquinref07_in.calls a0_0 0 65535 true _ A2.out).mono ?_); rintro e w' ⟨rfl, ⟨nd, rfl⟩⟩; refine ⟨_, rfl, ?_⟩) | (go_at_call 90; (with_reducible refine (palanquinref07_in.calls a0_1 0 65535 true _ A4.out).mono ?_); rintro e w' ⟨rfl, ⟨nd, rfl⟩⟩) | (go_at_call 90; (with_reducible refine (palanquinref07_in.calls a0_5 0 65535 true _ A6.out).mono ?_); rintro e w' ⟨rfl, ⟨nd, rfl⟩⟩) | (go_at_call 90; (with_reducible refine (palanquinref07_in.calls a0_6 0 65535 true _ A8.out).mono ?_); rintro e w' ⟨rfl, ⟨nd, rfl⟩⟩) | (go_at_call 90; (with_reducible refine (palanquinref07_in.calls a0_4 0 255 true _ A10.out).mono ?_); rintro e w' ⟨rfl, ⟨nd, rfl⟩⟩))
       go_ret
       exact ⟨by first | rfl | (simp [errW_none, errW_some] <;> rfl) | (simp [*, errW_none, errW_some] <;> rfl), by repeat (first | (with_reducible first | exact HB.out | apply bA | apply bN | apply bD | refine bS ?_ GE457.out) | exact HB.out)⟩
     ·replace c11 := Bool.eq_false_iff.mpr c11
      subst c11
      rw [if_neg (show ¬ (false = true) by decide)] at H
      obtain rfl := Option.some.inj H
      go_enter Tryd.func89, Tryd.ntmps89
      go_wp2_with (first | ((with_reducible refine gate_dst (N := 1) rfl ?_); (try (refine gate_guard (by rfl) ?_; dsimp only)); refine box_event ?hg (N := 1) ?hd (cs := #[.int .i64 a0_0, .int .i64 a0_1, .int .u32 a0_2, .int .u32 a0_3, .int .i64 a0_4, .int .i64 a0_5, .int .i64 a0_6, .string a0_7, .string a0_8]) (t := 79) ?hr ?_; (case hd => rfl); (case hg => rfl); (case hr => first | (go_simp; done) | (go_simp; rfl)); intro gb457 hg w17 hbox hb; obtain ⟨n0_, nq_⟩ := bpr (by repeat (first | (with_reducible first | exact HB.out | apply bA | apply bN | apply bD) | exact HB.out)) hb; have n1_ := mA (hbox); have n2_ := mA ((by rw [hg]; exact nq_ : w.heap.size ≤ gb457)); have n3_ := mA ((by rw [hg]; exact nq_ : w.heap.size ≤ gb457)); clear HB; have HB := n0_; have BK457 := n1_; have GW457 := n2_; have GE457 := n3_; clear nq_; clear n0_ n1_ n2_ n3_; clear hb hbox hg; obtain ⟨hcz18_0, hcz18_1, hcz18_2, hcz18_3, hcz18_4, hcz18_5, hcz18_6, hcz18_7, hcz18_8⟩ := bc9 BK457.out; obtain ⟨hfz18_0, hfz18_1, hfz18_2, hfz18_3, hfz18_4, hfz18_5, hfz18_6, hfz18_7, hfz18_8⟩ := bf9 BK457.out) | ((with_reducible refine gate_callee (f := 90) rfl ?_); refine goesL_ (some 5) rfl rfl Tryd.func90 (by kernel_rfl) rfl #[.int .i64 a0_0, .int .i64 0, .int .i64 65535] rfl (by (try simp only [List.map_toArray, List.map_cons, List.map_nil]); first | done | rfl | (simp only [List.length_drop, List.length_take]; rfl)) ?_; (with_reducible refine (palanquinref07_in.calls a0_0 0 65535 true _ A2.out).mono ?_); rintro e w' ⟨rfl, ⟨nd, rfl⟩⟩; refine ⟨_, rfl, ?_⟩) | (go_at_call 90; (with_reducible refine (palanquinref07_in.calls a0_1 0 65535 true _ A4.out).mono ?_); rintro e w' ⟨rfl, ⟨nd, rfl⟩⟩) | (go_at_call 90; (with_reducible refine (palanquinref07_in.calls a0_5 0 65535 true _ A6.out).mono ?_); rintro e w' ⟨rfl, ⟨nd, rfl⟩⟩) | (go_at_call 90; (with_reducible refine (palanquinref07_in.calls a0_6 0 65535 true _ A8.out).mono ?_); rintro e w' ⟨rfl, ⟨nd, rfl⟩⟩) | (go_at_call 90; (with_reducible refine (palanquinref07_in.calls a0_4 0 255 false _ A10.out).mono ?_); rintro e w' ⟨rfl, ⟨nd, rfl⟩⟩))
      go_ret
      exact ⟨by first | rfl | (simp [errW_none, errW_some] <;> rfl) | (simp [*, errW_none, errW_some] <;> rfl), by repeat (first | (with_reducible first | exact HB.out | apply bA | apply bN | apply bD | refine bS ?_ GE457.out) | exact HB.out)⟩
    ·replace c9 := Bool.eq_false_iff.mpr c9
     subst c9
     rw [if_neg (show ¬ (false = true) by decide)] at H
     obtain rfl := Option.some.inj H
     go_enter Tryd.func89, Tryd.ntmps89
     go_wp2_with (first | ((with_reducible refine gate_dst (N := 1) rfl ?_); (try (refine gate_guard (by rfl) ?_; dsimp only)); refine box_event ?hg (N := 1) ?hd (cs := #[.int .i64 a0_0, .int .i64 a0_1, .int .u32 a0_2, .int .u32 a0_3, .int .i64 a0_4, .int .i64 a0_5, .int .i64 a0_6, .string a0_7, .string a0_8]) (t := 79) ?hr ?_; (case hd => rfl); (case hg => rfl); (case hr => first | (go_simp; done) | (go_simp; rfl)); intro gb457 hg w19 hbox hb; obtain ⟨n0_, nq_⟩ := bpr (by repeat (first | (with_reducible first | exact HB.out | apply bA | apply bN | apply bD) | exact HB.out)) hb; have n1_ := mA (hbox); have n2_ := mA ((by rw [hg]; exact nq_ : w.heap.size ≤ gb457)); have n3_ := mA ((by rw [hg]; exact nq_ : w.heap.size ≤ gb457)); clear HB; have HB := n0_; have BK457 := n1_; have GW457 := n2_; have GE457 := n3_; clear nq_; clear n0_ n1_ n2_ n3_; clear hb hbox hg; obtain ⟨hcz20_0, hcz20_1, hcz20_2, hcz20_3, hcz20_4, hcz20_5, hcz20_6, hcz20_7, hcz20_8⟩ := bc9 BK457.out; obtain ⟨hfz20_0, hfz20_1, hfz20_2, hfz20_3, hfz20_4, hfz20_5, hfz20_6, hfz20_7, hfz20_8⟩ := bf9 BK457.out) | ((with_reducible refine gate_callee (f := 90) rfl ?_); refine goesL_ (some 5) rfl rfl Tryd.func90 (by kernel_rfl) rfl #[.int .i64 a0_0, .int .i64 0, .int .i64 65535] rfl (by (try simp only [List.map_toArray, List.map_cons, List.map_nil]); first | done | rfl | (simp only [List.length_drop, List.length_take]; rfl)) ?_; (with_reducible refine (palanquinref07_in.calls a0_0 0 65535 true _ A2.out).mono ?_); rintro e w' ⟨rfl, ⟨nd, rfl⟩⟩; refine ⟨_, rfl, ?_⟩) | (go_at_call 90; (with_reducible refine (palanquinref07_in.calls a0_1 0 65535 true _ A4.out).mono ?_); rintro e w' ⟨rfl, ⟨nd, rfl⟩⟩) | (go_at_call 90; (with_reducible refine (palanquinref07_in.calls a0_5 0 65535 true _ A6.out).mono ?_); rintro e w' ⟨rfl, ⟨nd, rfl⟩⟩) | (go_at_call 90; (with_reducible refine (palanquinref07_in.calls a0_6 0 65535 false _ A8.out).mono ?_); rintro e w' ⟨rfl, ⟨nd, rfl⟩⟩))
     go_ret
     exact ⟨by first | rfl | (simp [errW_none, errW_some] <;> rfl) | (simp [*, errW_none, errW_some] <;> rfl), by repeat (first | (with_reducible first | exact HB.out | apply bA | apply bN | apply bD | refine bS ?_ GE457.out) | exact HB.out)⟩
   ·replace c7 := Bool.eq_false_iff.mpr c7
    subst c7
    rw [if_neg (show ¬ (false = true) by decide)] at H
    obtain rfl := Option.some.inj H
    go_enter Tryd.func89, Tryd.ntmps89
    go_wp2_with (first | ((with_reducible refine gate_dst (N := 1) rfl ?_); (try (refine gate_guard (by rfl) ?_; dsimp only)); refine box_event ?hg (N := 1) ?hd (cs := #[.int .i64 a0_0, .int .i64 a0_1, .int .u32 a0_2, .int .u32 a0_3, .int .i64 a0_4, .int .i64 a0_5, .int .i64 a0_6, .string a0_7, .string a0_8]) (t := 79) ?hr ?_; (case hd => rfl); (case hg => rfl); (case hr => first | (go_simp; done) | (go_simp; rfl)); intro gb457 hg w21 hbox hb; obtain ⟨n0_, nq_⟩ := bpr (by repeat (first | (with_reducible first | exact HB.out | apply bA | apply bN | apply bD) | exact HB.out)) hb; have n1_ := mA (hbox); have n2_ := mA ((by rw [hg]; exact nq_ : w.heap.size ≤ gb457)); have n3_ := mA ((by rw [hg]; exact nq_ : w.heap.size ≤ gb457)); clear HB; have HB := n0_; have BK457 := n1_; have GW457 := n2_; have GE457 := n3_; clear nq_; clear n0_ n1_ n2_ n3_; clear hb hbox hg; obtain ⟨hcz22_0, hcz22_1, hcz22_2, hcz22_3, hcz22_4, hcz22_5, hcz22_6, hcz22_7, hcz22_8⟩ := bc9 BK457.out; obtain ⟨hfz22_0, hfz22_1, hfz22_2, hfz22_3, hfz22_4, hfz22_5, hfz22_6, hfz22_7, hfz22_8⟩ := bf9 BK457.out) | ((with_reducible refine gate_callee (f := 90) rfl ?_); refine goesL_ (some 5) rfl rfl Tryd.func90 (by kernel_rfl) rfl #[.int .i64 a0_0, .int .i64 0, .int .i64 65535] rfl (by (try simp only [List.map_toArray, List.map_cons, List.map_nil]); first | done | rfl | (simp only [List.length_drop, List.length_take]; rfl)) ?_; (with_reducible refine (palanquinref07_in.calls a0_0 0 65535 true _ A2.out).mono ?_); rintro e w' ⟨rfl, ⟨nd, rfl⟩⟩; refine ⟨_, rfl, ?_⟩) | (go_at_call 90; (with_reducible refine (palanquinref07_in.calls a0_1 0 65535 true _ A4.out).mono ?_); rintro e w' ⟨rfl, ⟨nd, rfl⟩⟩) | (go_at_call 90; (with_reducible refine (palanquinref07_in.calls a0_5 0 65535 false _ A6.out).mono ?_); rintro e w' ⟨rfl, ⟨nd, rfl⟩⟩))
    go_ret
    exact ⟨by first | rfl | (simp [errW_none, errW_some] <;> rfl) | (simp [*, errW_none, errW_some] <;> rfl), by repeat (first | (with_reducible first | exact HB.out | apply bA | apply bN | apply bD | refine bS ?_ GE457.out) | exact HB.out)⟩
  ·replace c5 := Bool.eq_false_iff.mpr c5
   subst c5
   rw [if_neg (show ¬ (false = true) by decide)] at H
   obtain rfl := Option.some.inj H
   go_enter Tryd.func89, Tryd.ntmps89
   go_wp2_with (first | ((with_reducible refine gate_dst (N := 1) rfl ?_); (try (refine gate_guard (by rfl) ?_; dsimp only)); refine box_event ?hg (N := 1) ?hd (cs := #[.int .i64 a0_0, .int .i64 a0_1, .int .u32 a0_2, .int .u32 a0_3, .int .i64 a0_4, .int .i64 a0_5, .int .i64 a0_6, .string a0_7, .string a0_8]) (t := 79) ?hr ?_; (case hd => rfl); (case hg => rfl); (case hr => first | (go_simp; done) | (go_simp; rfl)); intro gb457 hg w23 hbox hb; obtain ⟨n0_, nq_⟩ := bpr (by repeat (first | (with_reducible first | exact HB.out | apply bA | apply bN | apply bD) | exact HB.out)) hb; have n1_ := mA (hbox); have n2_ := mA ((by rw [hg]; exact nq_ : w.heap.size ≤ gb457)); have n3_ := mA ((by rw [hg]; exact nq_ : w.heap.size ≤ gb457)); clear HB; have HB := n0_; have BK457 := n1_; have GW457 := n2_; have GE457 := n3_; clear nq_; clear n0_ n1_ n2_ n3_; clear hb hbox hg; obtain ⟨hcz24_0, hcz24_1, hcz24_2, hcz24_3, hcz24_4, hcz24_5, hcz24_6, hcz24_7, hcz24_8⟩ := bc9 BK457.out; obtain ⟨hfz24_0, hfz24_1, hfz24_2, hfz24_3, hfz24_4, hfz24_5, hfz24_6, hfz24_7, hfz24_8⟩ := bf9 BK457.out) | ((with_reducible refine gate_callee (f := 90) rfl ?_); refine goesL_ (some 5) rfl rfl Tryd.func90 (by kernel_rfl) rfl #[.int .i64 a0_0, .int .i64 0, .int .i64 65535] rfl (by (try simp only [List.map_toArray, List.map_cons, List.map_nil]); first | done | rfl | (simp only [List.length_drop, List.length_take]; rfl)) ?_; (with_reducible refine (palanquinref07_in.calls a0_0 0 65535 true _ A2.out).mono ?_); rintro e w' ⟨rfl, ⟨nd, rfl⟩⟩; refine ⟨_, rfl, ?_⟩) | (go_at_call 90; (with_reducible refine (palanquinref07_in.calls a0_1 0 65535 false _ A4.out).mono ?_); rintro e w' ⟨rfl, ⟨nd, rfl⟩⟩))
   go_ret
   exact ⟨by first | rfl | (simp [errW_none, errW_some] <;> rfl) | (simp [*, errW_none, errW_some] <;> rfl), by repeat (first | (with_reducible first | exact HB.out | apply bA | apply bN | apply bD | refine bS ?_ GE457.out) | exact HB.out)⟩
 ·replace c3 := Bool.eq_false_iff.mpr c3
  subst c3
  rw [if_neg (show ¬ (false = true) by decide)] at H
  obtain rfl := Option.some.inj H
  go_enter Tryd.func89, Tryd.ntmps89
  go_wp2_with (first | ((with_reducible refine gate_dst (N := 1) rfl ?_); (try (refine gate_guard (by rfl) ?_; dsimp only)); refine box_event ?hg (N := 1) ?hd (cs := #[.int .i64 a0_0, .int .i64 a0_1, .int .u32 a0_2, .int .u32 a0_3, .int .i64 a0_4, .int .i64 a0_5, .int .i64 a0_6, .string a0_7, .string a0_8]) (t := 79) ?hr ?_; (case hd => rfl); (case hg => rfl); (case hr => first | (go_simp; done) | (go_simp; rfl)); intro gb457 hg w25 hbox hb; obtain ⟨n0_, nq_⟩ := bpr (by repeat (first | (with_reducible first | exact HB.out | apply bA | apply bN | apply bD) | exact HB.out)) hb; have n1_ := mA (hbox); have n2_ := mA ((by rw [hg]; exact nq_ : w.heap.size ≤ gb457)); have n3_ := mA ((by rw [hg]; exact nq_ : w.heap.size ≤ gb457)); clear HB; have HB := n0_; have BK457 := n1_; have GW457 := n2_; have GE457 := n3_; clear nq_; clear n0_ n1_ n2_ n3_; clear hb hbox hg; obtain ⟨hcz26_0, hcz26_1, hcz26_2, hcz26_3, hcz26_4, hcz26_5, hcz26_6, hcz26_7, hcz26_8⟩ := bc9 BK457.out; obtain ⟨hfz26_0, hfz26_1, hfz26_2, hfz26_3, hfz26_4, hfz26_5, hfz26_6, hfz26_7, hfz26_8⟩ := bf9 BK457.out) | ((with_reducible refine gate_callee (f := 90) rfl ?_); refine goesL_ (some 5) rfl rfl Tryd.func90 (by kernel_rfl) rfl #[.int .i64 a0_0, .int .i64 0, .int .i64 65535] rfl (by (try simp only [List.map_toArray, List.map_cons, List.map_nil]); first | done | rfl | (simp only [List.length_drop, List.length_take]; rfl)) ?_; (with_reducible refine (palanquinref07_in.calls a0_0 0 65535 false _ A2.out).mono ?_); rintro e w' ⟨rfl, ⟨nd, rfl⟩⟩; refine ⟨_, rfl, ?_⟩))
  go_ret
  exact ⟨by first | rfl | (simp [errW_none, errW_some] <;> rfl) | (simp [*, errW_none, errW_some] <;> rfl), by repeat (first | (with_reducible first | exact HB.out | apply bA | apply bN | apply bD | refine bS ?_ GE457.out) | exact HB.out)⟩

def palanquinref07_num.f (k : Nat) (a0 : Int) (a1 : Int) : Option (ByteArray) := (palanquinref01_Bytes.f k (IntKind.u64.wrap (a0)) a1).bind fun t463 => (some t463)
set_option maxHeartbeats 8000000 in
set_option maxRecDepth 100000 in
theorem palanquinref07_num.calls (k : Nat) (a0 : Int) (a1 : Int) (r : ByteArray) (w : World) (h : palanquinref07_num.f k a0 a1 = some r) :
  Calls Tryd.prog 91 #[.int .i64 a0, .int .i64 a1] w fun e w' => e = .returned (.string r) ∧ Below w.heap.size w w' := by
 have HB := mA (Below.refl w.heap.size w)
 have H : ((palanquinref01_Bytes.f k (IntKind.u64.wrap (a0)) a1).bind fun t463 => (some t463)) = some r := h
 clear h
 replace H := Option.bind_eq_some_iff.mp H
 obtain ⟨t463, A30, H⟩ := H
 try dsimp +instances only at H
 have A3 := mA A30
 clear A30
 obtain rfl := Option.some.inj H
 go_enter Tryd.func91, Tryd.ntmps91
 go_wp2_with (first | ((with_reducible refine gate_callee (f := 61) rfl ?_); refine goesL_ (some 8) rfl rfl Tryd.func61 (by kernel_rfl) rfl #[.int .u64 (IntKind.u64.wrap (a0)), .int .i64 a1] rfl (by (try simp only [List.map_toArray, List.map_cons, List.map_nil]); first | done | rfl | (simp only [List.length_drop, List.length_take]; rfl)) ?_; (with_reducible refine (palanquinref01_Bytes.calls k (IntKind.u64.wrap (a0)) a1 t463 _ A3.out).mono ?_); rintro e w4 ⟨rfl, hb⟩; refine ⟨_, rfl, ?_⟩; have n0_ := mA (bP (by repeat (first | (with_reducible first | exact HB.out | apply bA | apply bN | apply bD) | exact HB.out)) hb); clear HB; have HB := n0_; clear n0_; (try clear hb); (try clear hb2); (try clear hk); (try clear hi)))
 go_ret
 exact ⟨by first | rfl | (simp [errW_none, errW_some] <;> rfl) | (simp [*, errW_none, errW_some] <;> rfl), by repeat (first | (with_reducible first | exact HB.out | apply bA | apply bN | apply bD) | exact HB.out)⟩

def palanquinref07_Put.j0 : Nat → Int → Bool → Int → Int → Int → Int → Int → Int → Int → ByteArray → ByteArray → Option (ByteArray × Int)
 | 0, _, _, _, _, _, _, _, _, _, _, _ => none
 | k + 1, x1, x13, x465000, x465001, x465002, x465003, x465004, x465005, x465006, x465007, x465008 => if x13 = true then (some ((⟨#[]⟩ : ByteArray), 1)) else ((palanquinref07_num.f k x465000 2).bind fun t467 => ((palanquinref07_num.f k x465001 2).bind fun t468 => (if t467.size + t468.size ≤ 9223372036854775807 then ((palanquinref07_num.f k (wrap64 (x465002)) 4).bind fun t469 => (if (t467 ++ t468).size + t469.size ≤ 9223372036854775807 then ((palanquinref07_num.f k (wrap64 (x465003)) 4).bind fun t470 => (if ((t467 ++ t468) ++ t469).size + t470.size ≤ 9223372036854775807 then ((palanquinref07_num.f k (wrap64 ((wrap64 (5 + (wrap64 ((x465007.size : Int) / 4)))) * 16)) 1).bind fun t471 => (if (((t467 ++ t468) ++ t469) ++ t470).size + t471.size ≤ 9223372036854775807 then ((palanquinref07_num.f k x465004 1).bind fun t472 => (if ((((t467 ++ t468) ++ t469) ++ t470) ++ t471).size + t472.size ≤ 9223372036854775807 then ((palanquinref07_num.f k x465005 2).bind fun t473 => (if (((((t467 ++ t468) ++ t469) ++ t470) ++ t471) ++ t472).size + t473.size ≤ 9223372036854775807 then ((palanquinref07_num.f k x1 2).bind fun t474 => (if ((((((t467 ++ t468) ++ t469) ++ t470) ++ t471) ++ t472) ++ t473).size + t474.size ≤ 9223372036854775807 then ((palanquinref07_num.f k x465006 2).bind fun t475 => (if (((((((t467 ++ t468) ++ t469) ++ t470) ++ t471) ++ t472) ++ t473) ++ t474).size + t475.size ≤ 9223372036854775807 then (if ((((((((t467 ++ t468) ++ t469) ++ t470) ++ t471) ++ t472) ++ t473) ++ t474) ++ t475).size + x465007.size ≤ 9223372036854775807 then (if (((((((((t467 ++ t468) ++ t469) ++ t470) ++ t471) ++ t472) ++ t473) ++ t474) ++ t475) ++ x465007).size + x465008.size ≤ 9223372036854775807 then (some ((((((((((t467 ++ t468) ++ t469) ++ t470) ++ t471) ++ t472) ++ t473) ++ t474) ++ t475) ++ x465007) ++ x465008, 0)) else (none)) else (none)) else (none))) else (none))) else (none))) else (none))) else (none))) else (none))) else (none))) else (none))))
def palanquinref07_Put.f (k : Nat) (a0_0 : Int) (a0_1 : Int) (a0_2 : Int) (a0_3 : Int) (a0_4 : Int) (a0_5 : Int) (a0_6 : Int) (a0_7 : ByteArray) (a0_8 : ByteArray) (a1 : Int) : Option (ByteArray × Int) := (palanquinref07_May.f a0_0 a0_1 a0_2 a0_3 a0_4 a0_5 a0_6 a0_7 a0_8).bind fun t465 => (if t465 = true then ((palanquinref07_in.f a1 0 65535).bind fun t466 => (palanquinref07_Put.j0 k a1 (!t466) a0_0 a0_1 a0_2 a0_3 a0_4 a0_5 a0_6 a0_7 a0_8)) else (palanquinref07_Put.j0 k a1 true a0_0 a0_1 a0_2 a0_3 a0_4 a0_5 a0_6 a0_7 a0_8))
def palanquinref07_Put.T3 : Bool × List (List Nat × List Nat) := (true, [([], []), ([0], [0]), ([1], [1]), ([], []), ([3], [3]), ([4, 2], [4]), ([2, 5], [2, 5]), ([], []), ([7], [7]), ([8], [8]), ([9, 5], [9]), ([6, 10], [6, 10]), ([], []), ([12], [12]), ([13], [13]), ([14, 10], [14]), ([11, 15], [11, 15]), ([], []), ([17], [17]), ([18], [18]), ([19], [19]), ([20], [20]), ([21], [21]), ([22, 15], [22]), ([16, 23], [16, 23]), ([], []), ([25], [25]), ([26, 23], [26]), ([24, 27], [24, 27]), ([], []), ([29], [29]), ([30, 27], [30]), ([28, 31], [28, 31]), ([], []), ([33, 31], [33]), ([32, 34], [32, 34]), ([], []), ([36], [36]), ([37, 34], [37]), ([35, 38], [35, 38]), ([], []), ([40], [40]), ([39, 41], [39, 41]), ([], []), ([43], [43]), ([42, 44], [42, 44]), ([45, 38, 0, 1, 2, 3, 4, 5, 6, 7, 8, 9, 10, 11, 12, 13, 14, 15, 16, 17, 18, 19, 20, 21, 22, 23, 24, 25, 26, 27, 28, 29, 30, 31, 32, 33, 34, 35, 36, 37, 38, 39, 40, 41, 42, 43, 44, 45], [45]), ([46, 0, 1, 2, 3, 4, 5, 6, 7, 8, 9, 10, 11, 12, 13, 14, 15, 16, 17, 18, 19, 20, 21, 22, 23, 24, 25, 26, 27, 28, 29, 30, 31, 32, 33, 34, 35, 36, 37, 38, 39, 40, 41, 42, 43, 44, 45, 46], [])])
def palanquinref07_Put.B3 : List Nat := [0, 1, 3, 0, 8, 31, 63, 0, 128, 384, 959, 2047, 0, 4096, 12288, 30655, 65535, 0, 131072, 393216, 917504, 1966080, 4063232, 8320959, 16777215, 0, 33554432, 117372863, 268435455, 0, 536870912, 1862203327, 4294967295, 0, 12599621567, 34359738367, 0, 68719476736, 235937920959, 549755813887, 0, 1099511627776, 4398046511103, 0, 8796093022208, 35184372088831, 70368744177663, 140737488355327]
theorem palanquinref07_Put.tab3 : rtab .any (opsOf Tryd.f48 3) = palanquinref07_Put.T3 := by kernel_rfl
theorem palanquinref07_Put.bits3 : waitsOk palanquinref07_Put.T3.2 palanquinref07_Put.B3 = true := by kernel_rfl
set_option maxHeartbeats 8000000 in
set_option maxRecDepth 100000 in
theorem palanquinref07_Put.calls (k : Nat) (a0_0 : Int) (a0_1 : Int) (a0_2 : Int) (a0_3 : Int) (a0_4 : Int) (a0_5 : Int) (a0_6 : Int) (a0_7 : ByteArray) (a0_8 : ByteArray) (a1 : Int) (r1 : ByteArray) (r2 : Int) (w : World) (h : palanquinref07_Put.f k a0_0 a0_1 a0_2 a0_3 a0_4 a0_5 a0_6 a0_7 a0_8 a1 = some (r1, r2)) :
  Calls Tryd.prog 48 #[.agg #[.int .i64 a0_0, .int .i64 a0_1, .int .u32 a0_2, .int .u32 a0_3, .int .i64 a0_4, .int .i64 a0_5, .int .i64 a0_6, .string a0_7, .string a0_8], .int .i64 a1] w fun e w' => e = .returned (.tuple #[.string r1, .int .i64 r2]) ∧ Below w.heap.size w w' := by
 have hu79 := Tryd.underlying79
 have HB := mA (Below.refl w.heap.size w)
 have H : ((palanquinref07_May.f a0_0 a0_1 a0_2 a0_3 a0_4 a0_5 a0_6 a0_7 a0_8).bind fun t465 => (if t465 = true then ((palanquinref07_in.f a1 0 65535).bind fun t466 => (palanquinref07_Put.j0 k a1 (!t466) a0_0 a0_1 a0_2 a0_3 a0_4 a0_5 a0_6 a0_7 a0_8)) else (palanquinref07_Put.j0 k a1 true a0_0 a0_1 a0_2 a0_3 a0_4 a0_5 a0_6 a0_7 a0_8))) = some (r1, r2) := h
 clear h
 have HC3 := mA H
 clear H
 go_enter Tryd.func48, Tryd.ntmps48
 go_upto_region 1 with (first | ((with_reducible refine gate_dst (N := 2) rfl ?_); refine box_event ?hg (N := 2) ?hd (cs := #[.int .i64 a0_0, .int .i64 a0_1, .int .u32 a0_2, .int .u32 a0_3, .int .i64 a0_4, .int .i64 a0_5, .int .i64 a0_6, .string a0_7, .string a0_8]) (t := 79) ?hr ?_; (case hd => rfl); (case hg => rfl); (case hr => first | (go_simp; done) | (go_simp; rfl)); intro gb464 hg w4 hbox hb; obtain ⟨n0_, nq_⟩ := bpr (by repeat (first | (with_reducible first | exact HB.out | apply bA | apply bN | apply bD) | exact HB.out)) hb; have n1_ := mA (hbox); have n2_ := mA ((by rw [hg]; exact nq_ : w.heap.size ≤ gb464)); have n3_ := mA ((by rw [hg]; exact nq_ : w.heap.size ≤ gb464)); clear HB; have HB := n0_; have BK464 := n1_; have GW464 := n2_; have GE464 := n3_; clear nq_; clear n0_ n1_ n2_ n3_; clear hb hbox hg))
 (try simp only [Act.put, List.setIfInBounds_toArray, List.set_cons_zero, List.set_cons_succ])
 go_cut [13] (fun v13 wc => ∃ (kq : Nat) (x13_2 : Bool), v13 = .bool x13_2 ∧ Aside0 (palanquinref07_Put.j0 kq a1 x13_2 a0_0 a0_1 a0_2 a0_3 a0_4 a0_5 a0_6 a0_7 a0_8 = some (r1, r2)) ∧ Aside0 (kq ≤ k) ∧ Aside0 (wc.heap[gb464]? = some (.cells #[.int .i64 a0_0, .int .i64 a0_1, .int .u32 a0_2, .int .u32 a0_3, .int .i64 a0_4, .int .i64 a0_5, .int .i64 a0_6, .string a0_7, .string a0_8] 79 (0, 0))) ∧ Aside0 (Below w.heap.size w wc))
 case first =>
  have H := HC3.out
  clear HC3
  replace H := Option.bind_eq_some_iff.mp H
  obtain ⟨t465, A50, H⟩ := H
  try dsimp +instances only at H
  have A5 := mA A50
  clear A50
  by_cases c6 : t465 = true
  ·subst c6
   rw [if_pos rfl] at H
   replace H := Option.bind_eq_some_iff.mp H
   obtain ⟨t466, A70, H⟩ := H
   try dsimp +instances only at H
   have A7 := mA A70
   clear A70
   have H' := mA H
   clear H
   obtain ⟨hcz8_0, hcz8_1, hcz8_2, hcz8_3, hcz8_4, hcz8_5, hcz8_6, hcz8_7, hcz8_8⟩ := bc9 BK464.out
   obtain ⟨hfz8_0, hfz8_1, hfz8_2, hfz8_3, hfz8_4, hfz8_5, hfz8_6, hfz8_7, hfz8_8⟩ := bf9 BK464.out
   go_wp2_with (first | ((with_reducible refine gate_callee (f := 89) rfl ?_); refine goesL_ (some 7) rfl rfl Tryd.func89 (by kernel_rfl) rfl #[.agg #[.int .i64 a0_0, .int .i64 a0_1, .int .u32 a0_2, .int .u32 a0_3, .int .i64 a0_4, .int .i64 a0_5, .int .i64 a0_6, .string a0_7, .string a0_8]] rfl (by (try simp only [List.map_toArray, List.map_cons, List.map_nil]); first | done | rfl | (simp only [List.length_drop, List.length_take]; rfl)) ?_; (with_reducible refine (palanquinref07_May.calls a0_0 a0_1 a0_2 a0_3 a0_4 a0_5 a0_6 a0_7 a0_8 true _ A5.out).mono ?_); rintro e w9 ⟨rfl, hb⟩; refine ⟨_, rfl, ?_⟩; have n0_ := mA (blk_below (g := gb464) (o := .cells #[.int .i64 a0_0, .int .i64 a0_1, .int .u32 a0_2, .int .u32 a0_3, .int .i64 a0_4, .int .i64 a0_5, .int .i64 a0_6, .string a0_7, .string a0_8] 79 (0, 0)) (by (with_reducible repeat (first | apply kN | apply kD | apply kA)); exact BK464.out) hb); have n1_ := mA (bP (by repeat (first | (with_reducible first | exact HB.out | apply bA | apply bN | apply bD | refine bS ?_ GE464.out) | exact HB.out)) hb); clear BK464; clear HB; have BK464 := n0_; have HB := n1_; clear n0_ n1_; (try clear hb); (try clear hb2); (try clear hk); (try clear hi)) | (go_at_call 90; (with_reducible refine (palanquinref07_in.calls a1 0 65535 t466 _ A7.out).mono ?_); rintro e w' ⟨rfl, ⟨nd, rfl⟩⟩))
   go_meet
   case rel => exact ⟨_, (!t466), (by first | rfl | (simp; done) | (simp [*]; done)), H', ⟨by first | omega | exact Nat.le_refl _⟩, ⟨by (with_reducible repeat (first | apply kN | apply kD | apply kA)); exact BK464.out⟩, ⟨by repeat (first | (with_reducible first | exact HB.out | apply bA | apply bN | apply bD | refine bS ?_ GE464.out) | exact HB.out)⟩⟩
  ·replace c6 := Bool.eq_false_iff.mpr c6
   subst c6
   rw [if_neg (show ¬ (false = true) by decide)] at H
   have H' := mA H
   clear H
   obtain ⟨hcz10_0, hcz10_1, hcz10_2, hcz10_3, hcz10_4, hcz10_5, hcz10_6, hcz10_7, hcz10_8⟩ := bc9 BK464.out
   obtain ⟨hfz10_0, hfz10_1, hfz10_2, hfz10_3, hfz10_4, hfz10_5, hfz10_6, hfz10_7, hfz10_8⟩ := bf9 BK464.out
   go_wp2_with (first | ((with_reducible refine gate_callee (f := 89) rfl ?_); refine goesL_ (some 7) rfl rfl Tryd.func89 (by kernel_rfl) rfl #[.agg #[.int .i64 a0_0, .int .i64 a0_1, .int .u32 a0_2, .int .u32 a0_3, .int .i64 a0_4, .int .i64 a0_5, .int .i64 a0_6, .string a0_7, .string a0_8]] rfl (by (try simp only [List.map_toArray, List.map_cons, List.map_nil]); first | done | rfl | (simp only [List.length_drop, List.length_take]; rfl)) ?_; (with_reducible refine (palanquinref07_May.calls a0_0 a0_1 a0_2 a0_3 a0_4 a0_5 a0_6 a0_7 a0_8 false _ A5.out).mono ?_); rintro e w11 ⟨rfl, hb⟩; refine ⟨_, rfl, ?_⟩; have n0_ := mA (blk_below (g := gb464) (o := .cells #[.int .i64 a0_0, .int .i64 a0_1, .int .u32 a0_2, .int .u32 a0_3, .int .i64 a0_4, .int .i64 a0_5, .int .i64 a0_6, .string a0_7, .string a0_8] 79 (0, 0)) (by (with_reducible repeat (first | apply kN | apply kD | apply kA)); exact BK464.out) hb); have n1_ := mA (bP (by repeat (first | (with_reducible first | exact HB.out | apply bA | apply bN | apply bD | refine bS ?_ GE464.out) | exact HB.out)) hb); clear BK464; clear HB; have BK464 := n0_; have HB := n1_; clear n0_ n1_; (try clear hb); (try clear hb2); (try clear hk); (try clear hi)))
   go_meet
   case rel => exact ⟨_, (true), (by first | rfl | (simp; done) | (simp [*]; done)), H', ⟨by first | omega | exact Nat.le_refl _⟩, ⟨by (with_reducible repeat (first | apply kN | apply kD | apply kA)); exact BK464.out⟩, ⟨by repeat (first | (with_reducible first | exact HB.out | apply bA | apply bN | apply bD | refine bS ?_ GE464.out) | exact HB.out)⟩⟩
 case rest =>
  clear HC3
  try clear p2
  try clear c4
  try clear c6
  try clear c8
  try clear hcz10_0 hcz10_1 hcz10_2 hcz10_3 hcz10_4 hcz10_5 hcz10_6 hcz10_7 hcz10_8
  try clear hcz8_0 hcz8_1 hcz8_2 hcz8_3 hcz8_4 hcz8_5 hcz8_6 hcz8_7 hcz8_8
  try clear hfz10_0 hfz10_1 hfz10_2 hfz10_3 hfz10_4 hfz10_5 hfz10_6 hfz10_7 hfz10_8
  try clear hfz8_0 hfz8_1 hfz8_2 hfz8_3 hfz8_4 hfz8_5 hfz8_6 hfz8_7 hfz8_8
  obtain ⟨kq, x13_2, rfl, HA, HJ2, BK464, HB⟩ := hcut
  cases kq with
  | zero => exact absurd HA.out (by simp [palanquinref07_Put.j0])
  | succ kj2 =>
   have H := HA.out
   clear HA
   simp only [palanquinref07_Put.j0] at H
   by_cases c12 : x13_2 = true
   ·subst c12
    rw [if_pos rfl] at H
    simp only [Option.some.injEq, Prod.mk.injEq] at H
    obtain ⟨rfl, rfl⟩ := H
    go_wp2
    go_ret2
    exact ⟨by first | rfl | (simp [errW_none, errW_some] <;> rfl) | (simp [*, errW_none, errW_some] <;> rfl), by repeat (first | (with_reducible first | exact HB.out | apply bA | apply bN | apply bD | refine bS ?_ GE464.out) | exact HB.out)⟩
   ·replace c12 := Bool.eq_false_iff.mpr c12
    subst c12
    rw [if_neg (show ¬ (false = true) by decide)] at H
    replace H := Option.bind_eq_some_iff.mp H
    obtain ⟨t467, A130, H⟩ := H
    try dsimp +instances only at H
    have A13 := mA A130
    clear A130
    replace H := Option.bind_eq_some_iff.mp H
    obtain ⟨t468, A140, H⟩ := H
    try dsimp +instances only at H
    have A14 := mA A140
    clear A140
    by_cases c15 : t467.size + t468.size ≤ 9223372036854775807
    ·rw [if_pos c15] at H
     have c15b0 := eq_true c15
     have c15b1 : decide (t467.size + t468.size ≤ 9223372036854775807) = true := decide_eq_true c15
     try have c15b2 : (9223372036854775807 < t467.size + t468.size) = False := eq_false (Nat.not_lt.2 c15)
     replace H := Option.bind_eq_some_iff.mp H
     obtain ⟨t469, A160, H⟩ := H
     try dsimp +instances only at H
     have A16 := mA A160
     clear A160
     by_cases c17 : (t467 ++ t468).size + t469.size ≤ 9223372036854775807
     ·rw [if_pos c17] at H
      have c17b0 := eq_true c17
      have c17b1 : decide ((t467 ++ t468).size + t469.size ≤ 9223372036854775807) = true := decide_eq_true c17
      try have c17b2 : (9223372036854775807 < (t467 ++ t468).size + t469.size) = False := eq_false (Nat.not_lt.2 c17)
      try have c17b3 : (9223372036854775807 < (t467.size) + (t468.size) + t469.size) = False := eq_false (by have h_ := c17; simp only [ByteArray.size_append] at h_; omega)
      try have c17b4 : ((t467.size) + (t468.size) + t469.size ≤ 9223372036854775807) = True := eq_true (by have h_ := c17; simp only [ByteArray.size_append] at h_; omega)
      replace H := Option.bind_eq_some_iff.mp H
      obtain ⟨t470, A180, H⟩ := H
      try dsimp +instances only at H
      have A18 := mA A180
      clear A180
      by_cases c19 : ((t467 ++ t468) ++ t469).size + t470.size ≤ 9223372036854775807
      ·rw [if_pos c19] at H
       have c19b0 := eq_true c19
       have c19b1 : decide (((t467 ++ t468) ++ t469).size + t470.size ≤ 9223372036854775807) = true := decide_eq_true c19
       try have c19b2 : (9223372036854775807 < ((t467 ++ t468) ++ t469).size + t470.size) = False := eq_false (Nat.not_lt.2 c19)
       try have c19b3 : (9223372036854775807 < (t467.size) + (t468.size) + (t469.size) + t470.size) = False := eq_false (by have h_ := c19; simp only [ByteArray.size_append] at h_; omega)
       try have c19b4 : ((t467.size) + (t468.size) + (t469.size) + t470.size ≤ 9223372036854775807) = True := eq_true (by have h_ := c19; simp only [ByteArray.size_append] at h_; omega)
       replace H := Option.bind_eq_some_iff.mp H
       obtain ⟨t471, A200, H⟩ := H
       try dsimp +instances only at H
       have A20 := mA A200
       clear A200
       by_cases c21 : (((t467 ++ t468) ++ t469) ++ t470).size + t471.size ≤ 9223372036854775807
       ·rw [if_pos c21] at H
        have c21b0 := eq_true c21
        have c21b1 : decide ((((t467 ++ t468) ++ t469) ++ t470).size + t471.size ≤ 9223372036854775807) = true := decide_eq_true c21
        try have c21b2 : (9223372036854775807 < (((t467 ++ t468) ++ t469) ++ t470).size + t471.size) = False := eq_false (Nat.not_lt.2 c21)
        try have c21b3 : (9223372036854775807 < (t467.size) + (t468.size) + (t469.size) + (t470.size) + t471.size) = False := eq_false (by have h_ := c21; simp only [ByteArray.size_append] at h_; omega)
        try have c21b4 : ((t467.size) + (t468.size) + (t469.size) + (t470.size) + t471.size ≤ 9223372036854775807) = True := eq_true (by have h_ := c21; simp only [ByteArray.size_append] at h_; omega)
        replace H := Option.bind_eq_some_iff.mp H
        obtain ⟨t472, A220, H⟩ := H
        try dsimp +instances only at H
        have A22 := mA A220
        clear A220
        by_cases c23 : ((((t467 ++ t468) ++ t469) ++ t470) ++ t471).size + t472.size ≤ 9223372036854775807
        ·rw [if_pos c23] at H
         have c23b0 := eq_true c23
         have c23b1 : decide (((((t467 ++ t468) ++ t469) ++ t470) ++ t471).size + t472.size ≤ 9223372036854775807) = true := decide_eq_true c23
         try have c23b2 : (9223372036854775807 < ((((t467 ++ t468) ++ t469) ++ t470) ++ t471).size + t472.size) = False := eq_false (Nat.not_lt.2 c23)
         try have c23b3 : (9223372036854775807 < (t467.size) + (t468.size) + (t469.size) + (t470.size) + (t471.size) + t472.size) = False := eq_false (by have h_ := c23; simp only [ByteArray.size_append] at h_; omega)
         try have c23b4 : ((t467.size) + (t468.size) + (t469.size) + (t470.size) + (t471.size) + t472.size ≤ 9223372036854775807) = True := eq_true (by have h_ := c23; simp only [ByteArray.size_append] at h_; omega)
         replace H := Option.bind_eq_some_iff.mp H
         obtain ⟨t473, A240, H⟩ := H
         try dsimp +instances only at H
         have A24 := mA A240
         clear A240
         by_cases c25 : (((((t467 ++ t468) ++ t469) ++ t470) ++ t471) ++ t472).size + t473.size ≤ 9223372036854775807
         ·rw [if_pos c25] at H
          have c25b0 := eq_true c25
          have c25b1 : decide ((((((t467 ++ t468) ++ t469) ++ t470) ++ t471) ++ t472).size + t473.size ≤ 9223372036854775807) = true := decide_eq_true c25
          try have c25b2 : (9223372036854775807 < (((((t467 ++ t468) ++ t469) ++ t470) ++ t471) ++ t472).size + t473.size) = False := eq_false (Nat.not_lt.2 c25)
          try have c25b3 : (9223372036854775807 < (t467.size) + (t468.size) + (t469.size) + (t470.size) + (t471.size) + (t472.size) + t473.size) = False := eq_false (by have h_ := c25; simp only [ByteArray.size_append] at h_; omega)
          try have c25b4 : ((t467.size) + (t468.size) + (t469.size) + (t470.size) + (t471.size) + (t472.size) + t473.size ≤ 9223372036854775807) = True := eq_true (by have h_ := c25; simp only [ByteArray.size_append] at h_; omega)
          replace H := Option.bind_eq_some_iff.mp H
          obtain ⟨t474, A260, H⟩ := H
          try dsimp +instances only at H
          have A26 := mA A260
          clear A260
          by_cases c27 : ((((((t467 ++ t468) ++ t469) ++ t470) ++ t471) ++ t472) ++ t473).size + t474.size ≤ 9223372036854775807
          ·rw [if_pos c27] at H
           have c27b0 := eq_true c27
           have c27b1 : decide (((((((t467 ++ t468) ++ t469) ++ t470) ++ t471) ++ t472) ++ t473).size + t474.size ≤ 9223372036854775807) = true := decide_eq_true c27
           try have c27b2 : (9223372036854775807 < ((((((t467 ++ t468) ++ t469) ++ t470) ++ t471) ++ t472) ++ t473).size + t474.size) = False := eq_false (Nat.not_lt.2 c27)
           try have c27b3 : (9223372036854775807 < (t467.size) + (t468.size) + (t469.size) + (t470.size) + (t471.size) + (t472.size) + (t473.size) + t474.size) = False := eq_false (by have h_ := c27; simp only [ByteArray.size_append] at h_; omega)
           try have c27b4 : ((t467.size) + (t468.size) + (t469.size) + (t470.size) + (t471.size) + (t472.size) + (t473.size) + t474.size ≤ 9223372036854775807) = True := eq_true (by have h_ := c27; simp only [ByteArray.size_append] at h_; omega)
           replace H := Option.bind_eq_some_iff.mp H
           obtain ⟨t475, A280, H⟩ := H
           try dsimp +instances only at H
           have A28 := mA A280
           clear A280
           by_cases c29 : (((((((t467 ++ t468) ++ t469) ++ t470) ++ t471) ++ t472) ++ t473) ++ t474).size + t475.size ≤ 9223372036854775807
           ·rw [if_pos c29] at H
            have c29b0 := eq_true c29
            have c29b1 : decide ((((((((t467 ++ t468) ++ t469) ++ t470) ++ t471) ++ t472) ++ t473) ++ t474).size + t475.size ≤ 9223372036854775807) = true := decide_eq_true c29
            try have c29b2 : (9223372036854775807 < (((((((t467 ++ t468) ++ t469) ++ t470) ++ t471) ++ t472) ++ t473) ++ t474).size + t475.size) = False := eq_false (Nat.not_lt.2 c29)
            try have c29b3 : (9223372036854775807 < (t467.size) + (t468.size) + (t469.size) + (t470.size) + (t471.size) + (t472.size) + (t473.size) + (t474.size) + t475.size) = False := eq_false (by have h_ := c29; simp only [ByteArray.size_append] at h_; omega)
            try have c29b4 : ((t467.size) + (t468.size) + (t469.size) + (t470.size) + (t471.size) + (t472.size) + (t473.size) + (t474.size) + t475.size ≤ 9223372036854775807) = True := eq_true (by have h_ := c29; simp only [ByteArray.size_append] at h_; omega)
            by_cases c30 : ((((((((t467 ++ t468) ++ t469) ++ t470) ++ t471) ++ t472) ++ t473) ++ t474) ++ t475).size + a0_7.size ≤ 9223372036854775807
            ·rw [if_pos c30] at H
             have c30b0 := eq_true c30
             have c30b1 : decide (((((((((t467 ++ t468) ++ t469) ++ t470) ++ t471) ++ t472) ++ t473) ++ t474) ++ t475).size + a0_7.size ≤ 9223372036854775807) = true := decide_eq_true c30
             try have c30b2 : (9223372036854775807 < ((((((((t467 ++ t468) ++ t469) ++ t470) ++ t471) ++ t472) ++ t473) ++ t474) ++ t475).size + a0_7.size) = False := eq_false (Nat.not_lt.2 c30)
             try have c30b3 : (9223372036854775807 < (t467.size) + (t468.size) + (t469.size) + (t470.size) + (t471.size) + (t472.size) + (t473.size) + (t474.size) + (t475.size) + a0_7.size) = False := eq_false (by have h_ := c30; simp only [ByteArray.size_append] at h_; omega)
             try have c30b4 : ((t467.size) + (t468.size) + (t469.size) + (t470.size) + (t471.size) + (t472.size) + (t473.size) + (t474.size) + (t475.size) + a0_7.size ≤ 9223372036854775807) = True := eq_true (by have h_ := c30; simp only [ByteArray.size_append] at h_; omega)
             by_cases c31 : (((((((((t467 ++ t468) ++ t469) ++ t470) ++ t471) ++ t472) ++ t473) ++ t474) ++ t475) ++ a0_7).size + a0_8.size ≤ 9223372036854775807
             ·rw [if_pos c31] at H
              have c31b0 := eq_true c31
              have c31b1 : decide ((((((((((t467 ++ t468) ++ t469) ++ t470) ++ t471) ++ t472) ++ t473) ++ t474) ++ t475) ++ a0_7).size + a0_8.size ≤ 9223372036854775807) = true := decide_eq_true c31
              try have c31b2 : (9223372036854775807 < (((((((((t467 ++ t468) ++ t469) ++ t470) ++ t471) ++ t472) ++ t473) ++ t474) ++ t475) ++ a0_7).size + a0_8.size) = False := eq_false (Nat.not_lt.2 c31)
              try have c31b3 : (9223372036854775807 < (t467.size) + (t468.size) + (t469.size) + (t470.size) + (t471.size) + (t472.size) + (t473.size) + (t474.size) + (t475.size) + (a0_7.size) + a0_8.size) = False := eq_false (by have h_ := c31; simp only [ByteArray.size_append] at h_; omega)
              try have c31b4 : ((t467.size) + (t468.size) + (t469.size) + (t470.size) + (t471.size) + (t472.size) + (t473.size) + (t474.size) + (t475.size) + (a0_7.size) + a0_8.size ≤ 9223372036854775807) = True := eq_true (by have h_ := c31; simp only [ByteArray.size_append] at h_; omega)
              simp only [Option.some.injEq, Prod.mk.injEq] at H
              obtain ⟨rfl, rfl⟩ := H
              try go_wp2
              have n0_ := mA (kD BK464.out)
              have n1_ := mA (bD HB.out)
              clear BK464
              clear HB
              have BK464 := n0_
              have HB := n1_
              clear n0_ n1_
              refine start_ (n := 48) (S := fun w' => w'.cell? ⟨gb464, 0, none⟩ = some (.int .i64 a0_0) ∧ w'.cell? ⟨gb464, 1, none⟩ = some (.int .i64 a0_1) ∧ w'.cell? ⟨gb464, 2, none⟩ = some (.int .u32 a0_2) ∧ w'.cell? ⟨gb464, 3, none⟩ = some (.int .u32 a0_3) ∧ w'.cell? ⟨gb464, 4, none⟩ = some (.int .i64 a0_4) ∧ w'.cell? ⟨gb464, 5, none⟩ = some (.int .i64 a0_5) ∧ w'.cell? ⟨gb464, 6, none⟩ = some (.int .i64 a0_6) ∧ w'.cell? ⟨gb464, 7, none⟩ = some (.string a0_7) ∧ w'.cell? ⟨gb464, 8, none⟩ = some (.string a0_8)) (ds := []) (bv 48 0) (by kernel_rfl) rfl rfl ⟨(zC BK464.out 0).trans rfl, (zC BK464.out 1).trans rfl, (zC BK464.out 2).trans rfl, (zC BK464.out 3).trans rfl, (zC BK464.out 4).trans rfl, (zC BK464.out 5).trans rfl, (zC BK464.out 6).trans rfl, (zC BK464.out 7).trans rfl, (zC BK464.out 8).trans rfl⟩ (fun hHeld => ?_); refine with_tabW palanquinref07_Put.tab3 palanquinref07_Put.bits3 (fun HT_ HW_ => ?_)
              generalize wc.drew = w32 at BK464 HB hHeld ⊢
              refine pure_ (i := 0) (N := some 14) (v := ?_) (a' := ?_) (bv 48 1) rfl rfl (any_of HT_.out (by kernel_rfl)) (fun _ _ _ h => h) (Or.inl ⟨by rfl, ?_⟩) ?_ ?_; rotate_left; (intro w'; go_simp; with_reducible rfl); rotate_left; (simp only [Act.put, List.setIfInBounds_toArray, List.set_cons_zero, List.set_cons_succ, i64_w, i32_w]; rfl)
              refine pure_ (i := 3) (N := some 17) (v := ?_) (a' := ?_) (bv 48 9) rfl rfl (any_of HT_.out (by kernel_rfl)) (fun _ _ _ h => h) (Or.inl ⟨by rfl, ?_⟩) ?_ ?_; rotate_left; (intro w'; go_simp; with_reducible rfl); rotate_left; (simp only [Act.put, List.setIfInBounds_toArray, List.set_cons_zero, List.set_cons_succ, i64_w, i32_w]; rfl)
              refine pure_ (i := 7) (N := some 21) (v := ?_) (a' := ?_) (bv 48 137) rfl rfl (any_of HT_.out (by kernel_rfl)) (fun _ _ _ h => h) (Or.inl ⟨by rfl, ?_⟩) ?_ ?_; rotate_left; (intro w'; go_simp; with_reducible rfl); rotate_left; (simp only [Act.put, List.setIfInBounds_toArray, List.set_cons_zero, List.set_cons_succ, i64_w, i32_w]; rfl)
              refine pure_ (i := 12) (N := some 26) (v := ?_) (a' := ?_) (bv 48 4233) rfl rfl (any_of HT_.out (by kernel_rfl)) (fun _ _ _ h => h) (Or.inl ⟨by rfl, ?_⟩) ?_ ?_; rotate_left; (intro w'; go_simp; with_reducible rfl); rotate_left; (simp only [Act.put, List.setIfInBounds_toArray, List.set_cons_zero, List.set_cons_succ, i64_w, i32_w]; rfl)
              refine pure_ (i := 17) (N := some 31) (v := ?_) (a' := ?_) (bv 48 135305) rfl rfl (any_of HT_.out (by kernel_rfl)) (fun _ _ _ h => h) (Or.inl ⟨by rfl, ?_⟩) ?_ ?_; rotate_left; (intro w'; go_simp; with_reducible rfl); rotate_left; (simp only [Act.put, List.setIfInBounds_toArray, List.set_cons_zero, List.set_cons_succ, i64_w, i32_w]; rfl)
              refine pure_ (i := 25) (N := some 39) (v := ?_) (a' := ?_) (bv 48 33689737) rfl rfl (any_of HT_.out (by kernel_rfl)) (fun _ _ _ h => h) (Or.inl ⟨by rfl, ?_⟩) ?_ ?_; rotate_left; (intro w'; go_simp; with_reducible rfl); rotate_left; (simp only [Act.put, List.setIfInBounds_toArray, List.set_cons_zero, List.set_cons_succ, i64_w, i32_w]; rfl)
              refine pure_ (i := 29) (N := some 43) (v := ?_) (a' := ?_) (bv 48 570560649) rfl rfl (any_of HT_.out (by kernel_rfl)) (fun _ _ _ h => h) (Or.inl ⟨by rfl, ?_⟩) ?_ ?_; rotate_left; (intro w'; go_simp; with_reducible rfl); rotate_left; (simp only [Act.put, List.setIfInBounds_toArray, List.set_cons_zero, List.set_cons_succ, i64_w, i32_w]; rfl)
              refine pure_ (i := 33) (N := some 47) (v := ?_) (a' := ?_) (bv 48 9160495241) rfl rfl (any_of HT_.out (by kernel_rfl)) (fun _ _ _ h => h) (Or.inl ⟨by rfl, ?_⟩) ?_ ?_; rotate_left; (intro w'; go_simp; with_reducible rfl); rotate_left; (simp only [Act.put, List.setIfInBounds_toArray, List.set_cons_zero, List.set_cons_succ, i64_w, i32_w]; rfl)
              refine pure_ (i := 36) (N := some 50) (v := ?_) (a' := ?_) (bv 48 77879971977) rfl rfl (any_of HT_.out (by kernel_rfl)) (fun _ _ _ h => h) (Or.inl ⟨by rfl, ?_⟩) ?_ ?_; rotate_left; (intro w'; go_simp; with_reducible rfl); rotate_left; (simp only [Act.put, List.setIfInBounds_toArray, List.set_cons_zero, List.set_cons_succ, i64_w, i32_w]; rfl)
              refine pure_ (i := 40) (N := some 54) (v := ?_) (a' := ?_) (bv 48 1177391599753) rfl rfl (any_of HT_.out (by kernel_rfl)) (fun _ _ _ h => h) (Or.inl ⟨by rfl, ?_⟩) ?_ ?_; rotate_left; (intro w'; go_simp; with_reducible rfl); rotate_left; (simp only [Act.put, List.setIfInBounds_toArray, List.set_cons_zero, List.set_cons_succ, i64_w, i32_w]; rfl)
              refine pure_ (i := 43) (N := some 57) (v := ?_) (a' := ?_) (bv 48 9973484621961) rfl rfl (any_of HT_.out (by kernel_rfl)) (fun _ _ _ h => h) (Or.inl ⟨by rfl, ?_⟩) ?_ ?_; rotate_left; (intro w'; go_simp; with_reducible rfl); rotate_left; (simp only [Act.put, List.setIfInBounds_toArray, List.set_cons_zero, List.set_cons_succ, i64_w, i32_w]; rfl)
              refine take_ (i := 1) (N := some 15) (v := ?_) (a' := ?_) (bv 48 9973484621963) rfl rfl (take_ofW HT_.out HW_.out (by kernel_rfl)) (fun _ _ _ h => h) (Or.inl ⟨by rfl, ?_⟩) hHeld ?_ ?_; rotate_left; (rintro w' ⟨s0, s1, s2, s3, s4, s5, s6, s7, s8⟩; go_simp; with_reducible rfl); rotate_left; (simp only [Act.put, List.setIfInBounds_toArray, List.set_cons_zero, List.set_cons_succ, i64_w, i32_w]; rfl)
              refine take_ (i := 4) (N := some 18) (v := ?_) (a' := ?_) (bv 48 9973484621979) rfl rfl (take_ofW HT_.out HW_.out (by kernel_rfl)) (fun _ _ _ h => h) (Or.inl ⟨by rfl, ?_⟩) hHeld ?_ ?_; rotate_left; (rintro w' ⟨s0, s1, s2, s3, s4, s5, s6, s7, s8⟩; go_simp; with_reducible rfl); rotate_left; (simp only [Act.put, List.setIfInBounds_toArray, List.set_cons_zero, List.set_cons_succ, i64_w, i32_w]; rfl)
              refine take_ (i := 8) (N := some 22) (v := ?_) (a' := ?_) (bv 48 9973484622235) rfl rfl (take_ofW HT_.out HW_.out (by kernel_rfl)) (fun _ _ _ h => h) (Or.inl ⟨by rfl, ?_⟩) hHeld ?_ ?_; rotate_left; (rintro w' ⟨s0, s1, s2, s3, s4, s5, s6, s7, s8⟩; go_simp; with_reducible rfl); rotate_left; (simp only [Act.put, List.setIfInBounds_toArray, List.set_cons_zero, List.set_cons_succ, i64_w, i32_w]; rfl)
              refine pure_ (i := 9) (N := some 23) (v := ?_) (a' := ?_) (bv 48 9973484622747) rfl rfl (any_of HT_.out (by kernel_rfl)) (fun _ _ _ h => h) (Or.inl ⟨by rfl, ?_⟩) ?_ ?_; rotate_left; (intro w'; go_simp; with_reducible rfl); rotate_left; (simp only [Act.put, List.setIfInBounds_toArray, List.set_cons_zero, List.set_cons_succ, i64_w, i32_w]; rfl)
              refine take_ (i := 13) (N := some 27) (v := ?_) (a' := ?_) (bv 48 9973484630939) rfl rfl (take_ofW HT_.out HW_.out (by kernel_rfl)) (fun _ _ _ h => h) (Or.inl ⟨by rfl, ?_⟩) hHeld ?_ ?_; rotate_left; (rintro w' ⟨s0, s1, s2, s3, s4, s5, s6, s7, s8⟩; go_simp; with_reducible rfl); rotate_left; (simp only [Act.put, List.setIfInBounds_toArray, List.set_cons_zero, List.set_cons_succ, i64_w, i32_w]; rfl)
              refine pure_ (i := 14) (N := some 28) (v := ?_) (a' := ?_) (bv 48 9973484647323) rfl rfl (any_of HT_.out (by kernel_rfl)) (fun _ _ _ h => h) (Or.inl ⟨by rfl, ?_⟩) ?_ ?_; rotate_left; (intro w'; go_simp; with_reducible rfl); rotate_left; (simp only [Act.put, List.setIfInBounds_toArray, List.set_cons_zero, List.set_cons_succ, i64_w, i32_w]; rfl)
              refine take_ (i := 18) (N := some 32) (v := ?_) (a' := ?_) (bv 48 9973484909467) rfl rfl (take_ofW HT_.out HW_.out (by kernel_rfl)) (fun _ _ _ h => h) (Or.inl ⟨by rfl, ?_⟩) hHeld ?_ ?_; rotate_left; (rintro w' ⟨s0, s1, s2, s3, s4, s5, s6, s7, s8⟩; go_simp; with_reducible rfl); rotate_left; (simp only [Act.put, List.setIfInBounds_toArray, List.set_cons_zero, List.set_cons_succ, i64_w, i32_w]; rfl)
              refine pure_ (i := 19) (N := some 33) (v := ?_) (a' := ?_) (bv 48 9973485433755) rfl rfl (any_of HT_.out (by kernel_rfl)) (fun _ _ _ h => h) (Or.inl ⟨by rfl, ?_⟩) ?_ ?_; rotate_left; (intro w'; go_simp; with_reducible rfl); rotate_left; (simp only [Act.put, List.setIfInBounds_toArray, List.set_cons_zero, List.set_cons_succ, i64_w, i32_w]; rfl)
              refine pure_ (i := 20) (N := some 34) (v := ?_) (a' := ?_) (bv 48 9973486482331) rfl rfl (any_of HT_.out (by kernel_rfl)) (fun _ _ _ h => h) (Or.inl ⟨by rfl, ?_⟩) ?_ ?_; rotate_left; (intro w'; go_simp; with_reducible rfl); rotate_left; (simp only [Act.put, List.setIfInBounds_toArray, List.set_cons_zero, List.set_cons_succ, i64_w, i32_w]; rfl)
              refine pure_ (i := 21) (N := some 35) (v := ?_) (a' := ?_) (bv 48 9973488579483) rfl rfl (any_of HT_.out (by kernel_rfl)) (fun _ _ _ h => h) (Or.inl ⟨by rfl, ?_⟩) ?_ ?_; rotate_left; (intro w'; go_simp; with_reducible rfl); rotate_left; (simp only [Act.put, List.setIfInBounds_toArray, List.set_cons_zero, List.set_cons_succ, i64_w, i32_w]; rfl)
              refine pure_ (i := 22) (N := some 36) (v := ?_) (a' := ?_) (bv 48 9973492773787) rfl rfl (any_of HT_.out (by kernel_rfl)) (fun _ _ _ h => h) (Or.inl ⟨by rfl, ?_⟩) ?_ ?_; rotate_left; (intro w'; go_simp; with_reducible rfl); rotate_left; (simp only [Act.put, List.setIfInBounds_toArray, List.set_cons_zero, List.set_cons_succ, i64_w, i32_w]; rfl)
              refine take_ (i := 26) (N := some 40) (v := ?_) (a' := ?_) (bv 48 9973559882651) rfl rfl (take_ofW HT_.out HW_.out (by kernel_rfl)) (fun _ _ _ h => h) (Or.inl ⟨by rfl, ?_⟩) hHeld ?_ ?_; rotate_left; (rintro w' ⟨s0, s1, s2, s3, s4, s5, s6, s7, s8⟩; go_simp; with_reducible rfl); rotate_left; (simp only [Act.put, List.setIfInBounds_toArray, List.set_cons_zero, List.set_cons_succ, i64_w, i32_w]; rfl)
              refine take_ (i := 30) (N := some 44) (v := ?_) (a' := ?_) (bv 48 9974633624475) rfl rfl (take_ofW HT_.out HW_.out (by kernel_rfl)) (fun _ _ _ h => h) (Or.inl ⟨by rfl, ?_⟩) hHeld ?_ ?_; rotate_left; (rintro w' ⟨s0, s1, s2, s3, s4, s5, s6, s7, s8⟩; go_simp; with_reducible rfl); rotate_left; (simp only [Act.put, List.setIfInBounds_toArray, List.set_cons_zero, List.set_cons_succ, i64_w, i32_w]; rfl)
              refine take_ (i := 37) (N := some 51) (v := ?_) (a' := ?_) (bv 48 10112072577947) rfl rfl (take_ofW HT_.out HW_.out (by kernel_rfl)) (fun _ _ _ h => h) (Or.inl ⟨by rfl, ?_⟩) hHeld ?_ ?_; rotate_left; (rintro w' ⟨s0, s1, s2, s3, s4, s5, s6, s7, s8⟩; go_simp; with_reducible rfl); rotate_left; (simp only [Act.put, List.setIfInBounds_toArray, List.set_cons_zero, List.set_cons_succ, i64_w, i32_w]; rfl)
              refine take_ (i := 41) (N := some 55) (v := ?_) (a' := ?_) (bv 48 12311095833499) rfl rfl (take_ofW HT_.out HW_.out (by kernel_rfl)) (fun _ _ _ h => h) (Or.inl ⟨by rfl, ?_⟩) hHeld ?_ ?_; rotate_left; (rintro w' ⟨s0, s1, s2, s3, s4, s5, s6, s7, s8⟩; go_simp; with_reducible rfl); rotate_left; (simp only [Act.put, List.setIfInBounds_toArray, List.set_cons_zero, List.set_cons_succ, i64_w, i32_w]; rfl)
              refine take_ (i := 44) (N := some 58) (v := ?_) (a' := ?_) (bv 48 29903281877915) rfl rfl (take_ofW HT_.out HW_.out (by kernel_rfl)) (fun _ _ _ h => h) (Or.inl ⟨by rfl, ?_⟩) hHeld ?_ ?_; rotate_left; (rintro w' ⟨s0, s1, s2, s3, s4, s5, s6, s7, s8⟩; go_simp; with_reducible rfl); rotate_left; (simp only [Act.put, List.setIfInBounds_toArray, List.set_cons_zero, List.set_cons_succ, i64_w, i32_w]; rfl)
              refine one_ (i := 2) (N := some 16) (bv 48 29903281877919) rfl rfl (one_of HT_.out (by kernel_rfl)) (by decide) (fun K hK => ?_)
              refine goes_ Tryd.func91 (by kernel_rfl) rfl #[.int .i64 a0_0, .int .i64 2] (by rfl) rfl rfl (by (try simp only [List.map_toArray, List.map_cons, List.map_nil]); first | done | rfl | (simp only [List.length_drop, List.length_take]; rfl)) ?_
              with_reducible refine (palanquinref07_num.calls kj2 a0_0 2 t467 _ A13.out).mono ?_
              rintro e w33 ⟨rfl, hb⟩
              refine ⟨_, rfl, ?_⟩
              have n0_ := mA (blk_below (g := gb464) (o := .cells #[.int .i64 a0_0, .int .i64 a0_1, .int .u32 a0_2, .int .u32 a0_3, .int .i64 a0_4, .int .i64 a0_5, .int .i64 a0_6, .string a0_7, .string a0_8] 79 (0, 0)) (by (with_reducible repeat (first | apply kN | apply kD | apply kA)); exact BK464.out) hb)
              have n1_ := mA (bP (by repeat (first | (with_reducible first | exact HB.out | apply bA | apply bN | apply bD | refine bS ?_ GE464.out) | exact HB.out)) hb)
              clear BK464
              clear HB
              have BK464 := n0_
              have HB := n1_
              clear n0_ n1_
              (try clear hb)
              (try clear hb2)
              (try clear hk)
              (try clear hi)
              refine hK.out _ _ ⟨(zC BK464.out 0).trans rfl, (zC BK464.out 1).trans rfl, (zC BK464.out 2).trans rfl, (zC BK464.out 3).trans rfl, (zC BK464.out 4).trans rfl, (zC BK464.out 5).trans rfl, (zC BK464.out 6).trans rfl, (zC BK464.out 7).trans rfl, (zC BK464.out 8).trans rfl⟩ (fun hHeld => ?_)
              clear hK K
              refine norm_ (a' := ?_) ?_ ?_
              rotate_left
              ·show Act.put _ (some 16) _ = _
               simp only [Act.put, List.setIfInBounds_toArray, List.set_cons_zero, List.set_cons_succ, i64_w, i32_w]
               rfl
              refine one_ (i := 5) (N := some 19) (bv 48 29903281877951) rfl rfl (one_of HT_.out (by kernel_rfl)) (by decide) (fun K hK => ?_)
              refine goes_ Tryd.func91 (by kernel_rfl) rfl #[.int .i64 a0_1, .int .i64 2] (by rfl) rfl rfl (by (try simp only [List.map_toArray, List.map_cons, List.map_nil]); first | done | rfl | (simp only [List.length_drop, List.length_take]; rfl)) ?_
              with_reducible refine (palanquinref07_num.calls kj2 a0_1 2 t468 _ A14.out).mono ?_
              rintro e w34 ⟨rfl, hb⟩
              refine ⟨_, rfl, ?_⟩
              have n0_ := mA (blk_below (g := gb464) (o := .cells #[.int .i64 a0_0, .int .i64 a0_1, .int .u32 a0_2, .int .u32 a0_3, .int .i64 a0_4, .int .i64 a0_5, .int .i64 a0_6, .string a0_7, .string a0_8] 79 (0, 0)) (by (with_reducible repeat (first | apply kN | apply kD | apply kA)); exact BK464.out) hb)
              have n1_ := mA (bP (by repeat (first | (with_reducible first | exact HB.out | apply bA | apply bN | apply bD | refine bS ?_ GE464.out) | exact HB.out)) hb)
              clear BK464
              clear HB
              have BK464 := n0_
              have HB := n1_
              clear n0_ n1_
              (try clear hb)
              (try clear hb2)
              (try clear hk)
              (try clear hi)
              refine hK.out _ _ ⟨(zC BK464.out 0).trans rfl, (zC BK464.out 1).trans rfl, (zC BK464.out 2).trans rfl, (zC BK464.out 3).trans rfl, (zC BK464.out 4).trans rfl, (zC BK464.out 5).trans rfl, (zC BK464.out 6).trans rfl, (zC BK464.out 7).trans rfl, (zC BK464.out 8).trans rfl⟩ (fun hHeld => ?_)
              clear hK K
              refine norm_ (a' := ?_) ?_ ?_
              rotate_left
              ·show Act.put _ (some 19) _ = _
               simp only [Act.put, List.setIfInBounds_toArray, List.set_cons_zero, List.set_cons_succ, i64_w, i32_w]
               rfl
              refine pure_ (i := 6) (N := some 20) (v := ?_) (a' := ?_) (bv 48 29903281878015) rfl rfl (any_of HT_.out (by kernel_rfl)) (fun _ _ _ h => h) (Or.inl ⟨by rfl, ?_⟩) ?_ ?_; rotate_left; (intro w'; go_simp; with_reducible rfl); rotate_left; (simp only [Act.put, List.setIfInBounds_toArray, List.set_cons_zero, List.set_cons_succ, i64_w, i32_w]; rfl)
              refine one_ (i := 10) (N := some 24) (bv 48 29903281879039) rfl rfl (one_of HT_.out (by kernel_rfl)) (by decide) (fun K hK => ?_)
              refine goes_ Tryd.func91 (by kernel_rfl) rfl #[.int .i64 (wrap64 (a0_2)), .int .i64 4] (by rfl) rfl rfl (by (try simp only [List.map_toArray, List.map_cons, List.map_nil]); first | done | rfl | (simp only [List.length_drop, List.length_take]; rfl)) ?_
              with_reducible refine (palanquinref07_num.calls kj2 (wrap64 (a0_2)) 4 t469 _ A16.out).mono ?_
              rintro e w35 ⟨rfl, hb⟩
              refine ⟨_, rfl, ?_⟩
              have n0_ := mA (blk_below (g := gb464) (o := .cells #[.int .i64 a0_0, .int .i64 a0_1, .int .u32 a0_2, .int .u32 a0_3, .int .i64 a0_4, .int .i64 a0_5, .int .i64 a0_6, .string a0_7, .string a0_8] 79 (0, 0)) (by (with_reducible repeat (first | apply kN | apply kD | apply kA)); exact BK464.out) hb)
              have n1_ := mA (bP (by repeat (first | (with_reducible first | exact HB.out | apply bA | apply bN | apply bD | refine bS ?_ GE464.out) | exact HB.out)) hb)
              clear BK464
              clear HB
              have BK464 := n0_
              have HB := n1_
              clear n0_ n1_
              (try clear hb)
              (try clear hb2)
              (try clear hk)
              (try clear hi)
              refine hK.out _ _ ⟨(zC BK464.out 0).trans rfl, (zC BK464.out 1).trans rfl, (zC BK464.out 2).trans rfl, (zC BK464.out 3).trans rfl, (zC BK464.out 4).trans rfl, (zC BK464.out 5).trans rfl, (zC BK464.out 6).trans rfl, (zC BK464.out 7).trans rfl, (zC BK464.out 8).trans rfl⟩ (fun hHeld => ?_)
              clear hK K
              refine norm_ (a' := ?_) ?_ ?_
              rotate_left
              ·show Act.put _ (some 24) _ = _
               simp only [Act.put, List.setIfInBounds_toArray, List.set_cons_zero, List.set_cons_succ, i64_w, i32_w]
               rfl
              refine pure_ (i := 11) (N := some 25) (v := ?_) (a' := ?_) (bv 48 29903281881087) rfl rfl (any_of HT_.out (by kernel_rfl)) (fun _ _ _ h => h) (Or.inl ⟨by rfl, ?_⟩) ?_ ?_; rotate_left; (intro w'; go_simp; with_reducible rfl); rotate_left; (simp only [Act.put, List.setIfInBounds_toArray, List.set_cons_zero, List.set_cons_succ, i64_w, i32_w]; rfl)
              refine one_ (i := 15) (N := some 29) (bv 48 29903281913855) rfl rfl (one_of HT_.out (by kernel_rfl)) (by decide) (fun K hK => ?_)
              refine goes_ Tryd.func91 (by kernel_rfl) rfl #[.int .i64 (wrap64 (a0_3)), .int .i64 4] (by rfl) rfl rfl (by (try simp only [List.map_toArray, List.map_cons, List.map_nil]); first | done | rfl | (simp only [List.length_drop, List.length_take]; rfl)) ?_
              with_reducible refine (palanquinref07_num.calls kj2 (wrap64 (a0_3)) 4 t470 _ A18.out).mono ?_
              rintro e w36 ⟨rfl, hb⟩
              refine ⟨_, rfl, ?_⟩
              have n0_ := mA (blk_below (g := gb464) (o := .cells #[.int .i64 a0_0, .int .i64 a0_1, .int .u32 a0_2, .int .u32 a0_3, .int .i64 a0_4, .int .i64 a0_5, .int .i64 a0_6, .string a0_7, .string a0_8] 79 (0, 0)) (by (with_reducible repeat (first | apply kN | apply kD | apply kA)); exact BK464.out) hb)
              have n1_ := mA (bP (by repeat (first | (with_reducible first | exact HB.out | apply bA | apply bN | apply bD | refine bS ?_ GE464.out) | exact HB.out)) hb)
              clear BK464
              clear HB
              have BK464 := n0_
              have HB := n1_
              clear n0_ n1_
              (try clear hb)
              (try clear hb2)
              (try clear hk)
              (try clear hi)
              refine hK.out _ _ ⟨(zC BK464.out 0).trans rfl, (zC BK464.out 1).trans rfl, (zC BK464.out 2).trans rfl, (zC BK464.out 3).trans rfl, (zC BK464.out 4).trans rfl, (zC BK464.out 5).trans rfl, (zC BK464.out 6).trans rfl, (zC BK464.out 7).trans rfl, (zC BK464.out 8).trans rfl⟩ (fun hHeld => ?_)
              clear hK K
              refine norm_ (a' := ?_) ?_ ?_
              rotate_left
              ·show Act.put _ (some 29) _ = _
               simp only [Act.put, List.setIfInBounds_toArray, List.set_cons_zero, List.set_cons_succ, i64_w, i32_w]
               rfl
              refine pure_ (i := 16) (N := some 30) (v := ?_) (a' := ?_) (bv 48 29903281979391) rfl rfl (any_of HT_.out (by kernel_rfl)) (fun _ _ _ h => h) (Or.inl ⟨by rfl, ?_⟩) ?_ ?_; rotate_left; (intro w'; go_simp; with_reducible rfl); rotate_left; (simp only [Act.put, List.setIfInBounds_toArray, List.set_cons_zero, List.set_cons_succ, i64_w, i32_w]; rfl)
              refine one_ (i := 23) (N := some 37) (bv 48 29903290367999) rfl rfl (one_of HT_.out (by kernel_rfl)) (by decide) (fun K hK => ?_)
              refine goes_ Tryd.func91 (by kernel_rfl) rfl #[.int .i64 (wrap64 ((wrap64 (5 + (wrap64 ((a0_7.size : Int) / 4)))) * 16)), .int .i64 1] (by rfl) rfl rfl (by (try simp only [List.map_toArray, List.map_cons, List.map_nil]); first | done | rfl | (simp only [List.length_drop, List.length_take]; rfl)) ?_
              with_reducible refine (palanquinref07_num.calls kj2 (wrap64 ((wrap64 (5 + (wrap64 ((a0_7.size : Int) / 4)))) * 16)) 1 t471 _ A20.out).mono ?_
              rintro e w37 ⟨rfl, hb⟩
              refine ⟨_, rfl, ?_⟩
              have n0_ := mA (blk_below (g := gb464) (o := .cells #[.int .i64 a0_0, .int .i64 a0_1, .int .u32 a0_2, .int .u32 a0_3, .int .i64 a0_4, .int .i64 a0_5, .int .i64 a0_6, .string a0_7, .string a0_8] 79 (0, 0)) (by (with_reducible repeat (first | apply kN | apply kD | apply kA)); exact BK464.out) hb)
              have n1_ := mA (bP (by repeat (first | (with_reducible first | exact HB.out | apply bA | apply bN | apply bD | refine bS ?_ GE464.out) | exact HB.out)) hb)
              clear BK464
              clear HB
              have BK464 := n0_
              have HB := n1_
              clear n0_ n1_
              (try clear hb)
              (try clear hb2)
              (try clear hk)
              (try clear hi)
              refine hK.out _ _ ⟨(zC BK464.out 0).trans rfl, (zC BK464.out 1).trans rfl, (zC BK464.out 2).trans rfl, (zC BK464.out 3).trans rfl, (zC BK464.out 4).trans rfl, (zC BK464.out 5).trans rfl, (zC BK464.out 6).trans rfl, (zC BK464.out 7).trans rfl, (zC BK464.out 8).trans rfl⟩ (fun hHeld => ?_)
              clear hK K
              refine norm_ (a' := ?_) ?_ ?_
              rotate_left
              ·show Act.put _ (some 37) _ = _
               simp only [Act.put, List.setIfInBounds_toArray, List.set_cons_zero, List.set_cons_succ, i64_w, i32_w]
               rfl
              refine pure_ (i := 24) (N := some 38) (v := ?_) (a' := ?_) (bv 48 29903307145215) rfl rfl (any_of HT_.out (by kernel_rfl)) (fun _ _ _ h => h) (Or.inl ⟨by rfl, ?_⟩) ?_ ?_; rotate_left; (intro w'; go_simp; with_reducible rfl); rotate_left; (simp only [Act.put, List.setIfInBounds_toArray, List.set_cons_zero, List.set_cons_succ, i64_w, i32_w]; rfl)
              refine one_ (i := 27) (N := some 41) (bv 48 29903441362943) rfl rfl (one_of HT_.out (by kernel_rfl)) (by decide) (fun K hK => ?_)
              refine goes_ Tryd.func91 (by kernel_rfl) rfl #[.int .i64 a0_4, .int .i64 1] (by rfl) rfl rfl (by (try simp only [List.map_toArray, List.map_cons, List.map_nil]); first | done | rfl | (simp only [List.length_drop, List.length_take]; rfl)) ?_
              with_reducible refine (palanquinref07_num.calls kj2 a0_4 1 t472 _ A22.out).mono ?_
              rintro e w38 ⟨rfl, hb⟩
              refine ⟨_, rfl, ?_⟩
              have n0_ := mA (blk_below (g := gb464) (o := .cells #[.int .i64 a0_0, .int .i64 a0_1, .int .u32 a0_2, .int .u32 a0_3, .int .i64 a0_4, .int .i64 a0_5, .int .i64 a0_6, .string a0_7, .string a0_8] 79 (0, 0)) (by (with_reducible repeat (first | apply kN | apply kD | apply kA)); exact BK464.out) hb)
              have n1_ := mA (bP (by repeat (first | (with_reducible first | exact HB.out | apply bA | apply bN | apply bD | refine bS ?_ GE464.out) | exact HB.out)) hb)
              clear BK464
              clear HB
              have BK464 := n0_
              have HB := n1_
              clear n0_ n1_
              (try clear hb)
              (try clear hb2)
              (try clear hk)
              (try clear hi)
              refine hK.out _ _ ⟨(zC BK464.out 0).trans rfl, (zC BK464.out 1).trans rfl, (zC BK464.out 2).trans rfl, (zC BK464.out 3).trans rfl, (zC BK464.out 4).trans rfl, (zC BK464.out 5).trans rfl, (zC BK464.out 6).trans rfl, (zC BK464.out 7).trans rfl, (zC BK464.out 8).trans rfl⟩ (fun hHeld => ?_)
              clear hK K
              refine norm_ (a' := ?_) ?_ ?_
              rotate_left
              ·show Act.put _ (some 41) _ = _
               simp only [Act.put, List.setIfInBounds_toArray, List.set_cons_zero, List.set_cons_succ, i64_w, i32_w]
               rfl
              refine pure_ (i := 28) (N := some 42) (v := ?_) (a' := ?_) (bv 48 29903709798399) rfl rfl (any_of HT_.out (by kernel_rfl)) (fun _ _ _ h => h) (Or.inl ⟨by rfl, ?_⟩) ?_ ?_; rotate_left; (intro w'; go_simp; with_reducible rfl); rotate_left; (simp only [Act.put, List.setIfInBounds_toArray, List.set_cons_zero, List.set_cons_succ, i64_w, i32_w]; rfl)
              refine one_ (i := 31) (N := some 45) (bv 48 29905857282047) rfl rfl (one_of HT_.out (by kernel_rfl)) (by decide) (fun K hK => ?_)
              refine goes_ Tryd.func91 (by kernel_rfl) rfl #[.int .i64 a0_5, .int .i64 2] (by rfl) rfl rfl (by (try simp only [List.map_toArray, List.map_cons, List.map_nil]); first | done | rfl | (simp only [List.length_drop, List.length_take]; rfl)) ?_
              with_reducible refine (palanquinref07_num.calls kj2 a0_5 2 t473 _ A24.out).mono ?_
              rintro e w39 ⟨rfl, hb⟩
              refine ⟨_, rfl, ?_⟩
              have n0_ := mA (blk_below (g := gb464) (o := .cells #[.int .i64 a0_0, .int .i64 a0_1, .int .u32 a0_2, .int .u32 a0_3, .int .i64 a0_4, .int .i64 a0_5, .int .i64 a0_6, .string a0_7, .string a0_8] 79 (0, 0)) (by (with_reducible repeat (first | apply kN | apply kD | apply kA)); exact BK464.out) hb)
              have n1_ := mA (bP (by repeat (first | (with_reducible first | exact HB.out | apply bA | apply bN | apply bD | refine bS ?_ GE464.out) | exact HB.out)) hb)
              clear BK464
              clear HB
              have BK464 := n0_
              have HB := n1_
              clear n0_ n1_
              (try clear hb)
              (try clear hb2)
              (try clear hk)
              (try clear hi)
              refine hK.out _ _ ⟨(zC BK464.out 0).trans rfl, (zC BK464.out 1).trans rfl, (zC BK464.out 2).trans rfl, (zC BK464.out 3).trans rfl, (zC BK464.out 4).trans rfl, (zC BK464.out 5).trans rfl, (zC BK464.out 6).trans rfl, (zC BK464.out 7).trans rfl, (zC BK464.out 8).trans rfl⟩ (fun hHeld => ?_)
              clear hK K
              refine norm_ (a' := ?_) ?_ ?_
              rotate_left
              ·show Act.put _ (some 45) _ = _
               simp only [Act.put, List.setIfInBounds_toArray, List.set_cons_zero, List.set_cons_succ, i64_w, i32_w]
               rfl
              refine pure_ (i := 32) (N := some 46) (v := ?_) (a' := ?_) (bv 48 29910152249343) rfl rfl (any_of HT_.out (by kernel_rfl)) (fun _ _ _ h => h) (Or.inl ⟨by rfl, ?_⟩) ?_ ?_; rotate_left; (intro w'; go_simp; with_reducible rfl); rotate_left; (simp only [Act.put, List.setIfInBounds_toArray, List.set_cons_zero, List.set_cons_succ, i64_w, i32_w]; rfl)
              refine one_ (i := 34) (N := some 48) (bv 48 29927332118527) rfl rfl (one_of HT_.out (by kernel_rfl)) (by decide) (fun K hK => ?_)
              refine goes_ Tryd.func91 (by kernel_rfl) rfl #[.int .i64 a1, .int .i64 2] (by rfl) rfl rfl (by (try simp only [List.map_toArray, List.map_cons, List.map_nil]); first | done | rfl | (simp only [List.length_drop, List.length_take]; rfl)) ?_
              with_reducible refine (palanquinref07_num.calls kj2 a1 2 t474 _ A26.out).mono ?_
              rintro e w40 ⟨rfl, hb⟩
              refine ⟨_, rfl, ?_⟩
              have n0_ := mA (blk_below (g := gb464) (o := .cells #[.int .i64 a0_0, .int .i64 a0_1, .int .u32 a0_2, .int .u32 a0_3, .int .i64 a0_4, .int .i64 a0_5, .int .i64 a0_6, .string a0_7, .string a0_8] 79 (0, 0)) (by (with_reducible repeat (first | apply kN | apply kD | apply kA)); exact BK464.out) hb)
              have n1_ := mA (bP (by repeat (first | (with_reducible first | exact HB.out | apply bA | apply bN | apply bD | refine bS ?_ GE464.out) | exact HB.out)) hb)
              clear BK464
              clear HB
              have BK464 := n0_
              have HB := n1_
              clear n0_ n1_
              (try clear hb)
              (try clear hb2)
              (try clear hk)
              (try clear hi)
              refine hK.out _ _ ⟨(zC BK464.out 0).trans rfl, (zC BK464.out 1).trans rfl, (zC BK464.out 2).trans rfl, (zC BK464.out 3).trans rfl, (zC BK464.out 4).trans rfl, (zC BK464.out 5).trans rfl, (zC BK464.out 6).trans rfl, (zC BK464.out 7).trans rfl, (zC BK464.out 8).trans rfl⟩ (fun hHeld => ?_)
              clear hK K
              refine norm_ (a' := ?_) ?_ ?_
              rotate_left
              ·show Act.put _ (some 48) _ = _
               simp only [Act.put, List.setIfInBounds_toArray, List.set_cons_zero, List.set_cons_succ, i64_w, i32_w]
               rfl
              refine pure_ (i := 35) (N := some 49) (v := ?_) (a' := ?_) (bv 48 29961691856895) rfl rfl (any_of HT_.out (by kernel_rfl)) (fun _ _ _ h => h) (Or.inl ⟨by rfl, ?_⟩) ?_ ?_; rotate_left; (intro w'; go_simp; with_reducible rfl); rotate_left; (simp only [Act.put, List.setIfInBounds_toArray, List.set_cons_zero, List.set_cons_succ, i64_w, i32_w]; rfl)
              refine one_ (i := 38) (N := some 52) (bv 48 30236569763839) rfl rfl (one_of HT_.out (by kernel_rfl)) (by decide) (fun K hK => ?_)
              refine goes_ Tryd.func91 (by kernel_rfl) rfl #[.int .i64 a0_6, .int .i64 2] (by rfl) rfl rfl (by (try simp only [List.map_toArray, List.map_cons, List.map_nil]); first | done | rfl | (simp only [List.length_drop, List.length_take]; rfl)) ?_
              with_reducible refine (palanquinref07_num.calls kj2 a0_6 2 t475 _ A28.out).mono ?_
              rintro e w41 ⟨rfl, hb⟩
              refine ⟨_, rfl, ?_⟩
              have n0_ := mA (blk_below (g := gb464) (o := .cells #[.int .i64 a0_0, .int .i64 a0_1, .int .u32 a0_2, .int .u32 a0_3, .int .i64 a0_4, .int .i64 a0_5, .int .i64 a0_6, .string a0_7, .string a0_8] 79 (0, 0)) (by (with_reducible repeat (first | apply kN | apply kD | apply kA)); exact BK464.out) hb)
              have n1_ := mA (bP (by repeat (first | (with_reducible first | exact HB.out | apply bA | apply bN | apply bD | refine bS ?_ GE464.out) | exact HB.out)) hb)
              clear BK464
              clear HB
              have BK464 := n0_
              have HB := n1_
              clear n0_ n1_
              (try clear hb)
              (try clear hb2)
              (try clear hk)
              (try clear hi)
              refine hK.out _ _ ⟨(zC BK464.out 0).trans rfl, (zC BK464.out 1).trans rfl, (zC BK464.out 2).trans rfl, (zC BK464.out 3).trans rfl, (zC BK464.out 4).trans rfl, (zC BK464.out 5).trans rfl, (zC BK464.out 6).trans rfl, (zC BK464.out 7).trans rfl, (zC BK464.out 8).trans rfl⟩ (fun hHeld => ?_)
              clear hK K
              refine norm_ (a' := ?_) ?_ ?_
              rotate_left
              ·show Act.put _ (some 52) _ = _
               simp only [Act.put, List.setIfInBounds_toArray, List.set_cons_zero, List.set_cons_succ, i64_w, i32_w]
               rfl
              refine pure_ (i := 39) (N := some 53) (v := ?_) (a' := ?_) (bv 48 30786325577727) rfl rfl (any_of HT_.out (by kernel_rfl)) (fun _ _ _ h => h) (Or.inl ⟨by rfl, ?_⟩) ?_ ?_; rotate_left; (intro w'; go_simp; with_reducible rfl); rotate_left; (simp only [Act.put, List.setIfInBounds_toArray, List.set_cons_zero, List.set_cons_succ, i64_w, i32_w]; rfl)
              refine pure_ (i := 42) (N := some 56) (v := ?_) (a' := ?_) (bv 48 35184372088831) rfl rfl (any_of HT_.out (by kernel_rfl)) (fun _ _ _ h => h) (Or.inl ⟨by rfl, ?_⟩) ?_ ?_; rotate_left; (intro w'; go_simp; with_reducible rfl); rotate_left; (simp only [Act.put, List.setIfInBounds_toArray, List.set_cons_zero, List.set_cons_succ, i64_w, i32_w]; rfl)
              refine pure_ (i := 45) (N := some 59) (v := ?_) (a' := ?_) (bv 48 70368744177663) rfl rfl (any_of HT_.out (by kernel_rfl)) (fun _ _ _ h => h) (Or.inl ⟨by rfl, ?_⟩) ?_ ?_; rotate_left; (intro w'; go_simp; with_reducible rfl); rotate_left; (simp only [Act.put, List.setIfInBounds_toArray, List.set_cons_zero, List.set_cons_succ, i64_w, i32_w]; rfl)
              refine pure_ (i := 46) (N := some 4) (v := ?_) (a' := ?_) (bv 48 140737488355327) rfl rfl (any_of HT_.out (by kernel_rfl)) (fun _ _ _ h => h) (Or.inl ⟨by rfl, ?_⟩) ?_ ?_; rotate_left; (intro w'; go_simp; with_reducible rfl); rotate_left; (simp only [Act.put, List.setIfInBounds_toArray, List.set_cons_zero, List.set_cons_succ, i64_w, i32_w]; rfl)
              refine pure_ (i := 47) (N := some 5) (v := ?_) (a' := ?_) (bv 48 281474976710655) rfl rfl (any_of HT_.out (by kernel_rfl)) (fun _ _ _ h => h) (Or.inl ⟨by rfl, ?_⟩) ?_ ?_; rotate_left; (intro w'; go_simp; with_reducible rfl); rotate_left; (simp only [Act.put, List.setIfInBounds_toArray, List.set_cons_zero, List.set_cons_succ, i64_w, i32_w]; rfl)
              refine done_ (done_of HT_.out (by kernel_rfl)) ?_
              try go_wp2
              go_ret2
              exact ⟨by first | rfl | (simp [errW_none, errW_some] <;> rfl) | (simp [*, errW_none, errW_some] <;> rfl), by repeat (first | (with_reducible first | exact HB.out | apply bA | apply bN | apply bD | refine bS ?_ GE464.out) | exact HB.out)⟩
             ·rw [if_neg c31] at H
              exact absurd H (by simp)
            ·rw [if_neg c30] at H
             exact absurd H (by simp)
           ·rw [if_neg c29] at H
            exact absurd H (by simp)
          ·rw [if_neg c27] at H
           exact absurd H (by simp)
         ·rw [if_neg c25] at H
          exact absurd H (by simp)
        ·rw [if_neg c23] at H
         exact absurd H (by simp)
       ·rw [if_neg c21] at H
        exact absurd H (by simp)
      ·rw [if_neg c19] at H
       exact absurd H (by simp)
     ·rw [if_neg c17] at H
      exact absurd H (by simp)
    ·rw [if_neg c15] at H
     exact absurd H (by simp)

end Go.Proofs.YtcmalglippmocaaDoor.G
end
