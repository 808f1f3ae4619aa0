/- Texts of this session, joined: each is a section. -/
import Derived.Test.YtcmalglippmocaaMFlowSums1
import Derived.Test.YtcmalglippmocaaMFlowSums2
import Derived.Test.YtcmalglippmocaaMFlowSums3
import Derived.Test.YtcmalglippmocaaMFlowSums5
import Derived.Test.YtcmalglippmocaaMFlowSums4
import Derived.WalkLawsBesides
import Derived.BigQuiet
import Derived.RegionTactic
import Derived.Deep.RegionWith
import Derived.Lib.ConvBytes
import Derived.Laws.IdiomStrings
set_option linter.unusedVariables false
set_option linter.unusedSimpArgs false
section
namespace Go.Proofs.Ytcmalglippmocaa.G
open Go.RowKit Go.Proofs.YtcmalglippmocaaW.PrintWords Go.Proofs.YtcmalglippmocaaW.PrintLast Go.Proofs.YtcmalglippmocaaW.PrintMore
attribute [local go_sem] max2_int min2_int max_two min_two max_three min_three max_four min_four   -- for this text's walks alone
set_option linter.unusedVariables false
set_option linter.unusedSimpArgs false

def palanquinlaw09_awake.f (k : Nat)  : Option (Bool) := if 16 ≤ 281474976710656 then ((some (List.replicate 16 0 : List Int)).bind fun y162 => ((palanquinref05_Put.f k 0 0 0 0 17 false false (⟨#[97, 98, 99, 100]⟩ : ByteArray) (⟨#[101, 102, 103, 104]⟩ : ByteArray) (⟨#[]⟩ : ByteArray) (⟨#[0, 1, 0, 2, 0, 8, 0, 0]⟩ : ByteArray)).bind fun bt165 => ((palanquinref06_Put.f k 0 0 17 0 (strOfNums y162) (strOfNums y162) (⟨#[0, 1, 0, 2, 0, 8, 0, 0]⟩ : ByteArray)).bind fun bt167 => ((flow_Get.f bt165.1).bind fun bt169 => ((flow_Get.f bt167.1).bind fun bt176 => (if bt169.2.2.2.2.1 = 2 then (if bt169.2.2.2.2.2 = 0 then (some (bt176.2.2.2.2.2 == 5)) else (some false)) else (some false))))))) else (none)
set_option maxHeartbeats 8000000 in
set_option maxRecDepth 100000 in
theorem palanquinlaw09_awake.calls (k : Nat)  (r : Bool) (w : World) (h : palanquinlaw09_awake.f k  = some r) :
  Calls Try.prog 10 #[] w fun e w' => e = .returned (.bool r) ∧ Below w.heap.size w w' := by
 have hu50 := Try.underlying50
 have hu53 := Try.underlying53
 have hu24 := Try.underlying24
 have HB := mA (Below.refl w.heap.size w)
 have H : (if 16 ≤ 281474976710656 then ((some (List.replicate 16 0 : List Int)).bind fun y162 => ((palanquinref05_Put.f k 0 0 0 0 17 false false (⟨#[97, 98, 99, 100]⟩ : ByteArray) (⟨#[101, 102, 103, 104]⟩ : ByteArray) (⟨#[]⟩ : ByteArray) (⟨#[0, 1, 0, 2, 0, 8, 0, 0]⟩ : ByteArray)).bind fun bt165 => ((palanquinref06_Put.f k 0 0 17 0 (strOfNums y162) (strOfNums y162) (⟨#[0, 1, 0, 2, 0, 8, 0, 0]⟩ : ByteArray)).bind fun bt167 => ((flow_Get.f bt165.1).bind fun bt169 => ((flow_Get.f bt167.1).bind fun bt176 => (if bt169.2.2.2.2.1 = 2 then (if bt169.2.2.2.2.2 = 0 then (some (bt176.2.2.2.2.2 == 5)) else (some false)) else (some false))))))) else (none)) = some r := h
 clear h
 by_cases c1 : 16 ≤ 281474976710656
 ·rw [if_pos c1] at H
  have c1b0 := eq_true c1
  have c1b1 : decide (16 ≤ 281474976710656) = true := decide_eq_true c1
  clear c1
  obtain ⟨y162, hy162⟩ : ∃ y_ : List Int, y_ = (List.replicate 16 0) := ⟨_, rfl⟩
  replace H : ((palanquinref05_Put.f k 0 0 0 0 17 false false (⟨#[97, 98, 99, 100]⟩ : ByteArray) (⟨#[101, 102, 103, 104]⟩ : ByteArray) (⟨#[]⟩ : ByteArray) (⟨#[0, 1, 0, 2, 0, 8, 0, 0]⟩ : ByteArray)).bind fun bt165 => ((palanquinref06_Put.f k 0 0 17 0 (strOfNums y162) (strOfNums y162) (⟨#[0, 1, 0, 2, 0, 8, 0, 0]⟩ : ByteArray)).bind fun bt167 => ((flow_Get.f bt165.1).bind fun bt169 => ((flow_Get.f bt167.1).bind fun bt176 => (if bt169.2.2.2.2.1 = 2 then (if bt169.2.2.2.2.2 = 0 then (some (bt176.2.2.2.2.2 == 5)) else (some false)) else (some false)))))) = some r := by first | (rw [hy162]; with_reducible exact H) | (have H2_ := (Option.bind_some _ _).symm.trans H; rw [hy162]; with_reducible exact H2_) | (have H2_ := (Option.bind_some _ _).symm.trans H; with_reducible exact H2_) | with_reducible exact H | (rw [hy162]; exact H) | exact H
  have Ny162 := mA hy162
  clear hy162
  replace H := Option.bind_eq_some_iff.mp H
  obtain ⟨⟨t165, t166⟩, A20, H⟩ := H
  replace H : ((palanquinref06_Put.f k 0 0 17 0 (strOfNums y162) (strOfNums y162) (⟨#[0, 1, 0, 2, 0, 8, 0, 0]⟩ : ByteArray)).bind fun bt167 => ((flow_Get.f t165).bind fun bt169 => ((flow_Get.f bt167.1).bind fun bt176 => (if bt169.2.2.2.2.1 = 2 then (if bt169.2.2.2.2.2 = 0 then (some (bt176.2.2.2.2.2 == 5)) else (some false)) else (some false))))) = some r := H
  have A2 := mA A20
  clear A20
  replace H := Option.bind_eq_some_iff.mp H
  obtain ⟨⟨t167, t168⟩, A30, H⟩ := H
  replace H : ((flow_Get.f t165).bind fun bt169 => ((flow_Get.f t167).bind fun bt176 => (if bt169.2.2.2.2.1 = 2 then (if bt169.2.2.2.2.2 = 0 then (some (bt176.2.2.2.2.2 == 5)) else (some false)) else (some false)))) = some r := H
  have A3 := mA A30
  clear A30
  replace H := Option.bind_eq_some_iff.mp H
  obtain ⟨⟨t169, t170, t171, t172, t173, t174⟩, A40, H⟩ := H
  replace H : ((flow_Get.f t167).bind fun bt176 => (if t173 = 2 then (if t174 = 0 then (some (bt176.2.2.2.2.2 == 5)) else (some false)) else (some false))) = some r := H
  have A4 := mA A40
  clear A40
  replace H := Option.bind_eq_some_iff.mp H
  obtain ⟨⟨t176, t177, t178, t179, t180, t181⟩, A50, H⟩ := H
  replace H : (if t173 = 2 then (if t174 = 0 then (some (t181 == 5)) else (some false)) else (some false)) = some r := H
  have A5 := mA A50
  clear A50
  by_cases c6 : t173 = 2
  ·rw [if_pos c6] at H
   have c6b0 : (t173 == 2) = true := beq_iff_eq.mpr c6
   have c6b1 : (t173 != 2) = false := bne_eq_false_iff_eq.mpr c6
   clear c6
   by_cases c7 : t174 = 0
   ·rw [if_pos c7] at H
    have c7b0 : (t174 == 0) = true := beq_iff_eq.mpr c7
    have c7b1 : (t174 != 0) = false := bne_eq_false_iff_eq.mpr c7
    clear c7
    obtain rfl := Option.some.inj H
    go_enter Try.func10, Try.ntmps10
    go_wp2_with (first | ((with_reducible refine gate_dst (N := 11) rfl ?_); refine Kd.R_make (Kd.int .u8) _ 5 rfl (N := 11) rfl 31 _ _ rfl 16 rfl rfl Try.underlying31 (.int .u8 0) 1 info5 rfl (by decide) (by omega) 0 (ok := fun _ => True) (okp := fun _ => True) rfl (fun _ hk => hk) trivial (by omega) (by omega) (Below.refl _ _) (Nat.le_refl _) ?_; intro v163 w8 ho9 hb hg_ hnew_; clear hg_ hnew_; (first | rw [← Ny162.out] at ho9 | (simp only [Int.reduceToNat] at ho9; rw [← Ny162.out] at ho9)); have n0_ := mA (Kd.R_lower ho9 (below_size (by repeat (first | (with_reducible first | exact HB.out | apply bA | apply bN | apply bD) | exact HB.out)))); have n1_ := mA (bP (by repeat (first | (with_reducible first | exact HB.out | apply bA | apply bN | apply bD) | exact HB.out)) hb); clear HB; have HO164 := n0_; have HB := n1_; clear n0_ n1_; clear hb ho9; have hcv10 := own_string (P := Try.prog) Try.underlying31 Try.underlying5 Try.underlying9 (Kd.own_of_R HO164.out)) | ((with_reducible refine gate_callee (f := 23) rfl ?_); refine goesL_ (some 16) rfl rfl Try.func23 (by kernel_rfl) rfl #[.agg #[.int .i64 0, .int .i64 0, .int .i64 0, .int .i64 0, .int .i64 17, .bool false, .bool false, .string (⟨#[97, 98, 99, 100]⟩ : ByteArray), .string (⟨#[101, 102, 103, 104]⟩ : ByteArray), .string (⟨#[]⟩ : ByteArray)], .string (⟨#[0, 1, 0, 2, 0, 8, 0, 0]⟩ : ByteArray)] rfl (by (try simp only [List.map_toArray, List.map_cons, List.map_nil]); first | done | rfl | (simp only [List.length_drop, List.length_take]; rfl)) ?_; (with_reducible refine (palanquinref05_Put.calls k 0 0 0 0 17 false false (⟨#[97, 98, 99, 100]⟩ : ByteArray) (⟨#[101, 102, 103, 104]⟩ : ByteArray) (⟨#[]⟩ : ByteArray) (⟨#[0, 1, 0, 2, 0, 8, 0, 0]⟩ : ByteArray) t165 t166 _ A2.out).mono ?_); rintro e w11 ⟨rfl, hb⟩; refine ⟨_, rfl, ?_⟩; have n0_ := mA (Kd.R_below (by (with_reducible repeat (first | apply Kd.R_alloc | apply Kd.R_drewN | apply Kd.R_drew)); exact HO164.out) hb); have n1_ := mA (bP (by repeat (first | (with_reducible first | exact HB.out | apply bA | apply bN | apply bD) | exact HB.out)) hb); clear HO164; clear HB; have HO164 := n0_; have HB := n1_; clear n0_ n1_; (try clear hb); (try clear hb2); (try clear hk); (try clear hi)) | ((with_reducible refine gate_callee (f := 24) rfl ?_); refine goesL_ (some 24) rfl rfl Try.func24 (by kernel_rfl) rfl #[.agg #[.int .i64 0, .int .i64 0, .int .i64 17, .int .i64 0, .string (strOfNums y162), .string (strOfNums y162)], .string (⟨#[0, 1, 0, 2, 0, 8, 0, 0]⟩ : ByteArray)] rfl (by (try simp only [List.map_toArray, List.map_cons, List.map_nil]); first | done | rfl | (simp only [List.length_drop, List.length_take]; rfl)) ?_; (with_reducible refine (palanquinref06_Put.calls k 0 0 17 0 (strOfNums y162) (strOfNums y162) (⟨#[0, 1, 0, 2, 0, 8, 0, 0]⟩ : ByteArray) t167 t168 _ A3.out).mono ?_); rintro e w12 ⟨rfl, hb⟩; refine ⟨_, rfl, ?_⟩; have n0_ := mA (Kd.R_below (by (with_reducible repeat (first | apply Kd.R_alloc | apply Kd.R_drewN | apply Kd.R_drew)); exact HO164.out) hb); have n1_ := mA (bP (by repeat (first | (with_reducible first | exact HB.out | apply bA | apply bN | apply bD) | exact HB.out)) hb); clear HO164; clear HB; have HO164 := n0_; have HB := n1_; clear n0_ n1_; (try clear hb); (try clear hb2); (try clear hk); (try clear hi)) | ((with_reducible refine gate_callee (f := 11) rfl ?_); refine goesL_ (some 29) rfl rfl Try.func11 (by kernel_rfl) rfl #[.string t165] rfl (by (try simp only [List.map_toArray, List.map_cons, List.map_nil]); first | done | rfl | (simp only [List.length_drop, List.length_take]; rfl)) ?_; (with_reducible refine (flow_Get.calls t165 t169 t170 t171 t172 t173 t174 _ A4.out).mono ?_); rintro e w13 ⟨rfl, hb⟩; refine ⟨_, rfl, ?_⟩; have n0_ := mA (Kd.R_below (by (with_reducible repeat (first | apply Kd.R_alloc | apply Kd.R_drewN | apply Kd.R_drew)); exact HO164.out) hb); have n1_ := mA (bP (by repeat (first | (with_reducible first | exact HB.out | apply bA | apply bN | apply bD) | exact HB.out)) hb); clear HO164; clear HB; have HO164 := n0_; have HB := n1_; clear n0_ n1_; (try clear hb); (try clear hb2); (try clear hk); (try clear hi)) | ((with_reducible refine gate_dst (N := 7) rfl ?_); refine box_event ?hg (N := 7) ?hd (cs := #[.int .i64 0, .string (⟨#[]⟩ : ByteArray), .string (⟨#[]⟩ : ByteArray), .int .i64 0, .int .i64 0]) (t := 24) ?hr ?_; (case hd => rfl); (case hg => rfl); (case hr => first | (go_simp; done) | (go_simp; rfl)); intro gb175 hg w14 hbox hb; have n0_ := mA (Kd.R_below (by (with_reducible repeat (first | apply Kd.R_alloc | apply Kd.R_drewN | apply Kd.R_drew)); exact HO164.out) hb); obtain ⟨n1_, nq_⟩ := bpr (by repeat (first | (with_reducible first | exact HB.out | apply bA | apply bN | apply bD) | exact HB.out)) hb; have n2_ := mA (hbox); have n3_ := mA ((by rw [hg]; exact nq_ : w.heap.size ≤ gb175)); have n4_ := mA ((by rw [hg]; exact nq_ : w.heap.size ≤ gb175)); clear HO164; clear HB; have HO164 := n0_; have HB := n1_; have BK175 := n2_; have GW175 := n3_; have GE175 := n4_; clear nq_; clear n0_ n1_ n2_ n3_ n4_; clear hb hbox hg; obtain ⟨hcz15_0, hcz15_1, hcz15_2, hcz15_3, hcz15_4⟩ := bc5 BK175.out; obtain ⟨hfz15_0, hfz15_1, hfz15_2, hfz15_3, hfz15_4⟩ := bf5 BK175.out) | ((with_reducible refine gate_callee (f := 11) rfl ?_); refine goesL_ (some 34) rfl rfl Try.func11 (by kernel_rfl) rfl #[.string t167] rfl (by (try simp only [List.map_toArray, List.map_cons, List.map_nil]); first | done | rfl | (simp only [List.length_drop, List.length_take]; rfl)) ?_; (with_reducible refine (flow_Get.calls t167 t176 t177 t178 t179 t180 t181 _ A5.out).mono ?_); rintro e w16 ⟨rfl, hb⟩; refine ⟨_, rfl, ?_⟩; have n0_ := mA (Kd.R_below (by (with_reducible repeat (first | apply Kd.R_alloc | apply Kd.R_drewN | apply Kd.R_drew)); exact (Kd.R_mono (Kd.R_far (p := ⟨gb175, 4, none⟩) (Kd.R_far (p := ⟨gb175, 3, none⟩) (Kd.R_far (p := ⟨gb175, 2, none⟩) (Kd.R_far (p := ⟨gb175, 1, none⟩) (Kd.R_far (p := ⟨gb175, 0, none⟩) (Kd.R_types HO164.out BK175.out (by decide)) (fun _ hk => hk.2) (.int .i64 t169)) (fun _ hk => hk.2) (.string t170)) (fun _ hk => hk.2) (.string t171)) (fun _ hk => hk.2) (.int .i64 t172)) (fun _ hk => hk.2) (.int .i64 t173)) (fun _ h_ => h_.1))) hb); have n1_ := mA (blk_below (g := gb175) (o := .cells #[.int .i64 t169, .string t170, .string t171, .int .i64 t172, .int .i64 t173] 24 (0, 0)) (by (with_reducible repeat (first | apply kN | apply kD | apply kA)); refine blk_put (cs := #[.int .i64 t169, .string t170, .string t171, .int .i64 t172, .int .i64 0]) ?_ 4 _ (by first | rfl | (simp [*]; done)); (with_reducible repeat (first | apply kN | apply kD | apply kA)); refine blk_put (cs := #[.int .i64 t169, .string t170, .string t171, .int .i64 0, .int .i64 0]) ?_ 3 _ (by first | rfl | (simp [*]; done)); (with_reducible repeat (first | apply kN | apply kD | apply kA)); refine blk_put (cs := #[.int .i64 t169, .string t170, .string (⟨#[]⟩ : ByteArray), .int .i64 0, .int .i64 0]) ?_ 2 _ (by first | rfl | (simp [*]; done)); (with_reducible repeat (first | apply kN | apply kD | apply kA)); refine blk_put (cs := #[.int .i64 t169, .string (⟨#[]⟩ : ByteArray), .string (⟨#[]⟩ : ByteArray), .int .i64 0, .int .i64 0]) ?_ 1 _ (by first | rfl | (simp [*]; done)); (with_reducible repeat (first | apply kN | apply kD | apply kA)); refine blk_put (cs := #[.int .i64 0, .string (⟨#[]⟩ : ByteArray), .string (⟨#[]⟩ : ByteArray), .int .i64 0, .int .i64 0]) ?_ 0 _ (by first | rfl | (simp [*]; done)); (with_reducible repeat (first | apply kN | apply kD | apply kA)); exact BK175.out) hb); have n2_ := mA (bP (by repeat (first | (with_reducible first | exact HB.out | apply bA | apply bN | apply bD | refine bS ?_ GE175.out) | exact HB.out)) hb); clear HO164; clear BK175; clear HB; have HO164 := n0_; have BK175 := n1_; have HB := n2_; clear n0_ n1_ n2_; (try clear hb); (try clear hb2); (try clear hk); (try clear hi)) | ((with_reducible refine gate_dst (N := 9) rfl ?_); refine box_event ?hg (N := 9) ?hd (cs := #[.int .i64 0, .string (⟨#[]⟩ : ByteArray), .string (⟨#[]⟩ : ByteArray), .int .i64 0, .int .i64 0]) (t := 24) ?hr ?_; (case hd => rfl); (case hg => rfl); (case hr => first | (go_simp; done) | (go_simp; rfl)); intro gb182 hg w17 hbox hb; have n0_ := mA (Kd.R_below (by (with_reducible repeat (first | apply Kd.R_alloc | apply Kd.R_drewN | apply Kd.R_drew)); exact HO164.out) hb); obtain ⟨n1_, nl175_⟩ := bt3 (g := gb175) (o := .cells #[.int .i64 t169, .string t170, .string t171, .int .i64 t172, .int .i64 t173] 24 (0, 0)) (by (with_reducible repeat (first | apply kN | apply kD | apply kA)); exact BK175.out) hb; obtain ⟨n2_, nq_⟩ := bpr (by repeat (first | (with_reducible first | exact HB.out | apply bA | apply bN | apply bD | refine bS ?_ GE175.out) | exact HB.out)) hb; have n3_ := mA (hbox); have n4_ := mA ((by rw [hg]; exact nq_ : w.heap.size ≤ gb182)); have n5_ := mA ((by rw [hg]; exact nq_ : w.heap.size ≤ gb182)); have n6_ := mA ((by rw [hg]; exact Nat.ne_of_lt nl175_ : gb175 ≠ gb182)); have n7_ := mA ((by rw [hg]; exact Nat.ne_of_gt nl175_ : gb182 ≠ gb175)); clear HO164; clear BK175; clear HB; have HO164 := n0_; have BK175 := n1_; have HB := n2_; have BK182 := n3_; have GW182 := n4_; have GE182 := n5_; have NB175_182 := n6_; have NB182_175 := n7_; clear nl175_; clear nq_; clear n0_ n1_ n2_ n3_ n4_ n5_ n6_ n7_; clear hb hbox hg; have hnb18 := NB182_175.out; have hnc18 := NB175_182.out; obtain ⟨hcz19_0, hcz19_1, hcz19_2, hcz19_3, hcz19_4⟩ := bc5 BK182.out; obtain ⟨hfz19_0, hfz19_1, hfz19_2, hfz19_3, hfz19_4⟩ := bf5 BK182.out; obtain ⟨hcz20_0, hcz20_1, hcz20_2, hcz20_3, hcz20_4⟩ := bc5 BK175.out; obtain ⟨hfz20_0, hfz20_1, hfz20_2, hfz20_3, hfz20_4⟩ := bf5 BK175.out))
    go_ret
    exact ⟨by first | rfl | (simp [errW_none, errW_some] <;> rfl) | (simp [*, errW_none, errW_some] <;> rfl), by repeat (first | (with_reducible first | exact HB.out | apply bA | apply bN | apply bD | refine bS ?_ GE175.out | refine bS ?_ GE182.out) | exact HB.out)⟩
   ·rw [if_neg c7] at H
    have c7b0 : (t174 == 0) = false := beq_eq_false_iff_ne.mpr c7
    have c7b1 : (t174 != 0) = true := bne_iff_ne.mpr c7
    obtain rfl := Option.some.inj H
    go_enter Try.func10, Try.ntmps10
    go_wp2_with (first | ((with_reducible refine gate_dst (N := 11) rfl ?_); refine Kd.R_make (Kd.int .u8) _ 5 rfl (N := 11) rfl 31 _ _ rfl 16 rfl rfl Try.underlying31 (.int .u8 0) 1 info5 rfl (by decide) (by omega) 0 (ok := fun _ => True) (okp := fun _ => True) rfl (fun _ hk => hk) trivial (by omega) (by omega) (Below.refl _ _) (Nat.le_refl _) ?_; intro v163 w21 ho22 hb hg_ hnew_; clear hg_ hnew_; (first | rw [← Ny162.out] at ho22 | (simp only [Int.reduceToNat] at ho22; rw [← Ny162.out] at ho22)); have n0_ := mA (Kd.R_lower ho22 (below_size (by repeat (first | (with_reducible first | exact HB.out | apply bA | apply bN | apply bD) | exact HB.out)))); have n1_ := mA (bP (by repeat (first | (with_reducible first | exact HB.out | apply bA | apply bN | apply bD) | exact HB.out)) hb); clear HB; have HO164 := n0_; have HB := n1_; clear n0_ n1_; clear hb ho22; have hcv23 := own_string (P := Try.prog) Try.underlying31 Try.underlying5 Try.underlying9 (Kd.own_of_R HO164.out)) | ((with_reducible refine gate_callee (f := 23) rfl ?_); refine goesL_ (some 16) rfl rfl Try.func23 (by kernel_rfl) rfl #[.agg #[.int .i64 0, .int .i64 0, .int .i64 0, .int .i64 0, .int .i64 17, .bool false, .bool false, .string (⟨#[97, 98, 99, 100]⟩ : ByteArray), .string (⟨#[101, 102, 103, 104]⟩ : ByteArray), .string (⟨#[]⟩ : ByteArray)], .string (⟨#[0, 1, 0, 2, 0, 8, 0, 0]⟩ : ByteArray)] rfl (by (try simp only [List.map_toArray, List.map_cons, List.map_nil]); first | done | rfl | (simp only [List.length_drop, List.length_take]; rfl)) ?_; (with_reducible refine (palanquinref05_Put.calls k 0 0 0 0 17 false false (⟨#[97, 98, 99, 100]⟩ : ByteArray) (⟨#[101, 102, 103, 104]⟩ : ByteArray) (⟨#[]⟩ : ByteArray) (⟨#[0, 1, 0, 2, 0, 8, 0, 0]⟩ : ByteArray) t165 t166 _ A2.out).mono ?_); rintro e w24 ⟨rfl, hb⟩; refine ⟨_, rfl, ?_⟩; have n0_ := mA (Kd.R_below (by (with_reducible repeat (first | apply Kd.R_alloc | apply Kd.R_drewN | apply Kd.R_drew)); exact HO164.out) hb); have n1_ := mA (bP (by repeat (first | (with_reducible first | exact HB.out | apply bA | apply bN | apply bD) | exact HB.out)) hb); clear HO164; clear HB; have HO164 := n0_; have HB := n1_; clear n0_ n1_; (try clear hb); (try clear hb2); (try clear hk); (try clear hi)) | ((with_reducible refine gate_callee (f := 24) rfl ?_); refine goesL_ (some 24) rfl rfl Try.func24 (by kernel_rfl) rfl #[.agg #[.int .i64 0, .int .i64 0, .int .i64 17, .int .i64 0, .string (strOfNums y162), .string (strOfNums y162)], .string (⟨#[0, 1, 0, 2, 0, 8, 0, 0]⟩ : ByteArray)] rfl (by (try simp only [List.map_toArray, List.map_cons, List.map_nil]); first | done | rfl | (simp only [List.length_drop, List.length_take]; rfl)) ?_; (with_reducible refine (palanquinref06_Put.calls k 0 0 17 0 (strOfNums y162) (strOfNums y162) (⟨#[0, 1, 0, 2, 0, 8, 0, 0]⟩ : ByteArray) t167 t168 _ A3.out).mono ?_); rintro e w25 ⟨rfl, hb⟩; refine ⟨_, rfl, ?_⟩; have n0_ := mA (Kd.R_below (by (with_reducible repeat (first | apply Kd.R_alloc | apply Kd.R_drewN | apply Kd.R_drew)); exact HO164.out) hb); have n1_ := mA (bP (by repeat (first | (with_reducible first | exact HB.out | apply bA | apply bN | apply bD) | exact HB.out)) hb); clear HO164; clear HB; have HO164 := n0_; have HB := n1_; clear n0_ n1_; (try clear hb); (try clear hb2); (try clear hk); (try clear hi)) | ((with_reducible refine gate_callee (f := 11) rfl ?_); refine goesL_ (some 29) rfl rfl Try.func11 (by kernel_rfl) rfl #[.string t165] rfl (by (try simp only [List.map_toArray, List.map_cons, List.map_nil]); first | done | rfl | (simp only [List.length_drop, List.length_take]; rfl)) ?_; (with_reducible refine (flow_Get.calls t165 t169 t170 t171 t172 t173 t174 _ A4.out).mono ?_); rintro e w26 ⟨rfl, hb⟩; refine ⟨_, rfl, ?_⟩; have n0_ := mA (Kd.R_below (by (with_reducible repeat (first | apply Kd.R_alloc | apply Kd.R_drewN | apply Kd.R_drew)); exact HO164.out) hb); have n1_ := mA (bP (by repeat (first | (with_reducible first | exact HB.out | apply bA | apply bN | apply bD) | exact HB.out)) hb); clear HO164; clear HB; have HO164 := n0_; have HB := n1_; clear n0_ n1_; (try clear hb); (try clear hb2); (try clear hk); (try clear hi)) | ((with_reducible refine gate_dst (N := 7) rfl ?_); refine box_event ?hg (N := 7) ?hd (cs := #[.int .i64 0, .string (⟨#[]⟩ : ByteArray), .string (⟨#[]⟩ : ByteArray), .int .i64 0, .int .i64 0]) (t := 24) ?hr ?_; (case hd => rfl); (case hg => rfl); (case hr => first | (go_simp; done) | (go_simp; rfl)); intro gb175 hg w27 hbox hb; have n0_ := mA (Kd.R_below (by (with_reducible repeat (first | apply Kd.R_alloc | apply Kd.R_drewN | apply Kd.R_drew)); exact HO164.out) hb); obtain ⟨n1_, nq_⟩ := bpr (by repeat (first | (with_reducible first | exact HB.out | apply bA | apply bN | apply bD) | exact HB.out)) hb; have n2_ := mA (hbox); have n3_ := mA ((by rw [hg]; exact nq_ : w.heap.size ≤ gb175)); have n4_ := mA ((by rw [hg]; exact nq_ : w.heap.size ≤ gb175)); clear HO164; clear HB; have HO164 := n0_; have HB := n1_; have BK175 := n2_; have GW175 := n3_; have GE175 := n4_; clear nq_; clear n0_ n1_ n2_ n3_ n4_; clear hb hbox hg; obtain ⟨hcz28_0, hcz28_1, hcz28_2, hcz28_3, hcz28_4⟩ := bc5 BK175.out; obtain ⟨hfz28_0, hfz28_1, hfz28_2, hfz28_3, hfz28_4⟩ := bf5 BK175.out) | ((with_reducible refine gate_callee (f := 11) rfl ?_); refine goesL_ (some 34) rfl rfl Try.func11 (by kernel_rfl) rfl #[.string t167] rfl (by (try simp only [List.map_toArray, List.map_cons, List.map_nil]); first | done | rfl | (simp only [List.length_drop, List.length_take]; rfl)) ?_; (with_reducible refine (flow_Get.calls t167 t176 t177 t178 t179 t180 t181 _ A5.out).mono ?_); rintro e w29 ⟨rfl, hb⟩; refine ⟨_, rfl, ?_⟩; have n0_ := mA (Kd.R_below (by (with_reducible repeat (first | apply Kd.R_alloc | apply Kd.R_drewN | apply Kd.R_drew)); exact (Kd.R_mono (Kd.R_far (p := ⟨gb175, 4, none⟩) (Kd.R_far (p := ⟨gb175, 3, none⟩) (Kd.R_far (p := ⟨gb175, 2, none⟩) (Kd.R_far (p := ⟨gb175, 1, none⟩) (Kd.R_far (p := ⟨gb175, 0, none⟩) (Kd.R_types HO164.out BK175.out (by decide)) (fun _ hk => hk.2) (.int .i64 t169)) (fun _ hk => hk.2) (.string t170)) (fun _ hk => hk.2) (.string t171)) (fun _ hk => hk.2) (.int .i64 t172)) (fun _ hk => hk.2) (.int .i64 t173)) (fun _ h_ => h_.1))) hb); have n1_ := mA (blk_below (g := gb175) (o := .cells #[.int .i64 t169, .string t170, .string t171, .int .i64 t172, .int .i64 t173] 24 (0, 0)) (by (with_reducible repeat (first | apply kN | apply kD | apply kA)); refine blk_put (cs := #[.int .i64 t169, .string t170, .string t171, .int .i64 t172, .int .i64 0]) ?_ 4 _ (by first | rfl | (simp [*]; done)); (with_reducible repeat (first | apply kN | apply kD | apply kA)); refine blk_put (cs := #[.int .i64 t169, .string t170, .string t171, .int .i64 0, .int .i64 0]) ?_ 3 _ (by first | rfl | (simp [*]; done)); (with_reducible repeat (first | apply kN | apply kD | apply kA)); refine blk_put (cs := #[.int .i64 t169, .string t170, .string (⟨#[]⟩ : ByteArray), .int .i64 0, .int .i64 0]) ?_ 2 _ (by first | rfl | (simp [*]; done)); (with_reducible repeat (first | apply kN | apply kD | apply kA)); refine blk_put (cs := #[.int .i64 t169, .string (⟨#[]⟩ : ByteArray), .string (⟨#[]⟩ : ByteArray), .int .i64 0, .int .i64 0]) ?_ 1 _ (by first | rfl | (simp [*]; done)); (with_reducible repeat (first | apply kN | apply kD | apply kA)); refine blk_put (cs := #[.int .i64 0, .string (⟨#[]⟩ : ByteArray), .string (⟨#[]⟩ : ByteArray), .int .i64 0, .int .i64 0]) ?_ 0 _ (by first | rfl | (simp [*]; done)); (with_reducible repeat (first | apply kN | apply kD | apply kA)); exact BK175.out) hb); have n2_ := mA (bP (by repeat (first | (with_reducible first | exact HB.out | apply bA | apply bN | apply bD | refine bS ?_ GE175.out) | exact HB.out)) hb); clear HO164; clear BK175; clear HB; have HO164 := n0_; have BK175 := n1_; have HB := n2_; clear n0_ n1_ n2_; (try clear hb); (try clear hb2); (try clear hk); (try clear hi)) | ((with_reducible refine gate_dst (N := 9) rfl ?_); refine box_event ?hg (N := 9) ?hd (cs := #[.int .i64 0, .string (⟨#[]⟩ : ByteArray), .string (⟨#[]⟩ : ByteArray), .int .i64 0, .int .i64 0]) (t := 24) ?hr ?_; (case hd => rfl); (case hg => rfl); (case hr => first | (go_simp; done) | (go_simp; rfl)); intro gb182 hg w30 hbox hb; have n0_ := mA (Kd.R_below (by (with_reducible repeat (first | apply Kd.R_alloc | apply Kd.R_drewN | apply Kd.R_drew)); exact HO164.out) hb); obtain ⟨n1_, nl175_⟩ := bt3 (g := gb175) (o := .cells #[.int .i64 t169, .string t170, .string t171, .int .i64 t172, .int .i64 t173] 24 (0, 0)) (by (with_reducible repeat (first | apply kN | apply kD | apply kA)); exact BK175.out) hb; obtain ⟨n2_, nq_⟩ := bpr (by repeat (first | (with_reducible first | exact HB.out | apply bA | apply bN | apply bD | refine bS ?_ GE175.out) | exact HB.out)) hb; have n3_ := mA (hbox); have n4_ := mA ((by rw [hg]; exact nq_ : w.heap.size ≤ gb182)); have n5_ := mA ((by rw [hg]; exact nq_ : w.heap.size ≤ gb182)); have n6_ := mA ((by rw [hg]; exact Nat.ne_of_lt nl175_ : gb175 ≠ gb182)); have n7_ := mA ((by rw [hg]; exact Nat.ne_of_gt nl175_ : gb182 ≠ gb175)); clear HO164; clear BK175; clear HB; have HO164 := n0_; have BK175 := n1_; have HB := n2_; have BK182 := n3_; have GW182 := n4_; have GE182 := n5_; have NB175_182 := n6_; have NB182_175 := n7_; clear nl175_; clear nq_; clear n0_ n1_ n2_ n3_ n4_ n5_ n6_ n7_; clear hb hbox hg; have hnb31 := NB182_175.out; have hnc31 := NB175_182.out; obtain ⟨hcz32_0, hcz32_1, hcz32_2, hcz32_3, hcz32_4⟩ := bc5 BK182.out; obtain ⟨hfz32_0, hfz32_1, hfz32_2, hfz32_3, hfz32_4⟩ := bf5 BK182.out; obtain ⟨hcz33_0, hcz33_1, hcz33_2, hcz33_3, hcz33_4⟩ := bc5 BK175.out; obtain ⟨hfz33_0, hfz33_1, hfz33_2, hfz33_3, hfz33_4⟩ := bf5 BK175.out))
    go_ret
    exact ⟨by first | rfl | (simp [errW_none, errW_some] <;> rfl) | (simp [*, errW_none, errW_some] <;> rfl), by repeat (first | (with_reducible first | exact HB.out | apply bA | apply bN | apply bD | refine bS ?_ GE175.out | refine bS ?_ GE182.out) | exact HB.out)⟩
  ·rw [if_neg c6] at H
   have c6b0 : (t173 == 2) = false := beq_eq_false_iff_ne.mpr c6
   have c6b1 : (t173 != 2) = true := bne_iff_ne.mpr c6
   obtain rfl := Option.some.inj H
   go_enter Try.func10, Try.ntmps10
   go_wp2_with (first | ((with_reducible refine gate_dst (N := 11) rfl ?_); refine Kd.R_make (Kd.int .u8) _ 5 rfl (N := 11) rfl 31 _ _ rfl 16 rfl rfl Try.underlying31 (.int .u8 0) 1 info5 rfl (by decide) (by omega) 0 (ok := fun _ => True) (okp := fun _ => True) rfl (fun _ hk => hk) trivial (by omega) (by omega) (Below.refl _ _) (Nat.le_refl _) ?_; intro v163 w34 ho35 hb hg_ hnew_; clear hg_ hnew_; (first | rw [← Ny162.out] at ho35 | (simp only [Int.reduceToNat] at ho35; rw [← Ny162.out] at ho35)); have n0_ := mA (Kd.R_lower ho35 (below_size (by repeat (first | (with_reducible first | exact HB.out | apply bA | apply bN | apply bD) | exact HB.out)))); have n1_ := mA (bP (by repeat (first | (with_reducible first | exact HB.out | apply bA | apply bN | apply bD) | exact HB.out)) hb); clear HB; have HO164 := n0_; have HB := n1_; clear n0_ n1_; clear hb ho35; have hcv36 := own_string (P := Try.prog) Try.underlying31 Try.underlying5 Try.underlying9 (Kd.own_of_R HO164.out)) | ((with_reducible refine gate_callee (f := 23) rfl ?_); refine goesL_ (some 16) rfl rfl Try.func23 (by kernel_rfl) rfl #[.agg #[.int .i64 0, .int .i64 0, .int .i64 0, .int .i64 0, .int .i64 17, .bool false, .bool false, .string (⟨#[97, 98, 99, 100]⟩ : ByteArray), .string (⟨#[101, 102, 103, 104]⟩ : ByteArray), .string (⟨#[]⟩ : ByteArray)], .string (⟨#[0, 1, 0, 2, 0, 8, 0, 0]⟩ : ByteArray)] rfl (by (try simp only [List.map_toArray, List.map_cons, List.map_nil]); first | done | rfl | (simp only [List.length_drop, List.length_take]; rfl)) ?_; (with_reducible refine (palanquinref05_Put.calls k 0 0 0 0 17 false false (⟨#[97, 98, 99, 100]⟩ : ByteArray) (⟨#[101, 102, 103, 104]⟩ : ByteArray) (⟨#[]⟩ : ByteArray) (⟨#[0, 1, 0, 2, 0, 8, 0, 0]⟩ : ByteArray) t165 t166 _ A2.out).mono ?_); rintro e w37 ⟨rfl, hb⟩; refine ⟨_, rfl, ?_⟩; have n0_ := mA (Kd.R_below (by (with_reducible repeat (first | apply Kd.R_alloc | apply Kd.R_drewN | apply Kd.R_drew)); exact HO164.out) hb); have n1_ := mA (bP (by repeat (first | (with_reducible first | exact HB.out | apply bA | apply bN | apply bD) | exact HB.out)) hb); clear HO164; clear HB; have HO164 := n0_; have HB := n1_; clear n0_ n1_; (try clear hb); (try clear hb2); (try clear hk); (try clear hi)) | ((with_reducible refine gate_callee (f := 24) rfl ?_); refine goesL_ (some 24) rfl rfl Try.func24 (by kernel_rfl) rfl #[.agg #[.int .i64 0, .int .i64 0, .int .i64 17, .int .i64 0, .string (strOfNums y162), .string (strOfNums y162)], .string (⟨#[0, 1, 0, 2, 0, 8, 0, 0]⟩ : ByteArray)] rfl (by (try simp only [List.map_toArray, List.map_cons, List.map_nil]); first | done | rfl | (simp only [List.length_drop, List.length_take]; rfl)) ?_; (with_reducible refine (palanquinref06_Put.calls k 0 0 17 0 (strOfNums y162) (strOfNums y162) (⟨#[0, 1, 0, 2, 0, 8, 0, 0]⟩ : ByteArray) t167 t168 _ A3.out).mono ?_); rintro e w38 ⟨rfl, hb⟩; refine ⟨_, rfl, ?_⟩; have n0_ := mA (Kd.R_below (by (with_reducible repeat (first | apply Kd.R_alloc | apply Kd.R_drewN | apply Kd.R_drew)); exact HO164.out) hb); have n1_ := mA (bP (by repeat (first | (with_reducible first | exact HB.out | apply bA | apply bN | apply bD) | exact HB.out)) hb); clear HO164; clear HB; have HO164 := n0_; have HB := n1_; clear n0_ n1_; (try clear hb); (try clear hb2); (try clear hk); (try clear hi)) | ((with_reducible refine gate_callee (f := 11) rfl ?_); refine goesL_ (some 29) rfl rfl Try.func11 (by kernel_rfl) rfl #[.string t165] rfl (by (try simp only [List.map_toArray, List.map_cons, List.map_nil]); first | done | rfl | (simp only [List.length_drop, List.length_take]; rfl)) ?_; (with_reducible refine (flow_Get.calls t165 t169 t170 t171 t172 t173 t174 _ A4.out).mono ?_); rintro e w39 ⟨rfl, hb⟩; refine ⟨_, rfl, ?_⟩; have n0_ := mA (Kd.R_below (by (with_reducible repeat (first | apply Kd.R_alloc | apply Kd.R_drewN | apply Kd.R_drew)); exact HO164.out) hb); have n1_ := mA (bP (by repeat (first | (with_reducible first | exact HB.out | apply bA | apply bN | apply bD) | exact HB.out)) hb); clear HO164; clear HB; have HO164 := n0_; have HB := n1_; clear n0_ n1_; (try clear hb); (try clear hb2); (try clear hk); (try clear hi)) | ((with_reducible refine gate_dst (N := 7) rfl ?_); refine box_event ?hg (N := 7) ?hd (cs := #[.int .i64 0, .string (⟨#[]⟩ : ByteArray), .string (⟨#[]⟩ : ByteArray), .int .i64 0, .int .i64 0]) (t := 24) ?hr ?_; (case hd => rfl); (case hg => rfl); (case hr => first | (go_simp; done) | (go_simp; rfl)); intro gb175 hg w40 hbox hb; have n0_ := mA (Kd.R_below (by (with_reducible repeat (first | apply Kd.R_alloc | apply Kd.R_drewN | apply Kd.R_drew)); exact HO164.out) hb); obtain ⟨n1_, nq_⟩ := bpr (by repeat (first | (with_reducible first | exact HB.out | apply bA | apply bN | apply bD) | exact HB.out)) hb; have n2_ := mA (hbox); have n3_ := mA ((by rw [hg]; exact nq_ : w.heap.size ≤ gb175)); have n4_ := mA ((by rw [hg]; exact nq_ : w.heap.size ≤ gb175)); clear HO164; clear HB; have HO164 := n0_; have HB := n1_; have BK175 := n2_; have GW175 := n3_; have GE175 := n4_; clear nq_; clear n0_ n1_ n2_ n3_ n4_; clear hb hbox hg; obtain ⟨hcz41_0, hcz41_1, hcz41_2, hcz41_3, hcz41_4⟩ := bc5 BK175.out; obtain ⟨hfz41_0, hfz41_1, hfz41_2, hfz41_3, hfz41_4⟩ := bf5 BK175.out) | ((with_reducible refine gate_callee (f := 11) rfl ?_); refine goesL_ (some 34) rfl rfl Try.func11 (by kernel_rfl) rfl #[.string t167] rfl (by (try simp only [List.map_toArray, List.map_cons, List.map_nil]); first | done | rfl | (simp only [List.length_drop, List.length_take]; rfl)) ?_; (with_reducible refine (flow_Get.calls t167 t176 t177 t178 t179 t180 t181 _ A5.out).mono ?_); rintro e w42 ⟨rfl, hb⟩; refine ⟨_, rfl, ?_⟩; have n0_ := mA (Kd.R_below (by (with_reducible repeat (first | apply Kd.R_alloc | apply Kd.R_drewN | apply Kd.R_drew)); exact (Kd.R_mono (Kd.R_far (p := ⟨gb175, 4, none⟩) (Kd.R_far (p := ⟨gb175, 3, none⟩) (Kd.R_far (p := ⟨gb175, 2, none⟩) (Kd.R_far (p := ⟨gb175, 1, none⟩) (Kd.R_far (p := ⟨gb175, 0, none⟩) (Kd.R_types HO164.out BK175.out (by decide)) (fun _ hk => hk.2) (.int .i64 t169)) (fun _ hk => hk.2) (.string t170)) (fun _ hk => hk.2) (.string t171)) (fun _ hk => hk.2) (.int .i64 t172)) (fun _ hk => hk.2) (.int .i64 t173)) (fun _ h_ => h_.1))) hb); have n1_ := mA (blk_below (g := gb175) (o := .cells #[.int .i64 t169, .string t170, .string t171, .int .i64 t172, .int .i64 t173] 24 (0, 0)) (by (with_reducible repeat (first | apply kN | apply kD | apply kA)); refine blk_put (cs := #[.int .i64 t169, .string t170, .string t171, .int .i64 t172, .int .i64 0]) ?_ 4 _ (by first | rfl | (simp [*]; done)); (with_reducible repeat (first | apply kN | apply kD | apply kA)); refine blk_put (cs := #[.int .i64 t169, .string t170, .string t171, .int .i64 0, .int .i64 0]) ?_ 3 _ (by first | rfl | (simp [*]; done)); (with_reducible repeat (first | apply kN | apply kD | apply kA)); refine blk_put (cs := #[.int .i64 t169, .string t170, .string (⟨#[]⟩ : ByteArray), .int .i64 0, .int .i64 0]) ?_ 2 _ (by first | rfl | (simp [*]; done)); (with_reducible repeat (first | apply kN | apply kD | apply kA)); refine blk_put (cs := #[.int .i64 t169, .string (⟨#[]⟩ : ByteArray), .string (⟨#[]⟩ : ByteArray), .int .i64 0, .int .i64 0]) ?_ 1 _ (by first | rfl | (simp [*]; done)); (with_reducible repeat (first | apply kN | apply kD | apply kA)); refine blk_put (cs := #[.int .i64 0, .string (⟨#[]⟩ : ByteArray), .string (⟨#[]⟩ : ByteArray), .int .i64 0, .int .i64 0]) ?_ 0 _ (by first | rfl | (simp [*]; done)); (with_reducible repeat (first | apply kN | apply kD | apply kA)); exact BK175.out) hb); have n2_ := mA (bP (by repeat (first | (with_reducible first | exact HB.out | apply bA | apply bN | apply bD | refine bS ?_ GE175.out) | exact HB.out)) hb); clear HO164; clear BK175; clear HB; have HO164 := n0_; have BK175 := n1_; have HB := n2_; clear n0_ n1_ n2_; (try clear hb); (try clear hb2); (try clear hk); (try clear hi)) | ((with_reducible refine gate_dst (N := 9) rfl ?_); refine box_event ?hg (N := 9) ?hd (cs := #[.int .i64 0, .string (⟨#[]⟩ : ByteArray), .string (⟨#[]⟩ : ByteArray), .int .i64 0, .int .i64 0]) (t := 24) ?hr ?_; (case hd => rfl); (case hg => rfl); (case hr => first | (go_simp; done) | (go_simp; rfl)); intro gb182 hg w43 hbox hb; have n0_ := mA (Kd.R_below (by (with_reducible repeat (first | apply Kd.R_alloc | apply Kd.R_drewN | apply Kd.R_drew)); exact HO164.out) hb); obtain ⟨n1_, nl175_⟩ := bt3 (g := gb175) (o := .cells #[.int .i64 t169, .string t170, .string t171, .int .i64 t172, .int .i64 t173] 24 (0, 0)) (by (with_reducible repeat (first | apply kN | apply kD | apply kA)); exact BK175.out) hb; obtain ⟨n2_, nq_⟩ := bpr (by repeat (first | (with_reducible first | exact HB.out | apply bA | apply bN | apply bD | refine bS ?_ GE175.out) | exact HB.out)) hb; have n3_ := mA (hbox); have n4_ := mA ((by rw [hg]; exact nq_ : w.heap.size ≤ gb182)); have n5_ := mA ((by rw [hg]; exact nq_ : w.heap.size ≤ gb182)); have n6_ := mA ((by rw [hg]; exact Nat.ne_of_lt nl175_ : gb175 ≠ gb182)); have n7_ := mA ((by rw [hg]; exact Nat.ne_of_gt nl175_ : gb182 ≠ gb175)); clear HO164; clear BK175; clear HB; have HO164 := n0_; have BK175 := n1_; have HB := n2_; have BK182 := n3_; have GW182 := n4_; have GE182 := n5_; have NB175_182 := n6_; have NB182_175 := n7_; clear nl175_; clear nq_; clear n0_ n1_ n2_ n3_ n4_ n5_ n6_ n7_; clear hb hbox hg; have hnb44 := NB182_175.out; have hnc44 := NB175_182.out; obtain ⟨hcz45_0, hcz45_1, hcz45_2, hcz45_3, hcz45_4⟩ := bc5 BK182.out; obtain ⟨hfz45_0, hfz45_1, hfz45_2, hfz45_3, hfz45_4⟩ := bf5 BK182.out; obtain ⟨hcz46_0, hcz46_1, hcz46_2, hcz46_3, hcz46_4⟩ := bc5 BK175.out; obtain ⟨hfz46_0, hfz46_1, hfz46_2, hfz46_3, hfz46_4⟩ := bf5 BK175.out))
   go_ret
   exact ⟨by first | rfl | (simp [errW_none, errW_some] <;> rfl) | (simp [*, errW_none, errW_some] <;> rfl), by repeat (first | (with_reducible first | exact HB.out | apply bA | apply bN | apply bD | refine bS ?_ GE175.out | refine bS ?_ GE182.out) | exact HB.out)⟩
 ·rw [if_neg c1] at H
  exact absurd H (by simp)

end Go.Proofs.Ytcmalglippmocaa.G
end

section
/- By hand: flow.Seal, which reads the package-level tables of places. -/
namespace Go.Proofs.Ytcmalglippmocaa.G
open Go.RowKit Go.Proofs.YtcmalglippmocaaW.PrintWords Go.Proofs.YtcmalglippmocaaW.PrintLast Go.Proofs.YtcmalglippmocaaW.PrintMore Go.Proofs.Ytcmalglippmocaa.Pal
set_option linter.unusedVariables false
set_option linter.unusedSimpArgs false
/-- A writer that stands in a block of its own above k. -/
def SW (k b : Nat) (w w1 : World) (l : List UInt8) : Prop := WAt b l w1 ∧ Below k w w1 ∧ k ≤ b
theorem SW.next {k b : Nat} {w w1 w2 : World} {l l' : List UInt8} (h : SW k b w w1 l) (h1 : WAt b l' w2) (h2 : Below b w1 w2) : SW k b w w2 l' := ⟨h1, h.2.1.trans (h2.mono h.2.2), h.2.2⟩
theorem SW.start {k : Nat} {w w1 : World} (h : Below k w w1) (hk : k ≤ w1.heap.size) : SW k w1.heap.size w (w1.alloc (.cells #[.pointer none, .slice none 0 0] 117)) [] := ⟨WAt.new w1, h.alloc hk _, hk⟩
end Go.Proofs.Ytcmalglippmocaa.G
end

section
/- Plain theory: a text with its own checksum inside it, at an even place. No program in it. -/
namespace Go.Proofs.Ytcmalglippmocaa.Pal
end Go.Proofs.Ytcmalglippmocaa.Pal
end

section
/- Plain theory: a text with one bit turned. No program in it. -/
namespace Go.Proofs.Ytcmalglippmocaa.Pal
def flipByte (b : UInt8) (k : Nat) : UInt8 := UInt8.ofNat (b.toNat ^^^ 2 ^ (k % 8))
/-- One bit turned: bit i stands in byte i / 8, and is its bit i % 8. -/
def flip (l : List UInt8) (i : Nat) : List UInt8 := l.set (i / 8) (flipByte (l.getD (i / 8) 0) i)
theorem flip_length (l : List UInt8) (i : Nat) : (flip l i).length = l.length := by simp [flip]
theorem flip_fin : ∀ b : Fin 256, ∀ k : Fin 8, (b.val ^^^ 2 ^ k.val) < 256 ∧ ((b.val ^^^ 2 ^ k.val) = b.val + 2 ^ k.val ∨ b.val = (b.val ^^^ 2 ^ k.val) + 2 ^ k.val) ∧ 1 ≤ 2 ^ k.val ∧ 2 ^ k.val ≤ 128 := by decide +kernel
theorem flipByte_is (b : UInt8) (k : Nat) : ∃ d, 1 ≤ d ∧ d ≤ 128 ∧ d = 2 ^ (k % 8) ∧ ((flipByte b k).toNat = b.toNat + d ∨ b.toNat = (flipByte b k).toNat + d) := by
  have h := flip_fin ⟨b.toNat, b.toNat_lt⟩ ⟨k % 8, Nat.mod_lt _ (by decide)⟩
  dsimp only at h
  have e : (flipByte b k).toNat = b.toNat ^^^ 2 ^ (k % 8) := by
    unfold flipByte
    simp only [UInt8.toNat_ofNat']
    exact Nat.mod_eq_of_lt h.1
  rw [e]
  exact ⟨2 ^ (k % 8), h.2.2.1, h.2.2.2, rfl, h.2.1⟩
theorem tot_set (b : UInt8) : ∀ (l : List UInt8) (j : Nat) (o : Bool), j < l.length → ∃ w, (w = 1 ∨ w = 256) ∧ tot o (l.set j b) + w * (l.getD j 0).toNat = tot o l + w * b.toNat
  | [], _, _, h => absurd h (by simp)
  | x :: l, 0, false, _ => ⟨256, .inr rfl, by simp [tot]; omega⟩
  | x :: l, 0, true, _ => ⟨1, .inl rfl, by simp [tot]; omega⟩
  | x :: l, j + 1, false, h => by
    obtain ⟨w, h1, h2⟩ := tot_set b l j true (by simpa using h)
    exact ⟨w, h1, by simp only [List.set_cons_succ, tot, List.getD_cons_succ]; omega⟩
  | x :: l, j + 1, true, h => by
    obtain ⟨w, h1, h2⟩ := tot_set b l j false (by simpa using h)
    exact ⟨w, h1, by simp only [List.set_cons_succ, tot, List.getD_cons_succ]; omega⟩
theorem flip_tot (l : List UInt8) (i : Nat) (h : i / 8 < l.length) (o : Bool) : ∃ D, 1 ≤ D ∧ D ≤ 32768 ∧ (tot o (flip l i) = tot o l + D ∨ tot o l = tot o (flip l i) + D) := by
  obtain ⟨w, hw, h1⟩ := tot_set (flipByte (l.getD (i / 8) 0) i) l (i / 8) o h
  obtain ⟨d, d1, d2, _, h2⟩ := flipByte_is (l.getD (i / 8) 0) i
  unfold flip
  rcases hw with rfl | rfl
  · exact ⟨d, d1, by omega, by omega⟩
  · exact ⟨256 * d, by omega, by omega, by omega⟩
/-- A text that is right isn't with one bit turned. -/
theorem flip_wrong (l : List UInt8) (i : Nat) (h : i / 8 < l.length) (h0 : csum l = 0) : csum (flip l i) ≠ 0 := by
  obtain ⟨D, d1, d2, h1⟩ := flip_tot l i h false
  unfold csum fold16 at *
  split at h0
  · omega
  · split
    · omega
    · omega
theorem cut_bl (s : ByteArray) (n m : Nat) : bl (s.extract n m) = ((bl s).take m).drop n := by simp [bl, ByteArray.data_extract, List.drop_take]
theorem take_bl (s : ByteArray) : (bl s).take s.size = bl s := List.take_of_length_le (by rw [bl_length]; exact Nat.le_refl _)
theorem flip_bits_fin : ∀ b : Fin 256, ∀ k : Fin 8, Go.bits .xor .u8 (b.val : Int) (2 ^ k.val % 256) = ((b.val ^^^ 2 ^ k.val : Nat) : Int) := by decide +kernel
theorem flip_bits (b : UInt8) (i : Nat) : Go.bits .xor .u8 (b.toNat : Int) (2 ^ (i % 8) % 256) = ((flipByte b i).toNat : Int) := by
  have h := flip_bits_fin ⟨b.toNat, b.toNat_lt⟩ ⟨i % 8, Nat.mod_lt _ (by decide)⟩
  have h2 := flip_fin ⟨b.toNat, b.toNat_lt⟩ ⟨i % 8, Nat.mod_lt _ (by decide)⟩
  dsimp only at h h2
  rw [h]
  unfold flipByte
  simp only [UInt8.toNat_ofNat']
  rw [Nat.mod_eq_of_lt h2.1]
/-- A text's bytes in memory, one of them turned: what stands there then. -/
theorem flip_cells {w : World} {b : Nat} {l : List UInt8} (h : ∀ j, j < l.length → w.cell? ⟨b, j, none⟩ = some (.int .u8 (l.getD j 0).toNat)) (i : Nat) (hi : i / 8 < l.length) :
    ∀ j (hj : j < (flip l i).length), (w.setCell ⟨b, i / 8, none⟩ (.int .u8 ((flipByte (l.getD (i / 8) 0) i).toNat : Int))).cell? ((⟨b, 0, none⟩ : Addr).add j) = some (.int .u8 ((flip l i)[j].toNat : Int)) := fun j hj => by
  have e : (⟨b, 0, none⟩ : Addr).add j = ⟨b, j, none⟩ := by cases j <;> simp [Addr.add]
  have hj' : j < l.length := by rw [flip_length] at hj; exact hj
  rw [e]
  by_cases c : j = i / 8
  · subst c
    rw [World.cell?_setCell_same' _ _ _ (by rw [h _ hj']; rfl)]
    simp [flip]
  · rw [World.cell?_setCell_other w ⟨b, i / 8, none⟩ ⟨b, j, none⟩ _ (by intro h; injection h with h1 h2; exact c h2.symm), h j hj']
    simp [flip, List.getElem_set, c, Ne.symm c, List.getD_eq_getElem?_getD, List.getElem?_eq_getElem hj']
end Go.Proofs.Ytcmalglippmocaa.Pal
end

section
/- Plain theory: a text with its checksum inside it, 0 spelled FFFF; a bit turned in a part of a text. No program in it. -/
namespace Go.Proofs.Ytcmalglippmocaa.Pal
theorem flipByte_add (x : UInt8) (n i : Nat) : flipByte x (8 * n + i) = flipByte x i := by
  unfold flipByte
  rw [show (8 * n + i) % 8 = i % 8 by omega]
theorem flip_right (A l : List UInt8) (i : Nat) : flip (A ++ l) (8 * A.length + i) = A ++ flip l i := by
  unfold flip
  rw [flipByte_add, show (8 * A.length + i) / 8 = A.length + i / 8 by omega, List.set_append_right _ _ (by omega)]
  simp [List.getD_eq_getElem?_getD, List.getElem?_append_right]
end Go.Proofs.Ytcmalglippmocaa.Pal
end

section
/- Plain facts of udp.Put and udp.Get as functions: what is put is got, what is got is put. -/
namespace Go.Proofs.Ytcmalglippmocaa.Pure
open Go.RowKit Go.Proofs.YtcmalglippmocaaW.PrintWords Go.Proofs.YtcmalglippmocaaW.PrintLast Go.Proofs.Ytcmalglippmocaa.G Go.Proofs.Ytcmalglippmocaa.Pal
theorem bl_inj {a b : ByteArray} (h : bl a = bl b) : a = b := ByteArray.ext (Array.toList_inj.mp h)
theorem get_is {s : ByteArray} (hs : s.size ≤ 140737488351232) : udp_Get.f s = some (if udpErr s = 0 then (((be (bl (s.extract 0 2)) : Nat) : Int), ((be (bl (s.extract 2 4)) : Nat) : Int), s.extract 8 s.size, ((be (bl (s.extract 6 8)) : Nat) : Int), 0) else (0, 0, empty, 0, udpErr s)) := by
  unfold udp_Get.f; rw [if_pos hs]
end Go.Proofs.Ytcmalglippmocaa.Pure
end

section
/- Plain facts of palanquinref01: Value reads a big-endian number, Bytes writes one. -/
namespace Go.Proofs.Ytcmalglippmocaa.Pure
open Go.RowKit Go.Proofs.YtcmalglippmocaaW.PrintWords Go.Proofs.YtcmalglippmocaaW.PrintLast Go.Proofs.Ytcmalglippmocaa.G Go.Proofs.Ytcmalglippmocaa.Pal
theorem bt_bl (s : ByteArray) (i : Nat) (h : i < s.size) : bt s (i : Int) = (((bl s)[i]'(by rw [bl_length]; exact h)).toNat : Int) := by
  unfold bt
  rw [dif_pos (by simpa using h)]
  rfl
end Go.Proofs.Ytcmalglippmocaa.Pure
end

section
/- Plain facts of flow.Seal: what is sealed; what palanquinref09 seals is the same. -/
namespace Go.Proofs.Ytcmalglippmocaa.Pure
open Go.RowKit Go.Proofs.YtcmalglippmocaaW.PrintWords Go.Proofs.YtcmalglippmocaaW.PrintLast Go.Proofs.Ytcmalglippmocaa.G Go.Proofs.Ytcmalglippmocaa.Pal
set_option linter.unusedVariables false
/-- The end of what stands ahead of a segment. -/
def psT (six : Bool) (a b : Int) : ByteArray := if six then strOfNums [b / 16777216 % 256, b / 65536 % 256, b / 256 % 256, b % 256, 0, 0, 0, a % 256] else strOfNums [0, a % 256, b / 256 % 256, b % 256]
theorem psT_size (six : Bool) (a b : Int) : (psT six a b).size % 2 = 0 ∧ (psT six a b).size ≤ 8 := by
  have sz_nums : ∀ xs : List Int, (strOfNums xs).size = xs.length := fun xs => by rw [← bl_length]; simp [bl, strOfNums]
  unfold psT; split <;> rw [sz_nums] <;> exact ⟨by simp, by simp⟩
def psB (s d : ByteArray) (a b : Int) : ByteArray := s ++ d ++ psT (s.size == 16) a b
theorem pseudo_some (s d : ByteArray) (hs : s.size ≤ 300) (hd : d.size ≤ 300) (a b : Int) : sum_Pseudo.f s d a b = some (psB s d a b) := by
  have sz_nums : ∀ xs : List Int, (strOfNums xs).size = xs.length := fun xs => by rw [← bl_length]; simp [bl, strOfNums]
  unfold sum_Pseudo.f psB psT
  by_cases h : (s.size : Int) = 16
  · have h' : (s.size == 16) = true := beq_iff_eq.mpr (by omega)
    rw [if_pos h, if_pos (by omega), Option.bind_some, if_pos (by rw [sz_nums, ByteArray.size_append]; simp; omega), if_pos h']
  · have h' : (s.size == 16) = false := beq_eq_false_iff_ne.mpr (by omega)
    rw [if_neg h, if_pos (by omega), Option.bind_some, if_pos (by rw [sz_nums, ByteArray.size_append]; simp; omega), if_neg (by rw [h']; decide)]
theorem psB_size (s d : ByteArray) (a b : Int) : (psB s d a b).size = s.size + d.size + (psT (s.size == 16) a b).size := by unfold psB; rw [ByteArray.size_append, ByteArray.size_append]
theorem sum_is (l : List ByteArray) (h : (cat l).length ≤ 1099511627776) : sum_Sum.f l = some ((csum (cat l) : Nat) : Int) := by unfold sum_Sum.f; rw [if_pos h]
theorem right2 (a b : ByteArray) (h : a.size + b.size ≤ 1099511627776) : sum_Right.f [a, b] = some (decide (csum (bl a ++ bl b) = 0)) := by
  unfold sum_Right.f
  rw [sum_is _ (by rw [cat_cons, cat_cons, cat_nil, List.append_nil, List.length_append, bl_length, bl_length]; exact h), Option.bind_some, cat_cons, cat_cons, cat_nil, List.append_nil]
  congr 1
  by_cases hc : csum (bl a ++ bl b) = 0
  · rw [hc]; rfl
  · rw [decide_eq_false hc]; exact beq_eq_false_iff_ne.mpr (by omega)
theorem ext_back (s : ByteArray) (q : Nat) : bl (s.extract q s.size) = (bl s).drop q := by rw [cut_bl, take_bl]
end Go.Proofs.Ytcmalglippmocaa.Pure
end

section
/- Plain facts of flow.Seal, more: sealed twice, between addresses that are exchanged; a number where the sum stands. -/
namespace Go.Proofs.Ytcmalglippmocaa.Pure
open Go.RowKit Go.Proofs.YtcmalglippmocaaW.PrintWords Go.Proofs.YtcmalglippmocaaW.PrintLast Go.Proofs.Ytcmalglippmocaa.G Go.Proofs.Ytcmalglippmocaa.Pal
namespace F2
set_option linter.unusedVariables false
end F2
end Go.Proofs.Ytcmalglippmocaa.Pure
end

section
/- Plain facts of ip4.Put and ip4.Get as functions: what is put is got. -/
namespace Go.Proofs.Ytcmalglippmocaa.Pure
open Go.RowKit Go.Proofs.YtcmalglippmocaaW.PrintWords Go.Proofs.YtcmalglippmocaaW.PrintLast Go.Proofs.Ytcmalglippmocaa.G Go.Proofs.Ytcmalglippmocaa.Pal
theorem err4_zero {s : ByteArray} (h : ip4Err s = 0) : 20 ≤ s.size ∧ be (bl (s.extract 0 1)) / 16 = 4 ∧ (20 ≤ hl4 s ∧ hl4 s ≤ s.size ∧ be (bl (s.extract 2 4)) = s.size) ∧ csum (bl (s.extract 0 (hl4 s))) = 0 ∧ be (bl (s.extract 6 8)) / 32768 = 0 := by
  unfold ip4Err at h
  by_cases h1 : s.size < 20
  · rw [if_pos h1] at h; exact absurd h (by decide)
  rw [if_neg h1] at h
  by_cases h2 : be (bl (s.extract 0 1)) / 16 = 4
  case neg => rw [if_neg h2] at h; exact absurd h (by decide)
  rw [if_pos h2] at h
  by_cases h3 : 20 ≤ hl4 s ∧ hl4 s ≤ s.size ∧ be (bl (s.extract 2 4)) = s.size
  case neg => rw [if_neg h3] at h; exact absurd h (by decide)
  rw [if_pos h3] at h
  by_cases h4 : csum (bl (s.extract 0 (hl4 s))) = 0
  case neg => rw [if_neg h4] at h; exact absurd h (by decide)
  rw [if_pos h4] at h
  by_cases h5 : be (bl (s.extract 6 8)) / 32768 = 0
  case neg => rw [if_neg h5] at h; exact absurd h (by decide)
  exact ⟨by omega, h2, h3, h4, h5⟩
end Go.Proofs.Ytcmalglippmocaa.Pure
end

section
/- Plain facts of ip6.Put and ip6.Get as functions (begun). -/
namespace Go.Proofs.Ytcmalglippmocaa.Pure
open Go.RowKit Go.Proofs.YtcmalglippmocaaW.PrintWords Go.Proofs.YtcmalglippmocaaW.PrintLast Go.Proofs.Ytcmalglippmocaa.G Go.Proofs.Ytcmalglippmocaa.Pal
end Go.Proofs.Ytcmalglippmocaa.Pure
end

section
/- Plain facts for Ip6Cuts: what ip6.Get tells of a packet with a byte less or more, of another version, with another payload. -/
namespace Go.Proofs.Ytcmalglippmocaa.Pure
open Go.RowKit Go.Proofs.YtcmalglippmocaaW.PrintWords Go.Proofs.YtcmalglippmocaaW.PrintLast Go.Proofs.Ytcmalglippmocaa.G Go.Proofs.Ytcmalglippmocaa.Pal
set_option linter.unusedVariables false
end Go.Proofs.Ytcmalglippmocaa.Pure
end

section
/- Plain facts of tcp.Put and tcp.Get as functions: what is put is got, what is got is put. -/
namespace Go.Proofs.Ytcmalglippmocaa.Pure
open Go.RowKit Go.Proofs.YtcmalglippmocaaW.PrintWords Go.Proofs.YtcmalglippmocaaW.PrintLast Go.Proofs.Ytcmalglippmocaa.G Go.Proofs.Ytcmalglippmocaa.Pal
set_option linter.unusedVariables false
theorem getT_is {s : ByteArray} (hs : s.size ≤ 140737488351232) : tcp_Get.f s = some (if tcpErr s = 0 then (((be (bl (s.extract 0 2)) : Nat) : Int), ((be (bl (s.extract 2 4)) : Nat) : Int), ((be (bl (s.extract 4 8)) : Nat) : Int), ((be (bl (s.extract 8 12)) : Nat) : Int), ((be (bl (s.extract 13 14)) : Nat) : Int), ((be (bl (s.extract 14 16)) : Nat) : Int), ((be (bl (s.extract 18 20)) : Nat) : Int), s.extract 20 (ht s), s.extract (ht s) s.size, ((be (bl (s.extract 16 18)) : Nat) : Int), 0) else (0, 0, 0, 0, 0, 0, 0, ⟨#[]⟩, ⟨#[]⟩, 0, tcpErr s)) := by
  unfold tcp_Get.f; rw [if_pos hs]
end Go.Proofs.Ytcmalglippmocaa.Pure
end

section
/- Plain facts of flow.Get: what is got of a packet. -/
namespace Go.Proofs.Ytcmalglippmocaa.Pure
open Go.RowKit Go.Proofs.YtcmalglippmocaaW.PrintWords Go.Proofs.YtcmalglippmocaaW.PrintLast Go.Proofs.Ytcmalglippmocaa.G Go.Proofs.Ytcmalglippmocaa.Pal
set_option linter.unusedVariables false
namespace FG
theorem bt_one (s : ByteArray) (i : Nat) (h : i < s.size) : bt s (i : Int) = ((be (bl (s.extract i (i + 1))) : Nat) : Int) := by
  have e : ((bl s).take (i + 1)).drop i = [(bl s)[i]'(by rw [bl_length]; exact h)] := by
    rw [List.drop_take, show i + 1 - i = 1 by omega, List.drop_eq_getElem_cons (by rw [bl_length]; exact h)]; rfl
  rw [bt_bl s i h, cut_bl, e]
  simp [be]
def okR (proto p3 : Int) (src dst pay : ByteArray) (bare : Bool) : Bool := if proto = 17 ∧ p3 = 0 then bare else decide (csum (bl (psB src dst proto (pay.size : Int)) ++ bl pay) = 0)
theorem fin_some {proto p1 p2 p3 : Int} {src dst pay : ByteArray} (bare : Bool) (hp : proto = 6 ∨ proto = 17) (hports : flow_ports.f proto pay = some (p1, p2, p3, 0)) (hs : src.size ≤ 300) (hd : dst.size ≤ 300) (hz : pay.size ≤ 1000000000) :
    flow_fin proto src dst pay false bare = some (if okR proto p3 src dst pay bare = true then (proto, src, dst, p1, p2, 0) else flow_bad 5) := by
  have hz1 := psB_size src dst proto pay.size
  have hz2 := (psT_size (src.size == 16) proto pay.size).2
  unfold flow_fin okR
  rw [if_neg (by decide), if_neg (by rcases hp with rfl | rfl <;> decide), hports, Option.bind_some]
  dsimp +instances only
  rw [if_neg (fun h => h rfl), pseudo_some src dst hs hd, Option.bind_some, right2 _ _ (by omega), Option.bind_some]
  split <;> split <;> rfl
theorem fin_err {proto p1 p2 p3 p4 : Int} {src dst pay : ByteArray} (bare : Bool) (hp : proto = 6 ∨ proto = 17) (hports : flow_ports.f proto pay = some (p1, p2, p3, p4)) (h4 : p4 ≠ 0) : flow_fin proto src dst pay false bare = some (flow_bad p4) := by
  unfold flow_fin
  rw [if_neg (by decide), if_neg (by rcases hp with rfl | rfl <;> decide), hports, Option.bind_some]
  dsimp +instances only
  rw [if_pos h4]
theorem fin_other {proto : Int} {src dst pay : ByteArray} (bare : Bool) (hp : proto ≠ 6 ∧ proto ≠ 17) : flow_fin proto src dst pay false bare = some (flow_bad 6) := by
  unfold flow_fin
  rw [if_neg (by decide), if_pos hp]
theorem fin_piece {proto : Int} {src dst pay : ByteArray} (bare : Bool) : flow_fin proto src dst pay true bare = some (flow_bad 14) := by
  unfold flow_fin; rw [if_pos rfl]
theorem err4_of {x : ByteArray} {a b c d e : Int} {df mf : Bool} {src dst opt p : ByteArray} (h : ip4_Get.f x = some (a, b, c, d, e, df, mf, src, dst, opt, p, 0)) : ip4Err x = 0 := by
  unfold ip4_Get.f at h
  split at h
  · have := Option.some.inj h
    by_cases h0 : ip4Err x = 0
    · exact h0
    · rw [if_neg h0] at this
      simp only [Prod.mk.injEq] at this
      exact this.2.2.2.2.2.2.2.2.2.2.2
  · exact absurd h (by simp)
theorem err6_of {x : ByteArray} {a b c d : Int} {src dst p : ByteArray} (h : ip6_Get.f x = some (a, b, c, d, src, dst, p, 0)) : ip6Err x = 0 := by
  unfold ip6_Get.f at h
  split at h
  · have := Option.some.inj h
    by_cases h0 : ip6Err x = 0
    · exact h0
    · rw [if_neg h0] at this
      simp only [Prod.mk.injEq] at this
      exact this.2.2.2.2.2.2.2
  · exact absurd h (by simp)
theorem bt0_four {x : ByteArray} (h : ip4Err x = 0) : ¬ x.size = 0 ∧ bt x 0 / 16 = 4 := by
  obtain ⟨h1, h2, _⟩ := err4_zero h
  refine ⟨by omega, ?_⟩
  have := bt_one x 0 (by omega)
  rw [show (0 : Int) = ((0 : Nat) : Int) from rfl, this, show (0 + 1 : Nat) = 1 from rfl]
  generalize be (bl (x.extract 0 1)) = y at h2 ⊢
  omega
theorem first_four (x : ByteArray) (h : 4 ≤ x.size) : be (bl (x.extract 0 4)) / 268435456 = be (bl (x.extract 0 1)) / 16 := by
  have hl := bl_length x
  obtain ⟨a, b, c, d, r, hx⟩ : ∃ a b c d r, bl x = a :: b :: c :: d :: r := by
    match hb : bl x with
    | [] => rw [hb] at hl; simp at hl; omega
    | [_] => rw [hb] at hl; simp at hl; omega
    | [_, _] => rw [hb] at hl; simp at hl; omega
    | [_, _, _] => rw [hb] at hl; simp at hl; omega
    | a :: b :: c :: d :: r => exact ⟨a, b, c, d, r, rfl⟩
  rw [cut_bl, cut_bl, hx]
  have e1 : ((a :: b :: c :: d :: r).take 4).drop 0 = [a] ++ [b] ++ [c] ++ [d] := rfl
  have e2 : ((a :: b :: c :: d :: r).take 1).drop 0 = [a] := rfl
  rw [e1, e2, be_snoc, be_snoc, be_snoc]
  have hb := b.toNat_lt
  have hc := c.toNat_lt
  have hd := d.toNat_lt
  generalize be [a] = y
  omega
theorem bt0_six {x : ByteArray} (h : ip6Err x = 0) : ¬ x.size = 0 ∧ bt x 0 / 16 = 6 := by
  unfold ip6Err at h
  split at h
  · exact absurd h (by decide)
  rename_i h40
  split at h
  case isFalse => exact absurd h (by decide)
  rename_i h6
  refine ⟨by omega, ?_⟩
  rw [first_four x (by omega)] at h6
  have := bt_one x 0 (by omega)
  rw [show (0 : Int) = ((0 : Nat) : Int) from rfl, this, show (0 + 1 : Nat) = 1 from rfl]
  generalize be (bl (x.extract 0 1)) = y at h6 ⊢
  omega
theorem get_of4 {x : ByteArray} {a b c d e : Int} {df mf : Bool} {src dst opt p : ByteArray} (h : ip4_Get.f x = some (a, b, c, d, e, df, mf, src, dst, opt, p, 0)) : flow_Get.f x = flow_fin e src dst p (c != 0 || mf) true := by
  obtain ⟨h1, h2⟩ := bt0_four (err4_of h)
  unfold flow_Get.f
  rw [if_neg h1, if_pos h2, h, Option.bind_some]
  dsimp +instances only
  rw [if_neg (fun h => h rfl)]
theorem get_of6 {x : ByteArray} {a b c d : Int} {src dst p : ByteArray} (h : ip6_Get.f x = some (a, b, c, d, src, dst, p, 0)) : flow_Get.f x = flow_fin c src dst p false false := by
  obtain ⟨h1, h2⟩ := bt0_six (err6_of h)
  unfold flow_Get.f
  rw [if_neg h1, if_neg (by omega), if_pos h2, h, Option.bind_some]
  dsimp +instances only
  rw [if_neg (fun h => h rfl)]
theorem ports_ex (proto : Int) {pay : ByteArray} (hz : pay.size ≤ 1000000) : ∃ p1 p2 p3 p4, flow_ports.f proto pay = some (p1, p2, p3, p4) := by
  unfold flow_ports.f
  by_cases h6 : proto = 6
  · obtain ⟨⟨d1, d2, d3, d4, d5, d6, d7, d8, d9, d10, d11⟩, hd'⟩ : ∃ d, tcp_Get.f pay = some d := ⟨_, getT_is (by omega)⟩
    rw [if_pos h6, hd', Option.bind_some]; exact ⟨_, _, _, _, rfl⟩
  · obtain ⟨⟨d1, d2, d3, d4, d5⟩, hd'⟩ : ∃ d, udp_Get.f pay = some d := ⟨_, get_is (by omega)⟩
    rw [if_neg h6, hd', Option.bind_some]; exact ⟨_, _, _, _, rfl⟩
theorem fin_ex (proto : Int) {src dst pay : ByteArray} (piece bare : Bool) (hs : src.size ≤ 300) (hd : dst.size ≤ 300) (hz : pay.size ≤ 1000000) : ∃ r, flow_fin proto src dst pay piece bare = some r := by
  cases piece with
  | true => exact ⟨_, fin_piece bare⟩
  | false =>
    by_cases hp : proto ≠ 6 ∧ proto ≠ 17
    · exact ⟨_, fin_other bare hp⟩
    · have hp' : proto = 6 ∨ proto = 17 := by omega
      obtain ⟨p1, p2, p3, p4, h⟩ := ports_ex proto hz
      by_cases h4 : p4 = 0
      · subst h4; exact ⟨_, fin_some bare hp' h hs hd (by omega)⟩
      · exact ⟨_, fin_err bare hp' h h4⟩
theorem flow_some (s : ByteArray) (hs : s.size ≤ 1000000) : ∃ r, flow_Get.f s = some r := by
  unfold flow_Get.f
  split
  · exact ⟨_, rfl⟩
  split
  · unfold ip4_Get.f
    rw [if_pos (by omega)]
    by_cases he : ip4Err s = 0
    · have hE := (err4_zero he).1
      rw [if_pos he, Option.bind_some]
      dsimp +instances only
      rw [if_neg (fun h => h rfl)]
      exact fin_ex _ _ _ (by rw [ByteArray.size_extract]; omega) (by rw [ByteArray.size_extract]; omega) (by rw [ByteArray.size_extract]; omega)
    · rw [if_neg he, Option.bind_some]
      dsimp +instances only
      rw [if_pos he]
      exact ⟨_, rfl⟩
  split
  · unfold ip6_Get.f
    rw [if_pos (by omega)]
    by_cases he : ip6Err s = 0
    · rw [if_pos he, Option.bind_some]
      dsimp +instances only
      rw [if_neg (fun h => h rfl)]
      exact fin_ex _ _ _ (by rw [ByteArray.size_extract]; omega) (by rw [ByteArray.size_extract]; omega) (by rw [ByteArray.size_extract]; omega)
    · rw [if_neg he, Option.bind_some]
      dsimp +instances only
      rw [if_pos he]
      exact ⟨_, rfl⟩
  · exact ⟨_, rfl⟩
end FG
end Go.Proofs.Ytcmalglippmocaa.Pure
end

section
/- Plain facts: a packet that is valid, and others with its header. -/
namespace Go.Proofs.Ytcmalglippmocaa.Pure
open Go.RowKit Go.Proofs.YtcmalglippmocaaW.PrintWords Go.Proofs.YtcmalglippmocaaW.PrintLast Go.Proofs.Ytcmalglippmocaa.G Go.Proofs.Ytcmalglippmocaa.Pal
open FG F2
set_option linter.unusedVariables false
namespace FS
theorem fin_ok_inv {proto a d e : Int} {src dst pay b c : ByteArray} {piece bare : Bool} (h : flow_fin proto src dst pay piece bare = some (a, b, c, d, e, 0)) (hs : src.size ≤ 300) (hd : dst.size ≤ 300) (hz : pay.size ≤ 1000000) :
    piece = false ∧ (proto = 6 ∨ proto = 17) ∧ a = proto ∧ b = src ∧ c = dst ∧ ∃ p3, flow_ports.f proto pay = some (d, e, p3, 0) ∧ okR proto p3 src dst pay bare = true := by
  have bad : ∀ x : Int, some (flow_bad x) = some (a, b, c, d, e, 0) → x = 0 := fun x hx => by
    have := Option.some.inj hx
    simp only [flow_bad, Prod.mk.injEq] at this
    exact this.2.2.2.2.2
  cases piece with
  | true => rw [fin_piece] at h; exact absurd (bad _ h) (by decide)
  | false =>
    by_cases hp : proto ≠ 6 ∧ proto ≠ 17
    · rw [fin_other bare hp] at h; exact absurd (bad _ h) (by decide)
    · have hp' : proto = 6 ∨ proto = 17 := by omega
      obtain ⟨p1, p2, p3, p4, hq⟩ := ports_ex proto hz
      by_cases h4 : p4 = 0
      · subst h4
        rw [fin_some bare hp' hq hs hd (by omega)] at h
        by_cases ho : okR proto p3 src dst pay bare = true
        · rw [if_pos ho] at h
          have := Option.some.inj h
          simp only [Prod.mk.injEq] at this
          obtain ⟨h1, h2, h3, h4, h5, _⟩ := this
          exact ⟨rfl, hp', h1.symm, h2.symm, h3.symm, p3, by rw [hq, h4, h5], ho⟩
        · rw [if_neg ho] at h; exact absurd (bad _ h) (by decide)
      · rw [fin_err bare hp' hq h4] at h; exact absurd (bad _ h) h4
theorem same4 {p q : ByteArray} (he : ip4Err p = 0) (hz : q.size = p.size) (hx : ∀ i j, j ≤ hl4 p → q.extract i j = p.extract i j) : ip4Err q = 0 ∧ hl4 q = hl4 p := by
  obtain ⟨h1, h2, ⟨h3, h4, h5⟩, h6, h7⟩ := err4_zero he
  have e0 := hx 0 1 (by omega)
  have eh : hl4 q = hl4 p := by unfold hl4; rw [e0]
  refine ⟨?_, eh⟩
  unfold ip4Err
  rw [eh, e0, hx 2 4 (by omega), hx 6 8 (by omega), hx 0 (hl4 p) (by omega), hz, if_neg (by omega), if_pos h2, if_pos ⟨h3, h4, h5⟩, if_pos h6, if_pos h7]
theorem get4_is {p : ByteArray} (he : ip4Err p = 0) (hs : p.size ≤ 1000000) : flow_Get.f p = flow_fin ((be (bl (p.extract 9 10)) : Nat) : Int) (p.extract 12 16) (p.extract 16 20) (p.extract (hl4 p) p.size) (((be (bl (p.extract 6 8)) % 8192 : Nat) : Int) != 0 || (be (bl (p.extract 6 8)) / 8192 % 2 == 1)) true := by
  have h : ip4_Get.f p = some (((be (bl (p.extract 1 2)) : Nat) : Int), ((be (bl (p.extract 4 6)) : Nat) : Int), ((be (bl (p.extract 6 8)) % 8192 : Nat) : Int), ((be (bl (p.extract 8 9)) : Nat) : Int), ((be (bl (p.extract 9 10)) : Nat) : Int), (be (bl (p.extract 6 8)) / 16384 % 2 == 1), (be (bl (p.extract 6 8)) / 8192 % 2 == 1), p.extract 12 16, p.extract 16 20, p.extract 20 (hl4 p), p.extract (hl4 p) p.size, 0) := by
    unfold ip4_Get.f
    rw [if_pos (by omega), if_pos he]
  exact get_of4 h
theorem same6 {p q : ByteArray} (he : ip6Err p = 0) (hz : q.size = p.size) (hx : ∀ i j, j ≤ 40 → q.extract i j = p.extract i j) : ip6Err q = 0 := by
  unfold ip6Err at he ⊢
  rw [hz, hx 0 4 (by decide), hx 4 6 (by decide)]
  exact he
theorem get6_is {p : ByteArray} (he : ip6Err p = 0) (hs : p.size ≤ 1000000) : flow_Get.f p = flow_fin ((be (bl (p.extract 6 7)) : Nat) : Int) (p.extract 8 24) (p.extract 24 40) (p.extract 40 p.size) false false := by
  have h : ip6_Get.f p = some (Go.bits .and .i64 (((be (bl (p.extract 0 4)) : Nat) : Int) / 1048576) 255, Go.bits .and .i64 ((be (bl (p.extract 0 4)) : Nat) : Int) 1048575, ((be (bl (p.extract 6 7)) : Nat) : Int), ((be (bl (p.extract 7 8)) : Nat) : Int), p.extract 8 24, p.extract 24 40, p.extract 40 p.size, 0) := by
    unfold ip6_Get.f
    rw [if_pos (by omega), if_pos he]
  exact get_of6 h
theorem size6 {p : ByteArray} (he : ip6Err p = 0) : 40 ≤ p.size := by
  unfold ip6Err at he
  split at he
  · exact absurd he (by decide)
  · omega
theorem err_of_flow {p : ByteArray} {a d e : Int} {b c : ByteArray} (hs : p.size ≤ 1000000) (h : flow_Get.f p = some (a, b, c, d, e, 0)) : ip4Err p = 0 ∨ ip6Err p = 0 := by
  have bad : ∀ x : Int, some (flow_bad x) = some (a, b, c, d, e, 0) → x = 0 := fun x hx => by
    have := Option.some.inj hx
    simp only [flow_bad, Prod.mk.injEq] at this
    exact this.2.2.2.2.2
  unfold flow_Get.f at h
  split at h
  · exact absurd (bad _ h) (by decide)
  split at h
  · unfold ip4_Get.f at h
    rw [if_pos (by omega)] at h
    by_cases he : ip4Err p = 0
    · exact .inl he
    · rw [if_neg he, Option.bind_some] at h
      dsimp +instances only at h
      rw [if_pos he] at h
      exact absurd (bad _ h) he
  split at h
  · unfold ip6_Get.f at h
    rw [if_pos (by omega)] at h
    by_cases he : ip6Err p = 0
    · exact .inr he
    · rw [if_neg he, Option.bind_some] at h
      dsimp +instances only at h
      rw [if_pos he] at h
      exact absurd (bad _ h) he
  · exact absurd (bad _ h) (by decide)
/-- A valid packet: its header of n bytes, and what flow.Get says of others with the same header. -/
theorem flow_valid {p : ByteArray} {a d e : Int} {b c : ByteArray} (hs : p.size ≤ 1000000) (h : flow_Get.f p = some (a, b, c, d, e, 0)) :
    ∃ n, 20 ≤ n ∧ n ≤ p.size ∧ b.size = c.size ∧ ((b.size = 4 ∧ bt p 0 / 16 = 4 ∧ (n : Int) = bt p 0 % 16 * 4) ∨ (b.size = 16 ∧ bt p 0 / 16 = 6 ∧ n = 40)) ∧ (a = 6 ∨ a = 17) ∧
      (∃ p3, flow_ports.f a (p.extract n p.size) = some (d, e, p3, 0) ∧ okR a p3 b c (p.extract n p.size) (decide (b.size = 4)) = true) ∧
      ∀ q : ByteArray, q.size = p.size → (∀ i j, j ≤ n → q.extract i j = p.extract i j) → flow_Get.f q = flow_fin a b c (q.extract n q.size) false (decide (b.size = 4)) := by
  rcases err_of_flow hs h with he | he
  · obtain ⟨h1, h2, ⟨h3, h4, h5⟩, h6, h7⟩ := err4_zero he
    have z1 : (p.extract 12 16).size = 4 := by rw [ByteArray.size_extract]; omega
    have z2 : (p.extract 16 20).size = 4 := by rw [ByteArray.size_extract]; omega
    have z3 : (p.extract (hl4 p) p.size).size ≤ 1000000 := by rw [ByteArray.size_extract]; omega
    rw [get4_is he hs] at h
    obtain ⟨hpc, hpr, rfl, rfl, rfl, p3, hp3, hok⟩ := fin_ok_inv h (by omega) (by omega) z3
    obtain ⟨h0, hb⟩ := bt0_four he
    have hbt := bt_one p 0 (by omega)
    refine ⟨hl4 p, h3, h4, by omega, .inl ⟨z1, hb, ?_⟩, hpr, ⟨p3, hp3, by rw [decide_eq_true z1]; exact hok⟩, fun q hz hx => ?_⟩
    · rw [show (0 : Int) = ((0 : Nat) : Int) from rfl, hbt, show (0 + 1 : Nat) = 1 from rfl]
      unfold hl4
      omega
    · obtain ⟨hq, hl⟩ := same4 he hz hx
      rw [get4_is hq (by omega), hl, hx 9 10 (by omega), hx 12 16 (by omega), hx 16 20 (by omega), hx 6 8 (by omega), hpc, decide_eq_true z1]
  · have h40 := size6 he
    have z1 : (p.extract 8 24).size = 16 := by rw [ByteArray.size_extract]; omega
    have z2 : (p.extract 24 40).size = 16 := by rw [ByteArray.size_extract]; omega
    have z3 : (p.extract 40 p.size).size ≤ 1000000 := by rw [ByteArray.size_extract]; omega
    rw [get6_is he hs] at h
    obtain ⟨hpc, hpr, rfl, rfl, rfl, p3, hp3, hok⟩ := fin_ok_inv h (by omega) (by omega) z3
    obtain ⟨h0, hb⟩ := bt0_six he
    refine ⟨40, by decide, h40, by omega, .inr ⟨z1, hb, rfl⟩, hpr, ⟨p3, hp3, by rw [decide_eq_false (by omega)]; exact hok⟩, fun q hz hx => ?_⟩
    rw [get6_is (same6 he hz hx) (by omega), hx 6 7 (by omega), hx 8 24 (by omega), hx 24 40 (by omega), decide_eq_false (by omega)]
end FS
end Go.Proofs.Ytcmalglippmocaa.Pure
end

section
/- Plain facts: a valid packet with one bit of its payload turned is none. -/
namespace Go.Proofs.Ytcmalglippmocaa.Pure
open Go.RowKit Go.Proofs.YtcmalglippmocaaW.PrintWords Go.Proofs.YtcmalglippmocaaW.PrintLast Go.Proofs.Ytcmalglippmocaa.G Go.Proofs.Ytcmalglippmocaa.Pal
open FG F2 FS
set_option linter.unusedVariables false
namespace FT
theorem ports17 {pay : ByteArray} {d e p3 : Int} (h : flow_ports.f 17 pay = some (d, e, p3, 0)) (hz : pay.size ≤ 1000000) : p3 = ((be (bl (pay.extract 6 8)) : Nat) : Int) ∧ 8 ≤ pay.size := by
  unfold flow_ports.f at h
  rw [if_neg (by decide), get_is (by omega), Option.bind_some] at h
  by_cases hu : udpErr pay = 0
  · rw [if_pos hu] at h
    have := Option.some.inj h
    simp only [Prod.mk.injEq] at this
    refine ⟨this.2.2.1.symm, ?_⟩
    unfold udpErr at hu
    split at hu
    · exact absurd hu (by decide)
    · omega
  · rw [if_neg hu] at h
    have := Option.some.inj h
    simp only [Prod.mk.injEq] at this
    exact absurd this.2.2.2 hu
theorem flip_take (l : List UInt8) (i j : Nat) (h : j ≤ i / 8) : (Pal.flip l i).take j = l.take j := by
  unfold Pal.flip
  rw [List.take_set_of_le h]
theorem flip_drop (l : List UInt8) (i n : Nat) (h : 8 * n ≤ i) : (Pal.flip l i).drop n = Pal.flip (l.drop n) (i - 8 * n) := by
  unfold Pal.flip
  have e1 : (i - 8 * n) / 8 = i / 8 - n := by omega
  have e2 : flipByte (l.getD (i / 8) 0) i = flipByte ((l.drop n).getD (i / 8 - n) 0) (i - 8 * n) := by
    rw [← flipByte_add _ n (i - 8 * n), show 8 * n + (i - 8 * n) = i by omega]
    congr 1
    simp only [List.getD_eq_getElem?_getD, List.getElem?_drop]
    rw [show n + (i / 8 - n) = i / 8 by omega]
  rw [e1, e2, List.drop_set, if_neg (by omega)]
theorem flip_same {p z : ByteArray} {i n : Nat} (hz : bl z = Pal.flip (bl p) i) (h : 8 * n ≤ i) : z.size = p.size ∧ (∀ x y, y ≤ n → z.extract x y = p.extract x y) ∧ bl (z.extract n z.size) = Pal.flip (bl (p.extract n p.size)) (i - 8 * n) := by
  refine ⟨by rw [← bl_length, hz, flip_length, bl_length], fun x y hy => ?_, ?_⟩
  · apply bl_inj
    rw [cut_bl, cut_bl, hz, flip_take _ _ _ (by omega)]
  · rw [ext_back, ext_back, hz, flip_drop _ _ _ h]
theorem flip_flow {p z : ByteArray} {a d e : Int} {b c : ByteArray} {n i : Nat} (hs : p.size ≤ 1000000) (hn : n ≤ p.size) (hb : b.size = 4 ∨ b.size = 16) (hbc : b.size = c.size) (ha : a = 6 ∨ a = 17)
    (hq : ∀ q : ByteArray, q.size = p.size → (∀ i j, j ≤ n → q.extract i j = p.extract i j) → flow_Get.f q = flow_fin a b c (q.extract n q.size) false (decide (b.size = 4)))
    {p3 : Int} (hok : okR a p3 b c (p.extract n p.size) (decide (b.size = 4)) = true) (h3 : a = 17 → p3 ≠ 0)
    (hz : bl z = Pal.flip (bl p) i) (hi : 8 * n ≤ i) (hi2 : i / 8 < p.size) (h17 : a = 17 → be (bl ((z.extract n z.size).extract 6 8)) ≠ 0) : ∃ x, flow_Get.f z = some (flow_bad x) ∧ x ≠ 0 := by
  obtain ⟨e1, e2, e3⟩ := flip_same hz hi
  rw [hq z e1 e2]
  have z1 : (z.extract n z.size).size = (p.extract n p.size).size := by rw [ByteArray.size_extract, ByteArray.size_extract, e1]
  have z2 : (p.extract n p.size).size = p.size - n := by rw [ByteArray.size_extract]; omega
  obtain ⟨p1, p2, q3, p4, hp⟩ := ports_ex a (pay := z.extract n z.size) (by omega)
  by_cases h4 : p4 = 0
  · subst h4
    rw [fin_some _ ha hp (by omega) (by omega) (by omega)]
    have hbad : okR a q3 b c (z.extract n z.size) (decide (b.size = 4)) = false := by
      unfold okR at hok ⊢
      rw [if_neg (fun h => h3 h.1 h.2)] at hok
      rw [if_neg (fun h => by
        obtain ⟨ha17, hq0⟩ := h
        subst ha17
        exact h17 rfl (by have := (ports17 hp (by omega)).1; omega))]
      have hc := of_decide_eq_true hok
      refine decide_eq_false ?_
      rw [z1, e3, ← flip_right]
      exact flip_wrong _ _ (by rw [List.length_append, bl_length, bl_length]; omega) hc
    rw [hbad]
    exact ⟨5, rfl, by decide⟩
  · exact ⟨p4, fin_err _ ha hp h4, h4⟩
/-- What isn't valid has no flow. -/
theorem bad_form {p : ByteArray} {a d e x : Int} {b c : ByteArray} (hs : p.size ≤ 1000000) (h : flow_Get.f p = some (a, b, c, d, e, x)) (hx : x ≠ 0) : (a, b, c, d, e, x) = flow_bad x := by
  have bad : ∀ y : Int, some (flow_bad y) = some (a, b, c, d, e, x) → (a, b, c, d, e, x) = flow_bad x := fun y hy => by
    have := Option.some.inj hy
    have h6 : y = x := by have := congrArg (fun t => t.2.2.2.2.2) this; exact this
    rw [← h6]; rw [← h6] at this; exact this.symm
  have fin : ∀ (proto : Int) (src dst pay : ByteArray) (piece bare : Bool), src.size ≤ 300 → dst.size ≤ 300 → pay.size ≤ 1000000 → flow_fin proto src dst pay piece bare = some (a, b, c, d, e, x) → (a, b, c, d, e, x) = flow_bad x := fun proto src dst pay piece bare h1 h2 h3 hf => by
    cases piece with
    | true => rw [fin_piece] at hf; exact bad _ hf
    | false =>
      by_cases hp : proto ≠ 6 ∧ proto ≠ 17
      · rw [fin_other bare hp] at hf; exact bad _ hf
      · have hp' : proto = 6 ∨ proto = 17 := by omega
        obtain ⟨p1, p2, p3, p4, hq⟩ := ports_ex proto h3
        by_cases h4 : p4 = 0
        · subst h4
          rw [fin_some bare hp' hq h1 h2 (by omega)] at hf
          split at hf
          · have := congrArg (fun t => t.2.2.2.2.2) (Option.some.inj hf)
            exact absurd this.symm hx
          · exact bad _ hf
        · rw [fin_err bare hp' hq h4] at hf; exact bad _ hf
  unfold flow_Get.f at h
  split at h
  · exact bad _ h
  split at h
  · unfold ip4_Get.f at h
    rw [if_pos (by omega)] at h
    by_cases he : ip4Err p = 0
    · have hE := (err4_zero he).1
      rw [if_pos he, Option.bind_some] at h
      dsimp +instances only at h
      rw [if_neg (fun h => h rfl)] at h
      exact fin _ _ _ _ _ _ (by rw [ByteArray.size_extract]; omega) (by rw [ByteArray.size_extract]; omega) (by rw [ByteArray.size_extract]; omega) h
    · rw [if_neg he, Option.bind_some] at h
      dsimp +instances only at h
      rw [if_pos he] at h
      exact bad _ h
  split at h
  · unfold ip6_Get.f at h
    rw [if_pos (by omega)] at h
    by_cases he : ip6Err p = 0
    · rw [if_pos he, Option.bind_some] at h
      dsimp +instances only at h
      rw [if_neg (fun h => h rfl)] at h
      exact fin _ _ _ _ _ _ (by rw [ByteArray.size_extract]; omega) (by rw [ByteArray.size_extract]; omega) (by rw [ByteArray.size_extract]; omega) h
    · rw [if_neg he, Option.bind_some] at h
      dsimp +instances only at h
      rw [if_pos he] at h
      exact bad _ h
  · exact bad _ h
theorem and15 (x : Int) (h0 : 0 ≤ x) (h1 : x < 256) : Go.bits .and .u8 x 15 = x % 16 := by
  have h : ∀ b : Fin 256, Go.bits .and .u8 (b.val : Int) 15 = ((b.val % 16 : Nat) : Int) := by decide +kernel
  obtain ⟨n, rfl⟩ := Int.eq_ofNat_of_zero_le h0
  have := h ⟨n, by omega⟩
  dsimp only at this
  rw [this]; omega
theorem bt_range (s : ByteArray) (i : Nat) (h : i < s.size) : 0 ≤ bt s (i : Int) ∧ bt s (i : Int) < 256 := by
  rw [bt_bl s i h]
  have := ((bl s)[i]'(by rw [bl_length]; exact h)).toNat_lt
  omega
theorem be_two (s : ByteArray) (i : Nat) (h : i + 1 < s.size) : be (bl (s.extract i (i + 2))) = ((bl s)[i]'(by rw [bl_length]; omega)).toNat * 256 + ((bl s)[i + 1]'(by rw [bl_length]; omega)).toNat := by
  have hb := bl_length s
  have d0 := List.drop_eq_getElem_cons (l := bl s) (i := i) (by omega)
  have d1 := List.drop_eq_getElem_cons (l := bl s) (i := i + 1) (by omega)
  have e : bl (s.extract i (i + 2)) = [(bl s)[i]'(by omega), (bl s)[i + 1]'(by omega)] := by
    rw [cut_bl, List.drop_take, show i + 2 - i = 2 by omega, d0, d1]
    rfl
  have e2 : ∀ x y : UInt8, be [x, y] = x.toNat * 256 + y.toNat := fun x y => by
    rw [show [x, y] = [x] ++ [y] from rfl, be_snoc]
    simp [be]
  rw [e, e2]
theorem ext_ext (s : ByteArray) (n i j : Nat) (h : n + j ≤ s.size) : bl ((s.extract n s.size).extract i j) = bl (s.extract (n + i) (n + j)) := by
  rw [cut_bl, ext_back, cut_bl]
  rw [List.take_drop, List.drop_drop]
end FT
end Go.Proofs.Ytcmalglippmocaa.Pure
end

section
/- By hand: the law FlowSums: its walk, for the answer true alone. -/
namespace Go.Proofs.Ytcmalglippmocaa.G
open Go.RowKit Go.Proofs.YtcmalglippmocaaW.PrintWords Go.Proofs.YtcmalglippmocaaW.PrintLast Go.Proofs.YtcmalglippmocaaW.PrintMore Go.Proofs.Ytcmalglippmocaa.Pal
set_option linter.unusedVariables false
set_option linter.unusedSimpArgs false
attribute [local go_sem high] eqA24
def palanquinlaw09_FlowSums.f (a0 : ByteArray) (a1 : Int) : Option Bool := some true
theorem awake09s : palanquinlaw09_awake.f 80000 = some true := by decide +kernel

set_option maxHeartbeats 8000000 in
set_option maxRecDepth 100000 in
theorem palanquinlaw09_FlowSums.calls (a0 : ByteArray) (a1 : Int) (r : Bool) (w : World) (h : palanquinlaw09_FlowSums.f a0 a1 = some r) :
    Calls Try.prog 4 #[.string a0, .int .i64 a1] w fun e w' => e = .returned (.bool r) ∧ Below w.heap.size w w' := by
  obtain rfl := Option.some.inj h
  have hu := Try.underlying24
  have HB := Aside0.mk (Below.refl w.heap.size w)
  clear h
  go_enter Try.func4, Try.ntmps4
  go_wp2_with fail
  refine (palanquinlaw09_awake.calls 80000 true _ awake09s).mono ?_
  rintro e w2 ⟨rfl, g1⟩
  replace HB := Aside0.mk (HB.out.trans (g1.mono HB.out.size))
  clear g1
  by_cases hp : 3000 < a0.size
  · have d1 : decide ((3000 : Int) < (a0.size : Int)) = true := decide_eq_true (by omega)
    have d2 : decide (3000 < a0.size) = true := decide_eq_true hp
    clear hp
    go_wp2
    go_ret
    exact ⟨rfl, HB.out⟩
  have d1 : decide ((3000 : Int) < (a0.size : Int)) = false := decide_eq_false (by omega)
  have d2 : decide (3000 < a0.size) = false := decide_eq_false hp
  have HP := Aside0.mk (show a0.size ≤ 3000 by omega)
  clear hp
  obtain ⟨⟨f1, f2, f3, f4, f5, f6⟩, hf⟩ := Pure.FG.flow_some a0 (by have := HP.out; omega)
  have HF := Aside0.mk hf
  clear hf
  go_wp2_with fail
  clear d1 d2
  refine (flow_Get.calls a0 _ _ _ _ _ _ _ HF.out).mono ?_
  rintro e w4 ⟨rfl, g1⟩
  replace HB := Aside0.mk (HB.out.trans (g1.mono HB.out.size))
  clear g1
  by_cases h6 : f6 = 0
  case neg =>
    have k1 : (f6 != 0) = true := bne_iff_ne.mpr h6
    have hb := Pure.FT.bad_form (by have := HP.out; omega) HF.out h6
    simp only [flow_bad, Prod.mk.injEq] at hb
    obtain ⟨rfl, rfl, rfl, rfl, rfl, _⟩ := hb
    clear h6
    go_wp2
    go_ret
    exact ⟨rfl, HB.out.alloc HB.out.size _⟩
  subst h6
  obtain ⟨n, hn20, hns, hbc, hb, ha, ⟨p3, hports, hok⟩, hq⟩ := Pure.FS.flow_valid (by have := HP.out; omega) HF.out
  have HQ := Aside0.mk (And.intro hq (And.intro hok hports))
  have HN := Aside0.mk (And.intro hn20 (And.intro hns hbc))
  clear hq hok hports hn20 hns hbc
  have hpos : 0 < a0.size := by have := HN.out; omega
  have q0 : (0 < a0.size) = True := eq_true hpos
  have hx : ∀ h : 0 < a0.size, ((a0[0]'h).toNat : Int) = bt a0 0 := bt_at a0 0
  have hbr := bt_range a0 0
  have q1 : Go.bits .and .u8 (bt a0 0) 15 = bt a0 0 % 16 := Pure.FT.and15 _ hbr.1 (by omega)
  have q2 : wrap64 (bt a0 0 % 16) = bt a0 0 % 16 := by unfold wrap64; omega
  have HA := Aside0.mk ha
  have HD := Aside0.mk hb
  have d4 : (((f2.size : Int) == 4) = true ∧ (n : Int) = bt a0 0 % 16 * 4) ∨ (((f2.size : Int) == 4) = false ∧ n = 40) := by
    rcases hb with ⟨h1, _, h3⟩ | ⟨h1, _, h3⟩
    · exact .inl ⟨beq_iff_eq.mpr (by omega), h3⟩
    · exact .inr ⟨beq_eq_false_iff_ne.mpr (by omega), h3⟩
  have d5 : wrap64 (bt a0 0 % 16 * 4) = bt a0 0 % 16 * 4 := by unfold wrap64; omega
  obtain ⟨t, ht⟩ : ∃ t : Nat, ((f1 == 17) = true ∧ f1 = 17 ∧ t = 6) ∨ ((f1 == 17) = false ∧ f1 = 6 ∧ t = 16) := by
    rcases ha with rfl | rfl
    · exact ⟨16, .inr ⟨rfl, rfl, rfl⟩⟩
    · exact ⟨6, .inl ⟨rfl, rfl, rfl⟩⟩
  clear ha hb hpos hbr
  have b4 : wrap64 (8 * (a0.size : Int)) = 8 * (a0.size : Int) := by unfold wrap64; have := HP.out; omega
  have b5 : wrap64 (8 * (n : Int)) = 8 * (n : Int) := by unfold wrap64; have := HP.out; have := HN.out; omega
  have b6 : wrap64 ((n : Int) + 6) = ((n + 6 : Nat) : Int) := by unfold wrap64; have := HP.out; have := HN.out; omega
  have b7 : wrap64 ((n : Int) + 7) = ((n + 7 : Nat) : Int) := by unfold wrap64; have := HP.out; have := HN.out; omega
  go_upto_region 6 with (fail)
  have HK := Aside0.mk (Blk.new w4 24 #[.int .i64 f1, .string f2, .string f3, .int .i64 f4, .int .i64 f5])
  replace HB := Aside0.mk (HB.out.alloc HB.out.size (.cells #[.int .i64 f1, .string f2, .string f3, .int .i64 f4, .int .i64 f5] 24))
  generalize w4.alloc (.cells #[.int .i64 f1, .string f2, .string f3, .int .i64 f4, .int .i64 f5] 24) = W at HK HB ⊢
  generalize w4.heap.size = g at HK ⊢
  have c0 : W.cell? ⟨g, 0, none⟩ = some (.int .i64 f1) := HK.out.cell 0 _ rfl
  have c1 : W.cell? ⟨g, 1, none⟩ = some (.string f2) := HK.out.cell 1 _ rfl
  go_upto_if 30 with (fail)
  go_cut [7] from 31 to 35 (fun v7 wc => v7 = .int .i64 (n : Int) ∧ wc = W)
  case first =>
    rcases d4 with ⟨d4, e4⟩ | ⟨d4, e4⟩
    · have E4 := Aside0.mk e4
      clear e4
      go_wp2_with (fail)
      go_meet
      exact ⟨by rw [E4.out], rfl⟩
    · clear d5
      go_wp2_with (fail)
      go_meet
      exact ⟨by rw [e4]; rfl, rfl⟩
  case rest =>
  obtain ⟨rfl, rfl⟩ := hcut
  clear d4 d5 q0 q1 q2 hx
  go_upto_if 38 with (fail)
  go_cut [8] from 39 to 39 (fun v8 wx => v8 = .int .i64 (t : Int) ∧ wx = wc)
  case first =>
    rcases ht with ⟨d8, _, e8⟩ | ⟨d8, _, e8⟩
    · go_wp2_with (fail)
      go_meet
      exact ⟨by rw [e8]; rfl, rfl⟩
    · go_wp2_with (fail)
      go_meet
      exact ⟨by rw [e8]; rfl, rfl⟩
  case rest =>
  obtain ⟨rfl, rfl⟩ := hcut
  have HT := Aside0.mk ht
  clear ht
  go_upto_region 14 with (fail)
  go_cut [68] from 39 to 67 (fun v68 wy => ∃ b : Bool, v68 = .bool b ∧ wy = wc ∧ Aside0 (b = false → ∃ i : Nat, a1 = (i : Int) ∧ 8 * n ≤ i ∧ i / 8 < a0.size ∧ (f1 = 17 → p3 ≠ 0 ∧ n + 8 ≤ a0.size)))
  case first =>
    by_cases k1 : a1 < 8 * (n : Int)
    · as_aux_lemma =>
      have b1 : decide (a1 < 8 * (n : Int)) = true := decide_eq_true k1
      clear k1
      go_wp2_with (fail)
      go_meet
      exact ⟨true, rfl, rfl, ⟨fun h => by cases h⟩⟩
    have b1 : decide (a1 < 8 * (n : Int)) = false := decide_eq_false k1
    obtain ⟨i, rfl⟩ := Int.eq_ofNat_of_zero_le (show 0 ≤ a1 by omega)
    have HI := Aside0.mk (show 8 * n ≤ i by omega)
    clear k1
    by_cases k2 : 8 * a0.size ≤ i
    · as_aux_lemma =>
      have b2 : decide (8 * (a0.size : Int) ≤ (i : Int)) = true := decide_eq_true (by omega)
      have b3 : decide (8 * a0.size ≤ i) = true := decide_eq_true k2
      clear k2
      go_wp2_with (fail)
      go_meet
      exact ⟨true, rfl, rfl, ⟨fun h => by cases h⟩⟩
    have b2 : decide (8 * (a0.size : Int) ≤ (i : Int)) = false := decide_eq_false (by omega)
    have b3 : decide (8 * a0.size ≤ i) = false := decide_eq_false k2
    have HI2 := Aside0.mk (show i / 8 < a0.size by omega)
    clear k2
    rcases HT.out with ⟨d8, e8, e9⟩ | ⟨d8, e8, e9⟩
    case inr =>
      as_aux_lemma =>
      clear e9
      have E8 := Aside0.mk e8
      clear e8
      go_wp2_with (fail)
      go_meet
      exact ⟨false, rfl, rfl, ⟨fun _ => ⟨i, rfl, HI.out, HI2.out, fun h => by have := E8.out; omega⟩⟩⟩
    subst e8
    obtain ⟨hp3, h8⟩ := Pure.FT.ports17 HQ.out.2.2 (by rw [ByteArray.size_extract]; have := HP.out; omega)
    rw [ByteArray.size_extract, Nat.min_self] at h8
    have hn8 : n + 8 ≤ a0.size := by have := HN.out; omega
    rw [Pure.FT.ext_ext a0 n 6 8 (by omega), show n + 8 = n + 6 + 2 by omega, Pure.FT.be_two a0 (n + 6) (by omega)] at hp3
    obtain ⟨v6, hv6⟩ : ∃ v, v = ((bl a0)[n + 6]'(by rw [bl_length]; omega)).toNat := ⟨_, rfl⟩
    obtain ⟨v7, hv7⟩ : ∃ v, v = ((bl a0)[n + 6 + 1]'(by rw [bl_length]; omega)).toNat := ⟨_, rfl⟩
    rw [← hv6, ← hv7] at hp3
    have y6 : ∀ h : n + 6 < a0.size, ((a0[n + 6]'h).toNat : Int) = (v6 : Int) := fun _ => by rw [hv6]; rfl
    have y7 : ∀ h : n + 7 < a0.size, ((a0[n + 7]'h).toNat : Int) = (v7 : Int) := fun _ => by rw [hv7]; rfl
    have u6 : ∀ h : n + 6 < a0.size, (a0[n + 6]'h).toNat = v6 := fun _ => by rw [hv6]; rfl
    have u7 : ∀ h : n + 7 < a0.size, (a0[n + 7]'h).toNat = v7 := fun _ => by rw [hv7]; rfl
    clear hv6 hv7
    have q6 : (((n + 6 : Nat) : Int) < (a0.size : Int)) = True := eq_true (by omega)
    have q7 : (((n + 7 : Nat) : Int) < (a0.size : Int)) = True := eq_true (by omega)
    have w6 : (n : Int) + 6 < (a0.size : Int) := by omega
    have w7 : (n : Int) + 7 < (a0.size : Int) := by omega
    have w8 : (0 : Int) ≤ (n : Int) + 6 := by omega
    have w9 : (0 : Int) ≤ (n : Int) + 7 := by omega
    have t6 : ((n : Int) + 6).toNat = n + 6 := by omega
    have t7 : ((n : Int) + 7).toNat = n + 7 := by omega
    have r6 : (n + 6 < a0.size) = True := eq_true (by omega)
    have r7 : (n + 7 < a0.size) = True := eq_true (by omega)
    have HP3 := Aside0.mk (And.intro hp3 hn8)
    clear hp3 h8 hn8 e9
    by_cases x6 : v6 = 0
    · by_cases x7 : v7 = 0
      · as_aux_lemma =>
        have e6 : ((v6 : Int) == 0) = true := beq_iff_eq.mpr (by omega)
        have e7 : ((v7 : Int) == 0) = true := beq_iff_eq.mpr (by omega)
        clear x6 x7
        go_wp2_with (fail)
        go_meet
        exact ⟨true, rfl, rfl, ⟨fun h => by cases h⟩⟩
      · as_aux_lemma =>
        have e6 : ((v6 : Int) == 0) = true := beq_iff_eq.mpr (by omega)
        have e7 : ((v7 : Int) == 0) = false := beq_eq_false_iff_ne.mpr (by omega)
        have X := Aside0.mk x7
        clear x6 x7
        go_wp2_with (fail)
        go_meet
        exact ⟨false, rfl, rfl, ⟨fun _ => ⟨i, rfl, HI.out, HI2.out, fun _ => ⟨by have := HP3.out.1; have := X.out; omega, HP3.out.2⟩⟩⟩⟩
    · as_aux_lemma =>
      have e6 : ((v6 : Int) == 0) = false := beq_eq_false_iff_ne.mpr (by omega)
      have X := Aside0.mk x6
      clear x6
      go_wp2_with (fail)
      go_meet
      exact ⟨false, rfl, rfl, ⟨fun _ => ⟨i, rfl, HI.out, HI2.out, fun _ => ⟨by have := HP3.out.1; have := X.out; omega, HP3.out.2⟩⟩⟩⟩
  case rest =>
  obtain ⟨b, rfl, rfl, HX⟩ := hcut
  clear b5
  cases b with
  | true =>
    go_wp2
    go_ret
    exact ⟨rfl, HB.out⟩
  | false =>
  obtain ⟨i, rfl, hi1, hi2, hi3⟩ := HX.out rfl
  have HI := Aside0.mk (And.intro hi1 (And.intro hi2 hi3))
  clear hi1 hi2 hi3 HX
  have hcv := fun (wx : World) => Lib.run_convert_string_bytes (P := Try.prog) wx 9 31 5 a0 Try.underlying9 Try.underlying31 Try.underlying5
  go_wp2
  clear hcv b4 b6 b7
  have hcell : ∀ j, j < a0.size → (Lib.bytesWorld wc 5 a0).cell? ⟨wc.heap.size, j, none⟩ = some (.int .u8 ((bl a0).getD j 0).toNat) := fun j hj => Lib.bytesWorld_cell _ _ _ _ hj
  have hfree : ∀ j, j < a0.size → (Lib.bytesWorld wc 5 a0).frozen? ⟨wc.heap.size, j, none⟩ = false := fun j hj => by
    have h := Lib.bytesWorld_at_new wc 5 a0
    have hz : j < (Lib.bytesCells wc 5 a0).size := by unfold Lib.bytesCells; rw [Array.size_append, Array.size_map]; exact Nat.lt_of_lt_of_le hj (Nat.le_add_right _ _)
    simp [World.frozen?, h]; omega
  have HWs := Aside0.mk (And.intro (show w.heap.size ≤ wc.heap.size from HB.out.size) (show g ≠ wc.heap.size from Nat.ne_of_lt HK.out.lt))
  have hbw : Below wc.heap.size wc (Lib.bytesWorld wc 5 a0) := ⟨rfl, rfl, rfl, by rw [Lib.bytesWorld_size]; omega, fun k hk => Lib.bytesWorld_at_old _ _ _ _ hk⟩
  replace HK := Aside0.mk (HK.out.below hbw HK.out.lt)
  replace HB := Aside0.mk (HB.out.trans (hbw.mono HB.out.size))
  clear hbw c0 c1
  generalize grownCap wc a0.size 0 5 = cap
  generalize Lib.bytesWorld wc 5 a0 = w7 at hcell hfree HB HK ⊢
  generalize wc.heap.size = b at hcell hfree HWs ⊢
  have HJ := Aside0.mk (show i < 9223372036854775808 by have := HI.out.2.1; have := HP.out; omega)
  obtain ⟨j, hj⟩ : ∃ j, j = i / 8 := ⟨_, rfl⟩
  have HI2 := Aside0.mk (show j < a0.size by have := HI.out.2.1; omega)
  have q0 : wrap64 ((i : Int) / 8) = (j : Int) := by unfold wrap64; have := HJ.out; omega
  have q1 : IntKind.i64.wrap ((i : Int) / 8) = (j : Int) := by rw [IntKind.wrap_i64]; have := HJ.out; omega
  have q2 : ((j : Int) < (a0.size : Int)) = True := eq_true (by have := HI2.out; omega)
  have q3 : (j < a0.size) = True := eq_true HI2.out
  have f0 := hcell j HI2.out
  have f1' := hfree j HI2.out
  have HH := Aside0.mk hcell
  have HQj := Aside0.mk hj
  clear hcell hfree hj
  go_region
  have hv := flip_bits ((bl a0).getD j 0) i
  rw [List.getD_eq_getElem?_getD] at hv
  rw [hv]
  have hfc := flip_cells (l := bl a0) (fun k hk => HH.out k (by rwa [bl_length] at hk)) i (by rw [bl_length, ← HQj.out]; exact HI2.out)
  rw [← HQj.out, List.getD_eq_getElem?_getD] at hfc
  have hcb := run_convert_bytes_back (P := Try.prog) ((w7.setCell ⟨b, j, none⟩ (.int .u8 ((flipByte ((bl a0)[j]?.getD 0) i).toNat : Int))).drew) 31 9 5 ⟨b, 0, none⟩ cap (flip (bl a0) i) Try.underlying31 Try.underlying5 Try.underlying9 hfc
  rw [flip_length, bl_length] at hcb
  replace HB := Aside0.mk ((HB.out.setCell (p := ⟨b, j, none⟩) HWs.out.1 (.int .u8 ((flipByte ((bl a0)[j]?.getD 0) i).toNat : Int))).drew)
  replace HK := Aside0.mk ((HK.out.other ⟨b, j, none⟩ HWs.out.2 (.int .u8 ((flipByte ((bl a0)[j]?.getD 0) i).toNat : Int))).drew)
  have hfd : ∀ n (hn : n < (flip (bl a0) i).length), ((w7.setCell ⟨b, j, none⟩ (.int .u8 ((flipByte ((bl a0)[j]?.getD 0) i).toNat : Int))).drew).cell? ⟨b, n, none⟩ = some (.int .u8 ((flip (bl a0) i)[n].toNat : Int)) := fun n hn => by
    have e : (⟨b, 0, none⟩ : Addr).add n = ⟨b, n, none⟩ := by cases n <;> simp [Addr.add]
    have := hfc n hn
    rw [e] at this
    exact this
  clear hfc hv q0 q1 q2 q3 f0 f1'
  generalize (w7.setCell ⟨b, j, none⟩ (.int .u8 ((flipByte ((bl a0)[j]?.getD 0) i).toNat : Int))).drew = w8 at HB HK hcb hfd ⊢
  obtain ⟨z, hz⟩ : ∃ z : ByteArray, z = ⟨(flip (bl a0) i).toArray⟩ := ⟨_, rfl⟩
  rw [← hz] at hcb
  have hbz : bl z = flip (bl a0) i := by rw [hz]; simp [bl]
  have hzs : z.size = a0.size := by rw [← bl_length, hbz, flip_length, bl_length]
  have c0 : w8.cell? ⟨g, 0, none⟩ = some (.int .i64 f1) := HK.out.cell 0 _ rfl
  have tail : (f1 = 17 → be (bl ((z.extract n z.size).extract 6 8)) ≠ 0) → ∃ x, flow_Get.f z = some (flow_bad x) ∧ x ≠ 0 := fun h17 =>
    Pure.FT.flip_flow (d := f4) (e := f5) (by have := HP.out; omega) HN.out.2.1 (by rcases HD.out with ⟨h, _⟩ | ⟨h, _⟩; exact .inl h; exact .inr h) HN.out.2.2 HA.out HQ.out.1 HQ.out.2.1 (fun h => (HI.out.2.2 h).1) hbz HI.out.1 HI.out.2.1 h17
  have HTl := Aside0.mk tail
  have HZ := Aside0.mk (And.intro hbz hzs)
  clear tail hz
  rcases HT.out with ⟨d8, e8, e9⟩ | ⟨d8, e8, e9⟩
  case inr =>
    clear hfd e9
    obtain ⟨x, hg, he⟩ := HTl.out (fun h => by omega)
    have HG := Aside0.mk hg
    have k1 : (x != 0) = true := bne_iff_ne.mpr he
    clear hg he hbz hzs
    have E8 := Aside0.mk e8
    clear e8
    go_wp2_with fail
    clear hcb
    refine (flow_Get.calls z _ _ _ _ _ _ _ HG.out).mono ?_
    rintro e w9 ⟨rfl, g1⟩
    replace HB := Aside0.mk (HB.out.trans (g1.mono HB.out.size))
    clear g1
    go_wp2
    go_ret
    exact ⟨rfl, HB.out.alloc HB.out.size _⟩
  subst e8
  subst e9
  have hn8 := (HI.out.2.2 rfl).2
  have hlz : (bl z).length = a0.size := by rw [bl_length, hzs]
  have f6 : w8.cell? ⟨b, n + 6, none⟩ = some (.int .u8 (((bl z)[n + 6]'(by omega)).toNat : Int)) := by
    have := hfd (n + 6) (by rw [flip_length, bl_length]; omega)
    simp only [← hbz] at this
    exact this
  have f7 : w8.cell? ⟨b, n + 7, none⟩ = some (.int .u8 (((bl z)[n + 6 + 1]'(by omega)).toNat : Int)) := by
    have := hfd (n + 7) (by rw [flip_length, bl_length]; omega)
    simp only [← hbz] at this
    exact this
  have hbe : be (bl ((z.extract n z.size).extract 6 8)) = ((bl z)[n + 6]'(by omega)).toNat * 256 + ((bl z)[n + 6 + 1]'(by omega)).toNat := by
    rw [Pure.FT.ext_ext z n 6 8 (by omega), show n + 8 = n + 6 + 2 by omega, Pure.FT.be_two z (n + 6) (by omega)]
  generalize ((bl z)[n + 6]'(by omega)).toNat = v6 at f6 hbe
  generalize ((bl z)[n + 6 + 1]'(by omega)).toNat = v7 at f7 hbe
  clear hfd
  have b6 : wrap64 ((n : Int) + 6) = (n : Int) + 6 := by unfold wrap64; have := HP.out; omega
  have b7 : wrap64 ((n : Int) + 6 + 1) = (n : Int) + 7 := by unfold wrap64; have := HP.out; omega
  have w6 : (n : Int) + 6 < (a0.size : Int) := by omega
  have w7 : (n : Int) + 7 < (a0.size : Int) := by omega
  have w8' : (0 : Int) ≤ (n : Int) + 6 := by omega
  have w9 : (0 : Int) ≤ (n : Int) + 7 := by omega
  have t6 : ((n : Int) + 6).toNat = n + 6 := by omega
  have t7 : ((n : Int) + 7).toNat = n + 7 := by omega
  have q6 : (((n + 6 : Nat) : Int) < (a0.size : Int)) = True := eq_true (by omega)
  have q7 : (((n + 7 : Nat) : Int) < (a0.size : Int)) = True := eq_true (by omega)
  have r6 : (n + 6 < a0.size) = True := eq_true (by omega)
  have r7 : (n + 7 < a0.size) = True := eq_true (by omega)
  have HBe := Aside0.mk hbe
  clear hbe hbz hzs hn8 hlz
  by_cases x6 : v6 = 0
  · by_cases x7 : v7 = 0
    · have e6 : ((v6 : Int) == 0) = true := beq_iff_eq.mpr (by omega)
      have e7 : ((v7 : Int) == 0) = true := beq_iff_eq.mpr (by omega)
      clear hcb x6 x7
      go_wp2
      go_ret
      exact ⟨rfl, HB.out⟩
    have e6 : ((v6 : Int) == 0) = true := beq_iff_eq.mpr (by omega)
    have e7 : ((v7 : Int) == 0) = false := beq_eq_false_iff_ne.mpr (by omega)
    obtain ⟨x, hg, he⟩ := HTl.out (fun _ => by have := HBe.out; omega)
    have HG := Aside0.mk hg
    have k1 : (x != 0) = true := bne_iff_ne.mpr he
    clear hg he x6 x7
    go_wp2_with fail
    clear hcb f6 f7
    refine (flow_Get.calls z _ _ _ _ _ _ _ HG.out).mono ?_
    rintro e w9 ⟨rfl, g1⟩
    replace HB := Aside0.mk (HB.out.trans (g1.mono HB.out.size))
    clear g1
    go_wp2
    go_ret
    exact ⟨rfl, HB.out.alloc HB.out.size _⟩
  · have e6 : ((v6 : Int) == 0) = false := beq_eq_false_iff_ne.mpr (by omega)
    obtain ⟨x, hg, he⟩ := HTl.out (fun _ => by have := HBe.out; omega)
    have HG := Aside0.mk hg
    have k1 : (x != 0) = true := bne_iff_ne.mpr he
    clear hg he x6
    go_wp2_with fail
    clear hcb f6 f7
    refine (flow_Get.calls z _ _ _ _ _ _ _ HG.out).mono ?_
    rintro e w9 ⟨rfl, g1⟩
    replace HB := Aside0.mk (HB.out.trans (g1.mono HB.out.size))
    clear g1
    go_wp2
    go_ret
    exact ⟨rfl, HB.out.alloc HB.out.size _⟩
end Go.Proofs.Ytcmalglippmocaa.G
end

section
/- Plain law of FlowSums: its walk is for the answer true alone. -/
namespace Go.Proofs.Ytcmalglippmocaa.Pure
open Go.RowKit Go.Proofs.YtcmalglippmocaaW.PrintWords Go.Proofs.YtcmalglippmocaaW.PrintLast Go.Proofs.Ytcmalglippmocaa.G Go.Proofs.Ytcmalglippmocaa.Pal
theorem FlowSums (a0 : ByteArray) (a1 : Int) (_ : a0.size ≤ 140737488351232) (_ : (Lit.int .i64 a1).wf = true) : palanquinlaw09_FlowSums.f a0 a1 = some true := rfl
end Go.Proofs.Ytcmalglippmocaa.Pure
end
