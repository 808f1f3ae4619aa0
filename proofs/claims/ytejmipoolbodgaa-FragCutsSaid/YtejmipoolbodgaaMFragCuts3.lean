/- Texts of this session, joined: each is a section. -/
import Derived.Test.YtejmipoolbodgaaMFrbg1
import Derived.Test.YtejmipoolbodgaaMFrbg6
import Derived.Test.YtejmipoolbodgaaMFragCuts2
import Derived.Test.YtejmipoolbodgaaMFragCuts1
set_option linter.unusedVariables false
set_option linter.unusedSimpArgs false
section
namespace Go.Proofs.Ytejmipoolbodgaa.G
open Go.RowKit Go.Proofs.YtejmipoolbodgaaW.PrintWords Go.Proofs.YtejmipoolbodgaaW.PrintLast Go.Proofs.YtejmipoolbodgaaW.PrintMore
attribute [local go_sem] max2_int min2_int max_two min_two max_three min_three max_four min_four   -- for this text's walks alone
set_option linter.unusedVariables false
set_option linter.unusedSimpArgs false

mutual
def palanquinref15_Cut.j0 : Nat → ByteArray → Int → ByteArray → Bool → Int → Int → Int → Int → Int → Bool → Bool → ByteArray → ByteArray → ByteArray → Option (List ByteArray × Int)
 | 0, _, _, _, _, _, _, _, _, _, _, _, _, _, _ => none
 | k + 1, x0, x1, x7, x31, x900000, x900001, x900002, x900003, x900004, x900005, x900006, x900007, x900008, x900009 => if x31 = true then (some (([] : List ByteArray), 1)) else (if (x0.size : Int) ≤ x1 then (some ((([x0] : List ByteArray)), 0)) else (if x900005 = true then (some (([] : List ByteArray), 8)) else ((palanquinref15_Part.f (wrap64 (20 + (x900009.size : Int))) x1).bind fun t903 => (if t903 = 0 then (some (([] : List ByteArray), 1)) else (palanquinref15_Cut.l0 k t903 ([] : List ByteArray) x7 x900000 x900001 x900002 x900003 x900004 x900005 x900006 x900007 x900008 x900009 x900000 x900001 x900002 x900003 x900004 x900005 x900006 x900007 x900008 x900009)))))
def palanquinref15_Cut.l0 : Nat → Int → List ByteArray → ByteArray → Int → Int → Int → Int → Int → Bool → Bool → ByteArray → ByteArray → ByteArray → Int → Int → Int → Int → Int → Bool → Bool → ByteArray → ByteArray → ByteArray → Option (List ByteArray × Int)
 | 0, _, _, _, _, _, _, _, _, _, _, _, _, _, _, _, _, _, _, _, _, _, _, _ => none
 | k + 1, x9, x10, x11, x900000, x900001, x900002, x900003, x900004, x900005, x900006, x900007, x900008, x900009, x905000, x905001, x905002, x905003, x905004, x905005, x905006, x905007, x905008, x905009 => if (x11.size : Int) > x9 then (if 0 ≤ x9 then (if x9 ≤ (x11.size : Int) then ((palanquinref05_Put.f k x905000 x905001 x905002 x905003 x905004 x905005 true x905007 x905008 x905009 (x11.extract 0 (x9 : Int).toNat)).bind fun bt905 => (if x10.length < 8796093022208 then (if (wrap64 (x905002 + (wrap64 (Int.tdiv x9 8)))) > 8191 then (some (([] : List ByteArray), 4)) else (palanquinref15_Cut.l0 k x9 (x10 ++ [bt905.1]) (x11.extract (x9 : Int).toNat x11.size) x900000 x900001 x900002 x900003 x900004 x900005 x900006 x900007 x900008 x900009 x905000 x905001 (wrap64 (x905002 + (wrap64 (Int.tdiv x9 8)))) x905003 x905004 x905005 true x905007 x905008 x905009)) else (none))) else (none)) else (none)) else ((palanquinref05_Put.f k x905000 x905001 x905002 x905003 x905004 x905005 x900006 x905007 x905008 x905009 x11).bind fun bt910 => (if x10.length < 8796093022208 then (some ((x10 ++ [bt910.1]), 0)) else (none)))
end
def palanquinref15_Cut.f (k : Nat) (a0 : ByteArray) (a1 : Int) : Option (List ByteArray × Int) := (palanquinref05_Get.f k a0).bind fun bt887 => (if bt887.2.2.2.2.2.2.2.2.2.2.2 = 0 then (if a1 < 28 then (palanquinref15_Cut.j0 k a0 a1 bt887.2.2.2.2.2.2.2.2.2.2.1 true bt887.1 bt887.2.1 bt887.2.2.1 bt887.2.2.2.1 bt887.2.2.2.2.1 bt887.2.2.2.2.2.1 bt887.2.2.2.2.2.2.1 bt887.2.2.2.2.2.2.2.1 bt887.2.2.2.2.2.2.2.2.1 bt887.2.2.2.2.2.2.2.2.2.1) else (palanquinref15_Cut.j0 k a0 a1 bt887.2.2.2.2.2.2.2.2.2.2.1 (decide (a1 > 65535)) bt887.1 bt887.2.1 bt887.2.2.1 bt887.2.2.2.1 bt887.2.2.2.2.1 bt887.2.2.2.2.2.1 bt887.2.2.2.2.2.2.1 bt887.2.2.2.2.2.2.2.1 bt887.2.2.2.2.2.2.2.2.1 bt887.2.2.2.2.2.2.2.2.2.1)) else (some (([] : List ByteArray), bt887.2.2.2.2.2.2.2.2.2.2.2)))
theorem palanquinref15_Cut.mono_l : ∀ k, (∀ y0 y1 y2 y3 y4 y5 y6 y7 y8 y9 y10 y11 y12 y13, LeO (palanquinref15_Cut.j0 k y0 y1 y2 y3 y4 y5 y6 y7 y8 y9 y10 y11 y12 y13) (palanquinref15_Cut.j0 (k + 1) y0 y1 y2 y3 y4 y5 y6 y7 y8 y9 y10 y11 y12 y13)) ∧ (∀ y0 y1 y2 y3 y4 y5 y6 y7 y8 y9 y10 y11 y12 y13 y14 y15 y16 y17 y18 y19 y20 y21 y22, LeO (palanquinref15_Cut.l0 k y0 y1 y2 y3 y4 y5 y6 y7 y8 y9 y10 y11 y12 y13 y14 y15 y16 y17 y18 y19 y20 y21 y22) (palanquinref15_Cut.l0 (k + 1) y0 y1 y2 y3 y4 y5 y6 y7 y8 y9 y10 y11 y12 y13 y14 y15 y16 y17 y18 y19 y20 y21 y22))
 | 0 => ⟨fun _ _ _ _ _ _ _ _ _ _ _ _ _ _ r h => by simp [palanquinref15_Cut.j0] at h, fun _ _ _ _ _ _ _ _ _ _ _ _ _ _ _ _ _ _ _ _ _ _ _ r h => by simp [palanquinref15_Cut.l0] at h⟩
 | k + 1 => by
  obtain ⟨ih0, ih1⟩ := palanquinref15_Cut.mono_l k
  refine ⟨?_, ?_⟩
  ·intro y0 y1 y2 y3 y4 y5 y6 y7 y8 y9 y10 y11 y12 y13
   unfold palanquinref15_Cut.j0
   repeat' first
   | (with_reducible exact ih0 _ _ _ _ _ _ _ _ _ _ _ _ _ _)
   | (with_reducible exact ih1 _ _ _ _ _ _ _ _ _ _ _ _ _ _ _ _ _ _ _ _ _ _ _)
   | (with_reducible exact palanquinref05_Get.mono _ _)
   | (with_reducible exact palanquinref05_Put.mono _ _ _ _ _ _ _ _ _ _ _ _)
   | (with_reducible exact LeO.refl _)
   | (with_reducible exact LeO.none _)
   | (with_reducible refine LeO.ite ?_ ?_)
   | (with_reducible refine LeO.bind ?_ (fun _ => ?_))
   | exact ih0 _ _ _ _ _ _ _ _ _ _ _ _ _ _
   | exact ih1 _ _ _ _ _ _ _ _ _ _ _ _ _ _ _ _ _ _ _ _ _ _ _
   | exact palanquinref05_Get.mono _ _
   | exact palanquinref05_Put.mono _ _ _ _ _ _ _ _ _ _ _ _
   | exact LeO.none _
   | refine LeO.ite ?_ ?_
   | refine LeO.bind ?_ (fun _ => ?_)
  ·intro y0 y1 y2 y3 y4 y5 y6 y7 y8 y9 y10 y11 y12 y13 y14 y15 y16 y17 y18 y19 y20 y21 y22
   unfold palanquinref15_Cut.l0
   repeat' first
   | (with_reducible exact ih0 _ _ _ _ _ _ _ _ _ _ _ _ _ _)
   | (with_reducible exact ih1 _ _ _ _ _ _ _ _ _ _ _ _ _ _ _ _ _ _ _ _ _ _ _)
   | (with_reducible exact palanquinref05_Get.mono _ _)
   | (with_reducible exact palanquinref05_Put.mono _ _ _ _ _ _ _ _ _ _ _ _)
   | (with_reducible exact LeO.refl _)
   | (with_reducible exact LeO.none _)
   | (with_reducible refine LeO.ite ?_ ?_)
   | (with_reducible refine LeO.bind ?_ (fun _ => ?_))
   | exact ih0 _ _ _ _ _ _ _ _ _ _ _ _ _ _
   | exact ih1 _ _ _ _ _ _ _ _ _ _ _ _ _ _ _ _ _ _ _ _ _ _ _
   | exact palanquinref05_Get.mono _ _
   | exact palanquinref05_Put.mono _ _ _ _ _ _ _ _ _ _ _ _
   | exact LeO.none _
   | refine LeO.ite ?_ ?_
   | refine LeO.bind ?_ (fun _ => ?_)
theorem palanquinref15_Cut.mono : ∀ a0 a1 k, LeO (palanquinref15_Cut.f k a0 a1) (palanquinref15_Cut.f (k + 1) a0 a1) := by
 intro a0 a1 k
 obtain ⟨ih0, ih1⟩ := palanquinref15_Cut.mono_l k
 unfold palanquinref15_Cut.f
 repeat' first
   | (with_reducible exact ih0 _ _ _ _ _ _ _ _ _ _ _ _ _ _)
   | (with_reducible exact ih1 _ _ _ _ _ _ _ _ _ _ _ _ _ _ _ _ _ _ _ _ _ _ _)
   | (with_reducible exact palanquinref05_Get.mono _ _)
   | (with_reducible exact palanquinref05_Put.mono _ _ _ _ _ _ _ _ _ _ _ _)
   | (with_reducible exact LeO.refl _)
   | (with_reducible exact LeO.none _)
   | (with_reducible refine LeO.ite ?_ ?_)
   | (with_reducible refine LeO.bind ?_ (fun _ => ?_))
   | exact ih0 _ _ _ _ _ _ _ _ _ _ _ _ _ _
   | exact ih1 _ _ _ _ _ _ _ _ _ _ _ _ _ _ _ _ _ _ _ _ _ _ _
   | exact palanquinref05_Get.mono _ _
   | exact palanquinref05_Put.mono _ _ _ _ _ _ _ _ _ _ _ _
   | exact LeO.none _
   | refine LeO.ite ?_ ?_
   | refine LeO.bind ?_ (fun _ => ?_)
def palanquinref15_Cut.T18 : Bool × List (List Nat × List Nat) := (true, [([], []), ([], []), ([], []), ([1, 2], [1, 2]), ([0, 3], [0, 3]), ([4], [4]), ([5], [5]), ([5], [5]), ([6, 4, 0, 1, 2, 3, 4, 5, 6], [6]), ([7, 8, 0, 1, 2, 3, 4, 5, 6, 7, 8], [7])])
def palanquinref15_Cut.B18 : List Nat := [0, 0, 0, 6, 15, 31, 63, 63, 127, 511]
theorem palanquinref15_Cut.tab18 : rtab .any (opsOf Try.f116 18) = palanquinref15_Cut.T18 := by kernel_rfl
theorem palanquinref15_Cut.bits18 : waitsOk palanquinref15_Cut.T18.2 palanquinref15_Cut.B18 = true := by kernel_rfl
set_option maxHeartbeats 8000000 in
set_option maxRecDepth 100000 in
theorem palanquinref15_Cut.calls (k : Nat) (a0 : ByteArray) (a1 : Int) (r1 : List ByteArray) (r2 : Int) (w : World) (h : palanquinref15_Cut.f k a0 a1 = some (r1, r2)) :
  Calls Try.prog 116 #[.string a0, .int .i64 a1] w fun e w' => ∃ v0_ : Value, e = .returned (.tuple #[v0_, .int .i64 r2]) ∧ Kd.R Kd.string 9 w' w.heap.size (fun _ => True) v0_ r1 ∧ Below w.heap.size w w' := by
 have hu93 := Try.underlying93
 have HB := mA (Below.refl w.heap.size w)
 have H : ((palanquinref05_Get.f k a0).bind fun bt887 => (if bt887.2.2.2.2.2.2.2.2.2.2.2 = 0 then (if a1 < 28 then (palanquinref15_Cut.j0 k a0 a1 bt887.2.2.2.2.2.2.2.2.2.2.1 true bt887.1 bt887.2.1 bt887.2.2.1 bt887.2.2.2.1 bt887.2.2.2.2.1 bt887.2.2.2.2.2.1 bt887.2.2.2.2.2.2.1 bt887.2.2.2.2.2.2.2.1 bt887.2.2.2.2.2.2.2.2.1 bt887.2.2.2.2.2.2.2.2.2.1) else (palanquinref15_Cut.j0 k a0 a1 bt887.2.2.2.2.2.2.2.2.2.2.1 (decide (a1 > 65535)) bt887.1 bt887.2.1 bt887.2.2.1 bt887.2.2.2.1 bt887.2.2.2.2.1 bt887.2.2.2.2.2.1 bt887.2.2.2.2.2.2.1 bt887.2.2.2.2.2.2.2.1 bt887.2.2.2.2.2.2.2.2.1 bt887.2.2.2.2.2.2.2.2.2.1)) else (some (([] : List ByteArray), bt887.2.2.2.2.2.2.2.2.2.2.2)))) = some (r1, r2) := h
 clear h
 replace H := Option.bind_eq_some_iff.mp H
 obtain ⟨⟨t887, t888, t889, t890, t891, t892, t893, t894, t895, t896, t897, t898⟩, A30, H⟩ := H
 replace H : (if t898 = 0 then (if a1 < 28 then (palanquinref15_Cut.j0 k a0 a1 t897 true t887 t888 t889 t890 t891 t892 t893 t894 t895 t896) else (palanquinref15_Cut.j0 k a0 a1 t897 (decide (a1 > 65535)) t887 t888 t889 t890 t891 t892 t893 t894 t895 t896)) else (some (([] : List ByteArray), t898))) = some (r1, r2) := H
 have A3 := mA A30
 clear A30
 by_cases c4 : t898 = 0
 ·rw [if_pos c4] at H
  have c4b0 : (t898 == 0) = true := beq_iff_eq.mpr c4
  have c4b1 : (t898 != 0) = false := bne_eq_false_iff_eq.mpr c4
  clear c4
  have HC5 := mA H
  clear H
  go_enter Try.func116, Try.ntmps116
  go_upto_region 4 with (first | ((with_reducible refine gate_callee (f := 112) rfl ?_); refine goesL_ (some 19) rfl rfl Try.func112 (by kernel_rfl) rfl #[.string a0] rfl (by (try simp only [List.map_toArray, List.map_cons, List.map_nil]); first | done | rfl | (simp only [List.length_drop, List.length_take]; rfl)) ?_; (with_reducible refine (palanquinref05_Get.calls k a0 t887 t888 t889 t890 t891 t892 t893 t894 t895 t896 t897 t898 _ A3.out).mono ?_); rintro e w6 ⟨rfl, hb⟩; refine ⟨_, rfl, ?_⟩; have n0_ := mA (bP (by repeat (first | (with_reducible first | exact HB.out | apply bA | apply bN | apply bD) | exact HB.out)) hb); clear HB; have HB := n0_; clear n0_; (try clear hb); (try clear hb2); (try clear hk); (try clear hi)) | ((with_reducible refine gate_dst (N := 6) rfl ?_); refine box_event ?hg (N := 6) ?hd (cs := #[.int .i64 0, .int .i64 0, .int .i64 0, .int .i64 0, .int .i64 0, .bool false, .bool false, .string (⟨#[]⟩ : ByteArray), .string (⟨#[]⟩ : ByteArray), .string (⟨#[]⟩ : ByteArray)]) (t := 93) ?hr ?_; (case hd => rfl); (case hg => rfl); (case hr => first | (go_simp; done) | (go_simp; rfl)); intro gb899 hg w7 hbox hb; have n0_ := mA (bP (by repeat (first | (with_reducible first | exact HB.out | apply bA | apply bN | apply bD) | exact HB.out)) hb); have n1_ := mA (hbox); have n2_ := mA ((by rw [hg]; exact (below_size (by repeat (first | (with_reducible first | exact HB.out | apply bA | apply bN | apply bD) | exact HB.out))) : w.heap.size ≤ gb899)); have n3_ := mA ((by rw [hg]; exact (below_size (by repeat (first | (with_reducible first | exact HB.out | apply bA | apply bN | apply bD) | exact HB.out))) : w.heap.size ≤ gb899)); clear HB; have HB := n0_; have BK899 := n1_; have GW899 := n2_; have GE899 := n3_; clear n0_ n1_ n2_ n3_; clear hb hbox hg; have hcz8_0 : w7.cell? ⟨gb899, 0, none⟩ = some (.int .i64 0) := (zC BK899.out 0).trans rfl; have hcz8_1 : w7.cell? ⟨gb899, 1, none⟩ = some (.int .i64 0) := (zC BK899.out 1).trans rfl; have hcz8_2 : w7.cell? ⟨gb899, 2, none⟩ = some (.int .i64 0) := (zC BK899.out 2).trans rfl; have hcz8_3 : w7.cell? ⟨gb899, 3, none⟩ = some (.int .i64 0) := (zC BK899.out 3).trans rfl; have hcz8_4 : w7.cell? ⟨gb899, 4, none⟩ = some (.int .i64 0) := (zC BK899.out 4).trans rfl; have hcz8_5 : w7.cell? ⟨gb899, 5, none⟩ = some (.bool false) := (zC BK899.out 5).trans rfl; have hcz8_6 : w7.cell? ⟨gb899, 6, none⟩ = some (.bool false) := (zC BK899.out 6).trans rfl; have hcz8_7 : w7.cell? ⟨gb899, 7, none⟩ = some (.string (⟨#[]⟩ : ByteArray)) := (zC BK899.out 7).trans rfl; have hcz8_8 : w7.cell? ⟨gb899, 8, none⟩ = some (.string (⟨#[]⟩ : ByteArray)) := (zC BK899.out 8).trans rfl; have hcz8_9 : w7.cell? ⟨gb899, 9, none⟩ = some (.string (⟨#[]⟩ : ByteArray)) := (zC BK899.out 9).trans rfl; have hfz8_0 := zF BK899.out 0; have hfz8_1 := zF BK899.out 1; have hfz8_2 := zF BK899.out 2; have hfz8_3 := zF BK899.out 3; have hfz8_4 := zF BK899.out 4; have hfz8_5 := zF BK899.out 5; have hfz8_6 := zF BK899.out 6; have hfz8_7 := zF BK899.out 7; have hfz8_8 := zF BK899.out 8; have hfz8_9 := zF BK899.out 9))
  (try simp only [Act.put, List.setIfInBounds_toArray, List.set_cons_zero, List.set_cons_succ])
  go_cut [31] (fun v31 wc => ∃ (kq : Nat) (x31_4 : Bool), v31 = .bool x31_4 ∧ Aside0 (palanquinref15_Cut.j0 kq a0 a1 t897 x31_4 t887 t888 t889 t890 t891 t892 t893 t894 t895 t896 = some (r1, r2)) ∧ Aside0 (kq ≤ k) ∧ Aside0 (wc.heap[gb899]? = some (.cells #[.int .i64 t887, .int .i64 t888, .int .i64 t889, .int .i64 t890, .int .i64 t891, .bool t892, .bool t893, .string t894, .string t895, .string t896] 93 (0, 0))) ∧ Aside0 (Below w.heap.size w wc))
  case first =>
   have H := HC5.out
   clear HC5
   by_cases c9 : a1 < 28
   ·rw [if_pos c9] at H
    have c9b0 : decide (a1 < 28) = true := decide_eq_true c9
    clear c9
    (first | rw [c9b0] | (simp only [i64_w, i32_w]; rw [c9b0]) | skip)
    have H' := mA H
    clear H
    go_wp2
    go_meet
    case rel => exact ⟨_, (true), (by first | rfl | (simp; done) | (simp [*]; done)), H', ⟨by first | omega | exact Nat.le_refl _⟩, ⟨by (with_reducible repeat (first | apply kN | apply kD | apply kA)); refine blk_put (cs := #[.int .i64 t887, .int .i64 t888, .int .i64 t889, .int .i64 t890, .int .i64 t891, .bool t892, .bool t893, .string t894, .string t895, .string (⟨#[]⟩ : ByteArray)]) ?_ 9 _ rfl; (with_reducible repeat (first | apply kN | apply kD | apply kA)); refine blk_put (cs := #[.int .i64 t887, .int .i64 t888, .int .i64 t889, .int .i64 t890, .int .i64 t891, .bool t892, .bool t893, .string t894, .string (⟨#[]⟩ : ByteArray), .string (⟨#[]⟩ : ByteArray)]) ?_ 8 _ rfl; (with_reducible repeat (first | apply kN | apply kD | apply kA)); refine blk_put (cs := #[.int .i64 t887, .int .i64 t888, .int .i64 t889, .int .i64 t890, .int .i64 t891, .bool t892, .bool t893, .string (⟨#[]⟩ : ByteArray), .string (⟨#[]⟩ : ByteArray), .string (⟨#[]⟩ : ByteArray)]) ?_ 7 _ rfl; (with_reducible repeat (first | apply kN | apply kD | apply kA)); refine blk_put (cs := #[.int .i64 t887, .int .i64 t888, .int .i64 t889, .int .i64 t890, .int .i64 t891, .bool t892, .bool false, .string (⟨#[]⟩ : ByteArray), .string (⟨#[]⟩ : ByteArray), .string (⟨#[]⟩ : ByteArray)]) ?_ 6 _ rfl; (with_reducible repeat (first | apply kN | apply kD | apply kA)); refine blk_put (cs := #[.int .i64 t887, .int .i64 t888, .int .i64 t889, .int .i64 t890, .int .i64 t891, .bool false, .bool false, .string (⟨#[]⟩ : ByteArray), .string (⟨#[]⟩ : ByteArray), .string (⟨#[]⟩ : ByteArray)]) ?_ 5 _ rfl; (with_reducible repeat (first | apply kN | apply kD | apply kA)); refine blk_put (cs := #[.int .i64 t887, .int .i64 t888, .int .i64 t889, .int .i64 t890, .int .i64 0, .bool false, .bool false, .string (⟨#[]⟩ : ByteArray), .string (⟨#[]⟩ : ByteArray), .string (⟨#[]⟩ : ByteArray)]) ?_ 4 _ rfl; (with_reducible repeat (first | apply kN | apply kD | apply kA)); refine blk_put (cs := #[.int .i64 t887, .int .i64 t888, .int .i64 t889, .int .i64 0, .int .i64 0, .bool false, .bool false, .string (⟨#[]⟩ : ByteArray), .string (⟨#[]⟩ : ByteArray), .string (⟨#[]⟩ : ByteArray)]) ?_ 3 _ rfl; (with_reducible repeat (first | apply kN | apply kD | apply kA)); refine blk_put (cs := #[.int .i64 t887, .int .i64 t888, .int .i64 0, .int .i64 0, .int .i64 0, .bool false, .bool false, .string (⟨#[]⟩ : ByteArray), .string (⟨#[]⟩ : ByteArray), .string (⟨#[]⟩ : ByteArray)]) ?_ 2 _ rfl; (with_reducible repeat (first | apply kN | apply kD | apply kA)); refine blk_put (cs := #[.int .i64 t887, .int .i64 0, .int .i64 0, .int .i64 0, .int .i64 0, .bool false, .bool false, .string (⟨#[]⟩ : ByteArray), .string (⟨#[]⟩ : ByteArray), .string (⟨#[]⟩ : ByteArray)]) ?_ 1 _ rfl; (with_reducible repeat (first | apply kN | apply kD | apply kA)); refine blk_put (cs := #[.int .i64 0, .int .i64 0, .int .i64 0, .int .i64 0, .int .i64 0, .bool false, .bool false, .string (⟨#[]⟩ : ByteArray), .string (⟨#[]⟩ : ByteArray), .string (⟨#[]⟩ : ByteArray)]) ?_ 0 _ rfl; (with_reducible repeat (first | apply kN | apply kD | apply kA)); exact BK899.out⟩, ⟨by repeat (first | (with_reducible first | exact HB.out | apply bA | apply bN | apply bD | refine bS ?_ GE899.out) | exact HB.out)⟩⟩
   ·rw [if_neg c9] at H
    have c9b0 : decide (a1 < 28) = false := decide_eq_false c9
    clear c9
    (first | rw [c9b0] | (simp only [i64_w, i32_w]; rw [c9b0]) | skip)
    have H' := mA H
    clear H
    go_wp2
    go_meet
    case rel => exact ⟨_, (decide (a1 > 65535)), (by first | rfl | (simp; done) | (simp [*]; done)), H', ⟨by first | omega | exact Nat.le_refl _⟩, ⟨by (with_reducible repeat (first | apply kN | apply kD | apply kA)); refine blk_put (cs := #[.int .i64 t887, .int .i64 t888, .int .i64 t889, .int .i64 t890, .int .i64 t891, .bool t892, .bool t893, .string t894, .string t895, .string (⟨#[]⟩ : ByteArray)]) ?_ 9 _ rfl; (with_reducible repeat (first | apply kN | apply kD | apply kA)); refine blk_put (cs := #[.int .i64 t887, .int .i64 t888, .int .i64 t889, .int .i64 t890, .int .i64 t891, .bool t892, .bool t893, .string t894, .string (⟨#[]⟩ : ByteArray), .string (⟨#[]⟩ : ByteArray)]) ?_ 8 _ rfl; (with_reducible repeat (first | apply kN | apply kD | apply kA)); refine blk_put (cs := #[.int .i64 t887, .int .i64 t888, .int .i64 t889, .int .i64 t890, .int .i64 t891, .bool t892, .bool t893, .string (⟨#[]⟩ : ByteArray), .string (⟨#[]⟩ : ByteArray), .string (⟨#[]⟩ : ByteArray)]) ?_ 7 _ rfl; (with_reducible repeat (first | apply kN | apply kD | apply kA)); refine blk_put (cs := #[.int .i64 t887, .int .i64 t888, .int .i64 t889, .int .i64 t890, .int .i64 t891, .bool t892, .bool false, .string (⟨#[]⟩ : ByteArray), .string (⟨#[]⟩ : ByteArray), .string (⟨#[]⟩ : ByteArray)]) ?_ 6 _ rfl; (with_reducible repeat (first | apply kN | apply kD | apply kA)); refine blk_put (cs := #[.int .i64 t887, .int .i64 t888, .int .i64 t889, .int .i64 t890, .int .i64 t891, .bool false, .bool false, .string (⟨#[]⟩ : ByteArray), .string (⟨#[]⟩ : ByteArray), .string (⟨#[]⟩ : ByteArray)]) ?_ 5 _ rfl; (with_reducible repeat (first | apply kN | apply kD | apply kA)); refine blk_put (cs := #[.int .i64 t887, .int .i64 t888, .int .i64 t889, .int .i64 t890, .int .i64 0, .bool false, .bool false, .string (⟨#[]⟩ : ByteArray), .string (⟨#[]⟩ : ByteArray), .string (⟨#[]⟩ : ByteArray)]) ?_ 4 _ rfl; (with_reducible repeat (first | apply kN | apply kD | apply kA)); refine blk_put (cs := #[.int .i64 t887, .int .i64 t888, .int .i64 t889, .int .i64 0, .int .i64 0, .bool false, .bool false, .string (⟨#[]⟩ : ByteArray), .string (⟨#[]⟩ : ByteArray), .string (⟨#[]⟩ : ByteArray)]) ?_ 3 _ rfl; (with_reducible repeat (first | apply kN | apply kD | apply kA)); refine blk_put (cs := #[.int .i64 t887, .int .i64 t888, .int .i64 0, .int .i64 0, .int .i64 0, .bool false, .bool false, .string (⟨#[]⟩ : ByteArray), .string (⟨#[]⟩ : ByteArray), .string (⟨#[]⟩ : ByteArray)]) ?_ 2 _ rfl; (with_reducible repeat (first | apply kN | apply kD | apply kA)); refine blk_put (cs := #[.int .i64 t887, .int .i64 0, .int .i64 0, .int .i64 0, .int .i64 0, .bool false, .bool false, .string (⟨#[]⟩ : ByteArray), .string (⟨#[]⟩ : ByteArray), .string (⟨#[]⟩ : ByteArray)]) ?_ 1 _ rfl; (with_reducible repeat (first | apply kN | apply kD | apply kA)); refine blk_put (cs := #[.int .i64 0, .int .i64 0, .int .i64 0, .int .i64 0, .int .i64 0, .bool false, .bool false, .string (⟨#[]⟩ : ByteArray), .string (⟨#[]⟩ : ByteArray), .string (⟨#[]⟩ : ByteArray)]) ?_ 0 _ rfl; (with_reducible repeat (first | apply kN | apply kD | apply kA)); exact BK899.out⟩, ⟨by repeat (first | (with_reducible first | exact HB.out | apply bA | apply bN | apply bD | refine bS ?_ GE899.out) | exact HB.out)⟩⟩
  case rest =>
   clear HC5
   try clear c1
   try clear p2
   try clear c4
   try clear c4b0
   try clear c4b1
   try clear c9
   try clear c9b0
   try clear hcz8_0
   try clear hcz8_1
   try clear hcz8_2
   try clear hcz8_3
   try clear hcz8_4
   try clear hcz8_5
   try clear hcz8_6
   try clear hcz8_7
   try clear hcz8_8
   try clear hcz8_9
   try clear hfz8_0
   try clear hfz8_1
   try clear hfz8_2
   try clear hfz8_3
   try clear hfz8_4
   try clear hfz8_5
   try clear hfz8_6
   try clear hfz8_7
   try clear hfz8_8
   try clear hfz8_9
   obtain ⟨kq, x31_4, rfl, HA, HJ4, BK899, HB⟩ := hcut
   cases kq with
   | zero => exact absurd HA.out (by simp [palanquinref15_Cut.j0])
   | succ kj4 =>
    have H := HA.out
    clear HA
    simp only [palanquinref15_Cut.j0] at H
    by_cases c10 : x31_4 = true
    ·subst c10
     have H1 : (some (([] : List ByteArray), 1)) = some (r1, r2) := by rw [if_pos rfl] at H; exact H
     clear H
     have H := H1
     clear H1
     simp only [Option.some.injEq, Prod.mk.injEq] at H
     obtain ⟨rfl, rfl⟩ := H
     go_wp2
     go_ret2
     exact ⟨_, by first | rfl | (simp [errW_none, errW_some] <;> rfl) | (simp [*, errW_none, errW_some] <;> rfl), by first | exact Kd.R_nil _ _ _ _ _ | exact Kd.N_nil _ _ _ _ _ | exact Kd.V_nil _ _ _ _ _ | exact Kd.Q_nil _ _ _ _ _ | exact Kd.S_nil _ _ _ _ _, by repeat (first | (with_reducible first | exact HB.out | apply bA | apply bN | apply bD | refine bS ?_ GE899.out) | exact HB.out)⟩
    ·replace c10 := Bool.eq_false_iff.mpr c10
     subst c10
     have H1 : (if (a0.size : Int) ≤ a1 then (some ((([a0] : List ByteArray)), 0)) else (if t892 = true then (some (([] : List ByteArray), 8)) else ((palanquinref15_Part.f (wrap64 (20 + (t896.size : Int))) a1).bind fun t903 => (if t903 = 0 then (some (([] : List ByteArray), 1)) else (palanquinref15_Cut.l0 kj4 t903 ([] : List ByteArray) t897 t887 t888 t889 t890 t891 t892 t893 t894 t895 t896 t887 t888 t889 t890 t891 t892 t893 t894 t895 t896))))) = some (r1, r2) := by rw [if_neg (show ¬ (false = true) by decide)] at H; exact H
     clear H
     have H := H1
     clear H1
     by_cases c11 : (a0.size : Int) ≤ a1
     ·rw [if_pos c11] at H
      have c11b0 : decide ((a0.size : Int) ≤ a1) = true := decide_eq_true c11
      clear c11
      obtain ⟨y900, hy900⟩ : ∃ y_ : List ByteArray, y_ = (([a0] : List ByteArray)) := ⟨_, rfl⟩
      replace H : (some (y900, 0)) = some (r1, r2) := by first | (rw [hy900]; with_reducible exact H) | (have H2_ := (Option.bind_some _ _).symm.trans H; rw [hy900]; with_reducible exact H2_) | (have H2_ := (Option.bind_some _ _).symm.trans H; with_reducible exact H2_) | with_reducible exact H | (rw [hy900]; exact H) | exact H
      have Ny900 := mA hy900
      clear hy900
      simp only [Option.some.injEq, Prod.mk.injEq] at H
      obtain ⟨rfl, rfl⟩ := H
      go_wp2_with (first | ((with_reducible refine gate_dst (N := 37) rfl ?_); refine Kd.R_lit Kd.string _ 9 ?hg (N := 37) ?hd (xs := ([a0] : List ByteArray)) (inner := [.string a0]) (ok := fun _ => True) (okp := fun _ => True) ?hr ?hp (fun _ hk => hk) trivial (Below.refl _ _) (Nat.le_refl _) (by simp) ?_; (case hd => rfl); (case hg => rfl); (case hr => first | (go_simp; done) | (go_simp; rfl)); (case hp => exact (Reps.one (show Kd.M Kd.string _ _ _ a0 [.string a0] from rfl) (Reps.none _ _))); intro v901 w12 ho13 hb hg_ hnew_; clear hg_ hnew_; (first | rw [← Ny900.out] at ho13 | (simp only [Int.reduceToNat] at ho13; rw [← Ny900.out] at ho13)); have n0_ := mA (Kd.R_lower ho13 (below_size (by repeat (first | (with_reducible first | exact HB.out | apply bA | apply bN | apply bD | refine bS ?_ GE899.out) | exact HB.out)))); have n1_ := mA (blk_below (g := gb899) (o := .cells #[.int .i64 t887, .int .i64 t888, .int .i64 t889, .int .i64 t890, .int .i64 t891, .bool t892, .bool t893, .string t894, .string t895, .string t896] 93 (0, 0)) (by (with_reducible repeat (first | apply kN | apply kD | apply kA)); exact BK899.out) hb); have n2_ := mA (bP (by repeat (first | (with_reducible first | exact HB.out | apply bA | apply bN | apply bD | refine bS ?_ GE899.out) | exact HB.out)) hb); clear BK899; clear HB; have HO902 := n0_; have BK899 := n1_; have HB := n2_; clear n0_ n1_ n2_; clear hb ho13))
      go_ret2
      exact ⟨_, by first | rfl | (simp [errW_none, errW_some] <;> rfl) | (simp [*, errW_none, errW_some] <;> rfl), by (with_reducible repeat (first | apply Kd.R_alloc | apply Kd.R_drewN | apply Kd.R_drew)); exact HO902.out, by repeat (first | (with_reducible first | exact HB.out | apply bA | apply bN | apply bD | refine bS ?_ GE899.out) | exact HB.out)⟩
     ·rw [if_neg c11] at H
      have c11b0 : decide ((a0.size : Int) ≤ a1) = false := decide_eq_false c11
      clear c11
      by_cases c14 : t892 = true
      ·subst c14
       have H1 : (some (([] : List ByteArray), 8)) = some (r1, r2) := by rw [if_pos rfl] at H; exact H
       clear H
       have H := H1
       clear H1
       simp only [Option.some.injEq, Prod.mk.injEq] at H
       obtain ⟨rfl, rfl⟩ := H
       have hcz15_0 : wc.cell? ⟨gb899, 0, none⟩ = some (.int .i64 t887) := (zC BK899.out 0).trans rfl
       have hcz15_1 : wc.cell? ⟨gb899, 1, none⟩ = some (.int .i64 t888) := (zC BK899.out 1).trans rfl
       have hcz15_2 : wc.cell? ⟨gb899, 2, none⟩ = some (.int .i64 t889) := (zC BK899.out 2).trans rfl
       have hcz15_3 : wc.cell? ⟨gb899, 3, none⟩ = some (.int .i64 t890) := (zC BK899.out 3).trans rfl
       have hcz15_4 : wc.cell? ⟨gb899, 4, none⟩ = some (.int .i64 t891) := (zC BK899.out 4).trans rfl
       have hcz15_5 : wc.cell? ⟨gb899, 5, none⟩ = some (.bool true) := (zC BK899.out 5).trans rfl
       have hcz15_6 : wc.cell? ⟨gb899, 6, none⟩ = some (.bool t893) := (zC BK899.out 6).trans rfl
       have hcz15_7 : wc.cell? ⟨gb899, 7, none⟩ = some (.string t894) := (zC BK899.out 7).trans rfl
       have hcz15_8 : wc.cell? ⟨gb899, 8, none⟩ = some (.string t895) := (zC BK899.out 8).trans rfl
       have hcz15_9 : wc.cell? ⟨gb899, 9, none⟩ = some (.string t896) := (zC BK899.out 9).trans rfl
       have hfz15_0 := zF BK899.out 0
       have hfz15_1 := zF BK899.out 1
       have hfz15_2 := zF BK899.out 2
       have hfz15_3 := zF BK899.out 3
       have hfz15_4 := zF BK899.out 4
       have hfz15_5 := zF BK899.out 5
       have hfz15_6 := zF BK899.out 6
       have hfz15_7 := zF BK899.out 7
       have hfz15_8 := zF BK899.out 8
       have hfz15_9 := zF BK899.out 9
       go_wp2
       go_ret2
       exact ⟨_, by first | rfl | (simp [errW_none, errW_some] <;> rfl) | (simp [*, errW_none, errW_some] <;> rfl), by first | exact Kd.R_nil _ _ _ _ _ | exact Kd.N_nil _ _ _ _ _ | exact Kd.V_nil _ _ _ _ _ | exact Kd.Q_nil _ _ _ _ _ | exact Kd.S_nil _ _ _ _ _, by repeat (first | (with_reducible first | exact HB.out | apply bA | apply bN | apply bD | refine bS ?_ GE899.out) | exact HB.out)⟩
      ·replace c14 := Bool.eq_false_iff.mpr c14
       subst c14
       have H1 : ((palanquinref15_Part.f (wrap64 (20 + (t896.size : Int))) a1).bind fun t903 => (if t903 = 0 then (some (([] : List ByteArray), 1)) else (palanquinref15_Cut.l0 kj4 t903 ([] : List ByteArray) t897 t887 t888 t889 t890 t891 false t893 t894 t895 t896 t887 t888 t889 t890 t891 false t893 t894 t895 t896))) = some (r1, r2) := by rw [if_neg (show ¬ (false = true) by decide)] at H; exact H
       clear H
       have H := H1
       clear H1
       replace H := Option.bind_eq_some_iff.mp H
       obtain ⟨t903, A160, H⟩ := H
       replace H : (if t903 = 0 then (some (([] : List ByteArray), 1)) else (palanquinref15_Cut.l0 kj4 t903 ([] : List ByteArray) t897 t887 t888 t889 t890 t891 false t893 t894 t895 t896 t887 t888 t889 t890 t891 false t893 t894 t895 t896)) = some (r1, r2) := H
       have A16 := mA A160
       clear A160
       by_cases c17 : t903 = 0
       ·rw [if_pos c17] at H
        have c17b0 : (t903 == 0) = true := beq_iff_eq.mpr c17
        have c17b1 : (t903 != 0) = false := bne_eq_false_iff_eq.mpr c17
        clear c17
        simp only [Option.some.injEq, Prod.mk.injEq] at H
        obtain ⟨rfl, rfl⟩ := H
        have hcz18_0 : wc.cell? ⟨gb899, 0, none⟩ = some (.int .i64 t887) := (zC BK899.out 0).trans rfl
        have hcz18_1 : wc.cell? ⟨gb899, 1, none⟩ = some (.int .i64 t888) := (zC BK899.out 1).trans rfl
        have hcz18_2 : wc.cell? ⟨gb899, 2, none⟩ = some (.int .i64 t889) := (zC BK899.out 2).trans rfl
        have hcz18_3 : wc.cell? ⟨gb899, 3, none⟩ = some (.int .i64 t890) := (zC BK899.out 3).trans rfl
        have hcz18_4 : wc.cell? ⟨gb899, 4, none⟩ = some (.int .i64 t891) := (zC BK899.out 4).trans rfl
        have hcz18_5 : wc.cell? ⟨gb899, 5, none⟩ = some (.bool false) := (zC BK899.out 5).trans rfl
        have hcz18_6 : wc.cell? ⟨gb899, 6, none⟩ = some (.bool t893) := (zC BK899.out 6).trans rfl
        have hcz18_7 : wc.cell? ⟨gb899, 7, none⟩ = some (.string t894) := (zC BK899.out 7).trans rfl
        have hcz18_8 : wc.cell? ⟨gb899, 8, none⟩ = some (.string t895) := (zC BK899.out 8).trans rfl
        have hcz18_9 : wc.cell? ⟨gb899, 9, none⟩ = some (.string t896) := (zC BK899.out 9).trans rfl
        have hfz18_0 := zF BK899.out 0
        have hfz18_1 := zF BK899.out 1
        have hfz18_2 := zF BK899.out 2
        have hfz18_3 := zF BK899.out 3
        have hfz18_4 := zF BK899.out 4
        have hfz18_5 := zF BK899.out 5
        have hfz18_6 := zF BK899.out 6
        have hfz18_7 := zF BK899.out 7
        have hfz18_8 := zF BK899.out 8
        have hfz18_9 := zF BK899.out 9
        go_wp2_with (first | ((with_reducible refine gate_callee (f := 118) rfl ?_); refine goesL_ (some 45) rfl rfl Try.func118 (by kernel_rfl) rfl #[.int .i64 (wrap64 (20 + (t896.size : Int))), .int .i64 a1] rfl (by (try simp only [List.map_toArray, List.map_cons, List.map_nil]); first | done | rfl | (simp only [List.length_drop, List.length_take]; rfl)) ?_; (with_reducible refine (palanquinref15_Part.calls (wrap64 (20 + (t896.size : Int))) a1 t903 _ A16.out).mono ?_); rintro e w' ⟨rfl, ⟨nd, rfl⟩⟩; refine ⟨_, rfl, ?_⟩))
        go_ret2
        exact ⟨_, by first | rfl | (simp [errW_none, errW_some] <;> rfl) | (simp [*, errW_none, errW_some] <;> rfl), by first | exact Kd.R_nil _ _ _ _ _ | exact Kd.N_nil _ _ _ _ _ | exact Kd.V_nil _ _ _ _ _ | exact Kd.Q_nil _ _ _ _ _ | exact Kd.S_nil _ _ _ _ _, by repeat (first | (with_reducible first | exact HB.out | apply bA | apply bN | apply bD | refine bS ?_ GE899.out) | exact HB.out)⟩
       ·rw [if_neg c17] at H
        have c17b0 : (t903 == 0) = false := beq_eq_false_iff_ne.mpr c17
        have c17b1 : (t903 != 0) = true := bne_iff_ne.mpr c17
        have H' := mA H
        clear H
        have hcz19_0 : wc.cell? ⟨gb899, 0, none⟩ = some (.int .i64 t887) := (zC BK899.out 0).trans rfl
        have hcz19_1 : wc.cell? ⟨gb899, 1, none⟩ = some (.int .i64 t888) := (zC BK899.out 1).trans rfl
        have hcz19_2 : wc.cell? ⟨gb899, 2, none⟩ = some (.int .i64 t889) := (zC BK899.out 2).trans rfl
        have hcz19_3 : wc.cell? ⟨gb899, 3, none⟩ = some (.int .i64 t890) := (zC BK899.out 3).trans rfl
        have hcz19_4 : wc.cell? ⟨gb899, 4, none⟩ = some (.int .i64 t891) := (zC BK899.out 4).trans rfl
        have hcz19_5 : wc.cell? ⟨gb899, 5, none⟩ = some (.bool false) := (zC BK899.out 5).trans rfl
        have hcz19_6 : wc.cell? ⟨gb899, 6, none⟩ = some (.bool t893) := (zC BK899.out 6).trans rfl
        have hcz19_7 : wc.cell? ⟨gb899, 7, none⟩ = some (.string t894) := (zC BK899.out 7).trans rfl
        have hcz19_8 : wc.cell? ⟨gb899, 8, none⟩ = some (.string t895) := (zC BK899.out 8).trans rfl
        have hcz19_9 : wc.cell? ⟨gb899, 9, none⟩ = some (.string t896) := (zC BK899.out 9).trans rfl
        have hfz19_0 := zF BK899.out 0
        have hfz19_1 := zF BK899.out 1
        have hfz19_2 := zF BK899.out 2
        have hfz19_3 := zF BK899.out 3
        have hfz19_4 := zF BK899.out 4
        have hfz19_5 := zF BK899.out 5
        have hfz19_6 := zF BK899.out 6
        have hfz19_7 := zF BK899.out 7
        have hfz19_8 := zF BK899.out 8
        have hfz19_9 := zF BK899.out 9
        go_wp2_with (first | ((with_reducible refine gate_callee (f := 118) rfl ?_); refine goesL_ (some 45) rfl rfl Try.func118 (by kernel_rfl) rfl #[.int .i64 (wrap64 (20 + (t896.size : Int))), .int .i64 a1] rfl (by (try simp only [List.map_toArray, List.map_cons, List.map_nil]); first | done | rfl | (simp only [List.length_drop, List.length_take]; rfl)) ?_; (with_reducible refine (palanquinref15_Part.calls (wrap64 (20 + (t896.size : Int))) a1 t903 _ A16.out).mono ?_); rintro e w' ⟨rfl, ⟨nd, rfl⟩⟩; refine ⟨_, rfl, ?_⟩; (try (rw [drewN_self wc]; generalize hq_ : World.drewN wc _ = wc; have n0_ : Aside0 (wc.heap[gb899]? = some (.cells #[.int .i64 t887, .int .i64 t888, .int .i64 t889, .int .i64 t890, .int .i64 t891, .bool false, .bool t893, .string t894, .string t895, .string t896] 93 (0, 0))) := ⟨by rw [← hq_]; exact (by (with_reducible repeat (first | apply kN | apply kD | apply kA)); exact BK899.out)⟩; have n1_ : Aside0 (Below w.heap.size w wc) := ⟨by rw [← hq_]; exact (by repeat (first | (with_reducible first | exact HB.out | apply bA | apply bN | apply bD | refine bS ?_ GE899.out) | exact HB.out))⟩; clear BK899 HB hq_; have BK899 := n0_; have HB := n1_; clear n0_ n1_; have hcy2_0 : wc.cell? ⟨gb899, 0, none⟩ = some (.int .i64 t887) := (zC BK899.out 0).trans rfl; have hcy2_1 : wc.cell? ⟨gb899, 1, none⟩ = some (.int .i64 t888) := (zC BK899.out 1).trans rfl; have hcy2_2 : wc.cell? ⟨gb899, 2, none⟩ = some (.int .i64 t889) := (zC BK899.out 2).trans rfl; have hcy2_3 : wc.cell? ⟨gb899, 3, none⟩ = some (.int .i64 t890) := (zC BK899.out 3).trans rfl; have hcy2_4 : wc.cell? ⟨gb899, 4, none⟩ = some (.int .i64 t891) := (zC BK899.out 4).trans rfl; have hcy2_5 : wc.cell? ⟨gb899, 5, none⟩ = some (.bool false) := (zC BK899.out 5).trans rfl; have hcy2_6 : wc.cell? ⟨gb899, 6, none⟩ = some (.bool t893) := (zC BK899.out 6).trans rfl; have hcy2_7 : wc.cell? ⟨gb899, 7, none⟩ = some (.string t894) := (zC BK899.out 7).trans rfl; have hcy2_8 : wc.cell? ⟨gb899, 8, none⟩ = some (.string t895) := (zC BK899.out 8).trans rfl; have hcy2_9 : wc.cell? ⟨gb899, 9, none⟩ = some (.string t896) := (zC BK899.out 9).trans rfl))) | ((with_reducible refine gate_dst (N := 12) rfl ?_); refine box_event ?hg (N := 12) ?hd (cs := #[.int .i64 0, .int .i64 0, .int .i64 0, .int .i64 0, .int .i64 0, .bool false, .bool false, .string (⟨#[]⟩ : ByteArray), .string (⟨#[]⟩ : ByteArray), .string (⟨#[]⟩ : ByteArray)]) (t := 93) ?hr ?_; (case hd => rfl); (case hg => rfl); (case hr => first | (go_simp; done) | (go_simp; rfl)); intro gb904 hg w20 hbox hb; have n0_ := mA (blk_below (g := gb899) (o := .cells #[.int .i64 t887, .int .i64 t888, .int .i64 t889, .int .i64 t890, .int .i64 t891, .bool false, .bool t893, .string t894, .string t895, .string t896] 93 (0, 0)) (by (with_reducible repeat (first | apply kN | apply kD | apply kA)); exact BK899.out) hb); have n1_ := mA (bP (by repeat (first | (with_reducible first | exact HB.out | apply bA | apply bN | apply bD | refine bS ?_ GE899.out) | exact HB.out)) hb); have n2_ := mA (hbox); have n3_ := mA ((by rw [hg]; exact (below_size (by repeat (first | (with_reducible first | exact HB.out | apply bA | apply bN | apply bD | refine bS ?_ GE899.out) | exact HB.out))) : w.heap.size ≤ gb904)); have n4_ := mA ((by rw [hg]; exact (below_size (by repeat (first | (with_reducible first | exact HB.out | apply bA | apply bN | apply bD | refine bS ?_ GE899.out) | exact HB.out))) : w.heap.size ≤ gb904)); have n5_ := mA ((by rw [hg]; exact Nat.ne_of_lt (blk_lt (g := gb899) (o := .cells #[.int .i64 t887, .int .i64 t888, .int .i64 t889, .int .i64 t890, .int .i64 t891, .bool false, .bool t893, .string t894, .string t895, .string t896] 93 (0, 0)) (by (with_reducible repeat (first | apply kN | apply kD | apply kA)); exact BK899.out)) : gb899 ≠ gb904)); have n6_ := mA ((by rw [hg]; exact Nat.ne_of_gt (blk_lt (g := gb899) (o := .cells #[.int .i64 t887, .int .i64 t888, .int .i64 t889, .int .i64 t890, .int .i64 t891, .bool false, .bool t893, .string t894, .string t895, .string t896] 93 (0, 0)) (by (with_reducible repeat (first | apply kN | apply kD | apply kA)); exact BK899.out)) : gb904 ≠ gb899)); clear BK899; clear HB; have BK899 := n0_; have HB := n1_; have BK904 := n2_; have GW904 := n3_; have GE904 := n4_; have NB899_904 := n5_; have NB904_899 := n6_; clear n0_ n1_ n2_ n3_ n4_ n5_ n6_; clear hb hbox hg; have hnb21 := NB904_899.out; have hnc21 := NB899_904.out; have hcz22_0 : w20.cell? ⟨gb904, 0, none⟩ = some (.int .i64 0) := (zC BK904.out 0).trans rfl; have hcz22_1 : w20.cell? ⟨gb904, 1, none⟩ = some (.int .i64 0) := (zC BK904.out 1).trans rfl; have hcz22_2 : w20.cell? ⟨gb904, 2, none⟩ = some (.int .i64 0) := (zC BK904.out 2).trans rfl; have hcz22_3 : w20.cell? ⟨gb904, 3, none⟩ = some (.int .i64 0) := (zC BK904.out 3).trans rfl; have hcz22_4 : w20.cell? ⟨gb904, 4, none⟩ = some (.int .i64 0) := (zC BK904.out 4).trans rfl; have hcz22_5 : w20.cell? ⟨gb904, 5, none⟩ = some (.bool false) := (zC BK904.out 5).trans rfl; have hcz22_6 : w20.cell? ⟨gb904, 6, none⟩ = some (.bool false) := (zC BK904.out 6).trans rfl; have hcz22_7 : w20.cell? ⟨gb904, 7, none⟩ = some (.string (⟨#[]⟩ : ByteArray)) := (zC BK904.out 7).trans rfl; have hcz22_8 : w20.cell? ⟨gb904, 8, none⟩ = some (.string (⟨#[]⟩ : ByteArray)) := (zC BK904.out 8).trans rfl; have hcz22_9 : w20.cell? ⟨gb904, 9, none⟩ = some (.string (⟨#[]⟩ : ByteArray)) := (zC BK904.out 9).trans rfl; have hfz22_0 := zF BK904.out 0; have hfz22_1 := zF BK904.out 1; have hfz22_2 := zF BK904.out 2; have hfz22_3 := zF BK904.out 3; have hfz22_4 := zF BK904.out 4; have hfz22_5 := zF BK904.out 5; have hfz22_6 := zF BK904.out 6; have hfz22_7 := zF BK904.out 7; have hfz22_8 := zF BK904.out 8; have hfz22_9 := zF BK904.out 9; have hcy1_0 : w20.cell? ⟨gb899, 0, none⟩ = some (.int .i64 t887) := (zC BK899.out 0).trans rfl; have hcy1_1 : w20.cell? ⟨gb899, 1, none⟩ = some (.int .i64 t888) := (zC BK899.out 1).trans rfl; have hcy1_2 : w20.cell? ⟨gb899, 2, none⟩ = some (.int .i64 t889) := (zC BK899.out 2).trans rfl; have hcy1_3 : w20.cell? ⟨gb899, 3, none⟩ = some (.int .i64 t890) := (zC BK899.out 3).trans rfl; have hcy1_4 : w20.cell? ⟨gb899, 4, none⟩ = some (.int .i64 t891) := (zC BK899.out 4).trans rfl; have hcy1_5 : w20.cell? ⟨gb899, 5, none⟩ = some (.bool false) := (zC BK899.out 5).trans rfl; have hcy1_6 : w20.cell? ⟨gb899, 6, none⟩ = some (.bool t893) := (zC BK899.out 6).trans rfl; have hcy1_7 : w20.cell? ⟨gb899, 7, none⟩ = some (.string t894) := (zC BK899.out 7).trans rfl; have hcy1_8 : w20.cell? ⟨gb899, 8, none⟩ = some (.string t895) := (zC BK899.out 8).trans rfl; have hcy1_9 : w20.cell? ⟨gb899, 9, none⟩ = some (.string t896) := (zC BK899.out 9).trans rfl))
        go_loopg [10, 11] kj4 (fun kq v10 v11 w' => ∃ (x10_2 : List ByteArray) (x11_2 : ByteArray) (x905002_2 : Int) (x905006_2 : Bool), v11 = .string x11_2 ∧ Aside0 (palanquinref15_Cut.l0 kq t903 x10_2 x11_2 t887 t888 t889 t890 t891 false t893 t894 t895 t896 t887 t888 x905002_2 t890 t891 false x905006_2 t894 t895 t896 = some (r1, r2)) ∧ Aside0 (kq ≤ kj4) ∧ Aside0 (Kd.R Kd.string 9 w' w.heap.size (fun _ => True) v10 x10_2) ∧ Aside0 (w'.heap[gb899]? = some (.cells #[.int .i64 t887, .int .i64 t888, .int .i64 t889, .int .i64 t890, .int .i64 t891, .bool false, .bool t893, .string t894, .string t895, .string t896] 93 (0, 0))) ∧ Aside0 (w'.heap[gb904]? = some (.cells #[.int .i64 t887, .int .i64 t888, .int .i64 x905002_2, .int .i64 t890, .int .i64 t891, .bool false, .bool x905006_2, .string t894, .string t895, .string t896] 93 (0, 0))) ∧ Aside0 (Below w.heap.size w w'))
        case atStart => exact ⟨(([] : List ByteArray)), (t897), (t889), (t893), (by first | rfl | (simp; done) | (simp [*]; done)), H', ⟨Nat.le_refl _⟩, ⟨by first | exact Kd.R_nil _ _ _ _ _ | exact Kd.N_nil _ _ _ _ _ | exact Kd.V_nil _ _ _ _ _ | exact Kd.Q_nil _ _ _ _ _ | exact Kd.S_nil _ _ _ _ _⟩, ⟨by (with_reducible repeat (first | apply kN | apply kD | apply kA)); refine blk_far ?_ NB899_904.out _; (with_reducible repeat (first | apply kN | apply kD | apply kA)); refine blk_far ?_ NB899_904.out _; (with_reducible repeat (first | apply kN | apply kD | apply kA)); refine blk_far ?_ NB899_904.out _; (with_reducible repeat (first | apply kN | apply kD | apply kA)); refine blk_far ?_ NB899_904.out _; (with_reducible repeat (first | apply kN | apply kD | apply kA)); refine blk_far ?_ NB899_904.out _; (with_reducible repeat (first | apply kN | apply kD | apply kA)); refine blk_far ?_ NB899_904.out _; (with_reducible repeat (first | apply kN | apply kD | apply kA)); refine blk_far ?_ NB899_904.out _; (with_reducible repeat (first | apply kN | apply kD | apply kA)); refine blk_far ?_ NB899_904.out _; (with_reducible repeat (first | apply kN | apply kD | apply kA)); refine blk_far ?_ NB899_904.out _; (with_reducible repeat (first | apply kN | apply kD | apply kA)); refine blk_far ?_ NB899_904.out _; (with_reducible repeat (first | apply kN | apply kD | apply kA)); exact BK899.out⟩, ⟨by (with_reducible repeat (first | apply kN | apply kD | apply kA)); refine blk_put (cs := #[.int .i64 t887, .int .i64 t888, .int .i64 t889, .int .i64 t890, .int .i64 t891, .bool false, .bool t893, .string t894, .string t895, .string (⟨#[]⟩ : ByteArray)]) ?_ 9 _ rfl; (with_reducible repeat (first | apply kN | apply kD | apply kA)); refine blk_put (cs := #[.int .i64 t887, .int .i64 t888, .int .i64 t889, .int .i64 t890, .int .i64 t891, .bool false, .bool t893, .string t894, .string (⟨#[]⟩ : ByteArray), .string (⟨#[]⟩ : ByteArray)]) ?_ 8 _ rfl; (with_reducible repeat (first | apply kN | apply kD | apply kA)); refine blk_put (cs := #[.int .i64 t887, .int .i64 t888, .int .i64 t889, .int .i64 t890, .int .i64 t891, .bool false, .bool t893, .string (⟨#[]⟩ : ByteArray), .string (⟨#[]⟩ : ByteArray), .string (⟨#[]⟩ : ByteArray)]) ?_ 7 _ rfl; (with_reducible repeat (first | apply kN | apply kD | apply kA)); refine blk_put (cs := #[.int .i64 t887, .int .i64 t888, .int .i64 t889, .int .i64 t890, .int .i64 t891, .bool false, .bool false, .string (⟨#[]⟩ : ByteArray), .string (⟨#[]⟩ : ByteArray), .string (⟨#[]⟩ : ByteArray)]) ?_ 6 _ rfl; (with_reducible repeat (first | apply kN | apply kD | apply kA)); refine blk_put (cs := #[.int .i64 t887, .int .i64 t888, .int .i64 t889, .int .i64 t890, .int .i64 t891, .bool false, .bool false, .string (⟨#[]⟩ : ByteArray), .string (⟨#[]⟩ : ByteArray), .string (⟨#[]⟩ : ByteArray)]) ?_ 5 _ rfl; (with_reducible repeat (first | apply kN | apply kD | apply kA)); refine blk_put (cs := #[.int .i64 t887, .int .i64 t888, .int .i64 t889, .int .i64 t890, .int .i64 0, .bool false, .bool false, .string (⟨#[]⟩ : ByteArray), .string (⟨#[]⟩ : ByteArray), .string (⟨#[]⟩ : ByteArray)]) ?_ 4 _ rfl; (with_reducible repeat (first | apply kN | apply kD | apply kA)); refine blk_put (cs := #[.int .i64 t887, .int .i64 t888, .int .i64 t889, .int .i64 0, .int .i64 0, .bool false, .bool false, .string (⟨#[]⟩ : ByteArray), .string (⟨#[]⟩ : ByteArray), .string (⟨#[]⟩ : ByteArray)]) ?_ 3 _ rfl; (with_reducible repeat (first | apply kN | apply kD | apply kA)); refine blk_put (cs := #[.int .i64 t887, .int .i64 t888, .int .i64 0, .int .i64 0, .int .i64 0, .bool false, .bool false, .string (⟨#[]⟩ : ByteArray), .string (⟨#[]⟩ : ByteArray), .string (⟨#[]⟩ : ByteArray)]) ?_ 2 _ rfl; (with_reducible repeat (first | apply kN | apply kD | apply kA)); refine blk_put (cs := #[.int .i64 t887, .int .i64 0, .int .i64 0, .int .i64 0, .int .i64 0, .bool false, .bool false, .string (⟨#[]⟩ : ByteArray), .string (⟨#[]⟩ : ByteArray), .string (⟨#[]⟩ : ByteArray)]) ?_ 1 _ rfl; (with_reducible repeat (first | apply kN | apply kD | apply kA)); refine blk_put (cs := #[.int .i64 0, .int .i64 0, .int .i64 0, .int .i64 0, .int .i64 0, .bool false, .bool false, .string (⟨#[]⟩ : ByteArray), .string (⟨#[]⟩ : ByteArray), .string (⟨#[]⟩ : ByteArray)]) ?_ 0 _ rfl; (with_reducible repeat (first | apply kN | apply kD | apply kA)); exact BK904.out⟩, ⟨by repeat (first | (with_reducible first | exact HB.out | apply bA | apply bN | apply bD | refine bS ?_ GE899.out | refine bS ?_ GE904.out) | exact HB.out)⟩⟩
        case round =>
         clear H'
         try clear c1
         try clear c2
         try clear p2
         try clear c4
         try clear c4b0
         try clear c4b1
         try clear p6
         try clear c9
         try clear c9b0
         try clear c10
         try clear c11
         try clear c11b0
         try clear c14
         try clear c17
         try clear c17b0
         try clear c17b1
         try clear c21
         try clear hcz15_0
         try clear hcz15_1
         try clear hcz15_2
         try clear hcz15_3
         try clear hcz15_4
         try clear hcz15_5
         try clear hcz15_6
         try clear hcz15_7
         try clear hcz15_8
         try clear hcz15_9
         try clear hcz18_0
         try clear hcz18_1
         try clear hcz18_2
         try clear hcz18_3
         try clear hcz18_4
         try clear hcz18_5
         try clear hcz18_6
         try clear hcz18_7
         try clear hcz18_8
         try clear hcz18_9
         try clear hcz19_0
         try clear hcz19_1
         try clear hcz19_2
         try clear hcz19_3
         try clear hcz19_4
         try clear hcz19_5
         try clear hcz19_6
         try clear hcz19_7
         try clear hcz19_8
         try clear hcz19_9
         try clear hcz22_0
         try clear hcz22_1
         try clear hcz22_2
         try clear hcz22_3
         try clear hcz22_4
         try clear hcz22_5
         try clear hcz22_6
         try clear hcz22_7
         try clear hcz22_8
         try clear hcz22_9
         try clear hcz8_0
         try clear hcz8_1
         try clear hcz8_2
         try clear hcz8_3
         try clear hcz8_4
         try clear hcz8_5
         try clear hcz8_6
         try clear hcz8_7
         try clear hcz8_8
         try clear hcz8_9
         try clear hfz15_0
         try clear hfz15_1
         try clear hfz15_2
         try clear hfz15_3
         try clear hfz15_4
         try clear hfz15_5
         try clear hfz15_6
         try clear hfz15_7
         try clear hfz15_8
         try clear hfz15_9
         try clear hfz18_0
         try clear hfz18_1
         try clear hfz18_2
         try clear hfz18_3
         try clear hfz18_4
         try clear hfz18_5
         try clear hfz18_6
         try clear hfz18_7
         try clear hfz18_8
         try clear hfz18_9
         try clear hfz19_0
         try clear hfz19_1
         try clear hfz19_2
         try clear hfz19_3
         try clear hfz19_4
         try clear hfz19_5
         try clear hfz19_6
         try clear hfz19_7
         try clear hfz19_8
         try clear hfz19_9
         try clear hfz22_0
         try clear hfz22_1
         try clear hfz22_2
         try clear hfz22_3
         try clear hfz22_4
         try clear hfz22_5
         try clear hfz22_6
         try clear hfz22_7
         try clear hfz22_8
         try clear hfz22_9
         try clear hfz8_0
         try clear hfz8_1
         try clear hfz8_2
         try clear hfz8_3
         try clear hfz8_4
         try clear hfz8_5
         try clear hfz8_6
         try clear hfz8_7
         try clear hfz8_8
         try clear hfz8_9
         try clear p2
         obtain ⟨x10_2, x11_2, x905002_2, x905006_2, rfl, HA, HK2, HO_10, BK899, BK904, HB⟩ := hrel
         cases gk with
         | zero => exact absurd HA.out (by simp [palanquinref15_Cut.l0])
         | succ k2 =>
          have H := HA.out
          clear HA
          simp only [palanquinref15_Cut.l0] at H
          by_cases c23 : (x11_2.size : Int) > t903
          ·rw [if_pos c23] at H
           have c23b0 : decide (t903 < (x11_2.size : Int)) = true := decide_eq_true c23
           clear c23
           by_cases c24 : 0 ≤ t903
           ·rw [if_pos c24] at H
            have c24b0 := eq_true c24
            have c24b1 : decide (0 ≤ t903) = true := decide_eq_true c24
            clear c24
            by_cases c25 : t903 ≤ (x11_2.size : Int)
            ·rw [if_pos c25] at H
             have c25b0 := eq_true c25
             have c25b1 : decide (t903 ≤ (x11_2.size : Int)) = true := decide_eq_true c25
             clear c25
             replace H := Option.bind_eq_some_iff.mp H
             obtain ⟨⟨t905, t906⟩, A260, H⟩ := H
             replace H : (if x10_2.length < 8796093022208 then (if (wrap64 (x905002_2 + (wrap64 (Int.tdiv t903 8)))) > 8191 then (some (([] : List ByteArray), 4)) else (palanquinref15_Cut.l0 k2 t903 (x10_2 ++ [t905]) (x11_2.extract (t903 : Int).toNat x11_2.size) t887 t888 t889 t890 t891 false t893 t894 t895 t896 t887 t888 (wrap64 (x905002_2 + (wrap64 (Int.tdiv t903 8)))) t890 t891 false true t894 t895 t896)) else (none)) = some (r1, r2) := H
             have A26 := mA A260
             clear A260
             by_cases c27 : x10_2.length < 8796093022208
             ·rw [if_pos c27] at H
              have LMc27 := mA c27
              clear c27
              obtain ⟨y907, hy907⟩ : ∃ y_ : List ByteArray, y_ = (x10_2 ++ [t905]) := ⟨_, rfl⟩
              replace H : (if (wrap64 (x905002_2 + (wrap64 (Int.tdiv t903 8)))) > 8191 then (some (([] : List ByteArray), 4)) else (palanquinref15_Cut.l0 k2 t903 y907 (x11_2.extract (t903 : Int).toNat x11_2.size) t887 t888 t889 t890 t891 false t893 t894 t895 t896 t887 t888 (wrap64 (x905002_2 + (wrap64 (Int.tdiv t903 8)))) t890 t891 false true t894 t895 t896)) = some (r1, r2) := by first | (rw [hy907]; with_reducible exact H) | (have H2_ := (Option.bind_some _ _).symm.trans H; rw [hy907]; with_reducible exact H2_) | (have H2_ := (Option.bind_some _ _).symm.trans H; with_reducible exact H2_) | with_reducible exact H | (rw [hy907]; exact H) | exact H
              have Ny907 := mA hy907
              clear hy907
              have c28b0 := eq_true (of_decide_eq_true (by first | (with_reducible assumption) | assumption) : 0 ≤ t903)
              have c29b0 := eq_true (of_decide_eq_true (by first | (with_reducible assumption) | assumption) : t903 ≤ (x11_2.size : Int))
              by_cases c30 : (wrap64 (x905002_2 + (wrap64 (Int.tdiv t903 8)))) > 8191
              ·rw [if_pos c30] at H
               have c30b0 : decide (8191 < (wrap64 (x905002_2 + (wrap64 (Int.tdiv t903 8))))) = true := decide_eq_true c30
               clear c30
               simp only [Option.some.injEq, Prod.mk.injEq] at H
               obtain ⟨rfl, rfl⟩ := H
               have hnb31 := NB904_899.out
               have hnc31 := NB899_904.out
               have hcz32_0 : wr.cell? ⟨gb904, 0, none⟩ = some (.int .i64 t887) := (zC BK904.out 0).trans rfl
               have hcz32_1 : wr.cell? ⟨gb904, 1, none⟩ = some (.int .i64 t888) := (zC BK904.out 1).trans rfl
               have hcz32_2 : wr.cell? ⟨gb904, 2, none⟩ = some (.int .i64 x905002_2) := (zC BK904.out 2).trans rfl
               have hcz32_3 : wr.cell? ⟨gb904, 3, none⟩ = some (.int .i64 t890) := (zC BK904.out 3).trans rfl
               have hcz32_4 : wr.cell? ⟨gb904, 4, none⟩ = some (.int .i64 t891) := (zC BK904.out 4).trans rfl
               have hcz32_5 : wr.cell? ⟨gb904, 5, none⟩ = some (.bool false) := (zC BK904.out 5).trans rfl
               have hcz32_6 : wr.cell? ⟨gb904, 6, none⟩ = some (.bool x905006_2) := (zC BK904.out 6).trans rfl
               have hcz32_7 : wr.cell? ⟨gb904, 7, none⟩ = some (.string t894) := (zC BK904.out 7).trans rfl
               have hcz32_8 : wr.cell? ⟨gb904, 8, none⟩ = some (.string t895) := (zC BK904.out 8).trans rfl
               have hcz32_9 : wr.cell? ⟨gb904, 9, none⟩ = some (.string t896) := (zC BK904.out 9).trans rfl
               have hfz32_0 := zF BK904.out 0
               have hfz32_1 := zF BK904.out 1
               have hfz32_2 := zF BK904.out 2
               have hfz32_3 := zF BK904.out 3
               have hfz32_4 := zF BK904.out 4
               have hfz32_5 := zF BK904.out 5
               have hfz32_6 := zF BK904.out 6
               have hfz32_7 := zF BK904.out 7
               have hfz32_8 := zF BK904.out 8
               have hfz32_9 := zF BK904.out 9
               try go_wp2
               have n0_ : Aside0 (Kd.R Kd.string 9 (wr.setCell ⟨gb904, 6, none⟩ (.bool true)) w.heap.size (fun _ => True) u10 x10_2) := ⟨by (with_reducible repeat (first | apply Kd.R_alloc | apply Kd.R_drewN | apply Kd.R_drew)); exact Kd.R_mono (Kd.R_far (p := ⟨gb904, 6, none⟩) (Kd.R_types HO_10.out BK904.out (by decide)) (fun _ hk => hk.2) (.bool true)) (fun _ hk => trivial)⟩
               have n1_ : Aside0 ((wr.setCell ⟨gb904, 6, none⟩ (.bool true)).heap[gb899]? = some (.cells #[.int .i64 t887, .int .i64 t888, .int .i64 t889, .int .i64 t890, .int .i64 t891, .bool false, .bool t893, .string t894, .string t895, .string t896] 93 (0, 0))) := ⟨by (with_reducible repeat (first | apply kN | apply kD | apply kA)); refine blk_far ?_ NB899_904.out _; (with_reducible repeat (first | apply kN | apply kD | apply kA)); exact BK899.out⟩
               have n2_ : Aside0 ((wr.setCell ⟨gb904, 6, none⟩ (.bool true)).heap[gb904]? = some (.cells #[.int .i64 t887, .int .i64 t888, .int .i64 x905002_2, .int .i64 t890, .int .i64 t891, .bool false, .bool true, .string t894, .string t895, .string t896] 93 (0, 0))) := ⟨by (with_reducible repeat (first | apply kN | apply kD | apply kA)); refine blk_put (cs := #[.int .i64 t887, .int .i64 t888, .int .i64 x905002_2, .int .i64 t890, .int .i64 t891, .bool false, .bool x905006_2, .string t894, .string t895, .string t896]) ?_ 6 _ rfl; (with_reducible repeat (first | apply kN | apply kD | apply kA)); exact BK904.out⟩
               have n3_ : Aside0 (Below w.heap.size w (wr.setCell ⟨gb904, 6, none⟩ (.bool true))) := ⟨by repeat (first | (with_reducible first | exact HB.out | apply bA | apply bN | apply bD | refine bS ?_ GE899.out | refine bS ?_ GE904.out) | exact HB.out)⟩
               (try clear HO_10)
               (try clear BK899)
               (try clear BK904)
               (try clear HB)
               generalize (wr.setCell ⟨gb904, 6, none⟩ (.bool true)) = w33 at n0_ n1_ n2_ n3_ ⊢
               have HO_10 := n0_
               have BK899 := n1_
               have BK904 := n2_
               have HB := n3_
               clear n0_ n1_ n2_ n3_
               have n0_ := mA (Kd.R_drew HO_10.out)
               have n1_ := mA (kD BK899.out)
               have n2_ := mA (kD BK904.out)
               have n3_ := mA (bD HB.out)
               clear HO_10
               clear BK899
               clear BK904
               clear HB
               have HO_10 := n0_
               have BK899 := n1_
               have BK904 := n2_
               have HB := n3_
               clear n0_ n1_ n2_ n3_
               refine start_ (n := 10) (S := fun w' => w'.cell? ⟨gb904, 0, none⟩ = some (.int .i64 t887) ∧ w'.cell? ⟨gb904, 1, none⟩ = some (.int .i64 t888) ∧ w'.cell? ⟨gb904, 2, none⟩ = some (.int .i64 x905002_2) ∧ w'.cell? ⟨gb904, 3, none⟩ = some (.int .i64 t890) ∧ w'.cell? ⟨gb904, 4, none⟩ = some (.int .i64 t891) ∧ w'.cell? ⟨gb904, 5, none⟩ = some (.bool false) ∧ w'.cell? ⟨gb904, 6, none⟩ = some (.bool true) ∧ w'.cell? ⟨gb904, 7, none⟩ = some (.string t894) ∧ w'.cell? ⟨gb904, 8, none⟩ = some (.string t895) ∧ w'.cell? ⟨gb904, 9, none⟩ = some (.string t896)) (ds := []) #[false, false, false, false, false, false, false, false, false, false] (by kernel_rfl) rfl rfl ⟨(zC BK904.out 0).trans rfl, (zC BK904.out 1).trans rfl, (zC BK904.out 2).trans rfl, (zC BK904.out 3).trans rfl, (zC BK904.out 4).trans rfl, (zC BK904.out 5).trans rfl, (zC BK904.out 6).trans rfl, (zC BK904.out 7).trans rfl, (zC BK904.out 8).trans rfl, (zC BK904.out 9).trans rfl⟩ (fun hHeld => ?_); refine with_tabW palanquinref15_Cut.tab18 palanquinref15_Cut.bits18 (fun HT_ HW_ => ?_)
               generalize w33.drew = w34 at HO_10 BK899 BK904 HB hHeld ⊢
               refine pure_ (i := 1) (N := some 57) (v := ?_) (a' := ?_) #[false, true, false, false, false, false, false, false, false, false] rfl rfl (any_of HT_.out (by kernel_rfl)) (fun _ _ _ h => h) (Or.inl ⟨by rfl, ?_⟩) ?_ ?_
               rotate_left
               ·intro w'
                go_simp
                with_reducible rfl
               rotate_left
               ·simp only [Act.put, List.setIfInBounds_toArray, List.set_cons_zero, List.set_cons_succ, i64_w, i32_w]
                rfl
               refine pure_ (i := 2) (N := some 58) (v := ?_) (a' := ?_) #[false, true, true, false, false, false, false, false, false, false] rfl rfl (any_of HT_.out (by kernel_rfl)) (fun _ _ _ h => h) (Or.inl ⟨by rfl, ?_⟩) ?_ ?_
               rotate_left
               ·intro w'
                go_simp
                with_reducible rfl
               rotate_left
               ·simp only [Act.put, List.setIfInBounds_toArray, List.set_cons_zero, List.set_cons_succ, i64_w, i32_w]
                rfl
               refine pure_ (i := 3) (N := some 59) (v := ?_) (a' := ?_) #[false, true, true, true, false, false, false, false, false, false] rfl rfl (any_of HT_.out (by kernel_rfl)) (fun _ _ _ h => h) (Or.inl ⟨by rfl, ?_⟩) ?_ ?_
               rotate_left
               ·intro w'
                go_simp
                with_reducible rfl
               rotate_left
               ·simp only [Act.put, List.setIfInBounds_toArray, List.set_cons_zero, List.set_cons_succ, i64_w, i32_w]
                rfl
               refine take_ (i := 0) (N := some 56) (v := ?_) (a' := ?_) #[true, true, true, true, false, false, false, false, false, false] rfl rfl (take_ofW HT_.out HW_.out (by kernel_rfl)) (fun _ _ _ h => h) (Or.inl ⟨by rfl, ?_⟩) hHeld ?_ ?_
               rotate_left
               ·rintro w' ⟨s0, s1, s2, s3, s4, s5, s6, s7, s8, s9⟩
                go_simp
                with_reducible rfl
               rotate_left
               ·simp only [Act.put, List.setIfInBounds_toArray, List.set_cons_zero, List.set_cons_succ, i64_w, i32_w]
                rfl
               refine one_ (i := 4) (N := some 60) #[true, true, true, true, true, false, false, false, false, false] rfl rfl (one_of HT_.out (by kernel_rfl)) (by decide) (fun K hK => ?_)
               refine goes_ Try.func86 (by kernel_rfl) rfl #[.agg #[.int .i64 t887, .int .i64 t888, .int .i64 x905002_2, .int .i64 t890, .int .i64 t891, .bool false, .bool true, .string t894, .string t895, .string t896], .string (x11_2.extract 0 (t903 : Int).toNat)] (by rfl) rfl rfl (by (try simp only [List.map_toArray, List.map_cons, List.map_nil]); first | done | rfl | (simp only [List.length_drop, List.length_take]; rfl)) ?_
               with_reducible refine (palanquinref05_Put.calls k2 t887 t888 x905002_2 t890 t891 false true t894 t895 t896 (x11_2.extract 0 (t903 : Int).toNat) t905 t906 _ A26.out).mono ?_
               rintro e w35 ⟨rfl, hb⟩
               refine ⟨_, rfl, ?_⟩
               have n0_ := mA (Kd.R_below (by (with_reducible repeat (first | apply Kd.R_alloc | apply Kd.R_drewN | apply Kd.R_drew)); exact HO_10.out) hb)
               have n1_ := mA (blk_below (g := gb899) (o := .cells #[.int .i64 t887, .int .i64 t888, .int .i64 t889, .int .i64 t890, .int .i64 t891, .bool false, .bool t893, .string t894, .string t895, .string t896] 93 (0, 0)) (by (with_reducible repeat (first | apply kN | apply kD | apply kA)); exact BK899.out) hb)
               have n2_ := mA (blk_below (g := gb904) (o := .cells #[.int .i64 t887, .int .i64 t888, .int .i64 x905002_2, .int .i64 t890, .int .i64 t891, .bool false, .bool true, .string t894, .string t895, .string t896] 93 (0, 0)) (by (with_reducible repeat (first | apply kN | apply kD | apply kA)); exact BK904.out) hb)
               have n3_ := mA (bP (by repeat (first | (with_reducible first | exact HB.out | apply bA | apply bN | apply bD | refine bS ?_ GE899.out | refine bS ?_ GE904.out) | exact HB.out)) hb)
               clear HO_10
               clear BK899
               clear BK904
               clear HB
               have HO_10 := n0_
               have BK899 := n1_
               have BK904 := n2_
               have HB := n3_
               clear n0_ n1_ n2_ n3_
               (try clear hb)
               (try clear hb2)
               (try clear hk)
               (try clear hi)
               refine hK.out _ _ ⟨(zC BK904.out 0).trans rfl, (zC BK904.out 1).trans rfl, (zC BK904.out 2).trans rfl, (zC BK904.out 3).trans rfl, (zC BK904.out 4).trans rfl, (zC BK904.out 5).trans rfl, (zC BK904.out 6).trans rfl, (zC BK904.out 7).trans rfl, (zC BK904.out 8).trans rfl, (zC BK904.out 9).trans rfl⟩ (fun hHeld => ?_)
               clear hK K
               refine norm_ (a' := ?_) ?_ ?_
               rotate_left
               ·show Act.put _ (some 60) _ = _
                simp only [Act.put, List.setIfInBounds_toArray, List.set_cons_zero, List.set_cons_succ, i64_w, i32_w]
                rfl
               refine pure_ (i := 5) (N := some 55) (v := ?_) (a' := ?_) #[true, true, true, true, true, true, false, false, false, false] rfl rfl (any_of HT_.out (by kernel_rfl)) (fun _ _ _ h => h) (Or.inl ⟨by rfl, ?_⟩) ?_ ?_
               rotate_left
               ·intro w'
                go_simp
                with_reducible rfl
               rotate_left
               ·simp only [Act.put, List.setIfInBounds_toArray, List.set_cons_zero, List.set_cons_succ, i64_w, i32_w]
                rfl
               refine pure_ (i := 6) (N := some 61) (v := ?_) (a' := ?_) #[true, true, true, true, true, true, true, false, false, false] rfl rfl (any_of HT_.out (by kernel_rfl)) (fun _ _ _ h => h) (Or.inl ⟨by rfl, ?_⟩) ?_ ?_
               rotate_left
               ·intro w'
                go_simp
                with_reducible rfl
               rotate_left
               ·simp only [Act.put, List.setIfInBounds_toArray, List.set_cons_zero, List.set_cons_succ, i64_w, i32_w]
                rfl
               refine pure_ (i := 7) (N := some 62) (v := ?_) (a' := ?_) #[true, true, true, true, true, true, true, true, false, false] rfl rfl (any_of HT_.out (by kernel_rfl)) (fun _ _ _ h => h) (Or.inl ⟨by rfl, ?_⟩) ?_ ?_
               rotate_left
               ·intro w'
                go_simp
                with_reducible rfl
               rotate_left
               ·simp only [Act.put, List.setIfInBounds_toArray, List.set_cons_zero, List.set_cons_succ, i64_w, i32_w]
                rfl
               refine pure_ (i := 8) (N := some 13) (v := ?_) (a' := ?_) #[true, true, true, true, true, true, true, true, true, false] rfl rfl (any_of HT_.out (by kernel_rfl)) (fun _ _ _ h => h) (Or.inl ⟨by rfl, ?_⟩) ?_ ?_
               rotate_left
               ·intro w'
                go_simp
                with_reducible rfl
               rotate_left
               ·simp only [Act.put, List.setIfInBounds_toArray, List.set_cons_zero, List.set_cons_succ, i64_w, i32_w]
                rfl
               refine pure_ (i := 9) (N := some 14) (v := ?_) (a' := ?_) #[true, true, true, true, true, true, true, true, true, true] rfl rfl (any_of HT_.out (by kernel_rfl)) (fun _ _ _ h => h) (Or.inl ⟨by rfl, ?_⟩) ?_ ?_
               rotate_left
               ·intro w'
                go_simp
                with_reducible rfl
               rotate_left
               ·simp only [Act.put, List.setIfInBounds_toArray, List.set_cons_zero, List.set_cons_succ, i64_w, i32_w]
                rfl
               refine done_ (done_of HT_.out (by kernel_rfl)) ?_
               try go_wp2_with (first | ((with_reducible refine gate_builtin (b := .append) (xs := #[.tmp 63, .tmp 65]) rfl ?_); at_builtin; refine Kd.R_append Kd.string (w0 := w) w.heap.size rfl (.tmp 63) (.tmp 65) 32 9 (.string ⟨#[]⟩) 16 rfl Try.underlying32 info9 rfl (by decide) (by omega) u10 x10_2 t905 [.string t905] (fun _ => True) (fun _ => False) rfl rfl ?aP (fun _ hk => hk.elim) ?aF ?aO ?aB ?aS ?aL ?_; (case aP => exact rfl); (case aB => exact (by repeat (first | (with_reducible first | exact HB.out | apply bA | apply bN | apply bD | refine bS ?_ GE899.out | refine bS ?_ GE904.out) | exact HB.out))); (case aF => exact (fun _ _ => trivial)); (case aO => exact (by (with_reducible repeat (first | apply Kd.R_alloc | apply Kd.R_drewN | apply Kd.R_drew)); exact HO_10.out)); (case aS => exact (below_size (by repeat (first | (with_reducible first | exact HB.out | apply bA | apply bN | apply bD | refine bS ?_ GE899.out | refine bS ?_ GE904.out) | exact HB.out)))); (case aL => have := LMc27.out; omega); intro v908 w36 ho hb hg hat; rw [← Ny907.out] at ho; have n0_ := mA (blk_grown (g := gb899) (o := .cells #[.int .i64 t887, .int .i64 t888, .int .i64 t889, .int .i64 t890, .int .i64 t891, .bool false, .bool t893, .string t894, .string t895, .string t896] 93 (0, 0)) (by (with_reducible repeat (first | apply kN | apply kD | apply kA)); exact BK899.out) hg (Kd.R_ne HO_10.out BK899.out (by decide))); have n1_ := mA (blk_grown (g := gb904) (o := .cells #[.int .i64 t887, .int .i64 t888, .int .i64 x905002_2, .int .i64 t890, .int .i64 t891, .bool false, .bool true, .string t894, .string t895, .string t896] 93 (0, 0)) (by (with_reducible repeat (first | apply kN | apply kD | apply kA)); exact BK904.out) hg (Kd.R_ne HO_10.out BK904.out (by decide))); have n2_ := mA (hb); have n3_ := mA (ho); clear BK899; clear BK904; clear HB; clear HO_10; have BK899 := n0_; have BK904 := n1_; have HB := n2_; have HO909 := n3_; clear n0_ n1_ n2_ n3_; clear ho hb hg hat; have hcz37_0 : w36.cell? ⟨gb904, 0, none⟩ = some (.int .i64 t887) := (zC BK904.out 0).trans rfl; have hcz37_1 : w36.cell? ⟨gb904, 1, none⟩ = some (.int .i64 t888) := (zC BK904.out 1).trans rfl; have hcz37_2 : w36.cell? ⟨gb904, 2, none⟩ = some (.int .i64 x905002_2) := (zC BK904.out 2).trans rfl; have hcz37_3 : w36.cell? ⟨gb904, 3, none⟩ = some (.int .i64 t890) := (zC BK904.out 3).trans rfl; have hcz37_4 : w36.cell? ⟨gb904, 4, none⟩ = some (.int .i64 t891) := (zC BK904.out 4).trans rfl; have hcz37_5 : w36.cell? ⟨gb904, 5, none⟩ = some (.bool false) := (zC BK904.out 5).trans rfl; have hcz37_6 : w36.cell? ⟨gb904, 6, none⟩ = some (.bool true) := (zC BK904.out 6).trans rfl; have hcz37_7 : w36.cell? ⟨gb904, 7, none⟩ = some (.string t894) := (zC BK904.out 7).trans rfl; have hcz37_8 : w36.cell? ⟨gb904, 8, none⟩ = some (.string t895) := (zC BK904.out 8).trans rfl; have hcz37_9 : w36.cell? ⟨gb904, 9, none⟩ = some (.string t896) := (zC BK904.out 9).trans rfl; have hfz37_0 := zF BK904.out 0; have hfz37_1 := zF BK904.out 1; have hfz37_2 := zF BK904.out 2; have hfz37_3 := zF BK904.out 3; have hfz37_4 := zF BK904.out 4; have hfz37_5 := zF BK904.out 5; have hfz37_6 := zF BK904.out 6; have hfz37_7 := zF BK904.out 7; have hfz37_8 := zF BK904.out 8; have hfz37_9 := zF BK904.out 9))
               go_ret2
               exact ⟨_, by first | rfl | (simp [errW_none, errW_some] <;> rfl) | (simp [*, errW_none, errW_some] <;> rfl), by first | exact Kd.R_nil _ _ _ _ _ | exact Kd.N_nil _ _ _ _ _ | exact Kd.V_nil _ _ _ _ _ | exact Kd.Q_nil _ _ _ _ _ | exact Kd.S_nil _ _ _ _ _, by repeat (first | (with_reducible first | exact HB.out | apply bA | apply bN | apply bD | refine bS ?_ GE899.out | refine bS ?_ GE904.out) | exact HB.out)⟩
              ·rw [if_neg c30] at H
               have c30b0 : decide (8191 < (wrap64 (x905002_2 + (wrap64 (Int.tdiv t903 8))))) = false := decide_eq_false c30
               clear c30
               have H' := mA H
               clear H
               have hnb38 := NB904_899.out
               have hnc38 := NB899_904.out
               have hcz39_0 : wr.cell? ⟨gb904, 0, none⟩ = some (.int .i64 t887) := (zC BK904.out 0).trans rfl
               have hcz39_1 : wr.cell? ⟨gb904, 1, none⟩ = some (.int .i64 t888) := (zC BK904.out 1).trans rfl
               have hcz39_2 : wr.cell? ⟨gb904, 2, none⟩ = some (.int .i64 x905002_2) := (zC BK904.out 2).trans rfl
               have hcz39_3 : wr.cell? ⟨gb904, 3, none⟩ = some (.int .i64 t890) := (zC BK904.out 3).trans rfl
               have hcz39_4 : wr.cell? ⟨gb904, 4, none⟩ = some (.int .i64 t891) := (zC BK904.out 4).trans rfl
               have hcz39_5 : wr.cell? ⟨gb904, 5, none⟩ = some (.bool false) := (zC BK904.out 5).trans rfl
               have hcz39_6 : wr.cell? ⟨gb904, 6, none⟩ = some (.bool x905006_2) := (zC BK904.out 6).trans rfl
               have hcz39_7 : wr.cell? ⟨gb904, 7, none⟩ = some (.string t894) := (zC BK904.out 7).trans rfl
               have hcz39_8 : wr.cell? ⟨gb904, 8, none⟩ = some (.string t895) := (zC BK904.out 8).trans rfl
               have hcz39_9 : wr.cell? ⟨gb904, 9, none⟩ = some (.string t896) := (zC BK904.out 9).trans rfl
               have hfz39_0 := zF BK904.out 0
               have hfz39_1 := zF BK904.out 1
               have hfz39_2 := zF BK904.out 2
               have hfz39_3 := zF BK904.out 3
               have hfz39_4 := zF BK904.out 4
               have hfz39_5 := zF BK904.out 5
               have hfz39_6 := zF BK904.out 6
               have hfz39_7 := zF BK904.out 7
               have hfz39_8 := zF BK904.out 8
               have hfz39_9 := zF BK904.out 9
               try go_wp2
               have n0_ : Aside0 (Kd.R Kd.string 9 (wr.setCell ⟨gb904, 6, none⟩ (.bool true)) w.heap.size (fun _ => True) u10 x10_2) := ⟨by (with_reducible repeat (first | apply Kd.R_alloc | apply Kd.R_drewN | apply Kd.R_drew)); exact Kd.R_mono (Kd.R_far (p := ⟨gb904, 6, none⟩) (Kd.R_types HO_10.out BK904.out (by decide)) (fun _ hk => hk.2) (.bool true)) (fun _ hk => trivial)⟩
               have n1_ : Aside0 ((wr.setCell ⟨gb904, 6, none⟩ (.bool true)).heap[gb899]? = some (.cells #[.int .i64 t887, .int .i64 t888, .int .i64 t889, .int .i64 t890, .int .i64 t891, .bool false, .bool t893, .string t894, .string t895, .string t896] 93 (0, 0))) := ⟨by (with_reducible repeat (first | apply kN | apply kD | apply kA)); refine blk_far ?_ NB899_904.out _; (with_reducible repeat (first | apply kN | apply kD | apply kA)); exact BK899.out⟩
               have n2_ : Aside0 ((wr.setCell ⟨gb904, 6, none⟩ (.bool true)).heap[gb904]? = some (.cells #[.int .i64 t887, .int .i64 t888, .int .i64 x905002_2, .int .i64 t890, .int .i64 t891, .bool false, .bool true, .string t894, .string t895, .string t896] 93 (0, 0))) := ⟨by (with_reducible repeat (first | apply kN | apply kD | apply kA)); refine blk_put (cs := #[.int .i64 t887, .int .i64 t888, .int .i64 x905002_2, .int .i64 t890, .int .i64 t891, .bool false, .bool x905006_2, .string t894, .string t895, .string t896]) ?_ 6 _ rfl; (with_reducible repeat (first | apply kN | apply kD | apply kA)); exact BK904.out⟩
               have n3_ : Aside0 (Below w.heap.size w (wr.setCell ⟨gb904, 6, none⟩ (.bool true))) := ⟨by repeat (first | (with_reducible first | exact HB.out | apply bA | apply bN | apply bD | refine bS ?_ GE899.out | refine bS ?_ GE904.out) | exact HB.out)⟩
               (try clear HO_10)
               (try clear BK899)
               (try clear BK904)
               (try clear HB)
               generalize (wr.setCell ⟨gb904, 6, none⟩ (.bool true)) = w40 at n0_ n1_ n2_ n3_ ⊢
               have HO_10 := n0_
               have BK899 := n1_
               have BK904 := n2_
               have HB := n3_
               clear n0_ n1_ n2_ n3_
               have n0_ := mA (Kd.R_drew HO_10.out)
               have n1_ := mA (kD BK899.out)
               have n2_ := mA (kD BK904.out)
               have n3_ := mA (bD HB.out)
               clear HO_10
               clear BK899
               clear BK904
               clear HB
               have HO_10 := n0_
               have BK899 := n1_
               have BK904 := n2_
               have HB := n3_
               clear n0_ n1_ n2_ n3_
               refine start_ (n := 10) (S := fun w' => w'.cell? ⟨gb904, 0, none⟩ = some (.int .i64 t887) ∧ w'.cell? ⟨gb904, 1, none⟩ = some (.int .i64 t888) ∧ w'.cell? ⟨gb904, 2, none⟩ = some (.int .i64 x905002_2) ∧ w'.cell? ⟨gb904, 3, none⟩ = some (.int .i64 t890) ∧ w'.cell? ⟨gb904, 4, none⟩ = some (.int .i64 t891) ∧ w'.cell? ⟨gb904, 5, none⟩ = some (.bool false) ∧ w'.cell? ⟨gb904, 6, none⟩ = some (.bool true) ∧ w'.cell? ⟨gb904, 7, none⟩ = some (.string t894) ∧ w'.cell? ⟨gb904, 8, none⟩ = some (.string t895) ∧ w'.cell? ⟨gb904, 9, none⟩ = some (.string t896)) (ds := []) #[false, false, false, false, false, false, false, false, false, false] (by kernel_rfl) rfl rfl ⟨(zC BK904.out 0).trans rfl, (zC BK904.out 1).trans rfl, (zC BK904.out 2).trans rfl, (zC BK904.out 3).trans rfl, (zC BK904.out 4).trans rfl, (zC BK904.out 5).trans rfl, (zC BK904.out 6).trans rfl, (zC BK904.out 7).trans rfl, (zC BK904.out 8).trans rfl, (zC BK904.out 9).trans rfl⟩ (fun hHeld => ?_); refine with_tabW palanquinref15_Cut.tab18 palanquinref15_Cut.bits18 (fun HT_ HW_ => ?_)
               generalize w40.drew = w41 at HO_10 BK899 BK904 HB hHeld ⊢
               refine pure_ (i := 1) (N := some 57) (v := ?_) (a' := ?_) #[false, true, false, false, false, false, false, false, false, false] rfl rfl (any_of HT_.out (by kernel_rfl)) (fun _ _ _ h => h) (Or.inl ⟨by rfl, ?_⟩) ?_ ?_
               rotate_left
               ·intro w'
                go_simp
                with_reducible rfl
               rotate_left
               ·simp only [Act.put, List.setIfInBounds_toArray, List.set_cons_zero, List.set_cons_succ, i64_w, i32_w]
                rfl
               refine pure_ (i := 2) (N := some 58) (v := ?_) (a' := ?_) #[false, true, true, false, false, false, false, false, false, false] rfl rfl (any_of HT_.out (by kernel_rfl)) (fun _ _ _ h => h) (Or.inl ⟨by rfl, ?_⟩) ?_ ?_
               rotate_left
               ·intro w'
                go_simp
                with_reducible rfl
               rotate_left
               ·simp only [Act.put, List.setIfInBounds_toArray, List.set_cons_zero, List.set_cons_succ, i64_w, i32_w]
                rfl
               refine pure_ (i := 3) (N := some 59) (v := ?_) (a' := ?_) #[false, true, true, true, false, false, false, false, false, false] rfl rfl (any_of HT_.out (by kernel_rfl)) (fun _ _ _ h => h) (Or.inl ⟨by rfl, ?_⟩) ?_ ?_
               rotate_left
               ·intro w'
                go_simp
                with_reducible rfl
               rotate_left
               ·simp only [Act.put, List.setIfInBounds_toArray, List.set_cons_zero, List.set_cons_succ, i64_w, i32_w]
                rfl
               refine take_ (i := 0) (N := some 56) (v := ?_) (a' := ?_) #[true, true, true, true, false, false, false, false, false, false] rfl rfl (take_ofW HT_.out HW_.out (by kernel_rfl)) (fun _ _ _ h => h) (Or.inl ⟨by rfl, ?_⟩) hHeld ?_ ?_
               rotate_left
               ·rintro w' ⟨s0, s1, s2, s3, s4, s5, s6, s7, s8, s9⟩
                go_simp
                with_reducible rfl
               rotate_left
               ·simp only [Act.put, List.setIfInBounds_toArray, List.set_cons_zero, List.set_cons_succ, i64_w, i32_w]
                rfl
               refine one_ (i := 4) (N := some 60) #[true, true, true, true, true, false, false, false, false, false] rfl rfl (one_of HT_.out (by kernel_rfl)) (by decide) (fun K hK => ?_)
               refine goes_ Try.func86 (by kernel_rfl) rfl #[.agg #[.int .i64 t887, .int .i64 t888, .int .i64 x905002_2, .int .i64 t890, .int .i64 t891, .bool false, .bool true, .string t894, .string t895, .string t896], .string (x11_2.extract 0 (t903 : Int).toNat)] (by rfl) rfl rfl (by (try simp only [List.map_toArray, List.map_cons, List.map_nil]); first | done | rfl | (simp only [List.length_drop, List.length_take]; rfl)) ?_
               with_reducible refine (palanquinref05_Put.calls k2 t887 t888 x905002_2 t890 t891 false true t894 t895 t896 (x11_2.extract 0 (t903 : Int).toNat) t905 t906 _ A26.out).mono ?_
               rintro e w42 ⟨rfl, hb⟩
               refine ⟨_, rfl, ?_⟩
               have n0_ := mA (Kd.R_below (by (with_reducible repeat (first | apply Kd.R_alloc | apply Kd.R_drewN | apply Kd.R_drew)); exact HO_10.out) hb)
               have n1_ := mA (blk_below (g := gb899) (o := .cells #[.int .i64 t887, .int .i64 t888, .int .i64 t889, .int .i64 t890, .int .i64 t891, .bool false, .bool t893, .string t894, .string t895, .string t896] 93 (0, 0)) (by (with_reducible repeat (first | apply kN | apply kD | apply kA)); exact BK899.out) hb)
               have n2_ := mA (blk_below (g := gb904) (o := .cells #[.int .i64 t887, .int .i64 t888, .int .i64 x905002_2, .int .i64 t890, .int .i64 t891, .bool false, .bool true, .string t894, .string t895, .string t896] 93 (0, 0)) (by (with_reducible repeat (first | apply kN | apply kD | apply kA)); exact BK904.out) hb)
               have n3_ := mA (bP (by repeat (first | (with_reducible first | exact HB.out | apply bA | apply bN | apply bD | refine bS ?_ GE899.out | refine bS ?_ GE904.out) | exact HB.out)) hb)
               clear HO_10
               clear BK899
               clear BK904
               clear HB
               have HO_10 := n0_
               have BK899 := n1_
               have BK904 := n2_
               have HB := n3_
               clear n0_ n1_ n2_ n3_
               (try clear hb)
               (try clear hb2)
               (try clear hk)
               (try clear hi)
               refine hK.out _ _ ⟨(zC BK904.out 0).trans rfl, (zC BK904.out 1).trans rfl, (zC BK904.out 2).trans rfl, (zC BK904.out 3).trans rfl, (zC BK904.out 4).trans rfl, (zC BK904.out 5).trans rfl, (zC BK904.out 6).trans rfl, (zC BK904.out 7).trans rfl, (zC BK904.out 8).trans rfl, (zC BK904.out 9).trans rfl⟩ (fun hHeld => ?_)
               clear hK K
               refine norm_ (a' := ?_) ?_ ?_
               rotate_left
               ·show Act.put _ (some 60) _ = _
                simp only [Act.put, List.setIfInBounds_toArray, List.set_cons_zero, List.set_cons_succ, i64_w, i32_w]
                rfl
               refine pure_ (i := 5) (N := some 55) (v := ?_) (a' := ?_) #[true, true, true, true, true, true, false, false, false, false] rfl rfl (any_of HT_.out (by kernel_rfl)) (fun _ _ _ h => h) (Or.inl ⟨by rfl, ?_⟩) ?_ ?_
               rotate_left
               ·intro w'
                go_simp
                with_reducible rfl
               rotate_left
               ·simp only [Act.put, List.setIfInBounds_toArray, List.set_cons_zero, List.set_cons_succ, i64_w, i32_w]
                rfl
               refine pure_ (i := 6) (N := some 61) (v := ?_) (a' := ?_) #[true, true, true, true, true, true, true, false, false, false] rfl rfl (any_of HT_.out (by kernel_rfl)) (fun _ _ _ h => h) (Or.inl ⟨by rfl, ?_⟩) ?_ ?_
               rotate_left
               ·intro w'
                go_simp
                with_reducible rfl
               rotate_left
               ·simp only [Act.put, List.setIfInBounds_toArray, List.set_cons_zero, List.set_cons_succ, i64_w, i32_w]
                rfl
               refine pure_ (i := 7) (N := some 62) (v := ?_) (a' := ?_) #[true, true, true, true, true, true, true, true, false, false] rfl rfl (any_of HT_.out (by kernel_rfl)) (fun _ _ _ h => h) (Or.inl ⟨by rfl, ?_⟩) ?_ ?_
               rotate_left
               ·intro w'
                go_simp
                with_reducible rfl
               rotate_left
               ·simp only [Act.put, List.setIfInBounds_toArray, List.set_cons_zero, List.set_cons_succ, i64_w, i32_w]
                rfl
               refine pure_ (i := 8) (N := some 13) (v := ?_) (a' := ?_) #[true, true, true, true, true, true, true, true, true, false] rfl rfl (any_of HT_.out (by kernel_rfl)) (fun _ _ _ h => h) (Or.inl ⟨by rfl, ?_⟩) ?_ ?_
               rotate_left
               ·intro w'
                go_simp
                with_reducible rfl
               rotate_left
               ·simp only [Act.put, List.setIfInBounds_toArray, List.set_cons_zero, List.set_cons_succ, i64_w, i32_w]
                rfl
               refine pure_ (i := 9) (N := some 14) (v := ?_) (a' := ?_) #[true, true, true, true, true, true, true, true, true, true] rfl rfl (any_of HT_.out (by kernel_rfl)) (fun _ _ _ h => h) (Or.inl ⟨by rfl, ?_⟩) ?_ ?_
               rotate_left
               ·intro w'
                go_simp
                with_reducible rfl
               rotate_left
               ·simp only [Act.put, List.setIfInBounds_toArray, List.set_cons_zero, List.set_cons_succ, i64_w, i32_w]
                rfl
               refine done_ (done_of HT_.out (by kernel_rfl)) ?_
               try go_wp2_with (first | ((with_reducible refine gate_builtin (b := .append) (xs := #[.tmp 63, .tmp 65]) rfl ?_); at_builtin; refine Kd.R_append Kd.string (w0 := w) w.heap.size rfl (.tmp 63) (.tmp 65) 32 9 (.string ⟨#[]⟩) 16 rfl Try.underlying32 info9 rfl (by decide) (by omega) u10 x10_2 t905 [.string t905] (fun _ => True) (fun _ => False) rfl rfl ?aP (fun _ hk => hk.elim) ?aF ?aO ?aB ?aS ?aL ?_; (case aP => exact rfl); (case aB => exact (by repeat (first | (with_reducible first | exact HB.out | apply bA | apply bN | apply bD | refine bS ?_ GE899.out | refine bS ?_ GE904.out) | exact HB.out))); (case aF => exact (fun _ _ => trivial)); (case aO => exact (by (with_reducible repeat (first | apply Kd.R_alloc | apply Kd.R_drewN | apply Kd.R_drew)); exact HO_10.out)); (case aS => exact (below_size (by repeat (first | (with_reducible first | exact HB.out | apply bA | apply bN | apply bD | refine bS ?_ GE899.out | refine bS ?_ GE904.out) | exact HB.out)))); (case aL => have := LMc27.out; omega); intro v908 w43 ho hb hg hat; rw [← Ny907.out] at ho; have n0_ := mA (blk_grown (g := gb899) (o := .cells #[.int .i64 t887, .int .i64 t888, .int .i64 t889, .int .i64 t890, .int .i64 t891, .bool false, .bool t893, .string t894, .string t895, .string t896] 93 (0, 0)) (by (with_reducible repeat (first | apply kN | apply kD | apply kA)); exact BK899.out) hg (Kd.R_ne HO_10.out BK899.out (by decide))); have n1_ := mA (blk_grown (g := gb904) (o := .cells #[.int .i64 t887, .int .i64 t888, .int .i64 x905002_2, .int .i64 t890, .int .i64 t891, .bool false, .bool true, .string t894, .string t895, .string t896] 93 (0, 0)) (by (with_reducible repeat (first | apply kN | apply kD | apply kA)); exact BK904.out) hg (Kd.R_ne HO_10.out BK904.out (by decide))); have n2_ := mA (hb); have n3_ := mA (ho); clear BK899; clear BK904; clear HB; clear HO_10; have BK899 := n0_; have BK904 := n1_; have HB := n2_; have HO909 := n3_; clear n0_ n1_ n2_ n3_; clear ho hb hg hat; have hcz44_0 : w43.cell? ⟨gb904, 0, none⟩ = some (.int .i64 t887) := (zC BK904.out 0).trans rfl; have hcz44_1 : w43.cell? ⟨gb904, 1, none⟩ = some (.int .i64 t888) := (zC BK904.out 1).trans rfl; have hcz44_2 : w43.cell? ⟨gb904, 2, none⟩ = some (.int .i64 x905002_2) := (zC BK904.out 2).trans rfl; have hcz44_3 : w43.cell? ⟨gb904, 3, none⟩ = some (.int .i64 t890) := (zC BK904.out 3).trans rfl; have hcz44_4 : w43.cell? ⟨gb904, 4, none⟩ = some (.int .i64 t891) := (zC BK904.out 4).trans rfl; have hcz44_5 : w43.cell? ⟨gb904, 5, none⟩ = some (.bool false) := (zC BK904.out 5).trans rfl; have hcz44_6 : w43.cell? ⟨gb904, 6, none⟩ = some (.bool true) := (zC BK904.out 6).trans rfl; have hcz44_7 : w43.cell? ⟨gb904, 7, none⟩ = some (.string t894) := (zC BK904.out 7).trans rfl; have hcz44_8 : w43.cell? ⟨gb904, 8, none⟩ = some (.string t895) := (zC BK904.out 8).trans rfl; have hcz44_9 : w43.cell? ⟨gb904, 9, none⟩ = some (.string t896) := (zC BK904.out 9).trans rfl; have hfz44_0 := zF BK904.out 0; have hfz44_1 := zF BK904.out 1; have hfz44_2 := zF BK904.out 2; have hfz44_3 := zF BK904.out 3; have hfz44_4 := zF BK904.out 4; have hfz44_5 := zF BK904.out 5; have hfz44_6 := zF BK904.out 6; have hfz44_7 := zF BK904.out 7; have hfz44_8 := zF BK904.out 8; have hfz44_9 := zF BK904.out 9))
               go_roundg k2
               case measure => have := HJ4.out; have := HK2.out; omega
               case rel => exact ⟨(y907), (x11_2.extract (t903 : Int).toNat x11_2.size), (wrap64 (x905002_2 + (wrap64 (Int.tdiv t903 8)))), (true), (by first | rfl | (simp; done) | (simp [*]; done)), H', ⟨by have := HJ4.out; have := HK2.out; omega⟩, ⟨by (with_reducible repeat (first | apply Kd.R_alloc | apply Kd.R_drewN | apply Kd.R_drew)); exact Kd.R_mono (Kd.R_far (p := ⟨gb904, 2, none⟩) (Kd.R_types HO909.out BK904.out (by decide)) (fun _ hk => hk.2) (.int .i64 (wrap64 (x905002_2 + (wrap64 (Int.tdiv t903 8)))))) (fun _ hk => trivial)⟩, ⟨by (with_reducible repeat (first | apply kN | apply kD | apply kA)); refine blk_far ?_ NB899_904.out _; (with_reducible repeat (first | apply kN | apply kD | apply kA)); exact BK899.out⟩, ⟨by (with_reducible repeat (first | apply kN | apply kD | apply kA)); refine blk_put (cs := #[.int .i64 t887, .int .i64 t888, .int .i64 x905002_2, .int .i64 t890, .int .i64 t891, .bool false, .bool true, .string t894, .string t895, .string t896]) ?_ 2 _ rfl; (with_reducible repeat (first | apply kN | apply kD | apply kA)); exact BK904.out⟩, ⟨by repeat (first | (with_reducible first | exact HB.out | apply bA | apply bN | apply bD | refine bS ?_ GE899.out | refine bS ?_ GE904.out) | exact HB.out)⟩⟩
             ·rw [if_neg c27] at H
              exact absurd H (by simp)
            ·rw [if_neg c25] at H
             exact absurd H (by simp)
           ·rw [if_neg c24] at H
            exact absurd H (by simp)
          ·rw [if_neg c23] at H
           have c23b0 : decide (t903 < (x11_2.size : Int)) = false := decide_eq_false c23
           clear c23
           replace H := Option.bind_eq_some_iff.mp H
           obtain ⟨⟨t910, t911⟩, A450, H⟩ := H
           replace H : (if x10_2.length < 8796093022208 then (some ((x10_2 ++ [t910]), 0)) else (none)) = some (r1, r2) := H
           have A45 := mA A450
           clear A450
           by_cases c46 : x10_2.length < 8796093022208
           ·rw [if_pos c46] at H
            have LMc46 := mA c46
            clear c46
            obtain ⟨y912, hy912⟩ : ∃ y_ : List ByteArray, y_ = (x10_2 ++ [t910]) := ⟨_, rfl⟩
            replace H : (some (y912, 0)) = some (r1, r2) := by first | (rw [hy912]; with_reducible exact H) | (have H2_ := (Option.bind_some _ _).symm.trans H; rw [hy912]; with_reducible exact H2_) | (have H2_ := (Option.bind_some _ _).symm.trans H; with_reducible exact H2_) | with_reducible exact H | (rw [hy912]; exact H) | exact H
            have Ny912 := mA hy912
            clear hy912
            simp only [Option.some.injEq, Prod.mk.injEq] at H
            obtain ⟨rfl, rfl⟩ := H
            have hnb47 := NB899_904.out
            have hnc47 := NB904_899.out
            have hcz48_0 : wr.cell? ⟨gb899, 0, none⟩ = some (.int .i64 t887) := (zC BK899.out 0).trans rfl
            have hcz48_1 : wr.cell? ⟨gb899, 1, none⟩ = some (.int .i64 t888) := (zC BK899.out 1).trans rfl
            have hcz48_2 : wr.cell? ⟨gb899, 2, none⟩ = some (.int .i64 t889) := (zC BK899.out 2).trans rfl
            have hcz48_3 : wr.cell? ⟨gb899, 3, none⟩ = some (.int .i64 t890) := (zC BK899.out 3).trans rfl
            have hcz48_4 : wr.cell? ⟨gb899, 4, none⟩ = some (.int .i64 t891) := (zC BK899.out 4).trans rfl
            have hcz48_5 : wr.cell? ⟨gb899, 5, none⟩ = some (.bool false) := (zC BK899.out 5).trans rfl
            have hcz48_6 : wr.cell? ⟨gb899, 6, none⟩ = some (.bool t893) := (zC BK899.out 6).trans rfl
            have hcz48_7 : wr.cell? ⟨gb899, 7, none⟩ = some (.string t894) := (zC BK899.out 7).trans rfl
            have hcz48_8 : wr.cell? ⟨gb899, 8, none⟩ = some (.string t895) := (zC BK899.out 8).trans rfl
            have hcz48_9 : wr.cell? ⟨gb899, 9, none⟩ = some (.string t896) := (zC BK899.out 9).trans rfl
            have hfz48_0 := zF BK899.out 0
            have hfz48_1 := zF BK899.out 1
            have hfz48_2 := zF BK899.out 2
            have hfz48_3 := zF BK899.out 3
            have hfz48_4 := zF BK899.out 4
            have hfz48_5 := zF BK899.out 5
            have hfz48_6 := zF BK899.out 6
            have hfz48_7 := zF BK899.out 7
            have hfz48_8 := zF BK899.out 8
            have hfz48_9 := zF BK899.out 9
            have hcz49_0 : wr.cell? ⟨gb904, 0, none⟩ = some (.int .i64 t887) := (zC BK904.out 0).trans rfl
            have hcz49_1 : wr.cell? ⟨gb904, 1, none⟩ = some (.int .i64 t888) := (zC BK904.out 1).trans rfl
            have hcz49_2 : wr.cell? ⟨gb904, 2, none⟩ = some (.int .i64 x905002_2) := (zC BK904.out 2).trans rfl
            have hcz49_3 : wr.cell? ⟨gb904, 3, none⟩ = some (.int .i64 t890) := (zC BK904.out 3).trans rfl
            have hcz49_4 : wr.cell? ⟨gb904, 4, none⟩ = some (.int .i64 t891) := (zC BK904.out 4).trans rfl
            have hcz49_5 : wr.cell? ⟨gb904, 5, none⟩ = some (.bool false) := (zC BK904.out 5).trans rfl
            have hcz49_6 : wr.cell? ⟨gb904, 6, none⟩ = some (.bool x905006_2) := (zC BK904.out 6).trans rfl
            have hcz49_7 : wr.cell? ⟨gb904, 7, none⟩ = some (.string t894) := (zC BK904.out 7).trans rfl
            have hcz49_8 : wr.cell? ⟨gb904, 8, none⟩ = some (.string t895) := (zC BK904.out 8).trans rfl
            have hcz49_9 : wr.cell? ⟨gb904, 9, none⟩ = some (.string t896) := (zC BK904.out 9).trans rfl
            have hfz49_0 := zF BK904.out 0
            have hfz49_1 := zF BK904.out 1
            have hfz49_2 := zF BK904.out 2
            have hfz49_3 := zF BK904.out 3
            have hfz49_4 := zF BK904.out 4
            have hfz49_5 := zF BK904.out 5
            have hfz49_6 := zF BK904.out 6
            have hfz49_7 := zF BK904.out 7
            have hfz49_8 := zF BK904.out 8
            have hfz49_9 := zF BK904.out 9
            go_wp2_with (first | ((with_reducible refine gate_callee (f := 86) rfl ?_); refine goesL_ (some 85) rfl rfl Try.func86 (by kernel_rfl) rfl #[.agg #[.int .i64 t887, .int .i64 t888, .int .i64 x905002_2, .int .i64 t890, .int .i64 t891, .bool false, .bool t893, .string t894, .string t895, .string t896], .string x11_2] rfl (by (try simp only [List.map_toArray, List.map_cons, List.map_nil]); first | done | rfl | (simp only [List.length_drop, List.length_take]; rfl)) ?_; (with_reducible refine (palanquinref05_Put.calls k2 t887 t888 x905002_2 t890 t891 false t893 t894 t895 t896 x11_2 t910 t911 _ A45.out).mono ?_); rintro e w50 ⟨rfl, hb⟩; refine ⟨_, rfl, ?_⟩; have n0_ := mA (Kd.R_below (by (with_reducible repeat (first | apply Kd.R_alloc | apply Kd.R_drewN | apply Kd.R_drew)); exact (Kd.R_mono (Kd.R_far (p := ⟨gb904, 6, none⟩) (Kd.R_types HO_10.out BK904.out (by decide)) (fun _ hk => hk.2) (.bool t893)) (fun _ h_ => h_.1))) hb); have n1_ := mA (blk_below (g := gb899) (o := .cells #[.int .i64 t887, .int .i64 t888, .int .i64 t889, .int .i64 t890, .int .i64 t891, .bool false, .bool t893, .string t894, .string t895, .string t896] 93 (0, 0)) (by (with_reducible repeat (first | apply kN | apply kD | apply kA)); refine blk_far ?_ NB899_904.out _; (with_reducible repeat (first | apply kN | apply kD | apply kA)); exact BK899.out) hb); have n2_ := mA (blk_below (g := gb904) (o := .cells #[.int .i64 t887, .int .i64 t888, .int .i64 x905002_2, .int .i64 t890, .int .i64 t891, .bool false, .bool t893, .string t894, .string t895, .string t896] 93 (0, 0)) (by (with_reducible repeat (first | apply kN | apply kD | apply kA)); refine blk_put (cs := #[.int .i64 t887, .int .i64 t888, .int .i64 x905002_2, .int .i64 t890, .int .i64 t891, .bool false, .bool x905006_2, .string t894, .string t895, .string t896]) ?_ 6 _ rfl; (with_reducible repeat (first | apply kN | apply kD | apply kA)); exact BK904.out) hb); have n3_ := mA (bP (by repeat (first | (with_reducible first | exact HB.out | apply bA | apply bN | apply bD | refine bS ?_ GE899.out | refine bS ?_ GE904.out) | exact HB.out)) hb); clear HO_10; clear BK899; clear BK904; clear HB; have HO_10 := n0_; have BK899 := n1_; have BK904 := n2_; have HB := n3_; clear n0_ n1_ n2_ n3_; (try clear hb); (try clear hb2); (try clear hk); (try clear hi)) | ((with_reducible refine gate_builtin (b := .append) (xs := #[.tmp 88, .tmp 90]) rfl ?_); at_builtin; refine Kd.R_append Kd.string (w0 := w) w.heap.size rfl (.tmp 88) (.tmp 90) 32 9 (.string ⟨#[]⟩) 16 rfl Try.underlying32 info9 rfl (by decide) (by omega) u10 x10_2 t910 [.string t910] (fun _ => True) (fun _ => False) rfl rfl ?aP (fun _ hk => hk.elim) ?aF ?aO ?aB ?aS ?aL ?_; (case aP => exact rfl); (case aB => exact (by repeat (first | (with_reducible first | exact HB.out | apply bA | apply bN | apply bD | refine bS ?_ GE899.out | refine bS ?_ GE904.out) | exact HB.out))); (case aF => exact (fun _ _ => trivial)); (case aO => exact (by (with_reducible repeat (first | apply Kd.R_alloc | apply Kd.R_drewN | apply Kd.R_drew)); exact HO_10.out)); (case aS => exact (below_size (by repeat (first | (with_reducible first | exact HB.out | apply bA | apply bN | apply bD | refine bS ?_ GE899.out | refine bS ?_ GE904.out) | exact HB.out)))); (case aL => have := LMc46.out; omega); intro v913 w51 ho hb hg hat; rw [← Ny912.out] at ho; have n0_ := mA (blk_grown (g := gb899) (o := .cells #[.int .i64 t887, .int .i64 t888, .int .i64 t889, .int .i64 t890, .int .i64 t891, .bool false, .bool t893, .string t894, .string t895, .string t896] 93 (0, 0)) (by (with_reducible repeat (first | apply kN | apply kD | apply kA)); exact BK899.out) hg (Kd.R_ne HO_10.out BK899.out (by decide))); have n1_ := mA (blk_grown (g := gb904) (o := .cells #[.int .i64 t887, .int .i64 t888, .int .i64 x905002_2, .int .i64 t890, .int .i64 t891, .bool false, .bool t893, .string t894, .string t895, .string t896] 93 (0, 0)) (by (with_reducible repeat (first | apply kN | apply kD | apply kA)); exact BK904.out) hg (Kd.R_ne HO_10.out BK904.out (by decide))); have n2_ := mA (hb); have n3_ := mA (ho); clear BK899; clear BK904; clear HB; clear HO_10; have BK899 := n0_; have BK904 := n1_; have HB := n2_; have HO914 := n3_; clear n0_ n1_ n2_ n3_; clear ho hb hg hat))
            go_ret2
            exact ⟨_, by first | rfl | (simp [errW_none, errW_some] <;> rfl) | (simp [*, errW_none, errW_some] <;> rfl), by (with_reducible repeat (first | apply Kd.R_alloc | apply Kd.R_drewN | apply Kd.R_drew)); exact HO914.out, by repeat (first | (with_reducible first | exact HB.out | apply bA | apply bN | apply bD | refine bS ?_ GE899.out | refine bS ?_ GE904.out) | exact HB.out)⟩
           ·rw [if_neg c46] at H
            exact absurd H (by simp)
 ·rw [if_neg c4] at H
  have c4b0 : (t898 == 0) = false := beq_eq_false_iff_ne.mpr c4
  have c4b1 : (t898 != 0) = true := bne_iff_ne.mpr c4
  simp only [Option.some.injEq, Prod.mk.injEq] at H
  obtain ⟨rfl, rfl⟩ := H
  go_enter Try.func116, Try.ntmps116
  go_wp2_with (first | ((with_reducible refine gate_callee (f := 112) rfl ?_); refine goesL_ (some 19) rfl rfl Try.func112 (by kernel_rfl) rfl #[.string a0] rfl (by (try simp only [List.map_toArray, List.map_cons, List.map_nil]); first | done | rfl | (simp only [List.length_drop, List.length_take]; rfl)) ?_; (with_reducible refine (palanquinref05_Get.calls k a0 t887 t888 t889 t890 t891 t892 t893 t894 t895 t896 t897 t898 _ A3.out).mono ?_); rintro e w52 ⟨rfl, hb⟩; refine ⟨_, rfl, ?_⟩; have n0_ := mA (bP (by repeat (first | (with_reducible first | exact HB.out | apply bA | apply bN | apply bD) | exact HB.out)) hb); clear HB; have HB := n0_; clear n0_; (try clear hb); (try clear hb2); (try clear hk); (try clear hi)) | ((with_reducible refine gate_dst (N := 6) rfl ?_); refine box_event ?hg (N := 6) ?hd (cs := #[.int .i64 0, .int .i64 0, .int .i64 0, .int .i64 0, .int .i64 0, .bool false, .bool false, .string (⟨#[]⟩ : ByteArray), .string (⟨#[]⟩ : ByteArray), .string (⟨#[]⟩ : ByteArray)]) (t := 93) ?hr ?_; (case hd => rfl); (case hg => rfl); (case hr => first | (go_simp; done) | (go_simp; rfl)); intro gb899 hg w53 hbox hb; have n0_ := mA (bP (by repeat (first | (with_reducible first | exact HB.out | apply bA | apply bN | apply bD) | exact HB.out)) hb); have n1_ := mA (hbox); have n2_ := mA ((by rw [hg]; exact (below_size (by repeat (first | (with_reducible first | exact HB.out | apply bA | apply bN | apply bD) | exact HB.out))) : w.heap.size ≤ gb899)); have n3_ := mA ((by rw [hg]; exact (below_size (by repeat (first | (with_reducible first | exact HB.out | apply bA | apply bN | apply bD) | exact HB.out))) : w.heap.size ≤ gb899)); clear HB; have HB := n0_; have BK899 := n1_; have GW899 := n2_; have GE899 := n3_; clear n0_ n1_ n2_ n3_; clear hb hbox hg; have hcz54_0 : w53.cell? ⟨gb899, 0, none⟩ = some (.int .i64 0) := (zC BK899.out 0).trans rfl; have hcz54_1 : w53.cell? ⟨gb899, 1, none⟩ = some (.int .i64 0) := (zC BK899.out 1).trans rfl; have hcz54_2 : w53.cell? ⟨gb899, 2, none⟩ = some (.int .i64 0) := (zC BK899.out 2).trans rfl; have hcz54_3 : w53.cell? ⟨gb899, 3, none⟩ = some (.int .i64 0) := (zC BK899.out 3).trans rfl; have hcz54_4 : w53.cell? ⟨gb899, 4, none⟩ = some (.int .i64 0) := (zC BK899.out 4).trans rfl; have hcz54_5 : w53.cell? ⟨gb899, 5, none⟩ = some (.bool false) := (zC BK899.out 5).trans rfl; have hcz54_6 : w53.cell? ⟨gb899, 6, none⟩ = some (.bool false) := (zC BK899.out 6).trans rfl; have hcz54_7 : w53.cell? ⟨gb899, 7, none⟩ = some (.string (⟨#[]⟩ : ByteArray)) := (zC BK899.out 7).trans rfl; have hcz54_8 : w53.cell? ⟨gb899, 8, none⟩ = some (.string (⟨#[]⟩ : ByteArray)) := (zC BK899.out 8).trans rfl; have hcz54_9 : w53.cell? ⟨gb899, 9, none⟩ = some (.string (⟨#[]⟩ : ByteArray)) := (zC BK899.out 9).trans rfl; have hfz54_0 := zF BK899.out 0; have hfz54_1 := zF BK899.out 1; have hfz54_2 := zF BK899.out 2; have hfz54_3 := zF BK899.out 3; have hfz54_4 := zF BK899.out 4; have hfz54_5 := zF BK899.out 5; have hfz54_6 := zF BK899.out 6; have hfz54_7 := zF BK899.out 7; have hfz54_8 := zF BK899.out 8; have hfz54_9 := zF BK899.out 9))
  go_ret2
  exact ⟨_, by first | rfl | (simp [errW_none, errW_some] <;> rfl) | (simp [*, errW_none, errW_some] <;> rfl), by first | exact Kd.R_nil _ _ _ _ _ | exact Kd.N_nil _ _ _ _ _ | exact Kd.V_nil _ _ _ _ _ | exact Kd.Q_nil _ _ _ _ _ | exact Kd.S_nil _ _ _ _ _, by repeat (first | (with_reducible first | exact HB.out | apply bA | apply bN | apply bD | refine bS ?_ GE899.out) | exact HB.out)⟩

end Go.Proofs.Ytejmipoolbodgaa.G
end
