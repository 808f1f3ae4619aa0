/- Texts of this session, joined: each is a section. -/
import Derived.Test.YtejmipoolbodgaaMTcpTells1
import Derived.Test.YtejmipoolbodgaaMTcpTells5
set_option linter.unusedVariables false
set_option linter.unusedSimpArgs false
section
namespace Go.Proofs.Ytejmipoolbodgaa.G
open Go.RowKit Go.Proofs.YtejmipoolbodgaaW.PrintWords Go.Proofs.YtejmipoolbodgaaW.PrintLast Go.Proofs.YtejmipoolbodgaaW.PrintMore
attribute [local go_sem] max2_int min2_int max_two min_two max_three min_three max_four min_four   -- for this text's walks alone
set_option linter.unusedVariables false
set_option linter.unusedSimpArgs false

/-! ### palanquinref07_Put: function 106 -/
def palanquinref07_Put.j0 : Nat → Int → Bool → Int → Int → Int → Int → Int → Int → Int → ByteArray → ByteArray → Option (ByteArray × Int)
  | 0, _, _, _, _, _, _, _, _, _, _, _ => none
  | k + 1, x1, x13, x603000, x603001, x603002, x603003, x603004, x603005, x603006, x603007, x603008 => if x13 = true then (some ((⟨#[]⟩ : ByteArray), 1)) else ((palanquinref07_num.f k x603000 2).bind fun t605 => ((palanquinref07_num.f k x603001 2).bind fun t606 => (if t605.size + t606.size ≤ 9223372036854775807 then ((palanquinref07_num.f k (wrap64 (x603002)) 4).bind fun t607 => (if (t605 ++ t606).size + t607.size ≤ 9223372036854775807 then ((palanquinref07_num.f k (wrap64 (x603003)) 4).bind fun t608 => (if ((t605 ++ t606) ++ t607).size + t608.size ≤ 9223372036854775807 then ((palanquinref07_num.f k (wrap64 ((wrap64 (5 + (wrap64 ((x603007.size : Int) / 4)))) * 16)) 1).bind fun t609 => (if (((t605 ++ t606) ++ t607) ++ t608).size + t609.size ≤ 9223372036854775807 then ((palanquinref07_num.f k x603004 1).bind fun t610 => (if ((((t605 ++ t606) ++ t607) ++ t608) ++ t609).size + t610.size ≤ 9223372036854775807 then ((palanquinref07_num.f k x603005 2).bind fun t611 => (if (((((t605 ++ t606) ++ t607) ++ t608) ++ t609) ++ t610).size + t611.size ≤ 9223372036854775807 then ((palanquinref07_num.f k x1 2).bind fun t612 => (if ((((((t605 ++ t606) ++ t607) ++ t608) ++ t609) ++ t610) ++ t611).size + t612.size ≤ 9223372036854775807 then ((palanquinref07_num.f k x603006 2).bind fun t613 => (if (((((((t605 ++ t606) ++ t607) ++ t608) ++ t609) ++ t610) ++ t611) ++ t612).size + t613.size ≤ 9223372036854775807 then (if ((((((((t605 ++ t606) ++ t607) ++ t608) ++ t609) ++ t610) ++ t611) ++ t612) ++ t613).size + x603007.size ≤ 9223372036854775807 then (if (((((((((t605 ++ t606) ++ t607) ++ t608) ++ t609) ++ t610) ++ t611) ++ t612) ++ t613) ++ x603007).size + x603008.size ≤ 9223372036854775807 then (some ((((((((((t605 ++ t606) ++ t607) ++ t608) ++ t609) ++ t610) ++ t611) ++ t612) ++ t613) ++ x603007) ++ x603008, 0)) else (none)) else (none)) else (none))) else (none))) else (none))) else (none))) else (none))) else (none))) else (none))) else (none))))
def palanquinref07_Put.f (k : Nat) (a0_0 : Int) (a0_1 : Int) (a0_2 : Int) (a0_3 : Int) (a0_4 : Int) (a0_5 : Int) (a0_6 : Int) (a0_7 : ByteArray) (a0_8 : ByteArray) (a1 : Int) : Option (ByteArray × Int) := (palanquinref07_May.f a0_0 a0_1 a0_2 a0_3 a0_4 a0_5 a0_6 a0_7 a0_8).bind fun t603 => (if t603 = true then ((palanquinref07_in.f a1 0 65535).bind fun t604 => (palanquinref07_Put.j0 k a1 (!t604) a0_0 a0_1 a0_2 a0_3 a0_4 a0_5 a0_6 a0_7 a0_8)) else (palanquinref07_Put.j0 k a1 true a0_0 a0_1 a0_2 a0_3 a0_4 a0_5 a0_6 a0_7 a0_8))
theorem palanquinref07_Put.mono_l : ∀ k, (∀ y0 y1 y2 y3 y4 y5 y6 y7 y8 y9 y10, LeO (palanquinref07_Put.j0 k y0 y1 y2 y3 y4 y5 y6 y7 y8 y9 y10) (palanquinref07_Put.j0 (k + 1) y0 y1 y2 y3 y4 y5 y6 y7 y8 y9 y10))
  | 0 => fun _ _ _ _ _ _ _ _ _ _ _ r h => by simp [palanquinref07_Put.j0] at h
  | k + 1 => by
    have ih0 := palanquinref07_Put.mono_l k
    · intro y0 y1 y2 y3 y4 y5 y6 y7 y8 y9 y10
      unfold palanquinref07_Put.j0
      repeat' first
      | (with_reducible exact ih0 _ _ _ _ _ _ _ _ _ _ _)
      | (with_reducible exact palanquinref07_num.mono _ _ _)
      | (with_reducible exact LeO.refl _)
      | (with_reducible exact LeO.none _)
      | (with_reducible refine LeO.ite ?_ ?_)
      | (with_reducible refine LeO.bind ?_ (fun _ => ?_))
      | exact ih0 _ _ _ _ _ _ _ _ _ _ _
      | exact palanquinref07_num.mono _ _ _
      | exact LeO.none _
      | refine LeO.ite ?_ ?_
      | refine LeO.bind ?_ (fun _ => ?_)
theorem palanquinref07_Put.mono : ∀ a0 a1 a2 a3 a4 a5 a6 a7 a8 a9 k, LeO (palanquinref07_Put.f k a0 a1 a2 a3 a4 a5 a6 a7 a8 a9) (palanquinref07_Put.f (k + 1) a0 a1 a2 a3 a4 a5 a6 a7 a8 a9) := by
  intro a0 a1 a2 a3 a4 a5 a6 a7 a8 a9 k
  have ih0 := palanquinref07_Put.mono_l k
  unfold palanquinref07_Put.f
  repeat' first
      | (with_reducible exact ih0 _ _ _ _ _ _ _ _ _ _ _)
      | (with_reducible exact palanquinref07_num.mono _ _ _)
      | (with_reducible exact LeO.refl _)
      | (with_reducible exact LeO.none _)
      | (with_reducible refine LeO.ite ?_ ?_)
      | (with_reducible refine LeO.bind ?_ (fun _ => ?_))
      | exact ih0 _ _ _ _ _ _ _ _ _ _ _
      | exact palanquinref07_num.mono _ _ _
      | exact LeO.none _
      | refine LeO.ite ?_ ?_
      | refine LeO.bind ?_ (fun _ => ?_)
def palanquinref07_Put.T3 : Bool × List (List Nat × List Nat) := (true, [([], []), ([0], [0]), ([1], [1]), ([], []), ([3], [3]), ([4, 2], [4]), ([2, 5], [2, 5]), ([], []), ([7], [7]), ([8], [8]), ([9, 5], [9]), ([6, 10], [6, 10]), ([], []), ([12], [12]), ([13], [13]), ([14, 10], [14]), ([11, 15], [11, 15]), ([], []), ([17], [17]), ([18], [18]), ([19], [19]), ([20], [20]), ([21], [21]), ([22, 15], [22]), ([16, 23], [16, 23]), ([], []), ([25], [25]), ([26, 23], [26]), ([24, 27], [24, 27]), ([], []), ([29], [29]), ([30, 27], [30]), ([28, 31], [28, 31]), ([], []), ([33, 31], [33]), ([32, 34], [32, 34]), ([], []), ([36], [36]), ([37, 34], [37]), ([35, 38], [35, 38]), ([], []), ([40], [40]), ([39, 41], [39, 41]), ([], []), ([43], [43]), ([42, 44], [42, 44]), ([45, 38, 0, 1, 2, 3, 4, 5, 6, 7, 8, 9, 10, 11, 12, 13, 14, 15, 16, 17, 18, 19, 20, 21, 22, 23, 24, 25, 26, 27, 28, 29, 30, 31, 32, 33, 34, 35, 36, 37, 38, 39, 40, 41, 42, 43, 44, 45], [45]), ([46, 0, 1, 2, 3, 4, 5, 6, 7, 8, 9, 10, 11, 12, 13, 14, 15, 16, 17, 18, 19, 20, 21, 22, 23, 24, 25, 26, 27, 28, 29, 30, 31, 32, 33, 34, 35, 36, 37, 38, 39, 40, 41, 42, 43, 44, 45, 46], [])])
def palanquinref07_Put.B3 : List Nat := [0, 1, 3, 0, 8, 31, 63, 0, 128, 384, 959, 2047, 0, 4096, 12288, 30655, 65535, 0, 131072, 393216, 917504, 1966080, 4063232, 8320959, 16777215, 0, 33554432, 117372863, 268435455, 0, 536870912, 1862203327, 4294967295, 0, 12599621567, 34359738367, 0, 68719476736, 235937920959, 549755813887, 0, 1099511627776, 4398046511103, 0, 8796093022208, 35184372088831, 70368744177663, 140737488355327]
theorem palanquinref07_Put.tab3 : rtab .any (opsOf Try.f106 3) = palanquinref07_Put.T3 := by kernel_rfl
theorem palanquinref07_Put.bits3 : waitsOk palanquinref07_Put.T3.2 palanquinref07_Put.B3 = true := by kernel_rfl
set_option maxHeartbeats 8000000 in
set_option maxRecDepth 100000 in
theorem palanquinref07_Put.calls (k : Nat) (a0_0 : Int) (a0_1 : Int) (a0_2 : Int) (a0_3 : Int) (a0_4 : Int) (a0_5 : Int) (a0_6 : Int) (a0_7 : ByteArray) (a0_8 : ByteArray) (a1 : Int) (r1 : ByteArray) (r2 : Int) (w : World) (h : palanquinref07_Put.f k a0_0 a0_1 a0_2 a0_3 a0_4 a0_5 a0_6 a0_7 a0_8 a1 = some (r1, r2)) :
    Calls Try.prog 106 #[.agg #[.int .i64 a0_0, .int .i64 a0_1, .int .u32 a0_2, .int .u32 a0_3, .int .i64 a0_4, .int .i64 a0_5, .int .i64 a0_6, .string a0_7, .string a0_8], .int .i64 a1] w fun e w' => e = .returned (.tuple #[.string r1, .int .i64 r2]) ∧ Below w.heap.size w w' := by
  have hu127 := Try.underlying127
  have HB := Aside0.mk (Below.refl w.heap.size w)
  have H : ((palanquinref07_May.f a0_0 a0_1 a0_2 a0_3 a0_4 a0_5 a0_6 a0_7 a0_8).bind fun t603 => (if t603 = true then ((palanquinref07_in.f a1 0 65535).bind fun t604 => (palanquinref07_Put.j0 k a1 (!t604) a0_0 a0_1 a0_2 a0_3 a0_4 a0_5 a0_6 a0_7 a0_8)) else (palanquinref07_Put.j0 k a1 true a0_0 a0_1 a0_2 a0_3 a0_4 a0_5 a0_6 a0_7 a0_8))) = some (r1, r2) := h
  clear h
  have HC3 := Aside0.mk H
  clear H
  go_enter Try.func106, Try.ntmps106
  go_upto_region 1 with (first | ((with_reducible refine gate_dst (N := 2) rfl ?_); refine box_event ?hg (N := 2) ?hd (cs := #[.int .i64 a0_0, .int .i64 a0_1, .int .u32 a0_2, .int .u32 a0_3, .int .i64 a0_4, .int .i64 a0_5, .int .i64 a0_6, .string a0_7, .string a0_8]) (t := 127) ?hr ?_; (case hd => rfl); (case hg => rfl); (case hr => first | (go_simp; done) | (go_simp; rfl)); intro gb602 hg w4 hbox hb; have n0_ := Aside0.mk (below_step (by repeat (first | (with_reducible first | exact HB.out | apply below_alloc | apply pw_below_drewN | apply below_drew1) | exact HB.out)) hb); have n1_ := Aside0.mk (hbox); have n2_ := Aside0.mk ((by rw [hg]; exact (below_size (by repeat (first | (with_reducible first | exact HB.out | apply below_alloc | apply pw_below_drewN | apply below_drew1) | exact HB.out))) : w.heap.size ≤ gb602)); have n3_ := Aside0.mk ((by rw [hg]; exact (below_size (by repeat (first | (with_reducible first | exact HB.out | apply below_alloc | apply pw_below_drewN | apply below_drew1) | exact HB.out))) : w.heap.size ≤ gb602)); clear HB; have HB := n0_; have BK602 := n1_; have GW602 := n2_; have GE602 := n3_; clear n0_ n1_ n2_ n3_; clear hb hbox hg))
  (try simp only [Act.put, List.setIfInBounds_toArray, List.set_cons_zero, List.set_cons_succ])
  go_cut [13] (fun v13 wc => ∃ (kq : Nat) (x13_2 : Bool), v13 = .bool x13_2 ∧ Aside0 (palanquinref07_Put.j0 kq a1 x13_2 a0_0 a0_1 a0_2 a0_3 a0_4 a0_5 a0_6 a0_7 a0_8 = some (r1, r2)) ∧ Aside0 (kq ≤ k) ∧ Aside0 (wc.heap[gb602]? = some (.cells #[.int .i64 a0_0, .int .i64 a0_1, .int .u32 a0_2, .int .u32 a0_3, .int .i64 a0_4, .int .i64 a0_5, .int .i64 a0_6, .string a0_7, .string a0_8] 127 (0, 0))) ∧ Aside0 (Below w.heap.size w wc))
  case first =>
    have H := HC3.out
    clear HC3
    replace H := Option.bind_eq_some_iff.mp H
    obtain ⟨t603, A50, H⟩ := H
    replace H : (if t603 = true then ((palanquinref07_in.f a1 0 65535).bind fun t604 => (palanquinref07_Put.j0 k a1 (!t604) a0_0 a0_1 a0_2 a0_3 a0_4 a0_5 a0_6 a0_7 a0_8)) else (palanquinref07_Put.j0 k a1 true a0_0 a0_1 a0_2 a0_3 a0_4 a0_5 a0_6 a0_7 a0_8)) = some (r1, r2) := H
    have A5 := Aside0.mk A50
    clear A50
    by_cases c6 : t603 = true
    · subst c6
      have H1 : ((palanquinref07_in.f a1 0 65535).bind fun t604 => (palanquinref07_Put.j0 k a1 (!t604) a0_0 a0_1 a0_2 a0_3 a0_4 a0_5 a0_6 a0_7 a0_8)) = some (r1, r2) := by rw [if_pos rfl] at H; exact H
      clear H
      have H := H1
      clear H1
      replace H := Option.bind_eq_some_iff.mp H
      obtain ⟨t604, A70, H⟩ := H
      replace H : (palanquinref07_Put.j0 k a1 (!t604) a0_0 a0_1 a0_2 a0_3 a0_4 a0_5 a0_6 a0_7 a0_8) = some (r1, r2) := H
      have A7 := Aside0.mk A70
      clear A70
      have H' := Aside0.mk H
      clear H
      have hcz8_0 : w4.cell? ⟨gb602, 0, none⟩ = some (.int .i64 a0_0) := (blk_cell BK602.out 0).trans rfl
      have hcz8_1 : w4.cell? ⟨gb602, 1, none⟩ = some (.int .i64 a0_1) := (blk_cell BK602.out 1).trans rfl
      have hcz8_2 : w4.cell? ⟨gb602, 2, none⟩ = some (.int .u32 a0_2) := (blk_cell BK602.out 2).trans rfl
      have hcz8_3 : w4.cell? ⟨gb602, 3, none⟩ = some (.int .u32 a0_3) := (blk_cell BK602.out 3).trans rfl
      have hcz8_4 : w4.cell? ⟨gb602, 4, none⟩ = some (.int .i64 a0_4) := (blk_cell BK602.out 4).trans rfl
      have hcz8_5 : w4.cell? ⟨gb602, 5, none⟩ = some (.int .i64 a0_5) := (blk_cell BK602.out 5).trans rfl
      have hcz8_6 : w4.cell? ⟨gb602, 6, none⟩ = some (.int .i64 a0_6) := (blk_cell BK602.out 6).trans rfl
      have hcz8_7 : w4.cell? ⟨gb602, 7, none⟩ = some (.string a0_7) := (blk_cell BK602.out 7).trans rfl
      have hcz8_8 : w4.cell? ⟨gb602, 8, none⟩ = some (.string a0_8) := (blk_cell BK602.out 8).trans rfl
      have hfz8_0 := blk_frozen BK602.out 0
      have hfz8_1 := blk_frozen BK602.out 1
      have hfz8_2 := blk_frozen BK602.out 2
      have hfz8_3 := blk_frozen BK602.out 3
      have hfz8_4 := blk_frozen BK602.out 4
      have hfz8_5 := blk_frozen BK602.out 5
      have hfz8_6 := blk_frozen BK602.out 6
      have hfz8_7 := blk_frozen BK602.out 7
      have hfz8_8 := blk_frozen BK602.out 8
      go_wp2_with (first | ((with_reducible refine gate_callee (f := 110) rfl ?_); refine goesL_ (some 7) rfl rfl Try.func110 (by kernel_rfl) rfl #[.agg #[.int .i64 a0_0, .int .i64 a0_1, .int .u32 a0_2, .int .u32 a0_3, .int .i64 a0_4, .int .i64 a0_5, .int .i64 a0_6, .string a0_7, .string a0_8]] rfl (by (try simp only [List.map_toArray, List.map_cons, List.map_nil]); first | done | rfl | (simp only [List.length_drop, List.length_take]; rfl)) ?_; (with_reducible refine (palanquinref07_May.calls a0_0 a0_1 a0_2 a0_3 a0_4 a0_5 a0_6 a0_7 a0_8 true _ A5.out).mono ?_); rintro e w9 ⟨rfl, hb⟩; refine ⟨_, rfl, ?_⟩; have n0_ := Aside0.mk (blk_below (g := gb602) (o := .cells #[.int .i64 a0_0, .int .i64 a0_1, .int .u32 a0_2, .int .u32 a0_3, .int .i64 a0_4, .int .i64 a0_5, .int .i64 a0_6, .string a0_7, .string a0_8] 127 (0, 0)) (by (with_reducible repeat (first | refine blk_drewN ?_ _ | refine blk_drew ?_ | refine blk_alloc ?_ _)); exact BK602.out) hb); have n1_ := Aside0.mk (below_step (by repeat (first | (with_reducible first | exact HB.out | apply below_alloc | apply pw_below_drewN | apply below_drew1 | refine below_set ?_ GE602.out) | exact HB.out)) hb); clear BK602; clear HB; have BK602 := n0_; have HB := n1_; clear n0_ n1_; (try clear hb); (try clear hb2); (try clear hk); (try clear hi)) | (go_at_call 152; (with_reducible refine (palanquinref07_in.calls a1 0 65535 t604 _ A7.out).mono ?_); rintro e w' ⟨rfl, ⟨nd, rfl⟩⟩))
      go_meet
      case rel => exact ⟨_, (!t604), (by first | rfl | (simp; done) | (simp [*]; done)), H', ⟨by first | omega | exact Nat.le_refl _⟩, ⟨by (with_reducible repeat (first | refine blk_drewN ?_ _ | refine blk_drew ?_ | refine blk_alloc ?_ _)); exact BK602.out⟩, ⟨by repeat (first | (with_reducible first | exact HB.out | apply below_alloc | apply pw_below_drewN | apply below_drew1 | refine below_set ?_ GE602.out) | exact HB.out)⟩⟩
    · replace c6 := Bool.eq_false_iff.mpr c6
      subst c6
      have H1 : (palanquinref07_Put.j0 k a1 true a0_0 a0_1 a0_2 a0_3 a0_4 a0_5 a0_6 a0_7 a0_8) = some (r1, r2) := by rw [if_neg (show ¬ (false = true) by decide)] at H; exact H
      clear H
      have H := H1
      clear H1
      have H' := Aside0.mk H
      clear H
      have hcz10_0 : w4.cell? ⟨gb602, 0, none⟩ = some (.int .i64 a0_0) := (blk_cell BK602.out 0).trans rfl
      have hcz10_1 : w4.cell? ⟨gb602, 1, none⟩ = some (.int .i64 a0_1) := (blk_cell BK602.out 1).trans rfl
      have hcz10_2 : w4.cell? ⟨gb602, 2, none⟩ = some (.int .u32 a0_2) := (blk_cell BK602.out 2).trans rfl
      have hcz10_3 : w4.cell? ⟨gb602, 3, none⟩ = some (.int .u32 a0_3) := (blk_cell BK602.out 3).trans rfl
      have hcz10_4 : w4.cell? ⟨gb602, 4, none⟩ = some (.int .i64 a0_4) := (blk_cell BK602.out 4).trans rfl
      have hcz10_5 : w4.cell? ⟨gb602, 5, none⟩ = some (.int .i64 a0_5) := (blk_cell BK602.out 5).trans rfl
      have hcz10_6 : w4.cell? ⟨gb602, 6, none⟩ = some (.int .i64 a0_6) := (blk_cell BK602.out 6).trans rfl
      have hcz10_7 : w4.cell? ⟨gb602, 7, none⟩ = some (.string a0_7) := (blk_cell BK602.out 7).trans rfl
      have hcz10_8 : w4.cell? ⟨gb602, 8, none⟩ = some (.string a0_8) := (blk_cell BK602.out 8).trans rfl
      have hfz10_0 := blk_frozen BK602.out 0
      have hfz10_1 := blk_frozen BK602.out 1
      have hfz10_2 := blk_frozen BK602.out 2
      have hfz10_3 := blk_frozen BK602.out 3
      have hfz10_4 := blk_frozen BK602.out 4
      have hfz10_5 := blk_frozen BK602.out 5
      have hfz10_6 := blk_frozen BK602.out 6
      have hfz10_7 := blk_frozen BK602.out 7
      have hfz10_8 := blk_frozen BK602.out 8
      go_wp2_with (first | ((with_reducible refine gate_callee (f := 110) rfl ?_); refine goesL_ (some 7) rfl rfl Try.func110 (by kernel_rfl) rfl #[.agg #[.int .i64 a0_0, .int .i64 a0_1, .int .u32 a0_2, .int .u32 a0_3, .int .i64 a0_4, .int .i64 a0_5, .int .i64 a0_6, .string a0_7, .string a0_8]] rfl (by (try simp only [List.map_toArray, List.map_cons, List.map_nil]); first | done | rfl | (simp only [List.length_drop, List.length_take]; rfl)) ?_; (with_reducible refine (palanquinref07_May.calls a0_0 a0_1 a0_2 a0_3 a0_4 a0_5 a0_6 a0_7 a0_8 false _ A5.out).mono ?_); rintro e w11 ⟨rfl, hb⟩; refine ⟨_, rfl, ?_⟩; have n0_ := Aside0.mk (blk_below (g := gb602) (o := .cells #[.int .i64 a0_0, .int .i64 a0_1, .int .u32 a0_2, .int .u32 a0_3, .int .i64 a0_4, .int .i64 a0_5, .int .i64 a0_6, .string a0_7, .string a0_8] 127 (0, 0)) (by (with_reducible repeat (first | refine blk_drewN ?_ _ | refine blk_drew ?_ | refine blk_alloc ?_ _)); exact BK602.out) hb); have n1_ := Aside0.mk (below_step (by repeat (first | (with_reducible first | exact HB.out | apply below_alloc | apply pw_below_drewN | apply below_drew1 | refine below_set ?_ GE602.out) | exact HB.out)) hb); clear BK602; clear HB; have BK602 := n0_; have HB := n1_; clear n0_ n1_; (try clear hb); (try clear hb2); (try clear hk); (try clear hi)))
      go_meet
      case rel => exact ⟨_, (true), (by first | rfl | (simp; done) | (simp [*]; done)), H', ⟨by first | omega | exact Nat.le_refl _⟩, ⟨by (with_reducible repeat (first | refine blk_drewN ?_ _ | refine blk_drew ?_ | refine blk_alloc ?_ _)); exact BK602.out⟩, ⟨by repeat (first | (with_reducible first | exact HB.out | apply below_alloc | apply pw_below_drewN | apply below_drew1 | refine below_set ?_ GE602.out) | exact HB.out)⟩⟩
  case rest =>
    clear HC3
    try clear c1
    try clear p2
    try clear c6
    try clear c10
    try clear c11
    try clear hcz10_0
    try clear hcz10_1
    try clear hcz10_2
    try clear hcz10_3
    try clear hcz10_4
    try clear hcz10_5
    try clear hcz10_6
    try clear hcz10_7
    try clear hcz10_8
    try clear hcz8_0
    try clear hcz8_1
    try clear hcz8_2
    try clear hcz8_3
    try clear hcz8_4
    try clear hcz8_5
    try clear hcz8_6
    try clear hcz8_7
    try clear hcz8_8
    try clear hfz10_0
    try clear hfz10_1
    try clear hfz10_2
    try clear hfz10_3
    try clear hfz10_4
    try clear hfz10_5
    try clear hfz10_6
    try clear hfz10_7
    try clear hfz10_8
    try clear hfz8_0
    try clear hfz8_1
    try clear hfz8_2
    try clear hfz8_3
    try clear hfz8_4
    try clear hfz8_5
    try clear hfz8_6
    try clear hfz8_7
    try clear hfz8_8
    obtain ⟨kq, x13_2, rfl, HA, HJ2, BK602, HB⟩ := hcut
    cases kq with
    | zero => exact absurd HA.out (by simp [palanquinref07_Put.j0])
    | succ kj2 =>
      have H := HA.out
      clear HA
      simp only [palanquinref07_Put.j0] at H
      by_cases c12 : x13_2 = true
      · subst c12
        have H1 : (some ((⟨#[]⟩ : ByteArray), 1)) = some (r1, r2) := by rw [if_pos rfl] at H; exact H
        clear H
        have H := H1
        clear H1
        simp only [Option.some.injEq, Prod.mk.injEq] at H
        obtain ⟨rfl, rfl⟩ := H
        go_wp2
        go_ret2
        exact ⟨by first | rfl | (simp [errW_none, errW_some] <;> rfl) | (simp [*, errW_none, errW_some] <;> rfl), by repeat (first | (with_reducible first | exact HB.out | apply below_alloc | apply pw_below_drewN | apply below_drew1 | refine below_set ?_ GE602.out) | exact HB.out)⟩
      · replace c12 := Bool.eq_false_iff.mpr c12
        subst c12
        have H1 : ((palanquinref07_num.f kj2 a0_0 2).bind fun t605 => ((palanquinref07_num.f kj2 a0_1 2).bind fun t606 => (if t605.size + t606.size ≤ 9223372036854775807 then ((palanquinref07_num.f kj2 (wrap64 (a0_2)) 4).bind fun t607 => (if (t605 ++ t606).size + t607.size ≤ 9223372036854775807 then ((palanquinref07_num.f kj2 (wrap64 (a0_3)) 4).bind fun t608 => (if ((t605 ++ t606) ++ t607).size + t608.size ≤ 9223372036854775807 then ((palanquinref07_num.f kj2 (wrap64 ((wrap64 (5 + (wrap64 ((a0_7.size : Int) / 4)))) * 16)) 1).bind fun t609 => (if (((t605 ++ t606) ++ t607) ++ t608).size + t609.size ≤ 9223372036854775807 then ((palanquinref07_num.f kj2 a0_4 1).bind fun t610 => (if ((((t605 ++ t606) ++ t607) ++ t608) ++ t609).size + t610.size ≤ 9223372036854775807 then ((palanquinref07_num.f kj2 a0_5 2).bind fun t611 => (if (((((t605 ++ t606) ++ t607) ++ t608) ++ t609) ++ t610).size + t611.size ≤ 9223372036854775807 then ((palanquinref07_num.f kj2 a1 2).bind fun t612 => (if ((((((t605 ++ t606) ++ t607) ++ t608) ++ t609) ++ t610) ++ t611).size + t612.size ≤ 9223372036854775807 then ((palanquinref07_num.f kj2 a0_6 2).bind fun t613 => (if (((((((t605 ++ t606) ++ t607) ++ t608) ++ t609) ++ t610) ++ t611) ++ t612).size + t613.size ≤ 9223372036854775807 then (if ((((((((t605 ++ t606) ++ t607) ++ t608) ++ t609) ++ t610) ++ t611) ++ t612) ++ t613).size + a0_7.size ≤ 9223372036854775807 then (if (((((((((t605 ++ t606) ++ t607) ++ t608) ++ t609) ++ t610) ++ t611) ++ t612) ++ t613) ++ a0_7).size + a0_8.size ≤ 9223372036854775807 then (some ((((((((((t605 ++ t606) ++ t607) ++ t608) ++ t609) ++ t610) ++ t611) ++ t612) ++ t613) ++ a0_7) ++ a0_8, 0)) else (none)) else (none)) else (none))) else (none))) else (none))) else (none))) else (none))) else (none))) else (none))) else (none)))) = some (r1, r2) := by rw [if_neg (show ¬ (false = true) by decide)] at H; exact H
        clear H
        have H := H1
        clear H1
        replace H := Option.bind_eq_some_iff.mp H
        obtain ⟨t605, A130, H⟩ := H
        replace H : ((palanquinref07_num.f kj2 a0_1 2).bind fun t606 => (if t605.size + t606.size ≤ 9223372036854775807 then ((palanquinref07_num.f kj2 (wrap64 (a0_2)) 4).bind fun t607 => (if (t605 ++ t606).size + t607.size ≤ 9223372036854775807 then ((palanquinref07_num.f kj2 (wrap64 (a0_3)) 4).bind fun t608 => (if ((t605 ++ t606) ++ t607).size + t608.size ≤ 9223372036854775807 then ((palanquinref07_num.f kj2 (wrap64 ((wrap64 (5 + (wrap64 ((a0_7.size : Int) / 4)))) * 16)) 1).bind fun t609 => (if (((t605 ++ t606) ++ t607) ++ t608).size + t609.size ≤ 9223372036854775807 then ((palanquinref07_num.f kj2 a0_4 1).bind fun t610 => (if ((((t605 ++ t606) ++ t607) ++ t608) ++ t609).size + t610.size ≤ 9223372036854775807 then ((palanquinref07_num.f kj2 a0_5 2).bind fun t611 => (if (((((t605 ++ t606) ++ t607) ++ t608) ++ t609) ++ t610).size + t611.size ≤ 9223372036854775807 then ((palanquinref07_num.f kj2 a1 2).bind fun t612 => (if ((((((t605 ++ t606) ++ t607) ++ t608) ++ t609) ++ t610) ++ t611).size + t612.size ≤ 9223372036854775807 then ((palanquinref07_num.f kj2 a0_6 2).bind fun t613 => (if (((((((t605 ++ t606) ++ t607) ++ t608) ++ t609) ++ t610) ++ t611) ++ t612).size + t613.size ≤ 9223372036854775807 then (if ((((((((t605 ++ t606) ++ t607) ++ t608) ++ t609) ++ t610) ++ t611) ++ t612) ++ t613).size + a0_7.size ≤ 9223372036854775807 then (if (((((((((t605 ++ t606) ++ t607) ++ t608) ++ t609) ++ t610) ++ t611) ++ t612) ++ t613) ++ a0_7).size + a0_8.size ≤ 9223372036854775807 then (some ((((((((((t605 ++ t606) ++ t607) ++ t608) ++ t609) ++ t610) ++ t611) ++ t612) ++ t613) ++ a0_7) ++ a0_8, 0)) else (none)) else (none)) else (none))) else (none))) else (none))) else (none))) else (none))) else (none))) else (none))) else (none))) = some (r1, r2) := H
        have A13 := Aside0.mk A130
        clear A130
        replace H := Option.bind_eq_some_iff.mp H
        obtain ⟨t606, A140, H⟩ := H
        replace H : (if t605.size + t606.size ≤ 9223372036854775807 then ((palanquinref07_num.f kj2 (wrap64 (a0_2)) 4).bind fun t607 => (if (t605 ++ t606).size + t607.size ≤ 9223372036854775807 then ((palanquinref07_num.f kj2 (wrap64 (a0_3)) 4).bind fun t608 => (if ((t605 ++ t606) ++ t607).size + t608.size ≤ 9223372036854775807 then ((palanquinref07_num.f kj2 (wrap64 ((wrap64 (5 + (wrap64 ((a0_7.size : Int) / 4)))) * 16)) 1).bind fun t609 => (if (((t605 ++ t606) ++ t607) ++ t608).size + t609.size ≤ 9223372036854775807 then ((palanquinref07_num.f kj2 a0_4 1).bind fun t610 => (if ((((t605 ++ t606) ++ t607) ++ t608) ++ t609).size + t610.size ≤ 9223372036854775807 then ((palanquinref07_num.f kj2 a0_5 2).bind fun t611 => (if (((((t605 ++ t606) ++ t607) ++ t608) ++ t609) ++ t610).size + t611.size ≤ 9223372036854775807 then ((palanquinref07_num.f kj2 a1 2).bind fun t612 => (if ((((((t605 ++ t606) ++ t607) ++ t608) ++ t609) ++ t610) ++ t611).size + t612.size ≤ 9223372036854775807 then ((palanquinref07_num.f kj2 a0_6 2).bind fun t613 => (if (((((((t605 ++ t606) ++ t607) ++ t608) ++ t609) ++ t610) ++ t611) ++ t612).size + t613.size ≤ 9223372036854775807 then (if ((((((((t605 ++ t606) ++ t607) ++ t608) ++ t609) ++ t610) ++ t611) ++ t612) ++ t613).size + a0_7.size ≤ 9223372036854775807 then (if (((((((((t605 ++ t606) ++ t607) ++ t608) ++ t609) ++ t610) ++ t611) ++ t612) ++ t613) ++ a0_7).size + a0_8.size ≤ 9223372036854775807 then (some ((((((((((t605 ++ t606) ++ t607) ++ t608) ++ t609) ++ t610) ++ t611) ++ t612) ++ t613) ++ a0_7) ++ a0_8, 0)) else (none)) else (none)) else (none))) else (none))) else (none))) else (none))) else (none))) else (none))) else (none))) else (none)) = some (r1, r2) := H
        have A14 := Aside0.mk A140
        clear A140
        by_cases c15 : t605.size + t606.size ≤ 9223372036854775807
        · rw [if_pos c15] at H
          have c15b0 := eq_true c15
          have c15b1 : decide (t605.size + t606.size ≤ 9223372036854775807) = true := decide_eq_true c15
          try have c15b2 : (9223372036854775807 < t605.size + t606.size) = False := eq_false (Nat.not_lt.2 c15)
          replace H := Option.bind_eq_some_iff.mp H
          obtain ⟨t607, A160, H⟩ := H
          replace H : (if (t605 ++ t606).size + t607.size ≤ 9223372036854775807 then ((palanquinref07_num.f kj2 (wrap64 (a0_3)) 4).bind fun t608 => (if ((t605 ++ t606) ++ t607).size + t608.size ≤ 9223372036854775807 then ((palanquinref07_num.f kj2 (wrap64 ((wrap64 (5 + (wrap64 ((a0_7.size : Int) / 4)))) * 16)) 1).bind fun t609 => (if (((t605 ++ t606) ++ t607) ++ t608).size + t609.size ≤ 9223372036854775807 then ((palanquinref07_num.f kj2 a0_4 1).bind fun t610 => (if ((((t605 ++ t606) ++ t607) ++ t608) ++ t609).size + t610.size ≤ 9223372036854775807 then ((palanquinref07_num.f kj2 a0_5 2).bind fun t611 => (if (((((t605 ++ t606) ++ t607) ++ t608) ++ t609) ++ t610).size + t611.size ≤ 9223372036854775807 then ((palanquinref07_num.f kj2 a1 2).bind fun t612 => (if ((((((t605 ++ t606) ++ t607) ++ t608) ++ t609) ++ t610) ++ t611).size + t612.size ≤ 9223372036854775807 then ((palanquinref07_num.f kj2 a0_6 2).bind fun t613 => (if (((((((t605 ++ t606) ++ t607) ++ t608) ++ t609) ++ t610) ++ t611) ++ t612).size + t613.size ≤ 9223372036854775807 then (if ((((((((t605 ++ t606) ++ t607) ++ t608) ++ t609) ++ t610) ++ t611) ++ t612) ++ t613).size + a0_7.size ≤ 9223372036854775807 then (if (((((((((t605 ++ t606) ++ t607) ++ t608) ++ t609) ++ t610) ++ t611) ++ t612) ++ t613) ++ a0_7).size + a0_8.size ≤ 9223372036854775807 then (some ((((((((((t605 ++ t606) ++ t607) ++ t608) ++ t609) ++ t610) ++ t611) ++ t612) ++ t613) ++ a0_7) ++ a0_8, 0)) else (none)) else (none)) else (none))) else (none))) else (none))) else (none))) else (none))) else (none))) else (none)) = some (r1, r2) := H
          have A16 := Aside0.mk A160
          clear A160
          by_cases c17 : (t605 ++ t606).size + t607.size ≤ 9223372036854775807
          · rw [if_pos c17] at H
            have c17b0 := eq_true c17
            have c17b1 : decide ((t605 ++ t606).size + t607.size ≤ 9223372036854775807) = true := decide_eq_true c17
            try have c17b2 : (9223372036854775807 < (t605 ++ t606).size + t607.size) = False := eq_false (Nat.not_lt.2 c17)
            try have c17b3 : (9223372036854775807 < (t605.size) + (t606.size) + t607.size) = False := eq_false (by have h_ := c17; simp only [ByteArray.size_append] at h_; omega)
            try have c17b4 : ((t605.size) + (t606.size) + t607.size ≤ 9223372036854775807) = True := eq_true (by have h_ := c17; simp only [ByteArray.size_append] at h_; omega)
            replace H := Option.bind_eq_some_iff.mp H
            obtain ⟨t608, A180, H⟩ := H
            replace H : (if ((t605 ++ t606) ++ t607).size + t608.size ≤ 9223372036854775807 then ((palanquinref07_num.f kj2 (wrap64 ((wrap64 (5 + (wrap64 ((a0_7.size : Int) / 4)))) * 16)) 1).bind fun t609 => (if (((t605 ++ t606) ++ t607) ++ t608).size + t609.size ≤ 9223372036854775807 then ((palanquinref07_num.f kj2 a0_4 1).bind fun t610 => (if ((((t605 ++ t606) ++ t607) ++ t608) ++ t609).size + t610.size ≤ 9223372036854775807 then ((palanquinref07_num.f kj2 a0_5 2).bind fun t611 => (if (((((t605 ++ t606) ++ t607) ++ t608) ++ t609) ++ t610).size + t611.size ≤ 9223372036854775807 then ((palanquinref07_num.f kj2 a1 2).bind fun t612 => (if ((((((t605 ++ t606) ++ t607) ++ t608) ++ t609) ++ t610) ++ t611).size + t612.size ≤ 9223372036854775807 then ((palanquinref07_num.f kj2 a0_6 2).bind fun t613 => (if (((((((t605 ++ t606) ++ t607) ++ t608) ++ t609) ++ t610) ++ t611) ++ t612).size + t613.size ≤ 9223372036854775807 then (if ((((((((t605 ++ t606) ++ t607) ++ t608) ++ t609) ++ t610) ++ t611) ++ t612) ++ t613).size + a0_7.size ≤ 9223372036854775807 then (if (((((((((t605 ++ t606) ++ t607) ++ t608) ++ t609) ++ t610) ++ t611) ++ t612) ++ t613) ++ a0_7).size + a0_8.size ≤ 9223372036854775807 then (some ((((((((((t605 ++ t606) ++ t607) ++ t608) ++ t609) ++ t610) ++ t611) ++ t612) ++ t613) ++ a0_7) ++ a0_8, 0)) else (none)) else (none)) else (none))) else (none))) else (none))) else (none))) else (none))) else (none)) = some (r1, r2) := H
            have A18 := Aside0.mk A180
            clear A180
            by_cases c19 : ((t605 ++ t606) ++ t607).size + t608.size ≤ 9223372036854775807
            · rw [if_pos c19] at H
              have c19b0 := eq_true c19
              have c19b1 : decide (((t605 ++ t606) ++ t607).size + t608.size ≤ 9223372036854775807) = true := decide_eq_true c19
              try have c19b2 : (9223372036854775807 < ((t605 ++ t606) ++ t607).size + t608.size) = False := eq_false (Nat.not_lt.2 c19)
              try have c19b3 : (9223372036854775807 < (t605.size) + (t606.size) + (t607.size) + t608.size) = False := eq_false (by have h_ := c19; simp only [ByteArray.size_append] at h_; omega)
              try have c19b4 : ((t605.size) + (t606.size) + (t607.size) + t608.size ≤ 9223372036854775807) = True := eq_true (by have h_ := c19; simp only [ByteArray.size_append] at h_; omega)
              replace H := Option.bind_eq_some_iff.mp H
              obtain ⟨t609, A200, H⟩ := H
              replace H : (if (((t605 ++ t606) ++ t607) ++ t608).size + t609.size ≤ 9223372036854775807 then ((palanquinref07_num.f kj2 a0_4 1).bind fun t610 => (if ((((t605 ++ t606) ++ t607) ++ t608) ++ t609).size + t610.size ≤ 9223372036854775807 then ((palanquinref07_num.f kj2 a0_5 2).bind fun t611 => (if (((((t605 ++ t606) ++ t607) ++ t608) ++ t609) ++ t610).size + t611.size ≤ 9223372036854775807 then ((palanquinref07_num.f kj2 a1 2).bind fun t612 => (if ((((((t605 ++ t606) ++ t607) ++ t608) ++ t609) ++ t610) ++ t611).size + t612.size ≤ 9223372036854775807 then ((palanquinref07_num.f kj2 a0_6 2).bind fun t613 => (if (((((((t605 ++ t606) ++ t607) ++ t608) ++ t609) ++ t610) ++ t611) ++ t612).size + t613.size ≤ 9223372036854775807 then (if ((((((((t605 ++ t606) ++ t607) ++ t608) ++ t609) ++ t610) ++ t611) ++ t612) ++ t613).size + a0_7.size ≤ 9223372036854775807 then (if (((((((((t605 ++ t606) ++ t607) ++ t608) ++ t609) ++ t610) ++ t611) ++ t612) ++ t613) ++ a0_7).size + a0_8.size ≤ 9223372036854775807 then (some ((((((((((t605 ++ t606) ++ t607) ++ t608) ++ t609) ++ t610) ++ t611) ++ t612) ++ t613) ++ a0_7) ++ a0_8, 0)) else (none)) else (none)) else (none))) else (none))) else (none))) else (none))) else (none)) = some (r1, r2) := H
              have A20 := Aside0.mk A200
              clear A200
              by_cases c21 : (((t605 ++ t606) ++ t607) ++ t608).size + t609.size ≤ 9223372036854775807
              · rw [if_pos c21] at H
                have c21b0 := eq_true c21
                have c21b1 : decide ((((t605 ++ t606) ++ t607) ++ t608).size + t609.size ≤ 9223372036854775807) = true := decide_eq_true c21
                try have c21b2 : (9223372036854775807 < (((t605 ++ t606) ++ t607) ++ t608).size + t609.size) = False := eq_false (Nat.not_lt.2 c21)
                try have c21b3 : (9223372036854775807 < (t605.size) + (t606.size) + (t607.size) + (t608.size) + t609.size) = False := eq_false (by have h_ := c21; simp only [ByteArray.size_append] at h_; omega)
                try have c21b4 : ((t605.size) + (t606.size) + (t607.size) + (t608.size) + t609.size ≤ 9223372036854775807) = True := eq_true (by have h_ := c21; simp only [ByteArray.size_append] at h_; omega)
                replace H := Option.bind_eq_some_iff.mp H
                obtain ⟨t610, A220, H⟩ := H
                replace H : (if ((((t605 ++ t606) ++ t607) ++ t608) ++ t609).size + t610.size ≤ 9223372036854775807 then ((palanquinref07_num.f kj2 a0_5 2).bind fun t611 => (if (((((t605 ++ t606) ++ t607) ++ t608) ++ t609) ++ t610).size + t611.size ≤ 9223372036854775807 then ((palanquinref07_num.f kj2 a1 2).bind fun t612 => (if ((((((t605 ++ t606) ++ t607) ++ t608) ++ t609) ++ t610) ++ t611).size + t612.size ≤ 9223372036854775807 then ((palanquinref07_num.f kj2 a0_6 2).bind fun t613 => (if (((((((t605 ++ t606) ++ t607) ++ t608) ++ t609) ++ t610) ++ t611) ++ t612).size + t613.size ≤ 9223372036854775807 then (if ((((((((t605 ++ t606) ++ t607) ++ t608) ++ t609) ++ t610) ++ t611) ++ t612) ++ t613).size + a0_7.size ≤ 9223372036854775807 then (if (((((((((t605 ++ t606) ++ t607) ++ t608) ++ t609) ++ t610) ++ t611) ++ t612) ++ t613) ++ a0_7).size + a0_8.size ≤ 9223372036854775807 then (some ((((((((((t605 ++ t606) ++ t607) ++ t608) ++ t609) ++ t610) ++ t611) ++ t612) ++ t613) ++ a0_7) ++ a0_8, 0)) else (none)) else (none)) else (none))) else (none))) else (none))) else (none)) = some (r1, r2) := H
                have A22 := Aside0.mk A220
                clear A220
                by_cases c23 : ((((t605 ++ t606) ++ t607) ++ t608) ++ t609).size + t610.size ≤ 9223372036854775807
                · rw [if_pos c23] at H
                  have c23b0 := eq_true c23
                  have c23b1 : decide (((((t605 ++ t606) ++ t607) ++ t608) ++ t609).size + t610.size ≤ 9223372036854775807) = true := decide_eq_true c23
                  try have c23b2 : (9223372036854775807 < ((((t605 ++ t606) ++ t607) ++ t608) ++ t609).size + t610.size) = False := eq_false (Nat.not_lt.2 c23)
                  try have c23b3 : (9223372036854775807 < (t605.size) + (t606.size) + (t607.size) + (t608.size) + (t609.size) + t610.size) = False := eq_false (by have h_ := c23; simp only [ByteArray.size_append] at h_; omega)
                  try have c23b4 : ((t605.size) + (t606.size) + (t607.size) + (t608.size) + (t609.size) + t610.size ≤ 9223372036854775807) = True := eq_true (by have h_ := c23; simp only [ByteArray.size_append] at h_; omega)
                  replace H := Option.bind_eq_some_iff.mp H
                  obtain ⟨t611, A240, H⟩ := H
                  replace H : (if (((((t605 ++ t606) ++ t607) ++ t608) ++ t609) ++ t610).size + t611.size ≤ 9223372036854775807 then ((palanquinref07_num.f kj2 a1 2).bind fun t612 => (if ((((((t605 ++ t606) ++ t607) ++ t608) ++ t609) ++ t610) ++ t611).size + t612.size ≤ 9223372036854775807 then ((palanquinref07_num.f kj2 a0_6 2).bind fun t613 => (if (((((((t605 ++ t606) ++ t607) ++ t608) ++ t609) ++ t610) ++ t611) ++ t612).size + t613.size ≤ 9223372036854775807 then (if ((((((((t605 ++ t606) ++ t607) ++ t608) ++ t609) ++ t610) ++ t611) ++ t612) ++ t613).size + a0_7.size ≤ 9223372036854775807 then (if (((((((((t605 ++ t606) ++ t607) ++ t608) ++ t609) ++ t610) ++ t611) ++ t612) ++ t613) ++ a0_7).size + a0_8.size ≤ 9223372036854775807 then (some ((((((((((t605 ++ t606) ++ t607) ++ t608) ++ t609) ++ t610) ++ t611) ++ t612) ++ t613) ++ a0_7) ++ a0_8, 0)) else (none)) else (none)) else (none))) else (none))) else (none)) = some (r1, r2) := H
                  have A24 := Aside0.mk A240
                  clear A240
                  by_cases c25 : (((((t605 ++ t606) ++ t607) ++ t608) ++ t609) ++ t610).size + t611.size ≤ 9223372036854775807
                  · rw [if_pos c25] at H
                    have c25b0 := eq_true c25
                    have c25b1 : decide ((((((t605 ++ t606) ++ t607) ++ t608) ++ t609) ++ t610).size + t611.size ≤ 9223372036854775807) = true := decide_eq_true c25
                    try have c25b2 : (9223372036854775807 < (((((t605 ++ t606) ++ t607) ++ t608) ++ t609) ++ t610).size + t611.size) = False := eq_false (Nat.not_lt.2 c25)
                    try have c25b3 : (9223372036854775807 < (t605.size) + (t606.size) + (t607.size) + (t608.size) + (t609.size) + (t610.size) + t611.size) = False := eq_false (by have h_ := c25; simp only [ByteArray.size_append] at h_; omega)
                    try have c25b4 : ((t605.size) + (t606.size) + (t607.size) + (t608.size) + (t609.size) + (t610.size) + t611.size ≤ 9223372036854775807) = True := eq_true (by have h_ := c25; simp only [ByteArray.size_append] at h_; omega)
                    replace H := Option.bind_eq_some_iff.mp H
                    obtain ⟨t612, A260, H⟩ := H
                    replace H : (if ((((((t605 ++ t606) ++ t607) ++ t608) ++ t609) ++ t610) ++ t611).size + t612.size ≤ 9223372036854775807 then ((palanquinref07_num.f kj2 a0_6 2).bind fun t613 => (if (((((((t605 ++ t606) ++ t607) ++ t608) ++ t609) ++ t610) ++ t611) ++ t612).size + t613.size ≤ 9223372036854775807 then (if ((((((((t605 ++ t606) ++ t607) ++ t608) ++ t609) ++ t610) ++ t611) ++ t612) ++ t613).size + a0_7.size ≤ 9223372036854775807 then (if (((((((((t605 ++ t606) ++ t607) ++ t608) ++ t609) ++ t610) ++ t611) ++ t612) ++ t613) ++ a0_7).size + a0_8.size ≤ 9223372036854775807 then (some ((((((((((t605 ++ t606) ++ t607) ++ t608) ++ t609) ++ t610) ++ t611) ++ t612) ++ t613) ++ a0_7) ++ a0_8, 0)) else (none)) else (none)) else (none))) else (none)) = some (r1, r2) := H
                    have A26 := Aside0.mk A260
                    clear A260
                    by_cases c27 : ((((((t605 ++ t606) ++ t607) ++ t608) ++ t609) ++ t610) ++ t611).size + t612.size ≤ 9223372036854775807
                    · rw [if_pos c27] at H
                      have c27b0 := eq_true c27
                      have c27b1 : decide (((((((t605 ++ t606) ++ t607) ++ t608) ++ t609) ++ t610) ++ t611).size + t612.size ≤ 9223372036854775807) = true := decide_eq_true c27
                      try have c27b2 : (9223372036854775807 < ((((((t605 ++ t606) ++ t607) ++ t608) ++ t609) ++ t610) ++ t611).size + t612.size) = False := eq_false (Nat.not_lt.2 c27)
                      try have c27b3 : (9223372036854775807 < (t605.size) + (t606.size) + (t607.size) + (t608.size) + (t609.size) + (t610.size) + (t611.size) + t612.size) = False := eq_false (by have h_ := c27; simp only [ByteArray.size_append] at h_; omega)
                      try have c27b4 : ((t605.size) + (t606.size) + (t607.size) + (t608.size) + (t609.size) + (t610.size) + (t611.size) + t612.size ≤ 9223372036854775807) = True := eq_true (by have h_ := c27; simp only [ByteArray.size_append] at h_; omega)
                      replace H := Option.bind_eq_some_iff.mp H
                      obtain ⟨t613, A280, H⟩ := H
                      replace H : (if (((((((t605 ++ t606) ++ t607) ++ t608) ++ t609) ++ t610) ++ t611) ++ t612).size + t613.size ≤ 9223372036854775807 then (if ((((((((t605 ++ t606) ++ t607) ++ t608) ++ t609) ++ t610) ++ t611) ++ t612) ++ t613).size + a0_7.size ≤ 9223372036854775807 then (if (((((((((t605 ++ t606) ++ t607) ++ t608) ++ t609) ++ t610) ++ t611) ++ t612) ++ t613) ++ a0_7).size + a0_8.size ≤ 9223372036854775807 then (some ((((((((((t605 ++ t606) ++ t607) ++ t608) ++ t609) ++ t610) ++ t611) ++ t612) ++ t613) ++ a0_7) ++ a0_8, 0)) else (none)) else (none)) else (none)) = some (r1, r2) := H
                      have A28 := Aside0.mk A280
                      clear A280
                      by_cases c29 : (((((((t605 ++ t606) ++ t607) ++ t608) ++ t609) ++ t610) ++ t611) ++ t612).size + t613.size ≤ 9223372036854775807
                      · rw [if_pos c29] at H
                        have c29b0 := eq_true c29
                        have c29b1 : decide ((((((((t605 ++ t606) ++ t607) ++ t608) ++ t609) ++ t610) ++ t611) ++ t612).size + t613.size ≤ 9223372036854775807) = true := decide_eq_true c29
                        try have c29b2 : (9223372036854775807 < (((((((t605 ++ t606) ++ t607) ++ t608) ++ t609) ++ t610) ++ t611) ++ t612).size + t613.size) = False := eq_false (Nat.not_lt.2 c29)
                        try have c29b3 : (9223372036854775807 < (t605.size) + (t606.size) + (t607.size) + (t608.size) + (t609.size) + (t610.size) + (t611.size) + (t612.size) + t613.size) = False := eq_false (by have h_ := c29; simp only [ByteArray.size_append] at h_; omega)
                        try have c29b4 : ((t605.size) + (t606.size) + (t607.size) + (t608.size) + (t609.size) + (t610.size) + (t611.size) + (t612.size) + t613.size ≤ 9223372036854775807) = True := eq_true (by have h_ := c29; simp only [ByteArray.size_append] at h_; omega)
                        by_cases c30 : ((((((((t605 ++ t606) ++ t607) ++ t608) ++ t609) ++ t610) ++ t611) ++ t612) ++ t613).size + a0_7.size ≤ 9223372036854775807
                        · rw [if_pos c30] at H
                          have c30b0 := eq_true c30
                          have c30b1 : decide (((((((((t605 ++ t606) ++ t607) ++ t608) ++ t609) ++ t610) ++ t611) ++ t612) ++ t613).size + a0_7.size ≤ 9223372036854775807) = true := decide_eq_true c30
                          try have c30b2 : (9223372036854775807 < ((((((((t605 ++ t606) ++ t607) ++ t608) ++ t609) ++ t610) ++ t611) ++ t612) ++ t613).size + a0_7.size) = False := eq_false (Nat.not_lt.2 c30)
                          try have c30b3 : (9223372036854775807 < (t605.size) + (t606.size) + (t607.size) + (t608.size) + (t609.size) + (t610.size) + (t611.size) + (t612.size) + (t613.size) + a0_7.size) = False := eq_false (by have h_ := c30; simp only [ByteArray.size_append] at h_; omega)
                          try have c30b4 : ((t605.size) + (t606.size) + (t607.size) + (t608.size) + (t609.size) + (t610.size) + (t611.size) + (t612.size) + (t613.size) + a0_7.size ≤ 9223372036854775807) = True := eq_true (by have h_ := c30; simp only [ByteArray.size_append] at h_; omega)
                          by_cases c31 : (((((((((t605 ++ t606) ++ t607) ++ t608) ++ t609) ++ t610) ++ t611) ++ t612) ++ t613) ++ a0_7).size + a0_8.size ≤ 9223372036854775807
                          · rw [if_pos c31] at H
                            have c31b0 := eq_true c31
                            have c31b1 : decide ((((((((((t605 ++ t606) ++ t607) ++ t608) ++ t609) ++ t610) ++ t611) ++ t612) ++ t613) ++ a0_7).size + a0_8.size ≤ 9223372036854775807) = true := decide_eq_true c31
                            try have c31b2 : (9223372036854775807 < (((((((((t605 ++ t606) ++ t607) ++ t608) ++ t609) ++ t610) ++ t611) ++ t612) ++ t613) ++ a0_7).size + a0_8.size) = False := eq_false (Nat.not_lt.2 c31)
                            try have c31b3 : (9223372036854775807 < (t605.size) + (t606.size) + (t607.size) + (t608.size) + (t609.size) + (t610.size) + (t611.size) + (t612.size) + (t613.size) + (a0_7.size) + a0_8.size) = False := eq_false (by have h_ := c31; simp only [ByteArray.size_append] at h_; omega)
                            try have c31b4 : ((t605.size) + (t606.size) + (t607.size) + (t608.size) + (t609.size) + (t610.size) + (t611.size) + (t612.size) + (t613.size) + (a0_7.size) + a0_8.size ≤ 9223372036854775807) = True := eq_true (by have h_ := c31; simp only [ByteArray.size_append] at h_; omega)
                            simp only [Option.some.injEq, Prod.mk.injEq] at H
                            obtain ⟨rfl, rfl⟩ := H
                            try go_wp2
                            have n0_ := Aside0.mk (blk_drew BK602.out)
                            have n1_ := Aside0.mk (below_drew1 HB.out)
                            clear BK602
                            clear HB
                            have BK602 := n0_
                            have HB := n1_
                            clear n0_ n1_
                            refine start_ (n := 48) (S := fun w' => w'.cell? ⟨gb602, 0, none⟩ = some (.int .i64 a0_0) ∧ w'.cell? ⟨gb602, 1, none⟩ = some (.int .i64 a0_1) ∧ w'.cell? ⟨gb602, 2, none⟩ = some (.int .u32 a0_2) ∧ w'.cell? ⟨gb602, 3, none⟩ = some (.int .u32 a0_3) ∧ w'.cell? ⟨gb602, 4, none⟩ = some (.int .i64 a0_4) ∧ w'.cell? ⟨gb602, 5, none⟩ = some (.int .i64 a0_5) ∧ w'.cell? ⟨gb602, 6, none⟩ = some (.int .i64 a0_6) ∧ w'.cell? ⟨gb602, 7, none⟩ = some (.string a0_7) ∧ w'.cell? ⟨gb602, 8, none⟩ = some (.string a0_8)) (ds := []) #[false, false, false, false, false, false, false, false, false, false, false, false, false, false, false, false, false, false, false, false, false, false, false, false, false, false, false, false, false, false, false, false, false, false, false, false, false, false, false, false, false, false, false, false, false, false, false, false] (by kernel_rfl) rfl rfl ⟨(blk_cell BK602.out 0).trans rfl, (blk_cell BK602.out 1).trans rfl, (blk_cell BK602.out 2).trans rfl, (blk_cell BK602.out 3).trans rfl, (blk_cell BK602.out 4).trans rfl, (blk_cell BK602.out 5).trans rfl, (blk_cell BK602.out 6).trans rfl, (blk_cell BK602.out 7).trans rfl, (blk_cell BK602.out 8).trans rfl⟩ (fun hHeld => ?_); refine with_tabW palanquinref07_Put.tab3 palanquinref07_Put.bits3 (fun HT_ HW_ => ?_)
                            generalize wc.drew = w32 at BK602 HB hHeld ⊢
                            refine pure_ (i := 0) (N := some 14) (v := ?_) (a' := ?_) #[true, false, false, false, false, false, false, false, false, false, false, false, false, false, false, false, false, false, false, false, false, false, false, false, false, false, false, false, false, false, false, false, false, false, false, false, false, false, false, false, false, false, false, false, false, false, false, false] rfl rfl (any_of HT_.out (by kernel_rfl)) (fun _ _ _ h => h) (Or.inl ⟨by rfl, ?_⟩) ?_ ?_
                            rotate_left
                            · intro w'
                              go_simp
                              with_reducible rfl
                            rotate_left
                            · simp only [Act.put, List.setIfInBounds_toArray, List.set_cons_zero, List.set_cons_succ, i64_w, i32_w]
                              rfl
                            refine pure_ (i := 3) (N := some 17) (v := ?_) (a' := ?_) #[true, false, false, true, false, false, false, false, false, false, false, false, false, false, false, false, false, false, false, false, false, false, false, false, false, false, false, false, false, false, false, false, false, false, false, false, false, false, false, false, false, false, false, false, false, false, false, false] rfl rfl (any_of HT_.out (by kernel_rfl)) (fun _ _ _ h => h) (Or.inl ⟨by rfl, ?_⟩) ?_ ?_
                            rotate_left
                            · intro w'
                              go_simp
                              with_reducible rfl
                            rotate_left
                            · simp only [Act.put, List.setIfInBounds_toArray, List.set_cons_zero, List.set_cons_succ, i64_w, i32_w]
                              rfl
                            refine pure_ (i := 7) (N := some 21) (v := ?_) (a' := ?_) #[true, false, false, true, false, false, false, true, false, false, false, false, false, false, false, false, false, false, false, false, false, false, false, false, false, false, false, false, false, false, false, false, false, false, false, false, false, false, false, false, false, false, false, false, false, false, false, false] rfl rfl (any_of HT_.out (by kernel_rfl)) (fun _ _ _ h => h) (Or.inl ⟨by rfl, ?_⟩) ?_ ?_
                            rotate_left
                            · intro w'
                              go_simp
                              with_reducible rfl
                            rotate_left
                            · simp only [Act.put, List.setIfInBounds_toArray, List.set_cons_zero, List.set_cons_succ, i64_w, i32_w]
                              rfl
                            refine pure_ (i := 12) (N := some 26) (v := ?_) (a' := ?_) #[true, false, false, true, false, false, false, true, false, false, false, false, true, false, false, false, false, false, false, false, false, false, false, false, false, false, false, false, false, false, false, false, false, false, false, false, false, false, false, false, false, false, false, false, false, false, false, false] rfl rfl (any_of HT_.out (by kernel_rfl)) (fun _ _ _ h => h) (Or.inl ⟨by rfl, ?_⟩) ?_ ?_
                            rotate_left
                            · intro w'
                              go_simp
                              with_reducible rfl
                            rotate_left
                            · simp only [Act.put, List.setIfInBounds_toArray, List.set_cons_zero, List.set_cons_succ, i64_w, i32_w]
                              rfl
                            refine pure_ (i := 17) (N := some 31) (v := ?_) (a' := ?_) #[true, false, false, true, false, false, false, true, false, false, false, false, true, false, false, false, false, true, false, false, false, false, false, false, false, false, false, false, false, false, false, false, false, false, false, false, false, false, false, false, false, false, false, false, false, false, false, false] rfl rfl (any_of HT_.out (by kernel_rfl)) (fun _ _ _ h => h) (Or.inl ⟨by rfl, ?_⟩) ?_ ?_
                            rotate_left
                            · intro w'
                              go_simp
                              with_reducible rfl
                            rotate_left
                            · simp only [Act.put, List.setIfInBounds_toArray, List.set_cons_zero, List.set_cons_succ, i64_w, i32_w]
                              rfl
                            refine pure_ (i := 25) (N := some 39) (v := ?_) (a' := ?_) #[true, false, false, true, false, false, false, true, false, false, false, false, true, false, false, false, false, true, false, false, false, false, false, false, false, true, false, false, false, false, false, false, false, false, false, false, false, false, false, false, false, false, false, false, false, false, false, false] rfl rfl (any_of HT_.out (by kernel_rfl)) (fun _ _ _ h => h) (Or.inl ⟨by rfl, ?_⟩) ?_ ?_
                            rotate_left
                            · intro w'
                              go_simp
                              with_reducible rfl
                            rotate_left
                            · simp only [Act.put, List.setIfInBounds_toArray, List.set_cons_zero, List.set_cons_succ, i64_w, i32_w]
                              rfl
                            refine pure_ (i := 29) (N := some 43) (v := ?_) (a' := ?_) #[true, false, false, true, false, false, false, true, false, false, false, false, true, false, false, false, false, true, false, false, false, false, false, false, false, true, false, false, false, true, false, false, false, false, false, false, false, false, false, false, false, false, false, false, false, false, false, false] rfl rfl (any_of HT_.out (by kernel_rfl)) (fun _ _ _ h => h) (Or.inl ⟨by rfl, ?_⟩) ?_ ?_
                            rotate_left
                            · intro w'
                              go_simp
                              with_reducible rfl
                            rotate_left
                            · simp only [Act.put, List.setIfInBounds_toArray, List.set_cons_zero, List.set_cons_succ, i64_w, i32_w]
                              rfl
                            refine pure_ (i := 33) (N := some 47) (v := ?_) (a' := ?_) #[true, false, false, true, false, false, false, true, false, false, false, false, true, false, false, false, false, true, false, false, false, false, false, false, false, true, false, false, false, true, false, false, false, true, false, false, false, false, false, false, false, false, false, false, false, false, false, false] rfl rfl (any_of HT_.out (by kernel_rfl)) (fun _ _ _ h => h) (Or.inl ⟨by rfl, ?_⟩) ?_ ?_
                            rotate_left
                            · intro w'
                              go_simp
                              with_reducible rfl
                            rotate_left
                            · simp only [Act.put, List.setIfInBounds_toArray, List.set_cons_zero, List.set_cons_succ, i64_w, i32_w]
                              rfl
                            refine pure_ (i := 36) (N := some 50) (v := ?_) (a' := ?_) #[true, false, false, true, false, false, false, true, false, false, false, false, true, false, false, false, false, true, false, false, false, false, false, false, false, true, false, false, false, true, false, false, false, true, false, false, true, false, false, false, false, false, false, false, false, false, false, false] rfl rfl (any_of HT_.out (by kernel_rfl)) (fun _ _ _ h => h) (Or.inl ⟨by rfl, ?_⟩) ?_ ?_
                            rotate_left
                            · intro w'
                              go_simp
                              with_reducible rfl
                            rotate_left
                            · simp only [Act.put, List.setIfInBounds_toArray, List.set_cons_zero, List.set_cons_succ, i64_w, i32_w]
                              rfl
                            refine pure_ (i := 40) (N := some 54) (v := ?_) (a' := ?_) #[true, false, false, true, false, false, false, true, false, false, false, false, true, false, false, false, false, true, false, false, false, false, false, false, false, true, false, false, false, true, false, false, false, true, false, false, true, false, false, false, true, false, false, false, false, false, false, false] rfl rfl (any_of HT_.out (by kernel_rfl)) (fun _ _ _ h => h) (Or.inl ⟨by rfl, ?_⟩) ?_ ?_
                            rotate_left
                            · intro w'
                              go_simp
                              with_reducible rfl
                            rotate_left
                            · simp only [Act.put, List.setIfInBounds_toArray, List.set_cons_zero, List.set_cons_succ, i64_w, i32_w]
                              rfl
                            refine pure_ (i := 43) (N := some 57) (v := ?_) (a' := ?_) #[true, false, false, true, false, false, false, true, false, false, false, false, true, false, false, false, false, true, false, false, false, false, false, false, false, true, false, false, false, true, false, false, false, true, false, false, true, false, false, false, true, false, false, true, false, false, false, false] rfl rfl (any_of HT_.out (by kernel_rfl)) (fun _ _ _ h => h) (Or.inl ⟨by rfl, ?_⟩) ?_ ?_
                            rotate_left
                            · intro w'
                              go_simp
                              with_reducible rfl
                            rotate_left
                            · simp only [Act.put, List.setIfInBounds_toArray, List.set_cons_zero, List.set_cons_succ, i64_w, i32_w]
                              rfl
                            refine take_ (i := 1) (N := some 15) (v := ?_) (a' := ?_) #[true, true, false, true, false, false, false, true, false, false, false, false, true, false, false, false, false, true, false, false, false, false, false, false, false, true, false, false, false, true, false, false, false, true, false, false, true, false, false, false, true, false, false, true, false, false, false, false] rfl rfl (take_ofW HT_.out HW_.out (by kernel_rfl)) (fun _ _ _ h => h) (Or.inl ⟨by rfl, ?_⟩) hHeld ?_ ?_
                            rotate_left
                            · rintro w' ⟨s0, s1, s2, s3, s4, s5, s6, s7, s8⟩
                              go_simp
                              with_reducible rfl
                            rotate_left
                            · simp only [Act.put, List.setIfInBounds_toArray, List.set_cons_zero, List.set_cons_succ, i64_w, i32_w]
                              rfl
                            refine take_ (i := 4) (N := some 18) (v := ?_) (a' := ?_) #[true, true, false, true, true, false, false, true, false, false, false, false, true, false, false, false, false, true, false, false, false, false, false, false, false, true, false, false, false, true, false, false, false, true, false, false, true, false, false, false, true, false, false, true, false, false, false, false] rfl rfl (take_ofW HT_.out HW_.out (by kernel_rfl)) (fun _ _ _ h => h) (Or.inl ⟨by rfl, ?_⟩) hHeld ?_ ?_
                            rotate_left
                            · rintro w' ⟨s0, s1, s2, s3, s4, s5, s6, s7, s8⟩
                              go_simp
                              with_reducible rfl
                            rotate_left
                            · simp only [Act.put, List.setIfInBounds_toArray, List.set_cons_zero, List.set_cons_succ, i64_w, i32_w]
                              rfl
                            refine take_ (i := 8) (N := some 22) (v := ?_) (a' := ?_) #[true, true, false, true, true, false, false, true, true, false, false, false, true, false, false, false, false, true, false, false, false, false, false, false, false, true, false, false, false, true, false, false, false, true, false, false, true, false, false, false, true, false, false, true, false, false, false, false] rfl rfl (take_ofW HT_.out HW_.out (by kernel_rfl)) (fun _ _ _ h => h) (Or.inl ⟨by rfl, ?_⟩) hHeld ?_ ?_
                            rotate_left
                            · rintro w' ⟨s0, s1, s2, s3, s4, s5, s6, s7, s8⟩
                              go_simp
                              with_reducible rfl
                            rotate_left
                            · simp only [Act.put, List.setIfInBounds_toArray, List.set_cons_zero, List.set_cons_succ, i64_w, i32_w]
                              rfl
                            refine pure_ (i := 9) (N := some 23) (v := ?_) (a' := ?_) #[true, true, false, true, true, false, false, true, true, true, false, false, true, false, false, false, false, true, false, false, false, false, false, false, false, true, false, false, false, true, false, false, false, true, false, false, true, false, false, false, true, false, false, true, false, false, false, false] rfl rfl (any_of HT_.out (by kernel_rfl)) (fun _ _ _ h => h) (Or.inl ⟨by rfl, ?_⟩) ?_ ?_
                            rotate_left
                            · intro w'
                              go_simp
                              with_reducible rfl
                            rotate_left
                            · simp only [Act.put, List.setIfInBounds_toArray, List.set_cons_zero, List.set_cons_succ, i64_w, i32_w]
                              rfl
                            refine take_ (i := 13) (N := some 27) (v := ?_) (a' := ?_) #[true, true, false, true, true, false, false, true, true, true, false, false, true, true, false, false, false, true, false, false, false, false, false, false, false, true, false, false, false, true, false, false, false, true, false, false, true, false, false, false, true, false, false, true, false, false, false, false] rfl rfl (take_ofW HT_.out HW_.out (by kernel_rfl)) (fun _ _ _ h => h) (Or.inl ⟨by rfl, ?_⟩) hHeld ?_ ?_
                            rotate_left
                            · rintro w' ⟨s0, s1, s2, s3, s4, s5, s6, s7, s8⟩
                              go_simp
                              with_reducible rfl
                            rotate_left
                            · simp only [Act.put, List.setIfInBounds_toArray, List.set_cons_zero, List.set_cons_succ, i64_w, i32_w]
                              rfl
                            refine pure_ (i := 14) (N := some 28) (v := ?_) (a' := ?_) #[true, true, false, true, true, false, false, true, true, true, false, false, true, true, true, false, false, true, false, false, false, false, false, false, false, true, false, false, false, true, false, false, false, true, false, false, true, false, false, false, true, false, false, true, false, false, false, false] rfl rfl (any_of HT_.out (by kernel_rfl)) (fun _ _ _ h => h) (Or.inl ⟨by rfl, ?_⟩) ?_ ?_
                            rotate_left
                            · intro w'
                              go_simp
                              with_reducible rfl
                            rotate_left
                            · simp only [Act.put, List.setIfInBounds_toArray, List.set_cons_zero, List.set_cons_succ, i64_w, i32_w]
                              rfl
                            refine take_ (i := 18) (N := some 32) (v := ?_) (a' := ?_) #[true, true, false, true, true, false, false, true, true, true, false, false, true, true, true, false, false, true, true, false, false, false, false, false, false, true, false, false, false, true, false, false, false, true, false, false, true, false, false, false, true, false, false, true, false, false, false, false] rfl rfl (take_ofW HT_.out HW_.out (by kernel_rfl)) (fun _ _ _ h => h) (Or.inl ⟨by rfl, ?_⟩) hHeld ?_ ?_
                            rotate_left
                            · rintro w' ⟨s0, s1, s2, s3, s4, s5, s6, s7, s8⟩
                              go_simp
                              with_reducible rfl
                            rotate_left
                            · simp only [Act.put, List.setIfInBounds_toArray, List.set_cons_zero, List.set_cons_succ, i64_w, i32_w]
                              rfl
                            refine pure_ (i := 19) (N := some 33) (v := ?_) (a' := ?_) #[true, true, false, true, true, false, false, true, true, true, false, false, true, true, true, false, false, true, true, true, false, false, false, false, false, true, false, false, false, true, false, false, false, true, false, false, true, false, false, false, true, false, false, true, false, false, false, false] rfl rfl (any_of HT_.out (by kernel_rfl)) (fun _ _ _ h => h) (Or.inl ⟨by rfl, ?_⟩) ?_ ?_
                            rotate_left
                            · intro w'
                              go_simp
                              with_reducible rfl
                            rotate_left
                            · simp only [Act.put, List.setIfInBounds_toArray, List.set_cons_zero, List.set_cons_succ, i64_w, i32_w]
                              rfl
                            refine pure_ (i := 20) (N := some 34) (v := ?_) (a' := ?_) #[true, true, false, true, true, false, false, true, true, true, false, false, true, true, true, false, false, true, true, true, true, false, false, false, false, true, false, false, false, true, false, false, false, true, false, false, true, false, false, false, true, false, false, true, false, false, false, false] rfl rfl (any_of HT_.out (by kernel_rfl)) (fun _ _ _ h => h) (Or.inl ⟨by rfl, ?_⟩) ?_ ?_
                            rotate_left
                            · intro w'
                              go_simp
                              with_reducible rfl
                            rotate_left
                            · simp only [Act.put, List.setIfInBounds_toArray, List.set_cons_zero, List.set_cons_succ, i64_w, i32_w]
                              rfl
                            refine pure_ (i := 21) (N := some 35) (v := ?_) (a' := ?_) #[true, true, false, true, true, false, false, true, true, true, false, false, true, true, true, false, false, true, true, true, true, true, false, false, false, true, false, false, false, true, false, false, false, true, false, false, true, false, false, false, true, false, false, true, false, false, false, false] rfl rfl (any_of HT_.out (by kernel_rfl)) (fun _ _ _ h => h) (Or.inl ⟨by rfl, ?_⟩) ?_ ?_
                            rotate_left
                            · intro w'
                              go_simp
                              with_reducible rfl
                            rotate_left
                            · simp only [Act.put, List.setIfInBounds_toArray, List.set_cons_zero, List.set_cons_succ, i64_w, i32_w]
                              rfl
                            refine pure_ (i := 22) (N := some 36) (v := ?_) (a' := ?_) #[true, true, false, true, true, false, false, true, true, true, false, false, true, true, true, false, false, true, true, true, true, true, true, false, false, true, false, false, false, true, false, false, false, true, false, false, true, false, false, false, true, false, false, true, false, false, false, false] rfl rfl (any_of HT_.out (by kernel_rfl)) (fun _ _ _ h => h) (Or.inl ⟨by rfl, ?_⟩) ?_ ?_
                            rotate_left
                            · intro w'
                              go_simp
                              with_reducible rfl
                            rotate_left
                            · simp only [Act.put, List.setIfInBounds_toArray, List.set_cons_zero, List.set_cons_succ, i64_w, i32_w]
                              rfl
                            refine take_ (i := 26) (N := some 40) (v := ?_) (a' := ?_) #[true, true, false, true, true, false, false, true, true, true, false, false, true, true, true, false, false, true, true, true, true, true, true, false, false, true, true, false, false, true, false, false, false, true, false, false, true, false, false, false, true, false, false, true, false, false, false, false] rfl rfl (take_ofW HT_.out HW_.out (by kernel_rfl)) (fun _ _ _ h => h) (Or.inl ⟨by rfl, ?_⟩) hHeld ?_ ?_
                            rotate_left
                            · rintro w' ⟨s0, s1, s2, s3, s4, s5, s6, s7, s8⟩
                              go_simp
                              with_reducible rfl
                            rotate_left
                            · simp only [Act.put, List.setIfInBounds_toArray, List.set_cons_zero, List.set_cons_succ, i64_w, i32_w]
                              rfl
                            refine take_ (i := 30) (N := some 44) (v := ?_) (a' := ?_) #[true, true, false, true, true, false, false, true, true, true, false, false, true, true, true, false, false, true, true, true, true, true, true, false, false, true, true, false, false, true, true, false, false, true, false, false, true, false, false, false, true, false, false, true, false, false, false, false] rfl rfl (take_ofW HT_.out HW_.out (by kernel_rfl)) (fun _ _ _ h => h) (Or.inl ⟨by rfl, ?_⟩) hHeld ?_ ?_
                            rotate_left
                            · rintro w' ⟨s0, s1, s2, s3, s4, s5, s6, s7, s8⟩
                              go_simp
                              with_reducible rfl
                            rotate_left
                            · simp only [Act.put, List.setIfInBounds_toArray, List.set_cons_zero, List.set_cons_succ, i64_w, i32_w]
                              rfl
                            refine take_ (i := 37) (N := some 51) (v := ?_) (a' := ?_) #[true, true, false, true, true, false, false, true, true, true, false, false, true, true, true, false, false, true, true, true, true, true, true, false, false, true, true, false, false, true, true, false, false, true, false, false, true, true, false, false, true, false, false, true, false, false, false, false] rfl rfl (take_ofW HT_.out HW_.out (by kernel_rfl)) (fun _ _ _ h => h) (Or.inl ⟨by rfl, ?_⟩) hHeld ?_ ?_
                            rotate_left
                            · rintro w' ⟨s0, s1, s2, s3, s4, s5, s6, s7, s8⟩
                              go_simp
                              with_reducible rfl
                            rotate_left
                            · simp only [Act.put, List.setIfInBounds_toArray, List.set_cons_zero, List.set_cons_succ, i64_w, i32_w]
                              rfl
                            refine take_ (i := 41) (N := some 55) (v := ?_) (a' := ?_) #[true, true, false, true, true, false, false, true, true, true, false, false, true, true, true, false, false, true, true, true, true, true, true, false, false, true, true, false, false, true, true, false, false, true, false, false, true, true, false, false, true, true, false, true, false, false, false, false] rfl rfl (take_ofW HT_.out HW_.out (by kernel_rfl)) (fun _ _ _ h => h) (Or.inl ⟨by rfl, ?_⟩) hHeld ?_ ?_
                            rotate_left
                            · rintro w' ⟨s0, s1, s2, s3, s4, s5, s6, s7, s8⟩
                              go_simp
                              with_reducible rfl
                            rotate_left
                            · simp only [Act.put, List.setIfInBounds_toArray, List.set_cons_zero, List.set_cons_succ, i64_w, i32_w]
                              rfl
                            refine take_ (i := 44) (N := some 58) (v := ?_) (a' := ?_) #[true, true, false, true, true, false, false, true, true, true, false, false, true, true, true, false, false, true, true, true, true, true, true, false, false, true, true, false, false, true, true, false, false, true, false, false, true, true, false, false, true, true, false, true, true, false, false, false] rfl rfl (take_ofW HT_.out HW_.out (by kernel_rfl)) (fun _ _ _ h => h) (Or.inl ⟨by rfl, ?_⟩) hHeld ?_ ?_
                            rotate_left
                            · rintro w' ⟨s0, s1, s2, s3, s4, s5, s6, s7, s8⟩
                              go_simp
                              with_reducible rfl
                            rotate_left
                            · simp only [Act.put, List.setIfInBounds_toArray, List.set_cons_zero, List.set_cons_succ, i64_w, i32_w]
                              rfl
                            refine one_ (i := 2) (N := some 16) #[true, true, true, true, true, false, false, true, true, true, false, false, true, true, true, false, false, true, true, true, true, true, true, false, false, true, true, false, false, true, true, false, false, true, false, false, true, true, false, false, true, true, false, true, true, false, false, false] rfl rfl (one_of HT_.out (by kernel_rfl)) (by decide) (fun K hK => ?_)
                            refine goes_ Try.func153 (by kernel_rfl) rfl #[.int .i64 a0_0, .int .i64 2] (by rfl) rfl rfl (by (try simp only [List.map_toArray, List.map_cons, List.map_nil]); first | done | rfl | (simp only [List.length_drop, List.length_take]; rfl)) ?_
                            with_reducible refine (palanquinref07_num.calls kj2 a0_0 2 t605 _ A13.out).mono ?_
                            rintro e w33 ⟨rfl, hb⟩
                            refine ⟨_, rfl, ?_⟩
                            have n0_ := Aside0.mk (blk_below (g := gb602) (o := .cells #[.int .i64 a0_0, .int .i64 a0_1, .int .u32 a0_2, .int .u32 a0_3, .int .i64 a0_4, .int .i64 a0_5, .int .i64 a0_6, .string a0_7, .string a0_8] 127 (0, 0)) (by (with_reducible repeat (first | refine blk_drewN ?_ _ | refine blk_drew ?_ | refine blk_alloc ?_ _)); exact BK602.out) hb)
                            have n1_ := Aside0.mk (below_step (by repeat (first | (with_reducible first | exact HB.out | apply below_alloc | apply pw_below_drewN | apply below_drew1 | refine below_set ?_ GE602.out) | exact HB.out)) hb)
                            clear BK602
                            clear HB
                            have BK602 := n0_
                            have HB := n1_
                            clear n0_ n1_
                            (try clear hb)
                            (try clear hb2)
                            (try clear hk)
                            (try clear hi)
                            refine hK.out _ _ ⟨(blk_cell BK602.out 0).trans rfl, (blk_cell BK602.out 1).trans rfl, (blk_cell BK602.out 2).trans rfl, (blk_cell BK602.out 3).trans rfl, (blk_cell BK602.out 4).trans rfl, (blk_cell BK602.out 5).trans rfl, (blk_cell BK602.out 6).trans rfl, (blk_cell BK602.out 7).trans rfl, (blk_cell BK602.out 8).trans rfl⟩ (fun hHeld => ?_)
                            clear hK K
                            refine norm_ (a' := ?_) ?_ ?_
                            rotate_left
                            · show Act.put _ (some 16) _ = _
                              simp only [Act.put, List.setIfInBounds_toArray, List.set_cons_zero, List.set_cons_succ, i64_w, i32_w]
                              rfl
                            refine one_ (i := 5) (N := some 19) #[true, true, true, true, true, true, false, true, true, true, false, false, true, true, true, false, false, true, true, true, true, true, true, false, false, true, true, false, false, true, true, false, false, true, false, false, true, true, false, false, true, true, false, true, true, false, false, false] rfl rfl (one_of HT_.out (by kernel_rfl)) (by decide) (fun K hK => ?_)
                            refine goes_ Try.func153 (by kernel_rfl) rfl #[.int .i64 a0_1, .int .i64 2] (by rfl) rfl rfl (by (try simp only [List.map_toArray, List.map_cons, List.map_nil]); first | done | rfl | (simp only [List.length_drop, List.length_take]; rfl)) ?_
                            with_reducible refine (palanquinref07_num.calls kj2 a0_1 2 t606 _ A14.out).mono ?_
                            rintro e w34 ⟨rfl, hb⟩
                            refine ⟨_, rfl, ?_⟩
                            have n0_ := Aside0.mk (blk_below (g := gb602) (o := .cells #[.int .i64 a0_0, .int .i64 a0_1, .int .u32 a0_2, .int .u32 a0_3, .int .i64 a0_4, .int .i64 a0_5, .int .i64 a0_6, .string a0_7, .string a0_8] 127 (0, 0)) (by (with_reducible repeat (first | refine blk_drewN ?_ _ | refine blk_drew ?_ | refine blk_alloc ?_ _)); exact BK602.out) hb)
                            have n1_ := Aside0.mk (below_step (by repeat (first | (with_reducible first | exact HB.out | apply below_alloc | apply pw_below_drewN | apply below_drew1 | refine below_set ?_ GE602.out) | exact HB.out)) hb)
                            clear BK602
                            clear HB
                            have BK602 := n0_
                            have HB := n1_
                            clear n0_ n1_
                            (try clear hb)
                            (try clear hb2)
                            (try clear hk)
                            (try clear hi)
                            refine hK.out _ _ ⟨(blk_cell BK602.out 0).trans rfl, (blk_cell BK602.out 1).trans rfl, (blk_cell BK602.out 2).trans rfl, (blk_cell BK602.out 3).trans rfl, (blk_cell BK602.out 4).trans rfl, (blk_cell BK602.out 5).trans rfl, (blk_cell BK602.out 6).trans rfl, (blk_cell BK602.out 7).trans rfl, (blk_cell BK602.out 8).trans rfl⟩ (fun hHeld => ?_)
                            clear hK K
                            refine norm_ (a' := ?_) ?_ ?_
                            rotate_left
                            · show Act.put _ (some 19) _ = _
                              simp only [Act.put, List.setIfInBounds_toArray, List.set_cons_zero, List.set_cons_succ, i64_w, i32_w]
                              rfl
                            refine pure_ (i := 6) (N := some 20) (v := ?_) (a' := ?_) #[true, true, true, true, true, true, true, true, true, true, false, false, true, true, true, false, false, true, true, true, true, true, true, false, false, true, true, false, false, true, true, false, false, true, false, false, true, true, false, false, true, true, false, true, true, false, false, false] rfl rfl (any_of HT_.out (by kernel_rfl)) (fun _ _ _ h => h) (Or.inl ⟨by rfl, ?_⟩) ?_ ?_
                            rotate_left
                            · intro w'
                              go_simp
                              with_reducible rfl
                            rotate_left
                            · simp only [Act.put, List.setIfInBounds_toArray, List.set_cons_zero, List.set_cons_succ, i64_w, i32_w]
                              rfl
                            refine one_ (i := 10) (N := some 24) #[true, true, true, true, true, true, true, true, true, true, true, false, true, true, true, false, false, true, true, true, true, true, true, false, false, true, true, false, false, true, true, false, false, true, false, false, true, true, false, false, true, true, false, true, true, false, false, false] rfl rfl (one_of HT_.out (by kernel_rfl)) (by decide) (fun K hK => ?_)
                            refine goes_ Try.func153 (by kernel_rfl) rfl #[.int .i64 (wrap64 (a0_2)), .int .i64 4] (by rfl) rfl rfl (by (try simp only [List.map_toArray, List.map_cons, List.map_nil]); first | done | rfl | (simp only [List.length_drop, List.length_take]; rfl)) ?_
                            with_reducible refine (palanquinref07_num.calls kj2 (wrap64 (a0_2)) 4 t607 _ A16.out).mono ?_
                            rintro e w35 ⟨rfl, hb⟩
                            refine ⟨_, rfl, ?_⟩
                            have n0_ := Aside0.mk (blk_below (g := gb602) (o := .cells #[.int .i64 a0_0, .int .i64 a0_1, .int .u32 a0_2, .int .u32 a0_3, .int .i64 a0_4, .int .i64 a0_5, .int .i64 a0_6, .string a0_7, .string a0_8] 127 (0, 0)) (by (with_reducible repeat (first | refine blk_drewN ?_ _ | refine blk_drew ?_ | refine blk_alloc ?_ _)); exact BK602.out) hb)
                            have n1_ := Aside0.mk (below_step (by repeat (first | (with_reducible first | exact HB.out | apply below_alloc | apply pw_below_drewN | apply below_drew1 | refine below_set ?_ GE602.out) | exact HB.out)) hb)
                            clear BK602
                            clear HB
                            have BK602 := n0_
                            have HB := n1_
                            clear n0_ n1_
                            (try clear hb)
                            (try clear hb2)
                            (try clear hk)
                            (try clear hi)
                            refine hK.out _ _ ⟨(blk_cell BK602.out 0).trans rfl, (blk_cell BK602.out 1).trans rfl, (blk_cell BK602.out 2).trans rfl, (blk_cell BK602.out 3).trans rfl, (blk_cell BK602.out 4).trans rfl, (blk_cell BK602.out 5).trans rfl, (blk_cell BK602.out 6).trans rfl, (blk_cell BK602.out 7).trans rfl, (blk_cell BK602.out 8).trans rfl⟩ (fun hHeld => ?_)
                            clear hK K
                            refine norm_ (a' := ?_) ?_ ?_
                            rotate_left
                            · show Act.put _ (some 24) _ = _
                              simp only [Act.put, List.setIfInBounds_toArray, List.set_cons_zero, List.set_cons_succ, i64_w, i32_w]
                              rfl
                            refine pure_ (i := 11) (N := some 25) (v := ?_) (a' := ?_) #[true, true, true, true, true, true, true, true, true, true, true, true, true, true, true, false, false, true, true, true, true, true, true, false, false, true, true, false, false, true, true, false, false, true, false, false, true, true, false, false, true, true, false, true, true, false, false, false] rfl rfl (any_of HT_.out (by kernel_rfl)) (fun _ _ _ h => h) (Or.inl ⟨by rfl, ?_⟩) ?_ ?_
                            rotate_left
                            · intro w'
                              go_simp
                              with_reducible rfl
                            rotate_left
                            · simp only [Act.put, List.setIfInBounds_toArray, List.set_cons_zero, List.set_cons_succ, i64_w, i32_w]
                              rfl
                            refine one_ (i := 15) (N := some 29) #[true, true, true, true, true, true, true, true, true, true, true, true, true, true, true, true, false, true, true, true, true, true, true, false, false, true, true, false, false, true, true, false, false, true, false, false, true, true, false, false, true, true, false, true, true, false, false, false] rfl rfl (one_of HT_.out (by kernel_rfl)) (by decide) (fun K hK => ?_)
                            refine goes_ Try.func153 (by kernel_rfl) rfl #[.int .i64 (wrap64 (a0_3)), .int .i64 4] (by rfl) rfl rfl (by (try simp only [List.map_toArray, List.map_cons, List.map_nil]); first | done | rfl | (simp only [List.length_drop, List.length_take]; rfl)) ?_
                            with_reducible refine (palanquinref07_num.calls kj2 (wrap64 (a0_3)) 4 t608 _ A18.out).mono ?_
                            rintro e w36 ⟨rfl, hb⟩
                            refine ⟨_, rfl, ?_⟩
                            have n0_ := Aside0.mk (blk_below (g := gb602) (o := .cells #[.int .i64 a0_0, .int .i64 a0_1, .int .u32 a0_2, .int .u32 a0_3, .int .i64 a0_4, .int .i64 a0_5, .int .i64 a0_6, .string a0_7, .string a0_8] 127 (0, 0)) (by (with_reducible repeat (first | refine blk_drewN ?_ _ | refine blk_drew ?_ | refine blk_alloc ?_ _)); exact BK602.out) hb)
                            have n1_ := Aside0.mk (below_step (by repeat (first | (with_reducible first | exact HB.out | apply below_alloc | apply pw_below_drewN | apply below_drew1 | refine below_set ?_ GE602.out) | exact HB.out)) hb)
                            clear BK602
                            clear HB
                            have BK602 := n0_
                            have HB := n1_
                            clear n0_ n1_
                            (try clear hb)
                            (try clear hb2)
                            (try clear hk)
                            (try clear hi)
                            refine hK.out _ _ ⟨(blk_cell BK602.out 0).trans rfl, (blk_cell BK602.out 1).trans rfl, (blk_cell BK602.out 2).trans rfl, (blk_cell BK602.out 3).trans rfl, (blk_cell BK602.out 4).trans rfl, (blk_cell BK602.out 5).trans rfl, (blk_cell BK602.out 6).trans rfl, (blk_cell BK602.out 7).trans rfl, (blk_cell BK602.out 8).trans rfl⟩ (fun hHeld => ?_)
                            clear hK K
                            refine norm_ (a' := ?_) ?_ ?_
                            rotate_left
                            · show Act.put _ (some 29) _ = _
                              simp only [Act.put, List.setIfInBounds_toArray, List.set_cons_zero, List.set_cons_succ, i64_w, i32_w]
                              rfl
                            refine pure_ (i := 16) (N := some 30) (v := ?_) (a' := ?_) #[true, true, true, true, true, true, true, true, true, true, true, true, true, true, true, true, true, true, true, true, true, true, true, false, false, true, true, false, false, true, true, false, false, true, false, false, true, true, false, false, true, true, false, true, true, false, false, false] rfl rfl (any_of HT_.out (by kernel_rfl)) (fun _ _ _ h => h) (Or.inl ⟨by rfl, ?_⟩) ?_ ?_
                            rotate_left
                            · intro w'
                              go_simp
                              with_reducible rfl
                            rotate_left
                            · simp only [Act.put, List.setIfInBounds_toArray, List.set_cons_zero, List.set_cons_succ, i64_w, i32_w]
                              rfl
                            refine one_ (i := 23) (N := some 37) #[true, true, true, true, true, true, true, true, true, true, true, true, true, true, true, true, true, true, true, true, true, true, true, true, false, true, true, false, false, true, true, false, false, true, false, false, true, true, false, false, true, true, false, true, true, false, false, false] rfl rfl (one_of HT_.out (by kernel_rfl)) (by decide) (fun K hK => ?_)
                            refine goes_ Try.func153 (by kernel_rfl) rfl #[.int .i64 (wrap64 ((wrap64 (5 + (wrap64 ((a0_7.size : Int) / 4)))) * 16)), .int .i64 1] (by rfl) rfl rfl (by (try simp only [List.map_toArray, List.map_cons, List.map_nil]); first | done | rfl | (simp only [List.length_drop, List.length_take]; rfl)) ?_
                            with_reducible refine (palanquinref07_num.calls kj2 (wrap64 ((wrap64 (5 + (wrap64 ((a0_7.size : Int) / 4)))) * 16)) 1 t609 _ A20.out).mono ?_
                            rintro e w37 ⟨rfl, hb⟩
                            refine ⟨_, rfl, ?_⟩
                            have n0_ := Aside0.mk (blk_below (g := gb602) (o := .cells #[.int .i64 a0_0, .int .i64 a0_1, .int .u32 a0_2, .int .u32 a0_3, .int .i64 a0_4, .int .i64 a0_5, .int .i64 a0_6, .string a0_7, .string a0_8] 127 (0, 0)) (by (with_reducible repeat (first | refine blk_drewN ?_ _ | refine blk_drew ?_ | refine blk_alloc ?_ _)); exact BK602.out) hb)
                            have n1_ := Aside0.mk (below_step (by repeat (first | (with_reducible first | exact HB.out | apply below_alloc | apply pw_below_drewN | apply below_drew1 | refine below_set ?_ GE602.out) | exact HB.out)) hb)
                            clear BK602
                            clear HB
                            have BK602 := n0_
                            have HB := n1_
                            clear n0_ n1_
                            (try clear hb)
                            (try clear hb2)
                            (try clear hk)
                            (try clear hi)
                            refine hK.out _ _ ⟨(blk_cell BK602.out 0).trans rfl, (blk_cell BK602.out 1).trans rfl, (blk_cell BK602.out 2).trans rfl, (blk_cell BK602.out 3).trans rfl, (blk_cell BK602.out 4).trans rfl, (blk_cell BK602.out 5).trans rfl, (blk_cell BK602.out 6).trans rfl, (blk_cell BK602.out 7).trans rfl, (blk_cell BK602.out 8).trans rfl⟩ (fun hHeld => ?_)
                            clear hK K
                            refine norm_ (a' := ?_) ?_ ?_
                            rotate_left
                            · show Act.put _ (some 37) _ = _
                              simp only [Act.put, List.setIfInBounds_toArray, List.set_cons_zero, List.set_cons_succ, i64_w, i32_w]
                              rfl
                            refine pure_ (i := 24) (N := some 38) (v := ?_) (a' := ?_) #[true, true, true, true, true, true, true, true, true, true, true, true, true, true, true, true, true, true, true, true, true, true, true, true, true, true, true, false, false, true, true, false, false, true, false, false, true, true, false, false, true, true, false, true, true, false, false, false] rfl rfl (any_of HT_.out (by kernel_rfl)) (fun _ _ _ h => h) (Or.inl ⟨by rfl, ?_⟩) ?_ ?_
                            rotate_left
                            · intro w'
                              go_simp
                              with_reducible rfl
                            rotate_left
                            · simp only [Act.put, List.setIfInBounds_toArray, List.set_cons_zero, List.set_cons_succ, i64_w, i32_w]
                              rfl
                            refine one_ (i := 27) (N := some 41) #[true, true, true, true, true, true, true, true, true, true, true, true, true, true, true, true, true, true, true, true, true, true, true, true, true, true, true, true, false, true, true, false, false, true, false, false, true, true, false, false, true, true, false, true, true, false, false, false] rfl rfl (one_of HT_.out (by kernel_rfl)) (by decide) (fun K hK => ?_)
                            refine goes_ Try.func153 (by kernel_rfl) rfl #[.int .i64 a0_4, .int .i64 1] (by rfl) rfl rfl (by (try simp only [List.map_toArray, List.map_cons, List.map_nil]); first | done | rfl | (simp only [List.length_drop, List.length_take]; rfl)) ?_
                            with_reducible refine (palanquinref07_num.calls kj2 a0_4 1 t610 _ A22.out).mono ?_
                            rintro e w38 ⟨rfl, hb⟩
                            refine ⟨_, rfl, ?_⟩
                            have n0_ := Aside0.mk (blk_below (g := gb602) (o := .cells #[.int .i64 a0_0, .int .i64 a0_1, .int .u32 a0_2, .int .u32 a0_3, .int .i64 a0_4, .int .i64 a0_5, .int .i64 a0_6, .string a0_7, .string a0_8] 127 (0, 0)) (by (with_reducible repeat (first | refine blk_drewN ?_ _ | refine blk_drew ?_ | refine blk_alloc ?_ _)); exact BK602.out) hb)
                            have n1_ := Aside0.mk (below_step (by repeat (first | (with_reducible first | exact HB.out | apply below_alloc | apply pw_below_drewN | apply below_drew1 | refine below_set ?_ GE602.out) | exact HB.out)) hb)
                            clear BK602
                            clear HB
                            have BK602 := n0_
                            have HB := n1_
                            clear n0_ n1_
                            (try clear hb)
                            (try clear hb2)
                            (try clear hk)
                            (try clear hi)
                            refine hK.out _ _ ⟨(blk_cell BK602.out 0).trans rfl, (blk_cell BK602.out 1).trans rfl, (blk_cell BK602.out 2).trans rfl, (blk_cell BK602.out 3).trans rfl, (blk_cell BK602.out 4).trans rfl, (blk_cell BK602.out 5).trans rfl, (blk_cell BK602.out 6).trans rfl, (blk_cell BK602.out 7).trans rfl, (blk_cell BK602.out 8).trans rfl⟩ (fun hHeld => ?_)
                            clear hK K
                            refine norm_ (a' := ?_) ?_ ?_
                            rotate_left
                            · show Act.put _ (some 41) _ = _
                              simp only [Act.put, List.setIfInBounds_toArray, List.set_cons_zero, List.set_cons_succ, i64_w, i32_w]
                              rfl
                            refine pure_ (i := 28) (N := some 42) (v := ?_) (a' := ?_) #[true, true, true, true, true, true, true, true, true, true, true, true, true, true, true, true, true, true, true, true, true, true, true, true, true, true, true, true, true, true, true, false, false, true, false, false, true, true, false, false, true, true, false, true, true, false, false, false] rfl rfl (any_of HT_.out (by kernel_rfl)) (fun _ _ _ h => h) (Or.inl ⟨by rfl, ?_⟩) ?_ ?_
                            rotate_left
                            · intro w'
                              go_simp
                              with_reducible rfl
                            rotate_left
                            · simp only [Act.put, List.setIfInBounds_toArray, List.set_cons_zero, List.set_cons_succ, i64_w, i32_w]
                              rfl
                            refine one_ (i := 31) (N := some 45) #[true, true, true, true, true, true, true, true, true, true, true, true, true, true, true, true, true, true, true, true, true, true, true, true, true, true, true, true, true, true, true, true, false, true, false, false, true, true, false, false, true, true, false, true, true, false, false, false] rfl rfl (one_of HT_.out (by kernel_rfl)) (by decide) (fun K hK => ?_)
                            refine goes_ Try.func153 (by kernel_rfl) rfl #[.int .i64 a0_5, .int .i64 2] (by rfl) rfl rfl (by (try simp only [List.map_toArray, List.map_cons, List.map_nil]); first | done | rfl | (simp only [List.length_drop, List.length_take]; rfl)) ?_
                            with_reducible refine (palanquinref07_num.calls kj2 a0_5 2 t611 _ A24.out).mono ?_
                            rintro e w39 ⟨rfl, hb⟩
                            refine ⟨_, rfl, ?_⟩
                            have n0_ := Aside0.mk (blk_below (g := gb602) (o := .cells #[.int .i64 a0_0, .int .i64 a0_1, .int .u32 a0_2, .int .u32 a0_3, .int .i64 a0_4, .int .i64 a0_5, .int .i64 a0_6, .string a0_7, .string a0_8] 127 (0, 0)) (by (with_reducible repeat (first | refine blk_drewN ?_ _ | refine blk_drew ?_ | refine blk_alloc ?_ _)); exact BK602.out) hb)
                            have n1_ := Aside0.mk (below_step (by repeat (first | (with_reducible first | exact HB.out | apply below_alloc | apply pw_below_drewN | apply below_drew1 | refine below_set ?_ GE602.out) | exact HB.out)) hb)
                            clear BK602
                            clear HB
                            have BK602 := n0_
                            have HB := n1_
                            clear n0_ n1_
                            (try clear hb)
                            (try clear hb2)
                            (try clear hk)
                            (try clear hi)
                            refine hK.out _ _ ⟨(blk_cell BK602.out 0).trans rfl, (blk_cell BK602.out 1).trans rfl, (blk_cell BK602.out 2).trans rfl, (blk_cell BK602.out 3).trans rfl, (blk_cell BK602.out 4).trans rfl, (blk_cell BK602.out 5).trans rfl, (blk_cell BK602.out 6).trans rfl, (blk_cell BK602.out 7).trans rfl, (blk_cell BK602.out 8).trans rfl⟩ (fun hHeld => ?_)
                            clear hK K
                            refine norm_ (a' := ?_) ?_ ?_
                            rotate_left
                            · show Act.put _ (some 45) _ = _
                              simp only [Act.put, List.setIfInBounds_toArray, List.set_cons_zero, List.set_cons_succ, i64_w, i32_w]
                              rfl
                            refine pure_ (i := 32) (N := some 46) (v := ?_) (a' := ?_) #[true, true, true, true, true, true, true, true, true, true, true, true, true, true, true, true, true, true, true, true, true, true, true, true, true, true, true, true, true, true, true, true, true, true, false, false, true, true, false, false, true, true, false, true, true, false, false, false] rfl rfl (any_of HT_.out (by kernel_rfl)) (fun _ _ _ h => h) (Or.inl ⟨by rfl, ?_⟩) ?_ ?_
                            rotate_left
                            · intro w'
                              go_simp
                              with_reducible rfl
                            rotate_left
                            · simp only [Act.put, List.setIfInBounds_toArray, List.set_cons_zero, List.set_cons_succ, i64_w, i32_w]
                              rfl
                            refine one_ (i := 34) (N := some 48) #[true, true, true, true, true, true, true, true, true, true, true, true, true, true, true, true, true, true, true, true, true, true, true, true, true, true, true, true, true, true, true, true, true, true, true, false, true, true, false, false, true, true, false, true, true, false, false, false] rfl rfl (one_of HT_.out (by kernel_rfl)) (by decide) (fun K hK => ?_)
                            refine goes_ Try.func153 (by kernel_rfl) rfl #[.int .i64 a1, .int .i64 2] (by rfl) rfl rfl (by (try simp only [List.map_toArray, List.map_cons, List.map_nil]); first | done | rfl | (simp only [List.length_drop, List.length_take]; rfl)) ?_
                            with_reducible refine (palanquinref07_num.calls kj2 a1 2 t612 _ A26.out).mono ?_
                            rintro e w40 ⟨rfl, hb⟩
                            refine ⟨_, rfl, ?_⟩
                            have n0_ := Aside0.mk (blk_below (g := gb602) (o := .cells #[.int .i64 a0_0, .int .i64 a0_1, .int .u32 a0_2, .int .u32 a0_3, .int .i64 a0_4, .int .i64 a0_5, .int .i64 a0_6, .string a0_7, .string a0_8] 127 (0, 0)) (by (with_reducible repeat (first | refine blk_drewN ?_ _ | refine blk_drew ?_ | refine blk_alloc ?_ _)); exact BK602.out) hb)
                            have n1_ := Aside0.mk (below_step (by repeat (first | (with_reducible first | exact HB.out | apply below_alloc | apply pw_below_drewN | apply below_drew1 | refine below_set ?_ GE602.out) | exact HB.out)) hb)
                            clear BK602
                            clear HB
                            have BK602 := n0_
                            have HB := n1_
                            clear n0_ n1_
                            (try clear hb)
                            (try clear hb2)
                            (try clear hk)
                            (try clear hi)
                            refine hK.out _ _ ⟨(blk_cell BK602.out 0).trans rfl, (blk_cell BK602.out 1).trans rfl, (blk_cell BK602.out 2).trans rfl, (blk_cell BK602.out 3).trans rfl, (blk_cell BK602.out 4).trans rfl, (blk_cell BK602.out 5).trans rfl, (blk_cell BK602.out 6).trans rfl, (blk_cell BK602.out 7).trans rfl, (blk_cell BK602.out 8).trans rfl⟩ (fun hHeld => ?_)
                            clear hK K
                            refine norm_ (a' := ?_) ?_ ?_
                            rotate_left
                            · show Act.put _ (some 48) _ = _
                              simp only [Act.put, List.setIfInBounds_toArray, List.set_cons_zero, List.set_cons_succ, i64_w, i32_w]
                              rfl
                            refine pure_ (i := 35) (N := some 49) (v := ?_) (a' := ?_) #[true, true, true, true, true, true, true, true, true, true, true, true, true, true, true, true, true, true, true, true, true, true, true, true, true, true, true, true, true, true, true, true, true, true, true, true, true, true, false, false, true, true, false, true, true, false, false, false] rfl rfl (any_of HT_.out (by kernel_rfl)) (fun _ _ _ h => h) (Or.inl ⟨by rfl, ?_⟩) ?_ ?_
                            rotate_left
                            · intro w'
                              go_simp
                              with_reducible rfl
                            rotate_left
                            · simp only [Act.put, List.setIfInBounds_toArray, List.set_cons_zero, List.set_cons_succ, i64_w, i32_w]
                              rfl
                            refine one_ (i := 38) (N := some 52) #[true, true, true, true, true, true, true, true, true, true, true, true, true, true, true, true, true, true, true, true, true, true, true, true, true, true, true, true, true, true, true, true, true, true, true, true, true, true, true, false, true, true, false, true, true, false, false, false] rfl rfl (one_of HT_.out (by kernel_rfl)) (by decide) (fun K hK => ?_)
                            refine goes_ Try.func153 (by kernel_rfl) rfl #[.int .i64 a0_6, .int .i64 2] (by rfl) rfl rfl (by (try simp only [List.map_toArray, List.map_cons, List.map_nil]); first | done | rfl | (simp only [List.length_drop, List.length_take]; rfl)) ?_
                            with_reducible refine (palanquinref07_num.calls kj2 a0_6 2 t613 _ A28.out).mono ?_
                            rintro e w41 ⟨rfl, hb⟩
                            refine ⟨_, rfl, ?_⟩
                            have n0_ := Aside0.mk (blk_below (g := gb602) (o := .cells #[.int .i64 a0_0, .int .i64 a0_1, .int .u32 a0_2, .int .u32 a0_3, .int .i64 a0_4, .int .i64 a0_5, .int .i64 a0_6, .string a0_7, .string a0_8] 127 (0, 0)) (by (with_reducible repeat (first | refine blk_drewN ?_ _ | refine blk_drew ?_ | refine blk_alloc ?_ _)); exact BK602.out) hb)
                            have n1_ := Aside0.mk (below_step (by repeat (first | (with_reducible first | exact HB.out | apply below_alloc | apply pw_below_drewN | apply below_drew1 | refine below_set ?_ GE602.out) | exact HB.out)) hb)
                            clear BK602
                            clear HB
                            have BK602 := n0_
                            have HB := n1_
                            clear n0_ n1_
                            (try clear hb)
                            (try clear hb2)
                            (try clear hk)
                            (try clear hi)
                            refine hK.out _ _ ⟨(blk_cell BK602.out 0).trans rfl, (blk_cell BK602.out 1).trans rfl, (blk_cell BK602.out 2).trans rfl, (blk_cell BK602.out 3).trans rfl, (blk_cell BK602.out 4).trans rfl, (blk_cell BK602.out 5).trans rfl, (blk_cell BK602.out 6).trans rfl, (blk_cell BK602.out 7).trans rfl, (blk_cell BK602.out 8).trans rfl⟩ (fun hHeld => ?_)
                            clear hK K
                            refine norm_ (a' := ?_) ?_ ?_
                            rotate_left
                            · show Act.put _ (some 52) _ = _
                              simp only [Act.put, List.setIfInBounds_toArray, List.set_cons_zero, List.set_cons_succ, i64_w, i32_w]
                              rfl
                            refine pure_ (i := 39) (N := some 53) (v := ?_) (a' := ?_) #[true, true, true, true, true, true, true, true, true, true, true, true, true, true, true, true, true, true, true, true, true, true, true, true, true, true, true, true, true, true, true, true, true, true, true, true, true, true, true, true, true, true, false, true, true, false, false, false] rfl rfl (any_of HT_.out (by kernel_rfl)) (fun _ _ _ h => h) (Or.inl ⟨by rfl, ?_⟩) ?_ ?_
                            rotate_left
                            · intro w'
                              go_simp
                              with_reducible rfl
                            rotate_left
                            · simp only [Act.put, List.setIfInBounds_toArray, List.set_cons_zero, List.set_cons_succ, i64_w, i32_w]
                              rfl
                            refine pure_ (i := 42) (N := some 56) (v := ?_) (a' := ?_) #[true, true, true, true, true, true, true, true, true, true, true, true, true, true, true, true, true, true, true, true, true, true, true, true, true, true, true, true, true, true, true, true, true, true, true, true, true, true, true, true, true, true, true, true, true, false, false, false] rfl rfl (any_of HT_.out (by kernel_rfl)) (fun _ _ _ h => h) (Or.inl ⟨by rfl, ?_⟩) ?_ ?_
                            rotate_left
                            · intro w'
                              go_simp
                              with_reducible rfl
                            rotate_left
                            · simp only [Act.put, List.setIfInBounds_toArray, List.set_cons_zero, List.set_cons_succ, i64_w, i32_w]
                              rfl
                            refine pure_ (i := 45) (N := some 59) (v := ?_) (a' := ?_) #[true, true, true, true, true, true, true, true, true, true, true, true, true, true, true, true, true, true, true, true, true, true, true, true, true, true, true, true, true, true, true, true, true, true, true, true, true, true, true, true, true, true, true, true, true, true, false, false] rfl rfl (any_of HT_.out (by kernel_rfl)) (fun _ _ _ h => h) (Or.inl ⟨by rfl, ?_⟩) ?_ ?_
                            rotate_left
                            · intro w'
                              go_simp
                              with_reducible rfl
                            rotate_left
                            · simp only [Act.put, List.setIfInBounds_toArray, List.set_cons_zero, List.set_cons_succ, i64_w, i32_w]
                              rfl
                            refine pure_ (i := 46) (N := some 4) (v := ?_) (a' := ?_) #[true, true, true, true, true, true, true, true, true, true, true, true, true, true, true, true, true, true, true, true, true, true, true, true, true, true, true, true, true, true, true, true, true, true, true, true, true, true, true, true, true, true, true, true, true, true, true, false] rfl rfl (any_of HT_.out (by kernel_rfl)) (fun _ _ _ h => h) (Or.inl ⟨by rfl, ?_⟩) ?_ ?_
                            rotate_left
                            · intro w'
                              go_simp
                              with_reducible rfl
                            rotate_left
                            · simp only [Act.put, List.setIfInBounds_toArray, List.set_cons_zero, List.set_cons_succ, i64_w, i32_w]
                              rfl
                            refine pure_ (i := 47) (N := some 5) (v := ?_) (a' := ?_) #[true, true, true, true, true, true, true, true, true, true, true, true, true, true, true, true, true, true, true, true, true, true, true, true, true, true, true, true, true, true, true, true, true, true, true, true, true, true, true, true, true, true, true, true, true, true, true, true] rfl rfl (any_of HT_.out (by kernel_rfl)) (fun _ _ _ h => h) (Or.inl ⟨by rfl, ?_⟩) ?_ ?_
                            rotate_left
                            · intro w'
                              go_simp
                              with_reducible rfl
                            rotate_left
                            · simp only [Act.put, List.setIfInBounds_toArray, List.set_cons_zero, List.set_cons_succ, i64_w, i32_w]
                              rfl
                            refine done_ (done_of HT_.out (by kernel_rfl)) ?_
                            try go_wp2
                            go_ret2
                            exact ⟨by first | rfl | (simp [errW_none, errW_some] <;> rfl) | (simp [*, errW_none, errW_some] <;> rfl), by repeat (first | (with_reducible first | exact HB.out | apply below_alloc | apply pw_below_drewN | apply below_drew1 | refine below_set ?_ GE602.out) | exact HB.out)⟩
                          · rw [if_neg c31] at H
                            exact absurd H (by simp)
                        · rw [if_neg c30] at H
                          exact absurd H (by simp)
                      · rw [if_neg c29] at H
                        exact absurd H (by simp)
                    · rw [if_neg c27] at H
                      exact absurd H (by simp)
                  · rw [if_neg c25] at H
                    exact absurd H (by simp)
                · rw [if_neg c23] at H
                  exact absurd H (by simp)
              · rw [if_neg c21] at H
                exact absurd H (by simp)
            · rw [if_neg c19] at H
              exact absurd H (by simp)
          · rw [if_neg c17] at H
            exact absurd H (by simp)
        · rw [if_neg c15] at H
          exact absurd H (by simp)

end Go.Proofs.Ytejmipoolbodgaa.G
end
