/- Texts of this session, joined: each is a section. -/
import Derived.Test.YtejmipoolbodgaaMTcpTells1
import Derived.Test.YtejmipoolbodgaaMTcpTells3
import Derived.Test.YtejmipoolbodgaaMTcpTells5
import Derived.Test.YtejmipoolbodgaaMTcpTells6
import Derived.Test.YtejmipoolbodgaaMTcpTells9
import Derived.Test.YtejmipoolbodgaaMTcpTells10
set_option linter.unusedVariables false
set_option linter.unusedSimpArgs false
section
namespace Go.Proofs.Ytejmipoolbodgaa.G
open Go.RowKit Go.Proofs.YtejmipoolbodgaaW.PrintWords Go.Proofs.YtejmipoolbodgaaW.PrintLast Go.Proofs.YtejmipoolbodgaaW.PrintMore
attribute [local go_sem] max2_int min2_int max_two min_two max_three min_three max_four min_four   -- for this text's walks alone
set_option linter.unusedVariables false
set_option linter.unusedSimpArgs false

attribute [local go_sem high] eqA127
/-! ### palanquinlaw07_TcpTells: function 26 -/
def palanquinlaw07_TcpTells.j0 : Nat → Int → ByteArray → Bool → Int → Int → Int → Int → Int → Int → Int → ByteArray → ByteArray → Option (Bool)
  | 0, _, _, _, _, _, _, _, _, _, _, _, _ => none
  | k + 1, x1, x2, x26, x615000, x615001, x615002, x615003, x615004, x615005, x615006, x615007, x615008 => if x26 = true then (some true) else ((tcp_Put.f x615000 x615001 x615002 x615003 x615004 x615005 x615006 x615007 x615008 x1).bind fun bt617 => ((palanquinref07_Put.f k x615000 x615001 x615002 x615003 x615004 x615005 x615006 x615007 x615008 x1).bind fun bt619 => ((tcp_Get.f x2).bind fun bt621 => ((palanquinref07_Get.f x2).bind fun bt633 => (if bt617.1.toList = bt619.1.toList then (if bt617.2 = bt619.2 then ((tcp_Check.f x615000 x615001 x615002 x615003 x615004 x615005 x615006 x615007 x615008).bind fun t645 => ((palanquinref07_May.f x615000 x615001 x615002 x615003 x615004 x615005 x615006 x615007 x615008).bind fun t646 => (if ((t645 == 0) == t646) = true then (if (bt621.1 == bt633.1 && (bt621.2.1 == bt633.2.1 && (bt621.2.2.1 == bt633.2.2.1 && (bt621.2.2.2.1 == bt633.2.2.2.1 && (bt621.2.2.2.2.1 == bt633.2.2.2.2.1 && (bt621.2.2.2.2.2.1 == bt633.2.2.2.2.2.1 && (bt621.2.2.2.2.2.2.1 == bt633.2.2.2.2.2.2.1 && (bt621.2.2.2.2.2.2.2.1.toList == bt633.2.2.2.2.2.2.2.1.toList && (bt621.2.2.2.2.2.2.2.2.1.toList == bt633.2.2.2.2.2.2.2.2.1.toList))))))))) = true then (if bt621.2.2.2.2.2.2.2.2.2.1 = bt633.2.2.2.2.2.2.2.2.2.1 then (some (bt621.2.2.2.2.2.2.2.2.2.2 == bt633.2.2.2.2.2.2.2.2.2.2)) else (some false)) else (some false)) else (some false)))) else (some false)) else (some false))))))
def palanquinlaw07_TcpTells.f (k : Nat) (a0_0 : Int) (a0_1 : Int) (a0_2 : Int) (a0_3 : Int) (a0_4 : Int) (a0_5 : Int) (a0_6 : Int) (a0_7 : ByteArray) (a0_8 : ByteArray) (a1 : Int) (a2 : ByteArray) : Option (Bool) := (palanquinlaw07_awake.f).bind fun t615 => (if t615 = true then ((palanquinlaw07_few.f a0_0 a0_1 a0_2 a0_3 a0_4 a0_5 a0_6 a0_7 a0_8).bind fun t616 => (if t616 = true then (palanquinlaw07_TcpTells.j0 k a1 a2 (decide ((a2.size : Int) > 5000)) a0_0 a0_1 a0_2 a0_3 a0_4 a0_5 a0_6 a0_7 a0_8) else (palanquinlaw07_TcpTells.j0 k a1 a2 true a0_0 a0_1 a0_2 a0_3 a0_4 a0_5 a0_6 a0_7 a0_8))) else (some false))
theorem palanquinlaw07_TcpTells.mono_l : ∀ k, (∀ y0 y1 y2 y3 y4 y5 y6 y7 y8 y9 y10 y11, LeO (palanquinlaw07_TcpTells.j0 k y0 y1 y2 y3 y4 y5 y6 y7 y8 y9 y10 y11) (palanquinlaw07_TcpTells.j0 (k + 1) y0 y1 y2 y3 y4 y5 y6 y7 y8 y9 y10 y11))
  | 0 => fun _ _ _ _ _ _ _ _ _ _ _ _ r h => by simp [palanquinlaw07_TcpTells.j0] at h
  | k + 1 => by
    have ih0 := palanquinlaw07_TcpTells.mono_l k
    · intro y0 y1 y2 y3 y4 y5 y6 y7 y8 y9 y10 y11
      unfold palanquinlaw07_TcpTells.j0
      repeat' first
      | (with_reducible exact ih0 _ _ _ _ _ _ _ _ _ _ _ _)
      | (with_reducible exact palanquinref07_Put.mono _ _ _ _ _ _ _ _ _ _ _)
      | (with_reducible exact LeO.refl _)
      | (with_reducible exact LeO.none _)
      | (with_reducible refine LeO.ite ?_ ?_)
      | (with_reducible refine LeO.bind ?_ (fun _ => ?_))
      | exact ih0 _ _ _ _ _ _ _ _ _ _ _ _
      | exact palanquinref07_Put.mono _ _ _ _ _ _ _ _ _ _ _
      | exact LeO.none _
      | refine LeO.ite ?_ ?_
      | refine LeO.bind ?_ (fun _ => ?_)
theorem palanquinlaw07_TcpTells.mono : ∀ a0 a1 a2 a3 a4 a5 a6 a7 a8 a9 a10 k, LeO (palanquinlaw07_TcpTells.f k a0 a1 a2 a3 a4 a5 a6 a7 a8 a9 a10) (palanquinlaw07_TcpTells.f (k + 1) a0 a1 a2 a3 a4 a5 a6 a7 a8 a9 a10) := by
  intro a0 a1 a2 a3 a4 a5 a6 a7 a8 a9 a10 k
  have ih0 := palanquinlaw07_TcpTells.mono_l k
  unfold palanquinlaw07_TcpTells.f
  repeat' first
      | (with_reducible exact ih0 _ _ _ _ _ _ _ _ _ _ _ _)
      | (with_reducible exact palanquinref07_Put.mono _ _ _ _ _ _ _ _ _ _ _)
      | (with_reducible exact LeO.refl _)
      | (with_reducible exact LeO.none _)
      | (with_reducible refine LeO.ite ?_ ?_)
      | (with_reducible refine LeO.bind ?_ (fun _ => ?_))
      | exact ih0 _ _ _ _ _ _ _ _ _ _ _ _
      | exact palanquinref07_Put.mono _ _ _ _ _ _ _ _ _ _ _
      | exact LeO.none _
      | refine LeO.ite ?_ ?_
      | refine LeO.bind ?_ (fun _ => ?_)
def palanquinlaw07_TcpTells.T9 : Bool × List (List Nat × List Nat) := (true, [([], []), ([], []), ([0, 1], [0, 1]), ([2], [2]), ([3], [3]), ([3], [3]), ([4, 5, 3], [3, 4, 5]), ([3, 6], [3, 6]), ([7, 3], [7]), ([8], [8]), ([9, 8, 8], [8, 9]), ([10, 8], [8, 10]), ([8], [8]), ([12, 10, 8], [8, 12]), ([11, 13, 8], [8, 11, 13]), ([8, 14], [8, 14]), ([15, 13], [15]), ([16], [16]), ([16], [16]), ([17, 18, 16], [16, 17, 18]), ([16, 19], [16, 19]), ([20, 16], [20]), ([21], [21]), ([21], [21]), ([22, 23, 21], [21, 22, 23]), ([21, 24], [21, 24]), ([25, 21], [25]), ([26], [26]), ([26], [26]), ([27, 28, 26], [26, 27, 28]), ([26, 29], [26, 29]), ([30, 26, 0, 1, 2, 3, 4, 5, 6, 7, 8, 9, 10, 11, 12, 13, 14, 15, 16, 17, 18, 19, 20, 21, 22, 23, 24, 25, 26, 27, 28, 29, 30], [30])])
def palanquinlaw07_TcpTells.B9 : List Nat := [0, 0, 3, 7, 15, 15, 63, 127, 255, 511, 1023, 2047, 511, 6143, 16383, 32767, 65535, 131071, 131071, 524287, 1048575, 2097151, 4194303, 4194303, 16777215, 33554431, 67108863, 134217727, 134217727, 536870911, 1073741823, 2147483647]
theorem palanquinlaw07_TcpTells.tab9 : rtab .any (opsOf Try.f26 9) = palanquinlaw07_TcpTells.T9 := by kernel_rfl
theorem palanquinlaw07_TcpTells.bits9 : waitsOk palanquinlaw07_TcpTells.T9.2 palanquinlaw07_TcpTells.B9 = true := by kernel_rfl
set_option maxHeartbeats 8000000 in
set_option maxRecDepth 100000 in
theorem palanquinlaw07_TcpTells.calls (k : Nat) (a0_0 : Int) (a0_1 : Int) (a0_2 : Int) (a0_3 : Int) (a0_4 : Int) (a0_5 : Int) (a0_6 : Int) (a0_7 : ByteArray) (a0_8 : ByteArray) (a1 : Int) (a2 : ByteArray) (r : Bool) (w : World) (h : palanquinlaw07_TcpTells.f k a0_0 a0_1 a0_2 a0_3 a0_4 a0_5 a0_6 a0_7 a0_8 a1 a2 = some r) (hrt_ : Aside0 (r = true)) :
    Calls Try.prog 26 #[.agg #[.int .i64 a0_0, .int .i64 a0_1, .int .u32 a0_2, .int .u32 a0_3, .int .i64 a0_4, .int .i64 a0_5, .int .i64 a0_6, .string a0_7, .string a0_8], .int .i64 a1, .string a2] w fun e w' => e = .returned (.bool r) ∧ Below w.heap.size w w' := by
  have hu127 := Try.underlying127
  have HB := Aside0.mk (Below.refl w.heap.size w)
  have H : ((palanquinlaw07_awake.f).bind fun t615 => (if t615 = true then ((palanquinlaw07_few.f a0_0 a0_1 a0_2 a0_3 a0_4 a0_5 a0_6 a0_7 a0_8).bind fun t616 => (if t616 = true then (palanquinlaw07_TcpTells.j0 k a1 a2 (decide ((a2.size : Int) > 5000)) a0_0 a0_1 a0_2 a0_3 a0_4 a0_5 a0_6 a0_7 a0_8) else (palanquinlaw07_TcpTells.j0 k a1 a2 true a0_0 a0_1 a0_2 a0_3 a0_4 a0_5 a0_6 a0_7 a0_8))) else (some false))) = some r := h
  clear h
  replace H := Option.bind_eq_some_iff.mp H
  obtain ⟨t615, A40, H⟩ := H
  replace H : (if t615 = true then ((palanquinlaw07_few.f a0_0 a0_1 a0_2 a0_3 a0_4 a0_5 a0_6 a0_7 a0_8).bind fun t616 => (if t616 = true then (palanquinlaw07_TcpTells.j0 k a1 a2 (decide ((a2.size : Int) > 5000)) a0_0 a0_1 a0_2 a0_3 a0_4 a0_5 a0_6 a0_7 a0_8) else (palanquinlaw07_TcpTells.j0 k a1 a2 true a0_0 a0_1 a0_2 a0_3 a0_4 a0_5 a0_6 a0_7 a0_8))) else (some false)) = some r := H
  have A4 := Aside0.mk A40
  clear A40
  by_cases c5 : t615 = true
  · subst c5
    have H1 : ((palanquinlaw07_few.f a0_0 a0_1 a0_2 a0_3 a0_4 a0_5 a0_6 a0_7 a0_8).bind fun t616 => (if t616 = true then (palanquinlaw07_TcpTells.j0 k a1 a2 (decide ((a2.size : Int) > 5000)) a0_0 a0_1 a0_2 a0_3 a0_4 a0_5 a0_6 a0_7 a0_8) else (palanquinlaw07_TcpTells.j0 k a1 a2 true a0_0 a0_1 a0_2 a0_3 a0_4 a0_5 a0_6 a0_7 a0_8))) = some r := by rw [if_pos rfl] at H; exact H
    clear H
    have H := H1
    clear H1
    have HC6 := Aside0.mk H
    clear H
    go_enter Try.func26, Try.ntmps26
    go_upto_region 3 with (first | ((with_reducible refine gate_dst (N := 3) rfl ?_); (try (refine gate_guard (by rfl) ?_; dsimp only)); refine box_event ?hg (N := 3) ?hd (cs := #[.int .i64 a0_0, .int .i64 a0_1, .int .u32 a0_2, .int .u32 a0_3, .int .i64 a0_4, .int .i64 a0_5, .int .i64 a0_6, .string a0_7, .string a0_8]) (t := 127) ?hr ?_; (case hd => rfl); (case hg => rfl); (case hr => first | (go_simp; done) | (go_simp; rfl)); intro gb614 hg w7 hbox hb; have n0_ := Aside0.mk (below_step (by repeat (first | (with_reducible first | exact HB.out | apply below_alloc | apply pw_below_drewN | apply below_drew1) | exact HB.out)) hb); have n1_ := Aside0.mk (hbox); have n2_ := Aside0.mk ((by rw [hg]; exact (below_size (by repeat (first | (with_reducible first | exact HB.out | apply below_alloc | apply pw_below_drewN | apply below_drew1) | exact HB.out))) : w.heap.size ≤ gb614)); have n3_ := Aside0.mk ((by rw [hg]; exact (below_size (by repeat (first | (with_reducible first | exact HB.out | apply below_alloc | apply pw_below_drewN | apply below_drew1) | exact HB.out))) : w.heap.size ≤ gb614)); clear HB; have HB := n0_; have BK614 := n1_; have GW614 := n2_; have GE614 := n3_; clear n0_ n1_ n2_ n3_; clear hb hbox hg) | ((with_reducible refine gate_callee (f := 61) rfl ?_); refine goesL_ (some 17) rfl rfl Try.func61 (by kernel_rfl) rfl #[] rfl (by (try simp only [List.map_toArray, List.map_cons, List.map_nil]); first | done | rfl | (simp only [List.length_drop, List.length_take]; rfl)) ?_; (with_reducible refine (palanquinlaw07_awake.calls  true _ A4.out).mono ?_); rintro e w8 ⟨rfl, hb⟩; refine ⟨_, rfl, ?_⟩; have n0_ := Aside0.mk (blk_below (g := gb614) (o := .cells #[.int .i64 a0_0, .int .i64 a0_1, .int .u32 a0_2, .int .u32 a0_3, .int .i64 a0_4, .int .i64 a0_5, .int .i64 a0_6, .string a0_7, .string a0_8] 127 (0, 0)) (by (with_reducible repeat (first | refine blk_drewN ?_ _ | refine blk_drew ?_ | refine blk_alloc ?_ _)); exact BK614.out) hb); have n1_ := Aside0.mk (below_step (by repeat (first | (with_reducible first | exact HB.out | apply below_alloc | apply pw_below_drewN | apply below_drew1 | refine below_set ?_ GE614.out) | exact HB.out)) hb); clear BK614; clear HB; have BK614 := n0_; have HB := n1_; clear n0_ n1_; (try clear hb); (try clear hb2); (try clear hk); (try clear hi)))
    (try simp only [Act.put, List.setIfInBounds_toArray, List.set_cons_zero, List.set_cons_succ])
    go_cut [26] (fun v26 wc => ∃ (kq : Nat) (x26_5 : Bool), v26 = .bool x26_5 ∧ Aside0 (palanquinlaw07_TcpTells.j0 kq a1 a2 x26_5 a0_0 a0_1 a0_2 a0_3 a0_4 a0_5 a0_6 a0_7 a0_8 = some r) ∧ Aside0 (kq ≤ k) ∧ Aside0 (wc.heap[gb614]? = some (.cells #[.int .i64 a0_0, .int .i64 a0_1, .int .u32 a0_2, .int .u32 a0_3, .int .i64 a0_4, .int .i64 a0_5, .int .i64 a0_6, .string a0_7, .string a0_8] 127 (0, 0))) ∧ Aside0 (Below w.heap.size w wc))
    case first =>
      have H := HC6.out
      clear HC6
      replace H := Option.bind_eq_some_iff.mp H
      obtain ⟨t616, A90, H⟩ := H
      replace H : (if t616 = true then (palanquinlaw07_TcpTells.j0 k a1 a2 (decide ((a2.size : Int) > 5000)) a0_0 a0_1 a0_2 a0_3 a0_4 a0_5 a0_6 a0_7 a0_8) else (palanquinlaw07_TcpTells.j0 k a1 a2 true a0_0 a0_1 a0_2 a0_3 a0_4 a0_5 a0_6 a0_7 a0_8)) = some r := H
      have A9 := Aside0.mk A90
      clear A90
      by_cases c10 : t616 = true
      · subst c10
        have H1 : (palanquinlaw07_TcpTells.j0 k a1 a2 (decide ((a2.size : Int) > 5000)) a0_0 a0_1 a0_2 a0_3 a0_4 a0_5 a0_6 a0_7 a0_8) = some r := by rw [if_pos rfl] at H; exact H
        clear H
        have H := H1
        clear H1
        have H' := Aside0.mk H
        clear H
        have hcz11_0 : w8.cell? ⟨gb614, 0, none⟩ = some (.int .i64 a0_0) := (blk_cell BK614.out 0).trans rfl
        have hcz11_1 : w8.cell? ⟨gb614, 1, none⟩ = some (.int .i64 a0_1) := (blk_cell BK614.out 1).trans rfl
        have hcz11_2 : w8.cell? ⟨gb614, 2, none⟩ = some (.int .u32 a0_2) := (blk_cell BK614.out 2).trans rfl
        have hcz11_3 : w8.cell? ⟨gb614, 3, none⟩ = some (.int .u32 a0_3) := (blk_cell BK614.out 3).trans rfl
        have hcz11_4 : w8.cell? ⟨gb614, 4, none⟩ = some (.int .i64 a0_4) := (blk_cell BK614.out 4).trans rfl
        have hcz11_5 : w8.cell? ⟨gb614, 5, none⟩ = some (.int .i64 a0_5) := (blk_cell BK614.out 5).trans rfl
        have hcz11_6 : w8.cell? ⟨gb614, 6, none⟩ = some (.int .i64 a0_6) := (blk_cell BK614.out 6).trans rfl
        have hcz11_7 : w8.cell? ⟨gb614, 7, none⟩ = some (.string a0_7) := (blk_cell BK614.out 7).trans rfl
        have hcz11_8 : w8.cell? ⟨gb614, 8, none⟩ = some (.string a0_8) := (blk_cell BK614.out 8).trans rfl
        have hfz11_0 := blk_frozen BK614.out 0
        have hfz11_1 := blk_frozen BK614.out 1
        have hfz11_2 := blk_frozen BK614.out 2
        have hfz11_3 := blk_frozen BK614.out 3
        have hfz11_4 := blk_frozen BK614.out 4
        have hfz11_5 := blk_frozen BK614.out 5
        have hfz11_6 := blk_frozen BK614.out 6
        have hfz11_7 := blk_frozen BK614.out 7
        have hfz11_8 := blk_frozen BK614.out 8
        go_wp2_with (first | ((with_reducible refine gate_callee (f := 104) rfl ?_); refine goesL_ (some 20) rfl rfl Try.func104 (by kernel_rfl) rfl #[.agg #[.int .i64 a0_0, .int .i64 a0_1, .int .u32 a0_2, .int .u32 a0_3, .int .i64 a0_4, .int .i64 a0_5, .int .i64 a0_6, .string a0_7, .string a0_8]] rfl (by (try simp only [List.map_toArray, List.map_cons, List.map_nil]); first | done | rfl | (simp only [List.length_drop, List.length_take]; rfl)) ?_; (with_reducible refine (palanquinlaw07_few.calls a0_0 a0_1 a0_2 a0_3 a0_4 a0_5 a0_6 a0_7 a0_8 true _ A9.out).mono ?_); rintro e w12 ⟨rfl, hb⟩; refine ⟨_, rfl, ?_⟩; have n0_ := Aside0.mk (blk_below (g := gb614) (o := .cells #[.int .i64 a0_0, .int .i64 a0_1, .int .u32 a0_2, .int .u32 a0_3, .int .i64 a0_4, .int .i64 a0_5, .int .i64 a0_6, .string a0_7, .string a0_8] 127 (0, 0)) (by (with_reducible repeat (first | refine blk_drewN ?_ _ | refine blk_drew ?_ | refine blk_alloc ?_ _)); exact BK614.out) hb); have n1_ := Aside0.mk (below_step (by repeat (first | (with_reducible first | exact HB.out | apply below_alloc | apply pw_below_drewN | apply below_drew1 | refine below_set ?_ GE614.out) | exact HB.out)) hb); clear BK614; clear HB; have BK614 := n0_; have HB := n1_; clear n0_ n1_; (try clear hb); (try clear hb2); (try clear hk); (try clear hi)))
        go_meet
        case rel => exact ⟨_, (decide ((a2.size : Int) > 5000)), (by first | rfl | (simp; done) | (simp [*]; done)), H', ⟨by first | omega | exact Nat.le_refl _⟩, ⟨by (with_reducible repeat (first | refine blk_drewN ?_ _ | refine blk_drew ?_ | refine blk_alloc ?_ _)); exact BK614.out⟩, ⟨by repeat (first | (with_reducible first | exact HB.out | apply below_alloc | apply pw_below_drewN | apply below_drew1 | refine below_set ?_ GE614.out) | exact HB.out)⟩⟩
      · replace c10 := Bool.eq_false_iff.mpr c10
        subst c10
        have H1 : (palanquinlaw07_TcpTells.j0 k a1 a2 true a0_0 a0_1 a0_2 a0_3 a0_4 a0_5 a0_6 a0_7 a0_8) = some r := by rw [if_neg (show ¬ (false = true) by decide)] at H; exact H
        clear H
        have H := H1
        clear H1
        have H' := Aside0.mk H
        clear H
        have hcz13_0 : w8.cell? ⟨gb614, 0, none⟩ = some (.int .i64 a0_0) := (blk_cell BK614.out 0).trans rfl
        have hcz13_1 : w8.cell? ⟨gb614, 1, none⟩ = some (.int .i64 a0_1) := (blk_cell BK614.out 1).trans rfl
        have hcz13_2 : w8.cell? ⟨gb614, 2, none⟩ = some (.int .u32 a0_2) := (blk_cell BK614.out 2).trans rfl
        have hcz13_3 : w8.cell? ⟨gb614, 3, none⟩ = some (.int .u32 a0_3) := (blk_cell BK614.out 3).trans rfl
        have hcz13_4 : w8.cell? ⟨gb614, 4, none⟩ = some (.int .i64 a0_4) := (blk_cell BK614.out 4).trans rfl
        have hcz13_5 : w8.cell? ⟨gb614, 5, none⟩ = some (.int .i64 a0_5) := (blk_cell BK614.out 5).trans rfl
        have hcz13_6 : w8.cell? ⟨gb614, 6, none⟩ = some (.int .i64 a0_6) := (blk_cell BK614.out 6).trans rfl
        have hcz13_7 : w8.cell? ⟨gb614, 7, none⟩ = some (.string a0_7) := (blk_cell BK614.out 7).trans rfl
        have hcz13_8 : w8.cell? ⟨gb614, 8, none⟩ = some (.string a0_8) := (blk_cell BK614.out 8).trans rfl
        have hfz13_0 := blk_frozen BK614.out 0
        have hfz13_1 := blk_frozen BK614.out 1
        have hfz13_2 := blk_frozen BK614.out 2
        have hfz13_3 := blk_frozen BK614.out 3
        have hfz13_4 := blk_frozen BK614.out 4
        have hfz13_5 := blk_frozen BK614.out 5
        have hfz13_6 := blk_frozen BK614.out 6
        have hfz13_7 := blk_frozen BK614.out 7
        have hfz13_8 := blk_frozen BK614.out 8
        go_wp2_with (first | ((with_reducible refine gate_callee (f := 104) rfl ?_); refine goesL_ (some 20) rfl rfl Try.func104 (by kernel_rfl) rfl #[.agg #[.int .i64 a0_0, .int .i64 a0_1, .int .u32 a0_2, .int .u32 a0_3, .int .i64 a0_4, .int .i64 a0_5, .int .i64 a0_6, .string a0_7, .string a0_8]] rfl (by (try simp only [List.map_toArray, List.map_cons, List.map_nil]); first | done | rfl | (simp only [List.length_drop, List.length_take]; rfl)) ?_; (with_reducible refine (palanquinlaw07_few.calls a0_0 a0_1 a0_2 a0_3 a0_4 a0_5 a0_6 a0_7 a0_8 false _ A9.out).mono ?_); rintro e w14 ⟨rfl, hb⟩; refine ⟨_, rfl, ?_⟩; have n0_ := Aside0.mk (blk_below (g := gb614) (o := .cells #[.int .i64 a0_0, .int .i64 a0_1, .int .u32 a0_2, .int .u32 a0_3, .int .i64 a0_4, .int .i64 a0_5, .int .i64 a0_6, .string a0_7, .string a0_8] 127 (0, 0)) (by (with_reducible repeat (first | refine blk_drewN ?_ _ | refine blk_drew ?_ | refine blk_alloc ?_ _)); exact BK614.out) hb); have n1_ := Aside0.mk (below_step (by repeat (first | (with_reducible first | exact HB.out | apply below_alloc | apply pw_below_drewN | apply below_drew1 | refine below_set ?_ GE614.out) | exact HB.out)) hb); clear BK614; clear HB; have BK614 := n0_; have HB := n1_; clear n0_ n1_; (try clear hb); (try clear hb2); (try clear hk); (try clear hi)))
        go_meet
        case rel => exact ⟨_, (true), (by first | rfl | (simp; done) | (simp [*]; done)), H', ⟨by first | omega | exact Nat.le_refl _⟩, ⟨by (with_reducible repeat (first | refine blk_drewN ?_ _ | refine blk_drew ?_ | refine blk_alloc ?_ _)); exact BK614.out⟩, ⟨by repeat (first | (with_reducible first | exact HB.out | apply below_alloc | apply pw_below_drewN | apply below_drew1 | refine below_set ?_ GE614.out) | exact HB.out)⟩⟩
    case rest =>
      clear HC6
      try clear c1
      try clear c2
      try clear p2
      try clear c5
      try clear c6
      try clear c10
      try clear hcz11_0
      try clear hcz11_1
      try clear hcz11_2
      try clear hcz11_3
      try clear hcz11_4
      try clear hcz11_5
      try clear hcz11_6
      try clear hcz11_7
      try clear hcz11_8
      try clear hcz13_0
      try clear hcz13_1
      try clear hcz13_2
      try clear hcz13_3
      try clear hcz13_4
      try clear hcz13_5
      try clear hcz13_6
      try clear hcz13_7
      try clear hcz13_8
      try clear hfz11_0
      try clear hfz11_1
      try clear hfz11_2
      try clear hfz11_3
      try clear hfz11_4
      try clear hfz11_5
      try clear hfz11_6
      try clear hfz11_7
      try clear hfz11_8
      try clear hfz13_0
      try clear hfz13_1
      try clear hfz13_2
      try clear hfz13_3
      try clear hfz13_4
      try clear hfz13_5
      try clear hfz13_6
      try clear hfz13_7
      try clear hfz13_8
      obtain ⟨kq, x26_5, rfl, HA, HJ5, BK614, HB⟩ := hcut
      cases kq with
      | zero => exact absurd HA.out (by simp [palanquinlaw07_TcpTells.j0])
      | succ kj5 =>
        have H := HA.out
        clear HA
        simp only [palanquinlaw07_TcpTells.j0] at H
        by_cases c15 : x26_5 = true
        · subst c15
          have H1 : (some true) = some r := by rw [if_pos rfl] at H; exact H
          clear H
          have H := H1
          clear H1
          obtain rfl := Option.some.inj H
          go_wp2
          go_ret
          exact ⟨by first | rfl | (simp [errW_none, errW_some] <;> rfl) | (simp [*, errW_none, errW_some] <;> rfl), by repeat (first | (with_reducible first | exact HB.out | apply below_alloc | apply pw_below_drewN | apply below_drew1 | refine below_set ?_ GE614.out) | exact HB.out)⟩
        · replace c15 := Bool.eq_false_iff.mpr c15
          subst c15
          have H1 : ((tcp_Put.f a0_0 a0_1 a0_2 a0_3 a0_4 a0_5 a0_6 a0_7 a0_8 a1).bind fun bt617 => ((palanquinref07_Put.f kj5 a0_0 a0_1 a0_2 a0_3 a0_4 a0_5 a0_6 a0_7 a0_8 a1).bind fun bt619 => ((tcp_Get.f a2).bind fun bt621 => ((palanquinref07_Get.f a2).bind fun bt633 => (if bt617.1.toList = bt619.1.toList then (if bt617.2 = bt619.2 then ((tcp_Check.f a0_0 a0_1 a0_2 a0_3 a0_4 a0_5 a0_6 a0_7 a0_8).bind fun t645 => ((palanquinref07_May.f a0_0 a0_1 a0_2 a0_3 a0_4 a0_5 a0_6 a0_7 a0_8).bind fun t646 => (if ((t645 == 0) == t646) = true then (if (bt621.1 == bt633.1 && (bt621.2.1 == bt633.2.1 && (bt621.2.2.1 == bt633.2.2.1 && (bt621.2.2.2.1 == bt633.2.2.2.1 && (bt621.2.2.2.2.1 == bt633.2.2.2.2.1 && (bt621.2.2.2.2.2.1 == bt633.2.2.2.2.2.1 && (bt621.2.2.2.2.2.2.1 == bt633.2.2.2.2.2.2.1 && (bt621.2.2.2.2.2.2.2.1.toList == bt633.2.2.2.2.2.2.2.1.toList && (bt621.2.2.2.2.2.2.2.2.1.toList == bt633.2.2.2.2.2.2.2.2.1.toList))))))))) = true then (if bt621.2.2.2.2.2.2.2.2.2.1 = bt633.2.2.2.2.2.2.2.2.2.1 then (some (bt621.2.2.2.2.2.2.2.2.2.2 == bt633.2.2.2.2.2.2.2.2.2.2)) else (some false)) else (some false)) else (some false)))) else (some false)) else (some false)))))) = some r := by rw [if_neg (show ¬ (false = true) by decide)] at H; exact H
          clear H
          have H := H1
          clear H1
          replace H := Option.bind_eq_some_iff.mp H
          obtain ⟨⟨t617, t618⟩, A160, H⟩ := H
          replace H : ((palanquinref07_Put.f kj5 a0_0 a0_1 a0_2 a0_3 a0_4 a0_5 a0_6 a0_7 a0_8 a1).bind fun bt619 => ((tcp_Get.f a2).bind fun bt621 => ((palanquinref07_Get.f a2).bind fun bt633 => (if t617.toList = bt619.1.toList then (if t618 = bt619.2 then ((tcp_Check.f a0_0 a0_1 a0_2 a0_3 a0_4 a0_5 a0_6 a0_7 a0_8).bind fun t645 => ((palanquinref07_May.f a0_0 a0_1 a0_2 a0_3 a0_4 a0_5 a0_6 a0_7 a0_8).bind fun t646 => (if ((t645 == 0) == t646) = true then (if (bt621.1 == bt633.1 && (bt621.2.1 == bt633.2.1 && (bt621.2.2.1 == bt633.2.2.1 && (bt621.2.2.2.1 == bt633.2.2.2.1 && (bt621.2.2.2.2.1 == bt633.2.2.2.2.1 && (bt621.2.2.2.2.2.1 == bt633.2.2.2.2.2.1 && (bt621.2.2.2.2.2.2.1 == bt633.2.2.2.2.2.2.1 && (bt621.2.2.2.2.2.2.2.1.toList == bt633.2.2.2.2.2.2.2.1.toList && (bt621.2.2.2.2.2.2.2.2.1.toList == bt633.2.2.2.2.2.2.2.2.1.toList))))))))) = true then (if bt621.2.2.2.2.2.2.2.2.2.1 = bt633.2.2.2.2.2.2.2.2.2.1 then (some (bt621.2.2.2.2.2.2.2.2.2.2 == bt633.2.2.2.2.2.2.2.2.2.2)) else (some false)) else (some false)) else (some false)))) else (some false)) else (some false))))) = some r := H
          have A16 := Aside0.mk A160
          clear A160
          replace H := Option.bind_eq_some_iff.mp H
          obtain ⟨⟨t619, t620⟩, A170, H⟩ := H
          replace H : ((tcp_Get.f a2).bind fun bt621 => ((palanquinref07_Get.f a2).bind fun bt633 => (if t617.toList = t619.toList then (if t618 = t620 then ((tcp_Check.f a0_0 a0_1 a0_2 a0_3 a0_4 a0_5 a0_6 a0_7 a0_8).bind fun t645 => ((palanquinref07_May.f a0_0 a0_1 a0_2 a0_3 a0_4 a0_5 a0_6 a0_7 a0_8).bind fun t646 => (if ((t645 == 0) == t646) = true then (if (bt621.1 == bt633.1 && (bt621.2.1 == bt633.2.1 && (bt621.2.2.1 == bt633.2.2.1 && (bt621.2.2.2.1 == bt633.2.2.2.1 && (bt621.2.2.2.2.1 == bt633.2.2.2.2.1 && (bt621.2.2.2.2.2.1 == bt633.2.2.2.2.2.1 && (bt621.2.2.2.2.2.2.1 == bt633.2.2.2.2.2.2.1 && (bt621.2.2.2.2.2.2.2.1.toList == bt633.2.2.2.2.2.2.2.1.toList && (bt621.2.2.2.2.2.2.2.2.1.toList == bt633.2.2.2.2.2.2.2.2.1.toList))))))))) = true then (if bt621.2.2.2.2.2.2.2.2.2.1 = bt633.2.2.2.2.2.2.2.2.2.1 then (some (bt621.2.2.2.2.2.2.2.2.2.2 == bt633.2.2.2.2.2.2.2.2.2.2)) else (some false)) else (some false)) else (some false)))) else (some false)) else (some false)))) = some r := H
          have A17 := Aside0.mk A170
          clear A170
          replace H := Option.bind_eq_some_iff.mp H
          obtain ⟨⟨t621, t622, t623, t624, t625, t626, t627, t628, t629, t630, t631⟩, A180, H⟩ := H
          replace H : ((palanquinref07_Get.f a2).bind fun bt633 => (if t617.toList = t619.toList then (if t618 = t620 then ((tcp_Check.f a0_0 a0_1 a0_2 a0_3 a0_4 a0_5 a0_6 a0_7 a0_8).bind fun t645 => ((palanquinref07_May.f a0_0 a0_1 a0_2 a0_3 a0_4 a0_5 a0_6 a0_7 a0_8).bind fun t646 => (if ((t645 == 0) == t646) = true then (if (t621 == bt633.1 && (t622 == bt633.2.1 && (t623 == bt633.2.2.1 && (t624 == bt633.2.2.2.1 && (t625 == bt633.2.2.2.2.1 && (t626 == bt633.2.2.2.2.2.1 && (t627 == bt633.2.2.2.2.2.2.1 && (t628.toList == bt633.2.2.2.2.2.2.2.1.toList && (t629.toList == bt633.2.2.2.2.2.2.2.2.1.toList))))))))) = true then (if t630 = bt633.2.2.2.2.2.2.2.2.2.1 then (some (t631 == bt633.2.2.2.2.2.2.2.2.2.2)) else (some false)) else (some false)) else (some false)))) else (some false)) else (some false))) = some r := H
          have A18 := Aside0.mk A180
          clear A180
          replace H := Option.bind_eq_some_iff.mp H
          obtain ⟨⟨t633, t634, t635, t636, t637, t638, t639, t640, t641, t642, t643⟩, A190, H⟩ := H
          replace H : (if t617.toList = t619.toList then (if t618 = t620 then ((tcp_Check.f a0_0 a0_1 a0_2 a0_3 a0_4 a0_5 a0_6 a0_7 a0_8).bind fun t645 => ((palanquinref07_May.f a0_0 a0_1 a0_2 a0_3 a0_4 a0_5 a0_6 a0_7 a0_8).bind fun t646 => (if ((t645 == 0) == t646) = true then (if (t621 == t633 && (t622 == t634 && (t623 == t635 && (t624 == t636 && (t625 == t637 && (t626 == t638 && (t627 == t639 && (t628.toList == t640.toList && (t629.toList == t641.toList))))))))) = true then (if t630 = t642 then (some (t631 == t643)) else (some false)) else (some false)) else (some false)))) else (some false)) else (some false)) = some r := H
          have A19 := Aside0.mk A190
          clear A190
          by_cases c20 : t617.toList = t619.toList
          · rw [if_pos c20] at H
            have c20b0 : (t617.toList == t619.toList) = true := beq_iff_eq.mpr c20
            have c20b1 : (t617.toList != t619.toList) = false := bne_eq_false_iff_eq.mpr c20
            clear c20
            by_cases c21 : t618 = t620
            · rw [if_pos c21] at H
              have c21b0 : (t618 == t620) = true := beq_iff_eq.mpr c21
              have c21b1 : (t618 != t620) = false := bne_eq_false_iff_eq.mpr c21
              clear c21
              replace H := Option.bind_eq_some_iff.mp H
              obtain ⟨t645, A220, H⟩ := H
              replace H : ((palanquinref07_May.f a0_0 a0_1 a0_2 a0_3 a0_4 a0_5 a0_6 a0_7 a0_8).bind fun t646 => (if ((t645 == 0) == t646) = true then (if (t621 == t633 && (t622 == t634 && (t623 == t635 && (t624 == t636 && (t625 == t637 && (t626 == t638 && (t627 == t639 && (t628.toList == t640.toList && (t629.toList == t641.toList))))))))) = true then (if t630 = t642 then (some (t631 == t643)) else (some false)) else (some false)) else (some false))) = some r := H
              have A22 := Aside0.mk A220
              clear A220
              replace H := Option.bind_eq_some_iff.mp H
              obtain ⟨t646, A230, H⟩ := H
              replace H : (if ((t645 == 0) == t646) = true then (if (t621 == t633 && (t622 == t634 && (t623 == t635 && (t624 == t636 && (t625 == t637 && (t626 == t638 && (t627 == t639 && (t628.toList == t640.toList && (t629.toList == t641.toList))))))))) = true then (if t630 = t642 then (some (t631 == t643)) else (some false)) else (some false)) else (some false)) = some r := H
              have A23 := Aside0.mk A230
              clear A230
              by_cases c24 : ((t645 == 0) == t646) = true
              · rw [if_pos c24] at H
                have c24b0 : ((t645 == 0) == t646) = true := c24
                (try (have c24b1 : decide ((t645 == 0) = t646) = true := by simpa using c24))
                (try (have c24b2 : ((t645 == 0) == t646) = true := by simpa using c24))
                clear c24
                by_cases c25 : (t621 == t633 && (t622 == t634 && (t623 == t635 && (t624 == t636 && (t625 == t637 && (t626 == t638 && (t627 == t639 && (t628.toList == t640.toList && (t629.toList == t641.toList))))))))) = true
                · rw [if_pos c25] at H
                  have c25b0 : (t621 == t633 && (t622 == t634 && (t623 == t635 && (t624 == t636 && (t625 == t637 && (t626 == t638 && (t627 == t639 && (t628.toList == t640.toList && (t629.toList == t641.toList))))))))) = true := c25
                  (try (have c25b1 : decide (t621 = t633 && (t622 == t634 && (t623 == t635 && (t624 == t636 && (t625 == t637 && (t626 == t638 && (t627 == t639 && (t628.toList == t640.toList && (t629.toList == t641.toList))))))))) = true := by simpa using c25))
                  (try (have c25b2 : (t621 == t633 && (t622 == t634 && (t623 == t635 && (t624 == t636 && (t625 == t637 && (t626 == t638 && (t627 == t639 && (t628.toList == t640.toList && (t629.toList == t641.toList))))))))) = true := by simpa using c25))
                  (try (have c25b3 : ((t621 = t633 ∧ (t622 = t634 ∧ (t623 = t635 ∧ (t624 = t636 ∧ (t625 = t637 ∧ (t626 = t638 ∧ (t627 = t639 ∧ (t628.toList = t640.toList ∧ (t629.toList = t641.toList)))))))))) = True := by simpa using c25))
                  clear c25
                  by_cases c26 : t630 = t642
                  · rw [if_pos c26] at H
                    have c26b0 : (t630 == t642) = true := beq_iff_eq.mpr c26
                    have c26b1 : (t630 != t642) = false := bne_eq_false_iff_eq.mpr c26
                    clear c26
                    obtain rfl := Option.some.inj H
                    have hcz27_0 : wc.cell? ⟨gb614, 0, none⟩ = some (.int .i64 a0_0) := (blk_cell BK614.out 0).trans rfl
                    have hcz27_1 : wc.cell? ⟨gb614, 1, none⟩ = some (.int .i64 a0_1) := (blk_cell BK614.out 1).trans rfl
                    have hcz27_2 : wc.cell? ⟨gb614, 2, none⟩ = some (.int .u32 a0_2) := (blk_cell BK614.out 2).trans rfl
                    have hcz27_3 : wc.cell? ⟨gb614, 3, none⟩ = some (.int .u32 a0_3) := (blk_cell BK614.out 3).trans rfl
                    have hcz27_4 : wc.cell? ⟨gb614, 4, none⟩ = some (.int .i64 a0_4) := (blk_cell BK614.out 4).trans rfl
                    have hcz27_5 : wc.cell? ⟨gb614, 5, none⟩ = some (.int .i64 a0_5) := (blk_cell BK614.out 5).trans rfl
                    have hcz27_6 : wc.cell? ⟨gb614, 6, none⟩ = some (.int .i64 a0_6) := (blk_cell BK614.out 6).trans rfl
                    have hcz27_7 : wc.cell? ⟨gb614, 7, none⟩ = some (.string a0_7) := (blk_cell BK614.out 7).trans rfl
                    have hcz27_8 : wc.cell? ⟨gb614, 8, none⟩ = some (.string a0_8) := (blk_cell BK614.out 8).trans rfl
                    have hfz27_0 := blk_frozen BK614.out 0
                    have hfz27_1 := blk_frozen BK614.out 1
                    have hfz27_2 := blk_frozen BK614.out 2
                    have hfz27_3 := blk_frozen BK614.out 3
                    have hfz27_4 := blk_frozen BK614.out 4
                    have hfz27_5 := blk_frozen BK614.out 5
                    have hfz27_6 := blk_frozen BK614.out 6
                    have hfz27_7 := blk_frozen BK614.out 7
                    have hfz27_8 := blk_frozen BK614.out 8
                    try go_wp2_with (first | ((with_reducible refine gate_callee (f := 105) rfl ?_); refine goesL_ (some 30) rfl rfl Try.func105 (by kernel_rfl) rfl #[.agg #[.int .i64 a0_0, .int .i64 a0_1, .int .u32 a0_2, .int .u32 a0_3, .int .i64 a0_4, .int .i64 a0_5, .int .i64 a0_6, .string a0_7, .string a0_8], .int .i64 a1] rfl (by (try simp only [List.map_toArray, List.map_cons, List.map_nil]); first | done | rfl | (simp only [List.length_drop, List.length_take]; rfl)) ?_; (with_reducible refine (tcp_Put.calls a0_0 a0_1 a0_2 a0_3 a0_4 a0_5 a0_6 a0_7 a0_8 a1 t617 t618 _ A16.out).mono ?_); rintro e w28 ⟨rfl, hb⟩; refine ⟨_, rfl, ?_⟩; have n0_ := Aside0.mk (blk_below (g := gb614) (o := .cells #[.int .i64 a0_0, .int .i64 a0_1, .int .u32 a0_2, .int .u32 a0_3, .int .i64 a0_4, .int .i64 a0_5, .int .i64 a0_6, .string a0_7, .string a0_8] 127 (0, 0)) (by (with_reducible repeat (first | refine blk_drewN ?_ _ | refine blk_drew ?_ | refine blk_alloc ?_ _)); exact BK614.out) hb); have n1_ := Aside0.mk (below_step (by repeat (first | (with_reducible first | exact HB.out | apply below_alloc | apply pw_below_drewN | apply below_drew1 | refine below_set ?_ GE614.out) | exact HB.out)) hb); clear BK614; clear HB; have BK614 := n0_; have HB := n1_; clear n0_ n1_; (try clear hb); (try clear hb2); (try clear hk); (try clear hi); have hcz29_0 : w28.cell? ⟨gb614, 0, none⟩ = some (.int .i64 a0_0) := (blk_cell BK614.out 0).trans rfl; have hcz29_1 : w28.cell? ⟨gb614, 1, none⟩ = some (.int .i64 a0_1) := (blk_cell BK614.out 1).trans rfl; have hcz29_2 : w28.cell? ⟨gb614, 2, none⟩ = some (.int .u32 a0_2) := (blk_cell BK614.out 2).trans rfl; have hcz29_3 : w28.cell? ⟨gb614, 3, none⟩ = some (.int .u32 a0_3) := (blk_cell BK614.out 3).trans rfl; have hcz29_4 : w28.cell? ⟨gb614, 4, none⟩ = some (.int .i64 a0_4) := (blk_cell BK614.out 4).trans rfl; have hcz29_5 : w28.cell? ⟨gb614, 5, none⟩ = some (.int .i64 a0_5) := (blk_cell BK614.out 5).trans rfl; have hcz29_6 : w28.cell? ⟨gb614, 6, none⟩ = some (.int .i64 a0_6) := (blk_cell BK614.out 6).trans rfl; have hcz29_7 : w28.cell? ⟨gb614, 7, none⟩ = some (.string a0_7) := (blk_cell BK614.out 7).trans rfl; have hcz29_8 : w28.cell? ⟨gb614, 8, none⟩ = some (.string a0_8) := (blk_cell BK614.out 8).trans rfl; have hfz29_0 := blk_frozen BK614.out 0; have hfz29_1 := blk_frozen BK614.out 1; have hfz29_2 := blk_frozen BK614.out 2; have hfz29_3 := blk_frozen BK614.out 3; have hfz29_4 := blk_frozen BK614.out 4; have hfz29_5 := blk_frozen BK614.out 5; have hfz29_6 := blk_frozen BK614.out 6; have hfz29_7 := blk_frozen BK614.out 7; have hfz29_8 := blk_frozen BK614.out 8) | ((with_reducible refine gate_callee (f := 106) rfl ?_); refine goesL_ (some 36) rfl rfl Try.func106 (by kernel_rfl) rfl #[.agg #[.int .i64 a0_0, .int .i64 a0_1, .int .u32 a0_2, .int .u32 a0_3, .int .i64 a0_4, .int .i64 a0_5, .int .i64 a0_6, .string a0_7, .string a0_8], .int .i64 a1] rfl (by (try simp only [List.map_toArray, List.map_cons, List.map_nil]); first | done | rfl | (simp only [List.length_drop, List.length_take]; rfl)) ?_; (with_reducible refine (palanquinref07_Put.calls kj5 a0_0 a0_1 a0_2 a0_3 a0_4 a0_5 a0_6 a0_7 a0_8 a1 t619 t620 _ A17.out).mono ?_); rintro e w30 ⟨rfl, hb⟩; refine ⟨_, rfl, ?_⟩; have n0_ := Aside0.mk (blk_below (g := gb614) (o := .cells #[.int .i64 a0_0, .int .i64 a0_1, .int .u32 a0_2, .int .u32 a0_3, .int .i64 a0_4, .int .i64 a0_5, .int .i64 a0_6, .string a0_7, .string a0_8] 127 (0, 0)) (by (with_reducible repeat (first | refine blk_drewN ?_ _ | refine blk_drew ?_ | refine blk_alloc ?_ _)); exact BK614.out) hb); have n1_ := Aside0.mk (below_step (by repeat (first | (with_reducible first | exact HB.out | apply below_alloc | apply pw_below_drewN | apply below_drew1 | refine below_set ?_ GE614.out) | exact HB.out)) hb); clear BK614; clear HB; have BK614 := n0_; have HB := n1_; clear n0_ n1_; (try clear hb); (try clear hb2); (try clear hk); (try clear hi)) | ((with_reducible refine gate_callee (f := 107) rfl ?_); refine goesL_ (some 41) rfl rfl Try.func107 (by kernel_rfl) rfl #[.string a2] rfl (by (try simp only [List.map_toArray, List.map_cons, List.map_nil]); first | done | rfl | (simp only [List.length_drop, List.length_take]; rfl)) ?_; (with_reducible refine (tcp_Get.calls a2 t621 t622 t623 t624 t625 t626 t627 t628 t629 t630 t631 _ A18.out).mono ?_); rintro e w31 ⟨rfl, hb⟩; refine ⟨_, rfl, ?_⟩; have n0_ := Aside0.mk (blk_below (g := gb614) (o := .cells #[.int .i64 a0_0, .int .i64 a0_1, .int .u32 a0_2, .int .u32 a0_3, .int .i64 a0_4, .int .i64 a0_5, .int .i64 a0_6, .string a0_7, .string a0_8] 127 (0, 0)) (by (with_reducible repeat (first | refine blk_drewN ?_ _ | refine blk_drew ?_ | refine blk_alloc ?_ _)); exact BK614.out) hb); have n1_ := Aside0.mk (below_step (by repeat (first | (with_reducible first | exact HB.out | apply below_alloc | apply pw_below_drewN | apply below_drew1 | refine below_set ?_ GE614.out) | exact HB.out)) hb); clear BK614; clear HB; have BK614 := n0_; have HB := n1_; clear n0_ n1_; (try clear hb); (try clear hb2); (try clear hk); (try clear hi)) | ((with_reducible refine gate_dst (N := 11) rfl ?_); (try (refine gate_guard (by rfl) ?_; dsimp only)); refine box_event ?hg (N := 11) ?hd (cs := #[.int .i64 0, .int .i64 0, .int .u32 0, .int .u32 0, .int .i64 0, .int .i64 0, .int .i64 0, .string (⟨#[]⟩ : ByteArray), .string (⟨#[]⟩ : ByteArray)]) (t := 127) ?hr ?_; (case hd => rfl); (case hg => rfl); (case hr => first | (go_simp; done) | (go_simp; rfl)); intro gb632 hg w32 hbox hb; have n0_ := Aside0.mk (blk_below (g := gb614) (o := .cells #[.int .i64 a0_0, .int .i64 a0_1, .int .u32 a0_2, .int .u32 a0_3, .int .i64 a0_4, .int .i64 a0_5, .int .i64 a0_6, .string a0_7, .string a0_8] 127 (0, 0)) (by (with_reducible repeat (first | refine blk_drewN ?_ _ | refine blk_drew ?_ | refine blk_alloc ?_ _)); exact BK614.out) hb); have n1_ := Aside0.mk (below_step (by repeat (first | (with_reducible first | exact HB.out | apply below_alloc | apply pw_below_drewN | apply below_drew1 | refine below_set ?_ GE614.out) | exact HB.out)) hb); have n2_ := Aside0.mk (hbox); have n3_ := Aside0.mk ((by rw [hg]; exact (below_size (by repeat (first | (with_reducible first | exact HB.out | apply below_alloc | apply pw_below_drewN | apply below_drew1 | refine below_set ?_ GE614.out) | exact HB.out))) : w.heap.size ≤ gb632)); have n4_ := Aside0.mk ((by rw [hg]; exact (below_size (by repeat (first | (with_reducible first | exact HB.out | apply below_alloc | apply pw_below_drewN | apply below_drew1 | refine below_set ?_ GE614.out) | exact HB.out))) : w.heap.size ≤ gb632)); have n5_ := Aside0.mk ((by rw [hg]; exact Nat.ne_of_lt (blk_lt (g := gb614) (o := .cells #[.int .i64 a0_0, .int .i64 a0_1, .int .u32 a0_2, .int .u32 a0_3, .int .i64 a0_4, .int .i64 a0_5, .int .i64 a0_6, .string a0_7, .string a0_8] 127 (0, 0)) (by (with_reducible repeat (first | refine blk_drewN ?_ _ | refine blk_drew ?_ | refine blk_alloc ?_ _)); exact BK614.out)) : gb614 ≠ gb632)); have n6_ := Aside0.mk ((by rw [hg]; exact Nat.ne_of_gt (blk_lt (g := gb614) (o := .cells #[.int .i64 a0_0, .int .i64 a0_1, .int .u32 a0_2, .int .u32 a0_3, .int .i64 a0_4, .int .i64 a0_5, .int .i64 a0_6, .string a0_7, .string a0_8] 127 (0, 0)) (by (with_reducible repeat (first | refine blk_drewN ?_ _ | refine blk_drew ?_ | refine blk_alloc ?_ _)); exact BK614.out)) : gb632 ≠ gb614)); clear BK614; clear HB; have BK614 := n0_; have HB := n1_; have BK632 := n2_; have GW632 := n3_; have GE632 := n4_; have NB614_632 := n5_; have NB632_614 := n6_; clear n0_ n1_ n2_ n3_ n4_ n5_ n6_; clear hb hbox hg; have hnb33 := NB632_614.out; have hnc33 := NB614_632.out; have hcz34_0 : w32.cell? ⟨gb632, 0, none⟩ = some (.int .i64 0) := (blk_cell BK632.out 0).trans rfl; have hcz34_1 : w32.cell? ⟨gb632, 1, none⟩ = some (.int .i64 0) := (blk_cell BK632.out 1).trans rfl; have hcz34_2 : w32.cell? ⟨gb632, 2, none⟩ = some (.int .u32 0) := (blk_cell BK632.out 2).trans rfl; have hcz34_3 : w32.cell? ⟨gb632, 3, none⟩ = some (.int .u32 0) := (blk_cell BK632.out 3).trans rfl; have hcz34_4 : w32.cell? ⟨gb632, 4, none⟩ = some (.int .i64 0) := (blk_cell BK632.out 4).trans rfl; have hcz34_5 : w32.cell? ⟨gb632, 5, none⟩ = some (.int .i64 0) := (blk_cell BK632.out 5).trans rfl; have hcz34_6 : w32.cell? ⟨gb632, 6, none⟩ = some (.int .i64 0) := (blk_cell BK632.out 6).trans rfl; have hcz34_7 : w32.cell? ⟨gb632, 7, none⟩ = some (.string (⟨#[]⟩ : ByteArray)) := (blk_cell BK632.out 7).trans rfl; have hcz34_8 : w32.cell? ⟨gb632, 8, none⟩ = some (.string (⟨#[]⟩ : ByteArray)) := (blk_cell BK632.out 8).trans rfl; have hfz34_0 := blk_frozen BK632.out 0; have hfz34_1 := blk_frozen BK632.out 1; have hfz34_2 := blk_frozen BK632.out 2; have hfz34_3 := blk_frozen BK632.out 3; have hfz34_4 := blk_frozen BK632.out 4; have hfz34_5 := blk_frozen BK632.out 5; have hfz34_6 := blk_frozen BK632.out 6; have hfz34_7 := blk_frozen BK632.out 7; have hfz34_8 := blk_frozen BK632.out 8) | ((with_reducible refine gate_callee (f := 108) rfl ?_); refine goesL_ (some 47) rfl rfl Try.func108 (by kernel_rfl) rfl #[.string a2] rfl (by (try simp only [List.map_toArray, List.map_cons, List.map_nil]); first | done | rfl | (simp only [List.length_drop, List.length_take]; rfl)) ?_; (with_reducible refine (palanquinref07_Get.calls a2 t633 t634 t635 t636 t637 t638 t639 t640 t641 t642 t643 _ A19.out).mono ?_); rintro e w35 ⟨rfl, hb⟩; refine ⟨_, rfl, ?_⟩; have n0_ := Aside0.mk (blk_below (g := gb614) (o := .cells #[.int .i64 a0_0, .int .i64 a0_1, .int .u32 a0_2, .int .u32 a0_3, .int .i64 a0_4, .int .i64 a0_5, .int .i64 a0_6, .string a0_7, .string a0_8] 127 (0, 0)) (by (with_reducible repeat (first | refine blk_drewN ?_ _ | refine blk_drew ?_ | refine blk_alloc ?_ _)); refine blk_far ?_ NB614_632.out _; (with_reducible repeat (first | refine blk_drewN ?_ _ | refine blk_drew ?_ | refine blk_alloc ?_ _)); refine blk_far ?_ NB614_632.out _; (with_reducible repeat (first | refine blk_drewN ?_ _ | refine blk_drew ?_ | refine blk_alloc ?_ _)); refine blk_far ?_ NB614_632.out _; (with_reducible repeat (first | refine blk_drewN ?_ _ | refine blk_drew ?_ | refine blk_alloc ?_ _)); refine blk_far ?_ NB614_632.out _; (with_reducible repeat (first | refine blk_drewN ?_ _ | refine blk_drew ?_ | refine blk_alloc ?_ _)); refine blk_far ?_ NB614_632.out _; (with_reducible repeat (first | refine blk_drewN ?_ _ | refine blk_drew ?_ | refine blk_alloc ?_ _)); refine blk_far ?_ NB614_632.out _; (with_reducible repeat (first | refine blk_drewN ?_ _ | refine blk_drew ?_ | refine blk_alloc ?_ _)); refine blk_far ?_ NB614_632.out _; (with_reducible repeat (first | refine blk_drewN ?_ _ | refine blk_drew ?_ | refine blk_alloc ?_ _)); refine blk_far ?_ NB614_632.out _; (with_reducible repeat (first | refine blk_drewN ?_ _ | refine blk_drew ?_ | refine blk_alloc ?_ _)); refine blk_far ?_ NB614_632.out _; (with_reducible repeat (first | refine blk_drewN ?_ _ | refine blk_drew ?_ | refine blk_alloc ?_ _)); exact BK614.out) hb); have n1_ := Aside0.mk (blk_below (g := gb632) (o := .cells #[.int .i64 t621, .int .i64 t622, .int .u32 t623, .int .u32 t624, .int .i64 t625, .int .i64 t626, .int .i64 t627, .string t628, .string t629] 127 (0, 0)) (by (with_reducible repeat (first | refine blk_drewN ?_ _ | refine blk_drew ?_ | refine blk_alloc ?_ _)); refine blk_put (cs := #[.int .i64 t621, .int .i64 t622, .int .u32 t623, .int .u32 t624, .int .i64 t625, .int .i64 t626, .int .i64 t627, .string t628, .string (⟨#[]⟩ : ByteArray)]) ?_ 8 _ rfl; (with_reducible repeat (first | refine blk_drewN ?_ _ | refine blk_drew ?_ | refine blk_alloc ?_ _)); refine blk_put (cs := #[.int .i64 t621, .int .i64 t622, .int .u32 t623, .int .u32 t624, .int .i64 t625, .int .i64 t626, .int .i64 t627, .string (⟨#[]⟩ : ByteArray), .string (⟨#[]⟩ : ByteArray)]) ?_ 7 _ rfl; (with_reducible repeat (first | refine blk_drewN ?_ _ | refine blk_drew ?_ | refine blk_alloc ?_ _)); refine blk_put (cs := #[.int .i64 t621, .int .i64 t622, .int .u32 t623, .int .u32 t624, .int .i64 t625, .int .i64 t626, .int .i64 0, .string (⟨#[]⟩ : ByteArray), .string (⟨#[]⟩ : ByteArray)]) ?_ 6 _ rfl; (with_reducible repeat (first | refine blk_drewN ?_ _ | refine blk_drew ?_ | refine blk_alloc ?_ _)); refine blk_put (cs := #[.int .i64 t621, .int .i64 t622, .int .u32 t623, .int .u32 t624, .int .i64 t625, .int .i64 0, .int .i64 0, .string (⟨#[]⟩ : ByteArray), .string (⟨#[]⟩ : ByteArray)]) ?_ 5 _ rfl; (with_reducible repeat (first | refine blk_drewN ?_ _ | refine blk_drew ?_ | refine blk_alloc ?_ _)); refine blk_put (cs := #[.int .i64 t621, .int .i64 t622, .int .u32 t623, .int .u32 t624, .int .i64 0, .int .i64 0, .int .i64 0, .string (⟨#[]⟩ : ByteArray), .string (⟨#[]⟩ : ByteArray)]) ?_ 4 _ rfl; (with_reducible repeat (first | refine blk_drewN ?_ _ | refine blk_drew ?_ | refine blk_alloc ?_ _)); refine blk_put (cs := #[.int .i64 t621, .int .i64 t622, .int .u32 t623, .int .u32 0, .int .i64 0, .int .i64 0, .int .i64 0, .string (⟨#[]⟩ : ByteArray), .string (⟨#[]⟩ : ByteArray)]) ?_ 3 _ rfl; (with_reducible repeat (first | refine blk_drewN ?_ _ | refine blk_drew ?_ | refine blk_alloc ?_ _)); refine blk_put (cs := #[.int .i64 t621, .int .i64 t622, .int .u32 0, .int .u32 0, .int .i64 0, .int .i64 0, .int .i64 0, .string (⟨#[]⟩ : ByteArray), .string (⟨#[]⟩ : ByteArray)]) ?_ 2 _ rfl; (with_reducible repeat (first | refine blk_drewN ?_ _ | refine blk_drew ?_ | refine blk_alloc ?_ _)); refine blk_put (cs := #[.int .i64 t621, .int .i64 0, .int .u32 0, .int .u32 0, .int .i64 0, .int .i64 0, .int .i64 0, .string (⟨#[]⟩ : ByteArray), .string (⟨#[]⟩ : ByteArray)]) ?_ 1 _ rfl; (with_reducible repeat (first | refine blk_drewN ?_ _ | refine blk_drew ?_ | refine blk_alloc ?_ _)); refine blk_put (cs := #[.int .i64 0, .int .i64 0, .int .u32 0, .int .u32 0, .int .i64 0, .int .i64 0, .int .i64 0, .string (⟨#[]⟩ : ByteArray), .string (⟨#[]⟩ : ByteArray)]) ?_ 0 _ rfl; (with_reducible repeat (first | refine blk_drewN ?_ _ | refine blk_drew ?_ | refine blk_alloc ?_ _)); exact BK632.out) hb); have n2_ := Aside0.mk (below_step (by repeat (first | (with_reducible first | exact HB.out | apply below_alloc | apply pw_below_drewN | apply below_drew1 | refine below_set ?_ GE614.out | refine below_set ?_ GE632.out) | exact HB.out)) hb); clear BK614; clear BK632; clear HB; have BK614 := n0_; have BK632 := n1_; have HB := n2_; clear n0_ n1_ n2_; (try clear hb); (try clear hb2); (try clear hk); (try clear hi)) | ((with_reducible refine gate_dst (N := 14) rfl ?_); (try (refine gate_guard (by rfl) ?_; dsimp only)); refine box_event ?hg (N := 14) ?hd (cs := #[.int .i64 0, .int .i64 0, .int .u32 0, .int .u32 0, .int .i64 0, .int .i64 0, .int .i64 0, .string (⟨#[]⟩ : ByteArray), .string (⟨#[]⟩ : ByteArray)]) (t := 127) ?hr ?_; (case hd => rfl); (case hg => rfl); (case hr => first | (go_simp; done) | (go_simp; rfl)); intro gb644 hg w36 hbox hb; have n0_ := Aside0.mk (blk_below (g := gb614) (o := .cells #[.int .i64 a0_0, .int .i64 a0_1, .int .u32 a0_2, .int .u32 a0_3, .int .i64 a0_4, .int .i64 a0_5, .int .i64 a0_6, .string a0_7, .string a0_8] 127 (0, 0)) (by (with_reducible repeat (first | refine blk_drewN ?_ _ | refine blk_drew ?_ | refine blk_alloc ?_ _)); exact BK614.out) hb); have n1_ := Aside0.mk (blk_below (g := gb632) (o := .cells #[.int .i64 t621, .int .i64 t622, .int .u32 t623, .int .u32 t624, .int .i64 t625, .int .i64 t626, .int .i64 t627, .string t628, .string t629] 127 (0, 0)) (by (with_reducible repeat (first | refine blk_drewN ?_ _ | refine blk_drew ?_ | refine blk_alloc ?_ _)); exact BK632.out) hb); have n2_ := Aside0.mk (below_step (by repeat (first | (with_reducible first | exact HB.out | apply below_alloc | apply pw_below_drewN | apply below_drew1 | refine below_set ?_ GE614.out | refine below_set ?_ GE632.out) | exact HB.out)) hb); have n3_ := Aside0.mk (hbox); have n4_ := Aside0.mk ((by rw [hg]; exact (below_size (by repeat (first | (with_reducible first | exact HB.out | apply below_alloc | apply pw_below_drewN | apply below_drew1 | refine below_set ?_ GE614.out | refine below_set ?_ GE632.out) | exact HB.out))) : w.heap.size ≤ gb644)); have n5_ := Aside0.mk ((by rw [hg]; exact (below_size (by repeat (first | (with_reducible first | exact HB.out | apply below_alloc | apply pw_below_drewN | apply below_drew1 | refine below_set ?_ GE614.out | refine below_set ?_ GE632.out) | exact HB.out))) : w.heap.size ≤ gb644)); have n6_ := Aside0.mk ((by rw [hg]; exact Nat.ne_of_lt (blk_lt (g := gb614) (o := .cells #[.int .i64 a0_0, .int .i64 a0_1, .int .u32 a0_2, .int .u32 a0_3, .int .i64 a0_4, .int .i64 a0_5, .int .i64 a0_6, .string a0_7, .string a0_8] 127 (0, 0)) (by (with_reducible repeat (first | refine blk_drewN ?_ _ | refine blk_drew ?_ | refine blk_alloc ?_ _)); exact BK614.out)) : gb614 ≠ gb644)); have n7_ := Aside0.mk ((by rw [hg]; exact Nat.ne_of_gt (blk_lt (g := gb614) (o := .cells #[.int .i64 a0_0, .int .i64 a0_1, .int .u32 a0_2, .int .u32 a0_3, .int .i64 a0_4, .int .i64 a0_5, .int .i64 a0_6, .string a0_7, .string a0_8] 127 (0, 0)) (by (with_reducible repeat (first | refine blk_drewN ?_ _ | refine blk_drew ?_ | refine blk_alloc ?_ _)); exact BK614.out)) : gb644 ≠ gb614)); have n8_ := Aside0.mk ((by rw [hg]; exact Nat.ne_of_lt (blk_lt (g := gb632) (o := .cells #[.int .i64 t621, .int .i64 t622, .int .u32 t623, .int .u32 t624, .int .i64 t625, .int .i64 t626, .int .i64 t627, .string t628, .string t629] 127 (0, 0)) (by (with_reducible repeat (first | refine blk_drewN ?_ _ | refine blk_drew ?_ | refine blk_alloc ?_ _)); exact BK632.out)) : gb632 ≠ gb644)); have n9_ := Aside0.mk ((by rw [hg]; exact Nat.ne_of_gt (blk_lt (g := gb632) (o := .cells #[.int .i64 t621, .int .i64 t622, .int .u32 t623, .int .u32 t624, .int .i64 t625, .int .i64 t626, .int .i64 t627, .string t628, .string t629] 127 (0, 0)) (by (with_reducible repeat (first | refine blk_drewN ?_ _ | refine blk_drew ?_ | refine blk_alloc ?_ _)); exact BK632.out)) : gb644 ≠ gb632)); clear BK614; clear BK632; clear HB; have BK614 := n0_; have BK632 := n1_; have HB := n2_; have BK644 := n3_; have GW644 := n4_; have GE644 := n5_; have NB614_644 := n6_; have NB644_614 := n7_; have NB632_644 := n8_; have NB644_632 := n9_; clear n0_ n1_ n2_ n3_ n4_ n5_ n6_ n7_ n8_ n9_; clear hb hbox hg; have hnb37 := NB644_614.out; have hnc37 := NB614_644.out; have hnb38 := NB644_632.out; have hnc38 := NB632_644.out; have hcz39_0 : w36.cell? ⟨gb644, 0, none⟩ = some (.int .i64 0) := (blk_cell BK644.out 0).trans rfl; have hcz39_1 : w36.cell? ⟨gb644, 1, none⟩ = some (.int .i64 0) := (blk_cell BK644.out 1).trans rfl; have hcz39_2 : w36.cell? ⟨gb644, 2, none⟩ = some (.int .u32 0) := (blk_cell BK644.out 2).trans rfl; have hcz39_3 : w36.cell? ⟨gb644, 3, none⟩ = some (.int .u32 0) := (blk_cell BK644.out 3).trans rfl; have hcz39_4 : w36.cell? ⟨gb644, 4, none⟩ = some (.int .i64 0) := (blk_cell BK644.out 4).trans rfl; have hcz39_5 : w36.cell? ⟨gb644, 5, none⟩ = some (.int .i64 0) := (blk_cell BK644.out 5).trans rfl; have hcz39_6 : w36.cell? ⟨gb644, 6, none⟩ = some (.int .i64 0) := (blk_cell BK644.out 6).trans rfl; have hcz39_7 : w36.cell? ⟨gb644, 7, none⟩ = some (.string (⟨#[]⟩ : ByteArray)) := (blk_cell BK644.out 7).trans rfl; have hcz39_8 : w36.cell? ⟨gb644, 8, none⟩ = some (.string (⟨#[]⟩ : ByteArray)) := (blk_cell BK644.out 8).trans rfl; have hfz39_0 := blk_frozen BK644.out 0; have hfz39_1 := blk_frozen BK644.out 1; have hfz39_2 := blk_frozen BK644.out 2; have hfz39_3 := blk_frozen BK644.out 3; have hfz39_4 := blk_frozen BK644.out 4; have hfz39_5 := blk_frozen BK644.out 5; have hfz39_6 := blk_frozen BK644.out 6; have hfz39_7 := blk_frozen BK644.out 7; have hfz39_8 := blk_frozen BK644.out 8))
                    have n0_ : Aside0 ((((((((((w36.setCell ⟨gb644, 0, none⟩ (.int .i64 t633)).setCell ⟨gb644, 1, none⟩ (.int .i64 t634)).setCell ⟨gb644, 2, none⟩ (.int .u32 t635)).setCell ⟨gb644, 3, none⟩ (.int .u32 t636)).setCell ⟨gb644, 4, none⟩ (.int .i64 t637)).setCell ⟨gb644, 5, none⟩ (.int .i64 t638)).setCell ⟨gb644, 6, none⟩ (.int .i64 t639)).setCell ⟨gb644, 7, none⟩ (.string t640)).setCell ⟨gb644, 8, none⟩ (.string t641)).heap[gb614]? = some (.cells #[.int .i64 a0_0, .int .i64 a0_1, .int .u32 a0_2, .int .u32 a0_3, .int .i64 a0_4, .int .i64 a0_5, .int .i64 a0_6, .string a0_7, .string a0_8] 127 (0, 0))) := ⟨by (with_reducible repeat (first | refine blk_drewN ?_ _ | refine blk_drew ?_ | refine blk_alloc ?_ _)); refine blk_far ?_ NB614_644.out _; (with_reducible repeat (first | refine blk_drewN ?_ _ | refine blk_drew ?_ | refine blk_alloc ?_ _)); refine blk_far ?_ NB614_644.out _; (with_reducible repeat (first | refine blk_drewN ?_ _ | refine blk_drew ?_ | refine blk_alloc ?_ _)); refine blk_far ?_ NB614_644.out _; (with_reducible repeat (first | refine blk_drewN ?_ _ | refine blk_drew ?_ | refine blk_alloc ?_ _)); refine blk_far ?_ NB614_644.out _; (with_reducible repeat (first | refine blk_drewN ?_ _ | refine blk_drew ?_ | refine blk_alloc ?_ _)); refine blk_far ?_ NB614_644.out _; (with_reducible repeat (first | refine blk_drewN ?_ _ | refine blk_drew ?_ | refine blk_alloc ?_ _)); refine blk_far ?_ NB614_644.out _; (with_reducible repeat (first | refine blk_drewN ?_ _ | refine blk_drew ?_ | refine blk_alloc ?_ _)); refine blk_far ?_ NB614_644.out _; (with_reducible repeat (first | refine blk_drewN ?_ _ | refine blk_drew ?_ | refine blk_alloc ?_ _)); refine blk_far ?_ NB614_644.out _; (with_reducible repeat (first | refine blk_drewN ?_ _ | refine blk_drew ?_ | refine blk_alloc ?_ _)); refine blk_far ?_ NB614_644.out _; (with_reducible repeat (first | refine blk_drewN ?_ _ | refine blk_drew ?_ | refine blk_alloc ?_ _)); exact BK614.out⟩
                    have n1_ : Aside0 ((((((((((w36.setCell ⟨gb644, 0, none⟩ (.int .i64 t633)).setCell ⟨gb644, 1, none⟩ (.int .i64 t634)).setCell ⟨gb644, 2, none⟩ (.int .u32 t635)).setCell ⟨gb644, 3, none⟩ (.int .u32 t636)).setCell ⟨gb644, 4, none⟩ (.int .i64 t637)).setCell ⟨gb644, 5, none⟩ (.int .i64 t638)).setCell ⟨gb644, 6, none⟩ (.int .i64 t639)).setCell ⟨gb644, 7, none⟩ (.string t640)).setCell ⟨gb644, 8, none⟩ (.string t641)).heap[gb632]? = some (.cells #[.int .i64 t621, .int .i64 t622, .int .u32 t623, .int .u32 t624, .int .i64 t625, .int .i64 t626, .int .i64 t627, .string t628, .string t629] 127 (0, 0))) := ⟨by (with_reducible repeat (first | refine blk_drewN ?_ _ | refine blk_drew ?_ | refine blk_alloc ?_ _)); refine blk_far ?_ NB632_644.out _; (with_reducible repeat (first | refine blk_drewN ?_ _ | refine blk_drew ?_ | refine blk_alloc ?_ _)); refine blk_far ?_ NB632_644.out _; (with_reducible repeat (first | refine blk_drewN ?_ _ | refine blk_drew ?_ | refine blk_alloc ?_ _)); refine blk_far ?_ NB632_644.out _; (with_reducible repeat (first | refine blk_drewN ?_ _ | refine blk_drew ?_ | refine blk_alloc ?_ _)); refine blk_far ?_ NB632_644.out _; (with_reducible repeat (first | refine blk_drewN ?_ _ | refine blk_drew ?_ | refine blk_alloc ?_ _)); refine blk_far ?_ NB632_644.out _; (with_reducible repeat (first | refine blk_drewN ?_ _ | refine blk_drew ?_ | refine blk_alloc ?_ _)); refine blk_far ?_ NB632_644.out _; (with_reducible repeat (first | refine blk_drewN ?_ _ | refine blk_drew ?_ | refine blk_alloc ?_ _)); refine blk_far ?_ NB632_644.out _; (with_reducible repeat (first | refine blk_drewN ?_ _ | refine blk_drew ?_ | refine blk_alloc ?_ _)); refine blk_far ?_ NB632_644.out _; (with_reducible repeat (first | refine blk_drewN ?_ _ | refine blk_drew ?_ | refine blk_alloc ?_ _)); refine blk_far ?_ NB632_644.out _; (with_reducible repeat (first | refine blk_drewN ?_ _ | refine blk_drew ?_ | refine blk_alloc ?_ _)); exact BK632.out⟩
                    have n2_ : Aside0 ((((((((((w36.setCell ⟨gb644, 0, none⟩ (.int .i64 t633)).setCell ⟨gb644, 1, none⟩ (.int .i64 t634)).setCell ⟨gb644, 2, none⟩ (.int .u32 t635)).setCell ⟨gb644, 3, none⟩ (.int .u32 t636)).setCell ⟨gb644, 4, none⟩ (.int .i64 t637)).setCell ⟨gb644, 5, none⟩ (.int .i64 t638)).setCell ⟨gb644, 6, none⟩ (.int .i64 t639)).setCell ⟨gb644, 7, none⟩ (.string t640)).setCell ⟨gb644, 8, none⟩ (.string t641)).heap[gb644]? = some (.cells #[.int .i64 t633, .int .i64 t634, .int .u32 t635, .int .u32 t636, .int .i64 t637, .int .i64 t638, .int .i64 t639, .string t640, .string t641] 127 (0, 0))) := ⟨by (with_reducible repeat (first | refine blk_drewN ?_ _ | refine blk_drew ?_ | refine blk_alloc ?_ _)); refine blk_put (cs := #[.int .i64 t633, .int .i64 t634, .int .u32 t635, .int .u32 t636, .int .i64 t637, .int .i64 t638, .int .i64 t639, .string t640, .string (⟨#[]⟩ : ByteArray)]) ?_ 8 _ rfl; (with_reducible repeat (first | refine blk_drewN ?_ _ | refine blk_drew ?_ | refine blk_alloc ?_ _)); refine blk_put (cs := #[.int .i64 t633, .int .i64 t634, .int .u32 t635, .int .u32 t636, .int .i64 t637, .int .i64 t638, .int .i64 t639, .string (⟨#[]⟩ : ByteArray), .string (⟨#[]⟩ : ByteArray)]) ?_ 7 _ rfl; (with_reducible repeat (first | refine blk_drewN ?_ _ | refine blk_drew ?_ | refine blk_alloc ?_ _)); refine blk_put (cs := #[.int .i64 t633, .int .i64 t634, .int .u32 t635, .int .u32 t636, .int .i64 t637, .int .i64 t638, .int .i64 0, .string (⟨#[]⟩ : ByteArray), .string (⟨#[]⟩ : ByteArray)]) ?_ 6 _ rfl; (with_reducible repeat (first | refine blk_drewN ?_ _ | refine blk_drew ?_ | refine blk_alloc ?_ _)); refine blk_put (cs := #[.int .i64 t633, .int .i64 t634, .int .u32 t635, .int .u32 t636, .int .i64 t637, .int .i64 0, .int .i64 0, .string (⟨#[]⟩ : ByteArray), .string (⟨#[]⟩ : ByteArray)]) ?_ 5 _ rfl; (with_reducible repeat (first | refine blk_drewN ?_ _ | refine blk_drew ?_ | refine blk_alloc ?_ _)); refine blk_put (cs := #[.int .i64 t633, .int .i64 t634, .int .u32 t635, .int .u32 t636, .int .i64 0, .int .i64 0, .int .i64 0, .string (⟨#[]⟩ : ByteArray), .string (⟨#[]⟩ : ByteArray)]) ?_ 4 _ rfl; (with_reducible repeat (first | refine blk_drewN ?_ _ | refine blk_drew ?_ | refine blk_alloc ?_ _)); refine blk_put (cs := #[.int .i64 t633, .int .i64 t634, .int .u32 t635, .int .u32 0, .int .i64 0, .int .i64 0, .int .i64 0, .string (⟨#[]⟩ : ByteArray), .string (⟨#[]⟩ : ByteArray)]) ?_ 3 _ rfl; (with_reducible repeat (first | refine blk_drewN ?_ _ | refine blk_drew ?_ | refine blk_alloc ?_ _)); refine blk_put (cs := #[.int .i64 t633, .int .i64 t634, .int .u32 0, .int .u32 0, .int .i64 0, .int .i64 0, .int .i64 0, .string (⟨#[]⟩ : ByteArray), .string (⟨#[]⟩ : ByteArray)]) ?_ 2 _ rfl; (with_reducible repeat (first | refine blk_drewN ?_ _ | refine blk_drew ?_ | refine blk_alloc ?_ _)); refine blk_put (cs := #[.int .i64 t633, .int .i64 0, .int .u32 0, .int .u32 0, .int .i64 0, .int .i64 0, .int .i64 0, .string (⟨#[]⟩ : ByteArray), .string (⟨#[]⟩ : ByteArray)]) ?_ 1 _ rfl; (with_reducible repeat (first | refine blk_drewN ?_ _ | refine blk_drew ?_ | refine blk_alloc ?_ _)); refine blk_put (cs := #[.int .i64 0, .int .i64 0, .int .u32 0, .int .u32 0, .int .i64 0, .int .i64 0, .int .i64 0, .string (⟨#[]⟩ : ByteArray), .string (⟨#[]⟩ : ByteArray)]) ?_ 0 _ rfl; (with_reducible repeat (first | refine blk_drewN ?_ _ | refine blk_drew ?_ | refine blk_alloc ?_ _)); exact BK644.out⟩
                    have n3_ : Aside0 (Below w.heap.size w (((((((((w36.setCell ⟨gb644, 0, none⟩ (.int .i64 t633)).setCell ⟨gb644, 1, none⟩ (.int .i64 t634)).setCell ⟨gb644, 2, none⟩ (.int .u32 t635)).setCell ⟨gb644, 3, none⟩ (.int .u32 t636)).setCell ⟨gb644, 4, none⟩ (.int .i64 t637)).setCell ⟨gb644, 5, none⟩ (.int .i64 t638)).setCell ⟨gb644, 6, none⟩ (.int .i64 t639)).setCell ⟨gb644, 7, none⟩ (.string t640)).setCell ⟨gb644, 8, none⟩ (.string t641))) := ⟨by repeat (first | (with_reducible first | exact HB.out | apply below_alloc | apply pw_below_drewN | apply below_drew1 | refine below_set ?_ GE614.out | refine below_set ?_ GE632.out | refine below_set ?_ GE644.out) | exact HB.out)⟩
                    (try clear BK614)
                    (try clear BK632)
                    (try clear BK644)
                    (try clear HB)
                    generalize (((((((((w36.setCell ⟨gb644, 0, none⟩ (.int .i64 t633)).setCell ⟨gb644, 1, none⟩ (.int .i64 t634)).setCell ⟨gb644, 2, none⟩ (.int .u32 t635)).setCell ⟨gb644, 3, none⟩ (.int .u32 t636)).setCell ⟨gb644, 4, none⟩ (.int .i64 t637)).setCell ⟨gb644, 5, none⟩ (.int .i64 t638)).setCell ⟨gb644, 6, none⟩ (.int .i64 t639)).setCell ⟨gb644, 7, none⟩ (.string t640)).setCell ⟨gb644, 8, none⟩ (.string t641)) = w40 at n0_ n1_ n2_ n3_ ⊢
                    have BK614 := n0_
                    have BK632 := n1_
                    have BK644 := n2_
                    have HB := n3_
                    clear n0_ n1_ n2_ n3_
                    have n0_ := Aside0.mk (blk_drew BK614.out)
                    have n1_ := Aside0.mk (blk_drew BK632.out)
                    have n2_ := Aside0.mk (blk_drew BK644.out)
                    have n3_ := Aside0.mk (below_drew1 HB.out)
                    clear BK614
                    clear BK632
                    clear BK644
                    clear HB
                    have BK614 := n0_
                    have BK632 := n1_
                    have BK644 := n2_
                    have HB := n3_
                    clear n0_ n1_ n2_ n3_
                    refine start_ (n := 32) (S := fun w' => w'.cell? ⟨gb614, 0, none⟩ = some (.int .i64 a0_0) ∧ w'.cell? ⟨gb614, 1, none⟩ = some (.int .i64 a0_1) ∧ w'.cell? ⟨gb614, 2, none⟩ = some (.int .u32 a0_2) ∧ w'.cell? ⟨gb614, 3, none⟩ = some (.int .u32 a0_3) ∧ w'.cell? ⟨gb614, 4, none⟩ = some (.int .i64 a0_4) ∧ w'.cell? ⟨gb614, 5, none⟩ = some (.int .i64 a0_5) ∧ w'.cell? ⟨gb614, 6, none⟩ = some (.int .i64 a0_6) ∧ w'.cell? ⟨gb614, 7, none⟩ = some (.string a0_7) ∧ w'.cell? ⟨gb614, 8, none⟩ = some (.string a0_8) ∧ w'.cell? ⟨gb632, 0, none⟩ = some (.int .i64 t621) ∧ w'.cell? ⟨gb632, 1, none⟩ = some (.int .i64 t622) ∧ w'.cell? ⟨gb632, 2, none⟩ = some (.int .u32 t623) ∧ w'.cell? ⟨gb632, 3, none⟩ = some (.int .u32 t624) ∧ w'.cell? ⟨gb632, 4, none⟩ = some (.int .i64 t625) ∧ w'.cell? ⟨gb632, 5, none⟩ = some (.int .i64 t626) ∧ w'.cell? ⟨gb632, 6, none⟩ = some (.int .i64 t627) ∧ w'.cell? ⟨gb632, 7, none⟩ = some (.string t628) ∧ w'.cell? ⟨gb632, 8, none⟩ = some (.string t629) ∧ w'.cell? ⟨gb644, 0, none⟩ = some (.int .i64 t633) ∧ w'.cell? ⟨gb644, 1, none⟩ = some (.int .i64 t634) ∧ w'.cell? ⟨gb644, 2, none⟩ = some (.int .u32 t635) ∧ w'.cell? ⟨gb644, 3, none⟩ = some (.int .u32 t636) ∧ w'.cell? ⟨gb644, 4, none⟩ = some (.int .i64 t637) ∧ w'.cell? ⟨gb644, 5, none⟩ = some (.int .i64 t638) ∧ w'.cell? ⟨gb644, 6, none⟩ = some (.int .i64 t639) ∧ w'.cell? ⟨gb644, 7, none⟩ = some (.string t640) ∧ w'.cell? ⟨gb644, 8, none⟩ = some (.string t641)) (ds := []) #[false, false, false, false, false, false, false, false, false, false, false, false, false, false, false, false, false, false, false, false, false, false, false, false, false, false, false, false, false, false, false, false] (by kernel_rfl) rfl rfl ⟨(blk_cell BK614.out 0).trans rfl, (blk_cell BK614.out 1).trans rfl, (blk_cell BK614.out 2).trans rfl, (blk_cell BK614.out 3).trans rfl, (blk_cell BK614.out 4).trans rfl, (blk_cell BK614.out 5).trans rfl, (blk_cell BK614.out 6).trans rfl, (blk_cell BK614.out 7).trans rfl, (blk_cell BK614.out 8).trans rfl, (blk_cell BK632.out 0).trans rfl, (blk_cell BK632.out 1).trans rfl, (blk_cell BK632.out 2).trans rfl, (blk_cell BK632.out 3).trans rfl, (blk_cell BK632.out 4).trans rfl, (blk_cell BK632.out 5).trans rfl, (blk_cell BK632.out 6).trans rfl, (blk_cell BK632.out 7).trans rfl, (blk_cell BK632.out 8).trans rfl, (blk_cell BK644.out 0).trans rfl, (blk_cell BK644.out 1).trans rfl, (blk_cell BK644.out 2).trans rfl, (blk_cell BK644.out 3).trans rfl, (blk_cell BK644.out 4).trans rfl, (blk_cell BK644.out 5).trans rfl, (blk_cell BK644.out 6).trans rfl, (blk_cell BK644.out 7).trans rfl, (blk_cell BK644.out 8).trans rfl⟩ (fun hHeld => ?_); refine with_tabW palanquinlaw07_TcpTells.tab9 palanquinlaw07_TcpTells.bits9 (fun HT_ HW_ => ?_)
                    generalize w40.drew = w41 at BK614 BK632 BK644 HB hHeld ⊢
                    refine pure_ (i := 0) (N := some 51) (v := ?_) (a' := ?_) #[true, false, false, false, false, false, false, false, false, false, false, false, false, false, false, false, false, false, false, false, false, false, false, false, false, false, false, false, false, false, false, false] rfl rfl (any_of HT_.out (by kernel_rfl)) (fun _ _ _ h => h) (Or.inl ⟨by rfl, ?_⟩) ?_ ?_
                    rotate_left
                    · intro w'
                      go_simp
                      with_reducible rfl
                    rotate_left
                    · simp only [Act.put, List.setIfInBounds_toArray, List.set_cons_zero, List.set_cons_succ, i64_w, i32_w]
                      rfl
                    refine pure_ (i := 1) (N := some 52) (v := ?_) (a' := ?_) #[true, true, false, false, false, false, false, false, false, false, false, false, false, false, false, false, false, false, false, false, false, false, false, false, false, false, false, false, false, false, false, false] rfl rfl (any_of HT_.out (by kernel_rfl)) (fun _ _ _ h => h) (Or.inl ⟨by rfl, ?_⟩) ?_ ?_
                    rotate_left
                    · intro w'
                      go_simp
                      with_reducible rfl
                    rotate_left
                    · simp only [Act.put, List.setIfInBounds_toArray, List.set_cons_zero, List.set_cons_succ, i64_w, i32_w]
                      rfl
                    refine pure_ (i := 2) (N := some 53) (v := ?_) (a' := ?_) #[true, true, true, false, false, false, false, false, false, false, false, false, false, false, false, false, false, false, false, false, false, false, false, false, false, false, false, false, false, false, false, false] rfl rfl (any_of HT_.out (by kernel_rfl)) (fun _ _ _ h => h) (Or.inl ⟨by rfl, ?_⟩) ?_ ?_
                    rotate_left
                    · intro w'
                      go_simp
                      with_reducible rfl
                    rotate_left
                    · simp only [Act.put, List.setIfInBounds_toArray, List.set_cons_zero, List.set_cons_succ, i64_w, i32_w]
                      rfl
                    refine pure_ (i := 3) (N := some 54) (v := ?_) (a' := ?_) #[true, true, true, true, false, false, false, false, false, false, false, false, false, false, false, false, false, false, false, false, false, false, false, false, false, false, false, false, false, false, false, false] rfl rfl (any_of HT_.out (by kernel_rfl)) (fun _ _ _ h => h) (Or.inl ⟨by rfl, ?_⟩) ?_ ?_
                    rotate_left
                    · intro w'
                      go_simp
                      with_reducible rfl
                    rotate_left
                    · simp only [Act.put, List.setIfInBounds_toArray, List.set_cons_zero, List.set_cons_succ, i64_w, i32_w]
                      rfl
                    refine pure_ (i := 4) (N := some 55) (v := ?_) (a' := ?_) #[true, true, true, true, true, false, false, false, false, false, false, false, false, false, false, false, false, false, false, false, false, false, false, false, false, false, false, false, false, false, false, false] rfl rfl (any_of HT_.out (by kernel_rfl)) (fun _ _ _ h => h) (Or.inl ⟨by rfl, ?_⟩) ?_ ?_
                    rotate_left
                    · intro w'
                      go_simp
                      with_reducible rfl
                    rotate_left
                    · simp only [Act.put, List.setIfInBounds_toArray, List.set_cons_zero, List.set_cons_succ, i64_w, i32_w]
                      rfl
                    refine pure_ (i := 5) (N := some 56) (v := ?_) (a' := ?_) #[true, true, true, true, true, true, false, false, false, false, false, false, false, false, false, false, false, false, false, false, false, false, false, false, false, false, false, false, false, false, false, false] rfl rfl (any_of HT_.out (by kernel_rfl)) (fun _ _ _ h => h) (Or.inl ⟨by rfl, ?_⟩) ?_ ?_
                    rotate_left
                    · intro w'
                      go_simp
                      with_reducible rfl
                    rotate_left
                    · simp only [Act.put, List.setIfInBounds_toArray, List.set_cons_zero, List.set_cons_succ, i64_w, i32_w]
                      rfl
                    refine pure_ (i := 6) (N := some 57) (v := ?_) (a' := ?_) #[true, true, true, true, true, true, true, false, false, false, false, false, false, false, false, false, false, false, false, false, false, false, false, false, false, false, false, false, false, false, false, false] rfl rfl (any_of HT_.out (by kernel_rfl)) (fun _ _ _ h => h) (Or.inl ⟨by rfl, ?_⟩) ?_ ?_
                    rotate_left
                    · intro w'
                      go_simp
                      with_reducible rfl
                    rotate_left
                    · simp only [Act.put, List.setIfInBounds_toArray, List.set_cons_zero, List.set_cons_succ, i64_w, i32_w]
                      rfl
                    refine pure_ (i := 7) (N := some 58) (v := ?_) (a' := ?_) #[true, true, true, true, true, true, true, true, false, false, false, false, false, false, false, false, false, false, false, false, false, false, false, false, false, false, false, false, false, false, false, false] rfl rfl (any_of HT_.out (by kernel_rfl)) (fun _ _ _ h => h) (Or.inl ⟨by rfl, ?_⟩) ?_ ?_
                    rotate_left
                    · intro w'
                      go_simp
                      with_reducible rfl
                    rotate_left
                    · simp only [Act.put, List.setIfInBounds_toArray, List.set_cons_zero, List.set_cons_succ, i64_w, i32_w]
                      rfl
                    refine pure_ (i := 8) (N := some 59) (v := ?_) (a' := ?_) #[true, true, true, true, true, true, true, true, true, false, false, false, false, false, false, false, false, false, false, false, false, false, false, false, false, false, false, false, false, false, false, false] rfl rfl (any_of HT_.out (by kernel_rfl)) (fun _ _ _ h => h) (Or.inl ⟨by rfl, ?_⟩) ?_ ?_
                    rotate_left
                    · intro w'
                      go_simp
                      with_reducible rfl
                    rotate_left
                    · simp only [Act.put, List.setIfInBounds_toArray, List.set_cons_zero, List.set_cons_succ, i64_w, i32_w]
                      rfl
                    refine take_ (i := 9) (N := some 60) (v := ?_) (a' := ?_) #[true, true, true, true, true, true, true, true, true, true, false, false, false, false, false, false, false, false, false, false, false, false, false, false, false, false, false, false, false, false, false, false] rfl rfl (take_ofW HT_.out HW_.out (by kernel_rfl)) (fun _ _ _ h => h) (Or.inl ⟨by rfl, ?_⟩) hHeld ?_ ?_
                    rotate_left
                    · rintro w' ⟨s0, s1, s2, s3, s4, s5, s6, s7, s8, s9, s10, s11, s12, s13, s14, s15, s16, s17, s18, s19, s20, s21, s22, s23, s24, s25, s26⟩
                      go_simp
                      with_reducible rfl
                    rotate_left
                    · simp only [Act.put, List.setIfInBounds_toArray, List.set_cons_zero, List.set_cons_succ, i64_w, i32_w]
                      rfl
                    refine take_ (i := 12) (N := some 63) (v := ?_) (a' := ?_) #[true, true, true, true, true, true, true, true, true, true, false, false, true, false, false, false, false, false, false, false, false, false, false, false, false, false, false, false, false, false, false, false] rfl rfl (take_ofW HT_.out HW_.out (by kernel_rfl)) (fun _ _ _ h => h) (Or.inl ⟨by rfl, ?_⟩) hHeld ?_ ?_
                    rotate_left
                    · rintro w' ⟨s0, s1, s2, s3, s4, s5, s6, s7, s8, s9, s10, s11, s12, s13, s14, s15, s16, s17, s18, s19, s20, s21, s22, s23, s24, s25, s26⟩
                      go_simp
                      with_reducible rfl
                    rotate_left
                    · simp only [Act.put, List.setIfInBounds_toArray, List.set_cons_zero, List.set_cons_succ, i64_w, i32_w]
                      rfl
                    refine one_ (i := 10) (N := some 61) #[true, true, true, true, true, true, true, true, true, true, true, false, true, false, false, false, false, false, false, false, false, false, false, false, false, false, false, false, false, false, false, false] rfl rfl (one_of HT_.out (by kernel_rfl)) (by decide) (fun K hK => ?_)
                    refine goes_ Try.func109 (by kernel_rfl) rfl #[.agg #[.int .i64 a0_0, .int .i64 a0_1, .int .u32 a0_2, .int .u32 a0_3, .int .i64 a0_4, .int .i64 a0_5, .int .i64 a0_6, .string a0_7, .string a0_8]] (by rfl) rfl rfl (by (try simp only [List.map_toArray, List.map_cons, List.map_nil]); first | done | rfl | (simp only [List.length_drop, List.length_take]; rfl)) ?_
                    with_reducible refine (tcp_Check.calls a0_0 a0_1 a0_2 a0_3 a0_4 a0_5 a0_6 a0_7 a0_8 t645 _ A22.out).mono ?_
                    rintro e w42 ⟨rfl, hb⟩
                    refine ⟨_, rfl, ?_⟩
                    have n0_ := Aside0.mk (blk_below (g := gb614) (o := .cells #[.int .i64 a0_0, .int .i64 a0_1, .int .u32 a0_2, .int .u32 a0_3, .int .i64 a0_4, .int .i64 a0_5, .int .i64 a0_6, .string a0_7, .string a0_8] 127 (0, 0)) (by (with_reducible repeat (first | refine blk_drewN ?_ _ | refine blk_drew ?_ | refine blk_alloc ?_ _)); exact BK614.out) hb)
                    have n1_ := Aside0.mk (blk_below (g := gb632) (o := .cells #[.int .i64 t621, .int .i64 t622, .int .u32 t623, .int .u32 t624, .int .i64 t625, .int .i64 t626, .int .i64 t627, .string t628, .string t629] 127 (0, 0)) (by (with_reducible repeat (first | refine blk_drewN ?_ _ | refine blk_drew ?_ | refine blk_alloc ?_ _)); exact BK632.out) hb)
                    have n2_ := Aside0.mk (blk_below (g := gb644) (o := .cells #[.int .i64 t633, .int .i64 t634, .int .u32 t635, .int .u32 t636, .int .i64 t637, .int .i64 t638, .int .i64 t639, .string t640, .string t641] 127 (0, 0)) (by (with_reducible repeat (first | refine blk_drewN ?_ _ | refine blk_drew ?_ | refine blk_alloc ?_ _)); exact BK644.out) hb)
                    have n3_ := Aside0.mk (below_step (by repeat (first | (with_reducible first | exact HB.out | apply below_alloc | apply pw_below_drewN | apply below_drew1 | refine below_set ?_ GE614.out | refine below_set ?_ GE632.out | refine below_set ?_ GE644.out) | exact HB.out)) hb)
                    clear BK614
                    clear BK632
                    clear BK644
                    clear HB
                    have BK614 := n0_
                    have BK632 := n1_
                    have BK644 := n2_
                    have HB := n3_
                    clear n0_ n1_ n2_ n3_
                    (try clear hb)
                    (try clear hb2)
                    (try clear hk)
                    (try clear hi)
                    refine hK.out _ _ ⟨(blk_cell BK614.out 0).trans rfl, (blk_cell BK614.out 1).trans rfl, (blk_cell BK614.out 2).trans rfl, (blk_cell BK614.out 3).trans rfl, (blk_cell BK614.out 4).trans rfl, (blk_cell BK614.out 5).trans rfl, (blk_cell BK614.out 6).trans rfl, (blk_cell BK614.out 7).trans rfl, (blk_cell BK614.out 8).trans rfl, (blk_cell BK632.out 0).trans rfl, (blk_cell BK632.out 1).trans rfl, (blk_cell BK632.out 2).trans rfl, (blk_cell BK632.out 3).trans rfl, (blk_cell BK632.out 4).trans rfl, (blk_cell BK632.out 5).trans rfl, (blk_cell BK632.out 6).trans rfl, (blk_cell BK632.out 7).trans rfl, (blk_cell BK632.out 8).trans rfl, (blk_cell BK644.out 0).trans rfl, (blk_cell BK644.out 1).trans rfl, (blk_cell BK644.out 2).trans rfl, (blk_cell BK644.out 3).trans rfl, (blk_cell BK644.out 4).trans rfl, (blk_cell BK644.out 5).trans rfl, (blk_cell BK644.out 6).trans rfl, (blk_cell BK644.out 7).trans rfl, (blk_cell BK644.out 8).trans rfl⟩ (fun hHeld => ?_)
                    clear hK K
                    refine norm_ (a' := ?_) ?_ ?_
                    rotate_left
                    · show Act.put _ (some 61) _ = _
                      simp only [Act.put, List.setIfInBounds_toArray, List.set_cons_zero, List.set_cons_succ, i64_w, i32_w]
                      rfl
                    refine pure_ (i := 11) (N := some 62) (v := ?_) (a' := ?_) #[true, true, true, true, true, true, true, true, true, true, true, true, true, false, false, false, false, false, false, false, false, false, false, false, false, false, false, false, false, false, false, false] rfl rfl (any_of HT_.out (by kernel_rfl)) (fun _ _ _ h => h) (Or.inl ⟨by rfl, ?_⟩) ?_ ?_
                    rotate_left
                    · intro w'
                      go_simp
                      with_reducible rfl
                    rotate_left
                    · simp only [Act.put, List.setIfInBounds_toArray, List.set_cons_zero, List.set_cons_succ, i64_w, i32_w]
                      rfl
                    refine one_ (i := 13) (N := some 64) #[true, true, true, true, true, true, true, true, true, true, true, true, true, true, false, false, false, false, false, false, false, false, false, false, false, false, false, false, false, false, false, false] rfl rfl (one_of HT_.out (by kernel_rfl)) (by decide) (fun K hK => ?_)
                    refine goes_ Try.func110 (by kernel_rfl) rfl #[.agg #[.int .i64 a0_0, .int .i64 a0_1, .int .u32 a0_2, .int .u32 a0_3, .int .i64 a0_4, .int .i64 a0_5, .int .i64 a0_6, .string a0_7, .string a0_8]] (by rfl) rfl rfl (by (try simp only [List.map_toArray, List.map_cons, List.map_nil]); first | done | rfl | (simp only [List.length_drop, List.length_take]; rfl)) ?_
                    with_reducible refine (palanquinref07_May.calls a0_0 a0_1 a0_2 a0_3 a0_4 a0_5 a0_6 a0_7 a0_8 t646 _ A23.out).mono ?_
                    rintro e w43 ⟨rfl, hb⟩
                    refine ⟨_, rfl, ?_⟩
                    have n0_ := Aside0.mk (blk_below (g := gb614) (o := .cells #[.int .i64 a0_0, .int .i64 a0_1, .int .u32 a0_2, .int .u32 a0_3, .int .i64 a0_4, .int .i64 a0_5, .int .i64 a0_6, .string a0_7, .string a0_8] 127 (0, 0)) (by (with_reducible repeat (first | refine blk_drewN ?_ _ | refine blk_drew ?_ | refine blk_alloc ?_ _)); exact BK614.out) hb)
                    have n1_ := Aside0.mk (blk_below (g := gb632) (o := .cells #[.int .i64 t621, .int .i64 t622, .int .u32 t623, .int .u32 t624, .int .i64 t625, .int .i64 t626, .int .i64 t627, .string t628, .string t629] 127 (0, 0)) (by (with_reducible repeat (first | refine blk_drewN ?_ _ | refine blk_drew ?_ | refine blk_alloc ?_ _)); exact BK632.out) hb)
                    have n2_ := Aside0.mk (blk_below (g := gb644) (o := .cells #[.int .i64 t633, .int .i64 t634, .int .u32 t635, .int .u32 t636, .int .i64 t637, .int .i64 t638, .int .i64 t639, .string t640, .string t641] 127 (0, 0)) (by (with_reducible repeat (first | refine blk_drewN ?_ _ | refine blk_drew ?_ | refine blk_alloc ?_ _)); exact BK644.out) hb)
                    have n3_ := Aside0.mk (below_step (by repeat (first | (with_reducible first | exact HB.out | apply below_alloc | apply pw_below_drewN | apply below_drew1 | refine below_set ?_ GE614.out | refine below_set ?_ GE632.out | refine below_set ?_ GE644.out) | exact HB.out)) hb)
                    clear BK614
                    clear BK632
                    clear BK644
                    clear HB
                    have BK614 := n0_
                    have BK632 := n1_
                    have BK644 := n2_
                    have HB := n3_
                    clear n0_ n1_ n2_ n3_
                    (try clear hb)
                    (try clear hb2)
                    (try clear hk)
                    (try clear hi)
                    refine hK.out _ _ ⟨(blk_cell BK614.out 0).trans rfl, (blk_cell BK614.out 1).trans rfl, (blk_cell BK614.out 2).trans rfl, (blk_cell BK614.out 3).trans rfl, (blk_cell BK614.out 4).trans rfl, (blk_cell BK614.out 5).trans rfl, (blk_cell BK614.out 6).trans rfl, (blk_cell BK614.out 7).trans rfl, (blk_cell BK614.out 8).trans rfl, (blk_cell BK632.out 0).trans rfl, (blk_cell BK632.out 1).trans rfl, (blk_cell BK632.out 2).trans rfl, (blk_cell BK632.out 3).trans rfl, (blk_cell BK632.out 4).trans rfl, (blk_cell BK632.out 5).trans rfl, (blk_cell BK632.out 6).trans rfl, (blk_cell BK632.out 7).trans rfl, (blk_cell BK632.out 8).trans rfl, (blk_cell BK644.out 0).trans rfl, (blk_cell BK644.out 1).trans rfl, (blk_cell BK644.out 2).trans rfl, (blk_cell BK644.out 3).trans rfl, (blk_cell BK644.out 4).trans rfl, (blk_cell BK644.out 5).trans rfl, (blk_cell BK644.out 6).trans rfl, (blk_cell BK644.out 7).trans rfl, (blk_cell BK644.out 8).trans rfl⟩ (fun hHeld => ?_)
                    clear hK K
                    refine norm_ (a' := ?_) ?_ ?_
                    rotate_left
                    · show Act.put _ (some 64) _ = _
                      simp only [Act.put, List.setIfInBounds_toArray, List.set_cons_zero, List.set_cons_succ, i64_w, i32_w]
                      rfl
                    refine pure_ (i := 14) (N := some 65) (v := ?_) (a' := ?_) #[true, true, true, true, true, true, true, true, true, true, true, true, true, true, true, false, false, false, false, false, false, false, false, false, false, false, false, false, false, false, false, false] rfl rfl (any_of HT_.out (by kernel_rfl)) (fun _ _ _ h => h) (Or.inl ⟨by rfl, ?_⟩) ?_ ?_
                    rotate_left
                    · intro w'
                      go_simp
                      with_reducible rfl
                    rotate_left
                    · simp only [Act.put, List.setIfInBounds_toArray, List.set_cons_zero, List.set_cons_succ, i64_w, i32_w]
                      rfl
                    refine pure_ (i := 15) (N := some 66) (v := ?_) (a' := ?_) #[true, true, true, true, true, true, true, true, true, true, true, true, true, true, true, true, false, false, false, false, false, false, false, false, false, false, false, false, false, false, false, false] rfl rfl (any_of HT_.out (by kernel_rfl)) (fun _ _ _ h => h) (Or.inl ⟨by rfl, ?_⟩) ?_ ?_
                    rotate_left
                    · intro w'
                      go_simp
                      with_reducible rfl
                    rotate_left
                    · simp only [Act.put, List.setIfInBounds_toArray, List.set_cons_zero, List.set_cons_succ, i64_w, i32_w]
                      rfl
                    refine pure_ (i := 16) (N := some 67) (v := ?_) (a' := ?_) #[true, true, true, true, true, true, true, true, true, true, true, true, true, true, true, true, true, false, false, false, false, false, false, false, false, false, false, false, false, false, false, false] rfl rfl (any_of HT_.out (by kernel_rfl)) (fun _ _ _ h => h) (Or.inl ⟨by rfl, ?_⟩) ?_ ?_
                    rotate_left
                    · intro w'
                      go_simp
                      with_reducible rfl
                    rotate_left
                    · simp only [Act.put, List.setIfInBounds_toArray, List.set_cons_zero, List.set_cons_succ, i64_w, i32_w]
                      rfl
                    refine take_ (i := 17) (N := some 68) (v := ?_) (a' := ?_) #[true, true, true, true, true, true, true, true, true, true, true, true, true, true, true, true, true, true, false, false, false, false, false, false, false, false, false, false, false, false, false, false] rfl rfl (take_ofW HT_.out HW_.out (by kernel_rfl)) (fun _ _ _ h => h) (Or.inl ⟨by rfl, ?_⟩) hHeld ?_ ?_
                    rotate_left
                    · rintro w' ⟨s0, s1, s2, s3, s4, s5, s6, s7, s8, s9, s10, s11, s12, s13, s14, s15, s16, s17, s18, s19, s20, s21, s22, s23, s24, s25, s26⟩
                      go_simp
                      with_reducible rfl
                    rotate_left
                    · simp only [Act.put, List.setIfInBounds_toArray, List.set_cons_zero, List.set_cons_succ, i64_w, i32_w]
                      rfl
                    refine take_ (i := 18) (N := some 69) (v := ?_) (a' := ?_) #[true, true, true, true, true, true, true, true, true, true, true, true, true, true, true, true, true, true, true, false, false, false, false, false, false, false, false, false, false, false, false, false] rfl rfl (take_ofW HT_.out HW_.out (by kernel_rfl)) (fun _ _ _ h => h) (Or.inl ⟨by rfl, ?_⟩) hHeld ?_ ?_
                    rotate_left
                    · rintro w' ⟨s0, s1, s2, s3, s4, s5, s6, s7, s8, s9, s10, s11, s12, s13, s14, s15, s16, s17, s18, s19, s20, s21, s22, s23, s24, s25, s26⟩
                      go_simp
                      with_reducible rfl
                    rotate_left
                    · simp only [Act.put, List.setIfInBounds_toArray, List.set_cons_zero, List.set_cons_succ, i64_w, i32_w]
                      rfl
                    refine pure_ (i := 19) (N := some 70) (v := ?_) (a' := ?_) #[true, true, true, true, true, true, true, true, true, true, true, true, true, true, true, true, true, true, true, true, false, false, false, false, false, false, false, false, false, false, false, false] rfl rfl (any_of HT_.out (by kernel_rfl)) (fun _ _ _ h => h) (Or.inl ⟨by rfl, ?_⟩) ?_ ?_
                    rotate_left
                    · intro w'
                      go_simp
                      with_reducible rfl
                    rotate_left
                    · simp only [Act.put, List.setIfInBounds_toArray, List.set_cons_zero, List.set_cons_succ, i64_w, i32_w]
                      rfl
                    refine pure_ (i := 20) (N := some 71) (v := ?_) (a' := ?_) #[true, true, true, true, true, true, true, true, true, true, true, true, true, true, true, true, true, true, true, true, true, false, false, false, false, false, false, false, false, false, false, false] rfl rfl (any_of HT_.out (by kernel_rfl)) (fun _ _ _ h => h) (Or.inl ⟨by rfl, ?_⟩) ?_ ?_
                    rotate_left
                    · intro w'
                      go_simp
                      with_reducible rfl
                    rotate_left
                    · simp only [Act.put, List.setIfInBounds_toArray, List.set_cons_zero, List.set_cons_succ, i64_w, i32_w]
                      rfl
                    refine pure_ (i := 21) (N := some 72) (v := ?_) (a' := ?_) #[true, true, true, true, true, true, true, true, true, true, true, true, true, true, true, true, true, true, true, true, true, true, false, false, false, false, false, false, false, false, false, false] rfl rfl (any_of HT_.out (by kernel_rfl)) (fun _ _ _ h => h) (Or.inl ⟨by rfl, ?_⟩) ?_ ?_
                    rotate_left
                    · intro w'
                      go_simp
                      with_reducible rfl
                    rotate_left
                    · simp only [Act.put, List.setIfInBounds_toArray, List.set_cons_zero, List.set_cons_succ, i64_w, i32_w]
                      rfl
                    refine pure_ (i := 22) (N := some 73) (v := ?_) (a' := ?_) #[true, true, true, true, true, true, true, true, true, true, true, true, true, true, true, true, true, true, true, true, true, true, true, false, false, false, false, false, false, false, false, false] rfl rfl (any_of HT_.out (by kernel_rfl)) (fun _ _ _ h => h) (Or.inl ⟨by rfl, ?_⟩) ?_ ?_
                    rotate_left
                    · intro w'
                      go_simp
                      with_reducible rfl
                    rotate_left
                    · simp only [Act.put, List.setIfInBounds_toArray, List.set_cons_zero, List.set_cons_succ, i64_w, i32_w]
                      rfl
                    refine pure_ (i := 23) (N := some 74) (v := ?_) (a' := ?_) #[true, true, true, true, true, true, true, true, true, true, true, true, true, true, true, true, true, true, true, true, true, true, true, true, false, false, false, false, false, false, false, false] rfl rfl (any_of HT_.out (by kernel_rfl)) (fun _ _ _ h => h) (Or.inl ⟨by rfl, ?_⟩) ?_ ?_
                    rotate_left
                    · intro w'
                      go_simp
                      with_reducible rfl
                    rotate_left
                    · simp only [Act.put, List.setIfInBounds_toArray, List.set_cons_zero, List.set_cons_succ, i64_w, i32_w]
                      rfl
                    refine pure_ (i := 24) (N := some 75) (v := ?_) (a' := ?_) #[true, true, true, true, true, true, true, true, true, true, true, true, true, true, true, true, true, true, true, true, true, true, true, true, true, false, false, false, false, false, false, false] rfl rfl (any_of HT_.out (by kernel_rfl)) (fun _ _ _ h => h) (Or.inl ⟨by rfl, ?_⟩) ?_ ?_
                    rotate_left
                    · intro w'
                      go_simp
                      with_reducible rfl
                    rotate_left
                    · simp only [Act.put, List.setIfInBounds_toArray, List.set_cons_zero, List.set_cons_succ, i64_w, i32_w]
                      rfl
                    refine pure_ (i := 25) (N := some 76) (v := ?_) (a' := ?_) #[true, true, true, true, true, true, true, true, true, true, true, true, true, true, true, true, true, true, true, true, true, true, true, true, true, true, false, false, false, false, false, false] rfl rfl (any_of HT_.out (by kernel_rfl)) (fun _ _ _ h => h) (Or.inl ⟨by rfl, ?_⟩) ?_ ?_
                    rotate_left
                    · intro w'
                      go_simp
                      with_reducible rfl
                    rotate_left
                    · simp only [Act.put, List.setIfInBounds_toArray, List.set_cons_zero, List.set_cons_succ, i64_w, i32_w]
                      rfl
                    refine pure_ (i := 26) (N := some 77) (v := ?_) (a' := ?_) #[true, true, true, true, true, true, true, true, true, true, true, true, true, true, true, true, true, true, true, true, true, true, true, true, true, true, true, false, false, false, false, false] rfl rfl (any_of HT_.out (by kernel_rfl)) (fun _ _ _ h => h) (Or.inl ⟨by rfl, ?_⟩) ?_ ?_
                    rotate_left
                    · intro w'
                      go_simp
                      with_reducible rfl
                    rotate_left
                    · simp only [Act.put, List.setIfInBounds_toArray, List.set_cons_zero, List.set_cons_succ, i64_w, i32_w]
                      rfl
                    refine pure_ (i := 27) (N := some 78) (v := ?_) (a' := ?_) #[true, true, true, true, true, true, true, true, true, true, true, true, true, true, true, true, true, true, true, true, true, true, true, true, true, true, true, true, false, false, false, false] rfl rfl (any_of HT_.out (by kernel_rfl)) (fun _ _ _ h => h) (Or.inl ⟨by rfl, ?_⟩) ?_ ?_
                    rotate_left
                    · intro w'
                      go_simp
                      with_reducible rfl
                    rotate_left
                    · simp only [Act.put, List.setIfInBounds_toArray, List.set_cons_zero, List.set_cons_succ, i64_w, i32_w]
                      rfl
                    refine pure_ (i := 28) (N := some 79) (v := ?_) (a' := ?_) #[true, true, true, true, true, true, true, true, true, true, true, true, true, true, true, true, true, true, true, true, true, true, true, true, true, true, true, true, true, false, false, false] rfl rfl (any_of HT_.out (by kernel_rfl)) (fun _ _ _ h => h) (Or.inl ⟨by rfl, ?_⟩) ?_ ?_
                    rotate_left
                    · intro w'
                      go_simp
                      with_reducible rfl
                    rotate_left
                    · simp only [Act.put, List.setIfInBounds_toArray, List.set_cons_zero, List.set_cons_succ, i64_w, i32_w]
                      rfl
                    refine pure_ (i := 29) (N := some 80) (v := ?_) (a' := ?_) #[true, true, true, true, true, true, true, true, true, true, true, true, true, true, true, true, true, true, true, true, true, true, true, true, true, true, true, true, true, true, false, false] rfl rfl (any_of HT_.out (by kernel_rfl)) (fun _ _ _ h => h) (Or.inl ⟨by rfl, ?_⟩) ?_ ?_
                    rotate_left
                    · intro w'
                      go_simp
                      with_reducible rfl
                    rotate_left
                    · simp only [Act.put, List.setIfInBounds_toArray, List.set_cons_zero, List.set_cons_succ, i64_w, i32_w]
                      rfl
                    refine pure_ (i := 30) (N := some 81) (v := ?_) (a' := ?_) #[true, true, true, true, true, true, true, true, true, true, true, true, true, true, true, true, true, true, true, true, true, true, true, true, true, true, true, true, true, true, true, false] rfl rfl (any_of HT_.out (by kernel_rfl)) (fun _ _ _ h => h) (Or.inl ⟨by rfl, ?_⟩) ?_ ?_
                    rotate_left
                    · intro w'
                      go_simp
                      with_reducible rfl
                    rotate_left
                    · simp only [Act.put, List.setIfInBounds_toArray, List.set_cons_zero, List.set_cons_succ, i64_w, i32_w]
                      rfl
                    refine pure_ (i := 31) (N := some 6) (v := ?_) (a' := ?_) #[true, true, true, true, true, true, true, true, true, true, true, true, true, true, true, true, true, true, true, true, true, true, true, true, true, true, true, true, true, true, true, true] rfl rfl (any_of HT_.out (by kernel_rfl)) (fun _ _ _ h => h) (Or.inl ⟨by rfl, ?_⟩) ?_ ?_
                    rotate_left
                    · intro w'
                      go_simp
                      with_reducible rfl
                    rotate_left
                    · simp only [Act.put, List.setIfInBounds_toArray, List.set_cons_zero, List.set_cons_succ, i64_w, i32_w]
                      rfl
                    refine done_ (done_of HT_.out (by kernel_rfl)) ?_
                    try go_wp2
                    go_ret
                    exact ⟨by first | rfl | (simp [errW_none, errW_some] <;> rfl) | (simp [*, errW_none, errW_some] <;> rfl), by repeat (first | (with_reducible first | exact HB.out | apply below_alloc | apply pw_below_drewN | apply below_drew1 | refine below_set ?_ GE614.out | refine below_set ?_ GE632.out | refine below_set ?_ GE644.out) | exact HB.out)⟩
                  · rw [if_neg c26] at H
                    exact absurd ((Option.some.inj H).trans hrt_.out) (by decide)
                · rw [if_neg c25] at H
                  exact absurd ((Option.some.inj H).trans hrt_.out) (by decide)
              · rw [if_neg c24] at H
                exact absurd ((Option.some.inj H).trans hrt_.out) (by decide)
            · rw [if_neg c21] at H
              exact absurd ((Option.some.inj H).trans hrt_.out) (by decide)
          · rw [if_neg c20] at H
            exact absurd ((Option.some.inj H).trans hrt_.out) (by decide)
  · replace c5 := Bool.eq_false_iff.mpr c5
    subst c5
    have H1 : (some false) = some r := by rw [if_neg (show ¬ (false = true) by decide)] at H; exact H
    exact absurd ((Option.some.inj H1).trans hrt_.out) (by decide)
end Go.Proofs.Ytejmipoolbodgaa.G
end
