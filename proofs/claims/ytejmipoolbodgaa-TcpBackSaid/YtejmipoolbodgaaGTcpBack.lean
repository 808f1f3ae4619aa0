-- Laid by a program of this session (wip/gen/gprint.py) over the translation's print. Lean checks it.
import Derived.Test.YtejmipoolbodgaaG0
import Derived.Test.YtejmipoolbodgaaGEq5
import Derived.Test.YtejmipoolbodgaaGlaw07
import Derived.Test.YtejmipoolbodgaaHTcp
import Derived.Test.YtejmipoolbodgaaHTcpM
import Derived.Test.YtejmipoolbodgaaHTcpR
namespace Go.Proofs.Ytejmipoolbodgaa.G
open Go.RowKit Go.Proofs.YtejmipoolbodgaaW.PrintWords Go.Proofs.YtejmipoolbodgaaW.PrintLast Go.Proofs.YtejmipoolbodgaaW.PrintMore
attribute [local go_sem] max2_int min2_int max_two min_two max_three min_three max_four min_four   -- for this text's walks alone
set_option linter.unusedVariables false
set_option linter.unusedSimpArgs false

attribute [local go_sem high] eqA127
/-! ### palanquinlaw07_TcpBack: function 27 -/
mutual
def palanquinlaw07_TcpBack.j0 : Nat → Int → ByteArray → Bool → Int → Int → Int → Int → Int → Int → Int → ByteArray → ByteArray → Option (Bool)
  | 0, _, _, _, _, _, _, _, _, _, _, _, _ => none
  | k + 1, x1, x2, x26, x716000, x716001, x716002, x716003, x716004, x716005, x716006, x716007, x716008 => if x26 = true then (some true) else ((tcp_Put.f x716000 x716001 x716002 x716003 x716004 x716005 x716006 x716007 x716008 x1).bind fun bt718 => (if bt718.2 = 0 then ((tcp_Get.f bt718.1).bind fun bt720 => ((tcp_Right.f x716007).bind fun t732 => (if (t732 != (bt720.2.2.2.2.2.2.2.2.2.2 == 0)) = true then (some false) else (if bt720.2.2.2.2.2.2.2.2.2.2 = 0 then (if (!(bt720.1 == x716000) || (!(bt720.2.1 == x716001) || (!(bt720.2.2.1 == x716002) || (!(bt720.2.2.2.1 == x716003) || (!(bt720.2.2.2.2.1 == x716004) || (!(bt720.2.2.2.2.2.1 == x716005) || (!(bt720.2.2.2.2.2.2.1 == x716006) || (!(bt720.2.2.2.2.2.2.2.1.toList == x716007.toList) || (!(bt720.2.2.2.2.2.2.2.2.1.toList == x716008.toList)))))))))) = true then (some false) else (if bt720.2.2.2.2.2.2.2.2.2.1 = x1 then (palanquinlaw07_TcpBack.j1 k x2) else (some false))) else (if bt720.2.2.2.2.2.2.2.2.2.2 = 4 then (palanquinlaw07_TcpBack.j1 k x2) else (some false)))))) else (if bt718.1.toList = ([] : List UInt8) then (palanquinlaw07_TcpBack.j1 k x2) else (some false))))
def palanquinlaw07_TcpBack.j1 : Nat → ByteArray → Option (Bool)
  | 0, _ => none
  | k + 1, x2 => (tcp_Get.f x2).bind fun bt733 => (if bt733.2.2.2.2.2.2.2.2.2.2 = 0 then ((tcp_Put.f bt733.1 bt733.2.1 bt733.2.2.1 bt733.2.2.2.1 bt733.2.2.2.2.1 bt733.2.2.2.2.2.1 bt733.2.2.2.2.2.2.1 bt733.2.2.2.2.2.2.2.1 bt733.2.2.2.2.2.2.2.2.1 bt733.2.2.2.2.2.2.2.2.2.1).bind fun bt745 => (if bt745.2 = 0 then (some (bt745.1.toList == x2.toList)) else (some false))) else (if (bt733.1 == 0 && (bt733.2.1 == 0 && (bt733.2.2.1 == 0 && (bt733.2.2.2.1 == 0 && (bt733.2.2.2.2.1 == 0 && (bt733.2.2.2.2.2.1 == 0 && (bt733.2.2.2.2.2.2.1 == 0 && (bt733.2.2.2.2.2.2.2.1.toList == ([] : List UInt8) && (bt733.2.2.2.2.2.2.2.2.1.toList == ([] : List UInt8)))))))))) = true then (some (bt733.2.2.2.2.2.2.2.2.2.1 == 0)) else (some false)))
end
def palanquinlaw07_TcpBack.f (k : Nat) (a0_0 : Int) (a0_1 : Int) (a0_2 : Int) (a0_3 : Int) (a0_4 : Int) (a0_5 : Int) (a0_6 : Int) (a0_7 : ByteArray) (a0_8 : ByteArray) (a1 : Int) (a2 : ByteArray) : Option (Bool) := (palanquinlaw07_awake.f).bind fun t716 => (if t716 = true then ((palanquinlaw07_few.f a0_0 a0_1 a0_2 a0_3 a0_4 a0_5 a0_6 a0_7 a0_8).bind fun t717 => (if t717 = true then (palanquinlaw07_TcpBack.j0 k a1 a2 (decide ((a2.size : Int) > 5000)) a0_0 a0_1 a0_2 a0_3 a0_4 a0_5 a0_6 a0_7 a0_8) else (palanquinlaw07_TcpBack.j0 k a1 a2 true a0_0 a0_1 a0_2 a0_3 a0_4 a0_5 a0_6 a0_7 a0_8))) else (some false))
theorem palanquinlaw07_TcpBack.mono_l : ∀ k, (∀ y0 y1 y2 y3 y4 y5 y6 y7 y8 y9 y10 y11, LeO (palanquinlaw07_TcpBack.j0 k y0 y1 y2 y3 y4 y5 y6 y7 y8 y9 y10 y11) (palanquinlaw07_TcpBack.j0 (k + 1) y0 y1 y2 y3 y4 y5 y6 y7 y8 y9 y10 y11)) ∧ (∀ y0, LeO (palanquinlaw07_TcpBack.j1 k y0) (palanquinlaw07_TcpBack.j1 (k + 1) y0))
  | 0 => ⟨fun _ _ _ _ _ _ _ _ _ _ _ _ r h => by simp [palanquinlaw07_TcpBack.j0] at h, fun _ r h => by simp [palanquinlaw07_TcpBack.j1] at h⟩
  | k + 1 => by
    obtain ⟨ih0, ih1⟩ := palanquinlaw07_TcpBack.mono_l k
    refine ⟨?_, ?_⟩
    · intro y0 y1 y2 y3 y4 y5 y6 y7 y8 y9 y10 y11
      unfold palanquinlaw07_TcpBack.j0
      repeat' first
      | (with_reducible exact ih0 _ _ _ _ _ _ _ _ _ _ _ _)
      | (with_reducible exact ih1 _)
      | (with_reducible exact LeO.refl _)
      | (with_reducible exact LeO.none _)
      | (with_reducible refine LeO.ite ?_ ?_)
      | (with_reducible refine LeO.bind ?_ (fun _ => ?_))
      | exact ih0 _ _ _ _ _ _ _ _ _ _ _ _
      | exact ih1 _
      | exact LeO.none _
      | refine LeO.ite ?_ ?_
      | refine LeO.bind ?_ (fun _ => ?_)
    · intro y0
      unfold palanquinlaw07_TcpBack.j1
      repeat' first
      | (with_reducible exact ih0 _ _ _ _ _ _ _ _ _ _ _ _)
      | (with_reducible exact ih1 _)
      | (with_reducible exact LeO.refl _)
      | (with_reducible exact LeO.none _)
      | (with_reducible refine LeO.ite ?_ ?_)
      | (with_reducible refine LeO.bind ?_ (fun _ => ?_))
      | exact ih0 _ _ _ _ _ _ _ _ _ _ _ _
      | exact ih1 _
      | exact LeO.none _
      | refine LeO.ite ?_ ?_
      | refine LeO.bind ?_ (fun _ => ?_)
theorem palanquinlaw07_TcpBack.mono : ∀ a0 a1 a2 a3 a4 a5 a6 a7 a8 a9 a10 k, LeO (palanquinlaw07_TcpBack.f k a0 a1 a2 a3 a4 a5 a6 a7 a8 a9 a10) (palanquinlaw07_TcpBack.f (k + 1) a0 a1 a2 a3 a4 a5 a6 a7 a8 a9 a10) := by
  intro a0 a1 a2 a3 a4 a5 a6 a7 a8 a9 a10 k
  obtain ⟨ih0, ih1⟩ := palanquinlaw07_TcpBack.mono_l k
  unfold palanquinlaw07_TcpBack.f
  repeat' first
      | (with_reducible exact ih0 _ _ _ _ _ _ _ _ _ _ _ _)
      | (with_reducible exact ih1 _)
      | (with_reducible exact LeO.refl _)
      | (with_reducible exact LeO.none _)
      | (with_reducible refine LeO.ite ?_ ?_)
      | (with_reducible refine LeO.bind ?_ (fun _ => ?_))
      | exact ih0 _ _ _ _ _ _ _ _ _ _ _ _
      | exact ih1 _
      | exact LeO.none _
      | refine LeO.ite ?_ ?_
      | refine LeO.bind ?_ (fun _ => ?_)
set_option maxHeartbeats 8000000 in
set_option maxRecDepth 100000 in
theorem palanquinlaw07_TcpBack.calls (k : Nat) (a0_0 : Int) (a0_1 : Int) (a0_2 : Int) (a0_3 : Int) (a0_4 : Int) (a0_5 : Int) (a0_6 : Int) (a0_7 : ByteArray) (a0_8 : ByteArray) (a1 : Int) (a2 : ByteArray) (r : Bool) (w : World) (h : palanquinlaw07_TcpBack.f k a0_0 a0_1 a0_2 a0_3 a0_4 a0_5 a0_6 a0_7 a0_8 a1 a2 = some r) (hrt_ : Aside0 (r = true)) :
    Calls Try.prog 27 #[.agg #[.int .i64 a0_0, .int .i64 a0_1, .int .u32 a0_2, .int .u32 a0_3, .int .i64 a0_4, .int .i64 a0_5, .int .i64 a0_6, .string a0_7, .string a0_8], .int .i64 a1, .string a2] w fun e w' => e = .returned (.bool r) ∧ Below w.heap.size w w' := by
  have hu127 := Try.underlying127
  have HB := Aside0.mk (Below.refl w.heap.size w)
  have H : ((palanquinlaw07_awake.f).bind fun t716 => (if t716 = true then ((palanquinlaw07_few.f a0_0 a0_1 a0_2 a0_3 a0_4 a0_5 a0_6 a0_7 a0_8).bind fun t717 => (if t717 = true then (palanquinlaw07_TcpBack.j0 k a1 a2 (decide ((a2.size : Int) > 5000)) a0_0 a0_1 a0_2 a0_3 a0_4 a0_5 a0_6 a0_7 a0_8) else (palanquinlaw07_TcpBack.j0 k a1 a2 true a0_0 a0_1 a0_2 a0_3 a0_4 a0_5 a0_6 a0_7 a0_8))) else (some false))) = some r := h
  clear h
  replace H := Option.bind_eq_some_iff.mp H
  obtain ⟨t716, A40, H⟩ := H
  replace H : (if t716 = true then ((palanquinlaw07_few.f a0_0 a0_1 a0_2 a0_3 a0_4 a0_5 a0_6 a0_7 a0_8).bind fun t717 => (if t717 = true then (palanquinlaw07_TcpBack.j0 k a1 a2 (decide ((a2.size : Int) > 5000)) a0_0 a0_1 a0_2 a0_3 a0_4 a0_5 a0_6 a0_7 a0_8) else (palanquinlaw07_TcpBack.j0 k a1 a2 true a0_0 a0_1 a0_2 a0_3 a0_4 a0_5 a0_6 a0_7 a0_8))) else (some false)) = some r := H
  have A4 := Aside0.mk A40
  clear A40
  by_cases c5 : t716 = true
  · subst c5
    have H1 : ((palanquinlaw07_few.f a0_0 a0_1 a0_2 a0_3 a0_4 a0_5 a0_6 a0_7 a0_8).bind fun t717 => (if t717 = true then (palanquinlaw07_TcpBack.j0 k a1 a2 (decide ((a2.size : Int) > 5000)) a0_0 a0_1 a0_2 a0_3 a0_4 a0_5 a0_6 a0_7 a0_8) else (palanquinlaw07_TcpBack.j0 k a1 a2 true a0_0 a0_1 a0_2 a0_3 a0_4 a0_5 a0_6 a0_7 a0_8))) = some r := by rw [if_pos rfl] at H; exact H
    clear H
    have H := H1
    clear H1
    have HC6 := Aside0.mk H
    clear H
    go_enter Try.func27, Try.ntmps27
    go_upto_region 3 with (first | ((with_reducible refine gate_dst (N := 3) rfl ?_); (try (refine gate_guard (by rfl) ?_; dsimp only)); refine box_event ?hg (N := 3) ?hd (cs := #[.int .i64 a0_0, .int .i64 a0_1, .int .u32 a0_2, .int .u32 a0_3, .int .i64 a0_4, .int .i64 a0_5, .int .i64 a0_6, .string a0_7, .string a0_8]) (t := 127) ?hr ?_; (case hd => rfl); (case hg => rfl); (case hr => first | (go_simp; done) | (go_simp; rfl)); intro gb715 hg w7 hbox hb; have n0_ := Aside0.mk (below_step (by repeat (first | (with_reducible first | exact HB.out | apply below_alloc | apply pw_below_drewN | apply below_drew1) | exact HB.out)) hb); have n1_ := Aside0.mk (hbox); have n2_ := Aside0.mk ((by rw [hg]; exact (below_size (by repeat (first | (with_reducible first | exact HB.out | apply below_alloc | apply pw_below_drewN | apply below_drew1) | exact HB.out))) : w.heap.size ≤ gb715)); have n3_ := Aside0.mk ((by rw [hg]; exact (below_size (by repeat (first | (with_reducible first | exact HB.out | apply below_alloc | apply pw_below_drewN | apply below_drew1) | exact HB.out))) : w.heap.size ≤ gb715)); clear HB; have HB := n0_; have BK715 := n1_; have GW715 := n2_; have GE715 := n3_; clear n0_ n1_ n2_ n3_; clear hb hbox hg) | ((with_reducible refine gate_callee (f := 61) rfl ?_); refine goesL_ (some 17) rfl rfl Try.func61 (by kernel_rfl) rfl #[] rfl (by (try simp only [List.map_toArray, List.map_cons, List.map_nil]); first | done | rfl | (simp only [List.length_drop, List.length_take]; rfl)) ?_; (with_reducible refine (palanquinlaw07_awake.calls  true _ A4.out).mono ?_); rintro e w8 ⟨rfl, hb⟩; refine ⟨_, rfl, ?_⟩; have n0_ := Aside0.mk (blk_below (g := gb715) (o := .cells #[.int .i64 a0_0, .int .i64 a0_1, .int .u32 a0_2, .int .u32 a0_3, .int .i64 a0_4, .int .i64 a0_5, .int .i64 a0_6, .string a0_7, .string a0_8] 127 (0, 0)) (by (with_reducible repeat (first | refine blk_drewN ?_ _ | refine blk_drew ?_ | refine blk_alloc ?_ _)); exact BK715.out) hb); have n1_ := Aside0.mk (below_step (by repeat (first | (with_reducible first | exact HB.out | apply below_alloc | apply pw_below_drewN | apply below_drew1 | refine below_set ?_ GE715.out) | exact HB.out)) hb); clear BK715; clear HB; have BK715 := n0_; have HB := n1_; clear n0_ n1_; (try clear hb); (try clear hb2); (try clear hk); (try clear hi)))
    (try simp only [Act.put, List.setIfInBounds_toArray, List.set_cons_zero, List.set_cons_succ])
    go_cut [26] (fun v26 wc => ∃ (kq : Nat) (x26_5 : Bool), v26 = .bool x26_5 ∧ Aside0 (palanquinlaw07_TcpBack.j0 kq a1 a2 x26_5 a0_0 a0_1 a0_2 a0_3 a0_4 a0_5 a0_6 a0_7 a0_8 = some r) ∧ Aside0 (kq ≤ k) ∧ Aside0 (wc.heap[gb715]? = some (.cells #[.int .i64 a0_0, .int .i64 a0_1, .int .u32 a0_2, .int .u32 a0_3, .int .i64 a0_4, .int .i64 a0_5, .int .i64 a0_6, .string a0_7, .string a0_8] 127 (0, 0))) ∧ Aside0 (Below w.heap.size w wc))
    case first =>
      have H := HC6.out
      clear HC6
      replace H := Option.bind_eq_some_iff.mp H
      obtain ⟨t717, A90, H⟩ := H
      replace H : (if t717 = true then (palanquinlaw07_TcpBack.j0 k a1 a2 (decide ((a2.size : Int) > 5000)) a0_0 a0_1 a0_2 a0_3 a0_4 a0_5 a0_6 a0_7 a0_8) else (palanquinlaw07_TcpBack.j0 k a1 a2 true a0_0 a0_1 a0_2 a0_3 a0_4 a0_5 a0_6 a0_7 a0_8)) = some r := H
      have A9 := Aside0.mk A90
      clear A90
      by_cases c10 : t717 = true
      · subst c10
        have H1 : (palanquinlaw07_TcpBack.j0 k a1 a2 (decide ((a2.size : Int) > 5000)) a0_0 a0_1 a0_2 a0_3 a0_4 a0_5 a0_6 a0_7 a0_8) = some r := by rw [if_pos rfl] at H; exact H
        clear H
        have H := H1
        clear H1
        have H' := Aside0.mk H
        clear H
        have hcz11_0 : w8.cell? ⟨gb715, 0, none⟩ = some (.int .i64 a0_0) := (blk_cell BK715.out 0).trans rfl
        have hcz11_1 : w8.cell? ⟨gb715, 1, none⟩ = some (.int .i64 a0_1) := (blk_cell BK715.out 1).trans rfl
        have hcz11_2 : w8.cell? ⟨gb715, 2, none⟩ = some (.int .u32 a0_2) := (blk_cell BK715.out 2).trans rfl
        have hcz11_3 : w8.cell? ⟨gb715, 3, none⟩ = some (.int .u32 a0_3) := (blk_cell BK715.out 3).trans rfl
        have hcz11_4 : w8.cell? ⟨gb715, 4, none⟩ = some (.int .i64 a0_4) := (blk_cell BK715.out 4).trans rfl
        have hcz11_5 : w8.cell? ⟨gb715, 5, none⟩ = some (.int .i64 a0_5) := (blk_cell BK715.out 5).trans rfl
        have hcz11_6 : w8.cell? ⟨gb715, 6, none⟩ = some (.int .i64 a0_6) := (blk_cell BK715.out 6).trans rfl
        have hcz11_7 : w8.cell? ⟨gb715, 7, none⟩ = some (.string a0_7) := (blk_cell BK715.out 7).trans rfl
        have hcz11_8 : w8.cell? ⟨gb715, 8, none⟩ = some (.string a0_8) := (blk_cell BK715.out 8).trans rfl
        have hfz11_0 := blk_frozen BK715.out 0
        have hfz11_1 := blk_frozen BK715.out 1
        have hfz11_2 := blk_frozen BK715.out 2
        have hfz11_3 := blk_frozen BK715.out 3
        have hfz11_4 := blk_frozen BK715.out 4
        have hfz11_5 := blk_frozen BK715.out 5
        have hfz11_6 := blk_frozen BK715.out 6
        have hfz11_7 := blk_frozen BK715.out 7
        have hfz11_8 := blk_frozen BK715.out 8
        go_wp2_with (first | ((with_reducible refine gate_callee (f := 104) rfl ?_); refine goesL_ (some 20) rfl rfl Try.func104 (by kernel_rfl) rfl #[.agg #[.int .i64 a0_0, .int .i64 a0_1, .int .u32 a0_2, .int .u32 a0_3, .int .i64 a0_4, .int .i64 a0_5, .int .i64 a0_6, .string a0_7, .string a0_8]] rfl (by (try simp only [List.map_toArray, List.map_cons, List.map_nil]); first | done | rfl | (simp only [List.length_drop, List.length_take]; rfl)) ?_; (with_reducible refine (palanquinlaw07_few.calls a0_0 a0_1 a0_2 a0_3 a0_4 a0_5 a0_6 a0_7 a0_8 true _ A9.out).mono ?_); rintro e w12 ⟨rfl, hb⟩; refine ⟨_, rfl, ?_⟩; have n0_ := Aside0.mk (blk_below (g := gb715) (o := .cells #[.int .i64 a0_0, .int .i64 a0_1, .int .u32 a0_2, .int .u32 a0_3, .int .i64 a0_4, .int .i64 a0_5, .int .i64 a0_6, .string a0_7, .string a0_8] 127 (0, 0)) (by (with_reducible repeat (first | refine blk_drewN ?_ _ | refine blk_drew ?_ | refine blk_alloc ?_ _)); exact BK715.out) hb); have n1_ := Aside0.mk (below_step (by repeat (first | (with_reducible first | exact HB.out | apply below_alloc | apply pw_below_drewN | apply below_drew1 | refine below_set ?_ GE715.out) | exact HB.out)) hb); clear BK715; clear HB; have BK715 := n0_; have HB := n1_; clear n0_ n1_; (try clear hb); (try clear hb2); (try clear hk); (try clear hi)))
        go_meet
        case rel => exact ⟨_, (decide ((a2.size : Int) > 5000)), (by first | rfl | (simp; done) | (simp [*]; done)), H', ⟨by first | omega | exact Nat.le_refl _⟩, ⟨by (with_reducible repeat (first | refine blk_drewN ?_ _ | refine blk_drew ?_ | refine blk_alloc ?_ _)); exact BK715.out⟩, ⟨by repeat (first | (with_reducible first | exact HB.out | apply below_alloc | apply pw_below_drewN | apply below_drew1 | refine below_set ?_ GE715.out) | exact HB.out)⟩⟩
      · replace c10 := Bool.eq_false_iff.mpr c10
        subst c10
        have H1 : (palanquinlaw07_TcpBack.j0 k a1 a2 true a0_0 a0_1 a0_2 a0_3 a0_4 a0_5 a0_6 a0_7 a0_8) = some r := by rw [if_neg (show ¬ (false = true) by decide)] at H; exact H
        clear H
        have H := H1
        clear H1
        have H' := Aside0.mk H
        clear H
        have hcz13_0 : w8.cell? ⟨gb715, 0, none⟩ = some (.int .i64 a0_0) := (blk_cell BK715.out 0).trans rfl
        have hcz13_1 : w8.cell? ⟨gb715, 1, none⟩ = some (.int .i64 a0_1) := (blk_cell BK715.out 1).trans rfl
        have hcz13_2 : w8.cell? ⟨gb715, 2, none⟩ = some (.int .u32 a0_2) := (blk_cell BK715.out 2).trans rfl
        have hcz13_3 : w8.cell? ⟨gb715, 3, none⟩ = some (.int .u32 a0_3) := (blk_cell BK715.out 3).trans rfl
        have hcz13_4 : w8.cell? ⟨gb715, 4, none⟩ = some (.int .i64 a0_4) := (blk_cell BK715.out 4).trans rfl
        have hcz13_5 : w8.cell? ⟨gb715, 5, none⟩ = some (.int .i64 a0_5) := (blk_cell BK715.out 5).trans rfl
        have hcz13_6 : w8.cell? ⟨gb715, 6, none⟩ = some (.int .i64 a0_6) := (blk_cell BK715.out 6).trans rfl
        have hcz13_7 : w8.cell? ⟨gb715, 7, none⟩ = some (.string a0_7) := (blk_cell BK715.out 7).trans rfl
        have hcz13_8 : w8.cell? ⟨gb715, 8, none⟩ = some (.string a0_8) := (blk_cell BK715.out 8).trans rfl
        have hfz13_0 := blk_frozen BK715.out 0
        have hfz13_1 := blk_frozen BK715.out 1
        have hfz13_2 := blk_frozen BK715.out 2
        have hfz13_3 := blk_frozen BK715.out 3
        have hfz13_4 := blk_frozen BK715.out 4
        have hfz13_5 := blk_frozen BK715.out 5
        have hfz13_6 := blk_frozen BK715.out 6
        have hfz13_7 := blk_frozen BK715.out 7
        have hfz13_8 := blk_frozen BK715.out 8
        go_wp2_with (first | ((with_reducible refine gate_callee (f := 104) rfl ?_); refine goesL_ (some 20) rfl rfl Try.func104 (by kernel_rfl) rfl #[.agg #[.int .i64 a0_0, .int .i64 a0_1, .int .u32 a0_2, .int .u32 a0_3, .int .i64 a0_4, .int .i64 a0_5, .int .i64 a0_6, .string a0_7, .string a0_8]] rfl (by (try simp only [List.map_toArray, List.map_cons, List.map_nil]); first | done | rfl | (simp only [List.length_drop, List.length_take]; rfl)) ?_; (with_reducible refine (palanquinlaw07_few.calls a0_0 a0_1 a0_2 a0_3 a0_4 a0_5 a0_6 a0_7 a0_8 false _ A9.out).mono ?_); rintro e w14 ⟨rfl, hb⟩; refine ⟨_, rfl, ?_⟩; have n0_ := Aside0.mk (blk_below (g := gb715) (o := .cells #[.int .i64 a0_0, .int .i64 a0_1, .int .u32 a0_2, .int .u32 a0_3, .int .i64 a0_4, .int .i64 a0_5, .int .i64 a0_6, .string a0_7, .string a0_8] 127 (0, 0)) (by (with_reducible repeat (first | refine blk_drewN ?_ _ | refine blk_drew ?_ | refine blk_alloc ?_ _)); exact BK715.out) hb); have n1_ := Aside0.mk (below_step (by repeat (first | (with_reducible first | exact HB.out | apply below_alloc | apply pw_below_drewN | apply below_drew1 | refine below_set ?_ GE715.out) | exact HB.out)) hb); clear BK715; clear HB; have BK715 := n0_; have HB := n1_; clear n0_ n1_; (try clear hb); (try clear hb2); (try clear hk); (try clear hi)))
        go_meet
        case rel => exact ⟨_, (true), (by first | rfl | (simp; done) | (simp [*]; done)), H', ⟨by first | omega | exact Nat.le_refl _⟩, ⟨by (with_reducible repeat (first | refine blk_drewN ?_ _ | refine blk_drew ?_ | refine blk_alloc ?_ _)); exact BK715.out⟩, ⟨by repeat (first | (with_reducible first | exact HB.out | apply below_alloc | apply pw_below_drewN | apply below_drew1 | refine below_set ?_ GE715.out) | exact HB.out)⟩⟩
    case rest =>
      clear HC6
      try clear c1
      try clear c2
      try clear p2
      try clear c5
      try clear c6
      try clear c10
      try clear hcz11_0
      try clear hcz11_1
      try clear hcz11_2
      try clear hcz11_3
      try clear hcz11_4
      try clear hcz11_5
      try clear hcz11_6
      try clear hcz11_7
      try clear hcz11_8
      try clear hcz13_0
      try clear hcz13_1
      try clear hcz13_2
      try clear hcz13_3
      try clear hcz13_4
      try clear hcz13_5
      try clear hcz13_6
      try clear hcz13_7
      try clear hcz13_8
      try clear hfz11_0
      try clear hfz11_1
      try clear hfz11_2
      try clear hfz11_3
      try clear hfz11_4
      try clear hfz11_5
      try clear hfz11_6
      try clear hfz11_7
      try clear hfz11_8
      try clear hfz13_0
      try clear hfz13_1
      try clear hfz13_2
      try clear hfz13_3
      try clear hfz13_4
      try clear hfz13_5
      try clear hfz13_6
      try clear hfz13_7
      try clear hfz13_8
      obtain ⟨kq, x26_5, rfl, HA, HJ5, BK715, HB⟩ := hcut
      cases kq with
      | zero => exact absurd HA.out (by simp [palanquinlaw07_TcpBack.j0])
      | succ kj5 =>
        have H := HA.out
        clear HA
        simp only [palanquinlaw07_TcpBack.j0] at H
        by_cases c15 : x26_5 = true
        · subst c15
          have H1 : (some true) = some r := by rw [if_pos rfl] at H; exact H
          clear H
          have H := H1
          clear H1
          obtain rfl := Option.some.inj H
          go_wp2
          go_ret
          exact ⟨by first | rfl | (simp [errW_none, errW_some] <;> rfl) | (simp [*, errW_none, errW_some] <;> rfl), by repeat (first | (with_reducible first | exact HB.out | apply below_alloc | apply pw_below_drewN | apply below_drew1 | refine below_set ?_ GE715.out) | exact HB.out)⟩
        · replace c15 := Bool.eq_false_iff.mpr c15
          subst c15
          have H1 : ((tcp_Put.f a0_0 a0_1 a0_2 a0_3 a0_4 a0_5 a0_6 a0_7 a0_8 a1).bind fun bt718 => (if bt718.2 = 0 then ((tcp_Get.f bt718.1).bind fun bt720 => ((tcp_Right.f a0_7).bind fun t732 => (if (t732 != (bt720.2.2.2.2.2.2.2.2.2.2 == 0)) = true then (some false) else (if bt720.2.2.2.2.2.2.2.2.2.2 = 0 then (if (!(bt720.1 == a0_0) || (!(bt720.2.1 == a0_1) || (!(bt720.2.2.1 == a0_2) || (!(bt720.2.2.2.1 == a0_3) || (!(bt720.2.2.2.2.1 == a0_4) || (!(bt720.2.2.2.2.2.1 == a0_5) || (!(bt720.2.2.2.2.2.2.1 == a0_6) || (!(bt720.2.2.2.2.2.2.2.1.toList == a0_7.toList) || (!(bt720.2.2.2.2.2.2.2.2.1.toList == a0_8.toList)))))))))) = true then (some false) else (if bt720.2.2.2.2.2.2.2.2.2.1 = a1 then (palanquinlaw07_TcpBack.j1 kj5 a2) else (some false))) else (if bt720.2.2.2.2.2.2.2.2.2.2 = 4 then (palanquinlaw07_TcpBack.j1 kj5 a2) else (some false)))))) else (if bt718.1.toList = ([] : List UInt8) then (palanquinlaw07_TcpBack.j1 kj5 a2) else (some false)))) = some r := by rw [if_neg (show ¬ (false = true) by decide)] at H; exact H
          clear H
          have H := H1
          clear H1
          replace H := Option.bind_eq_some_iff.mp H
          obtain ⟨⟨t718, t719⟩, A160, H⟩ := H
          replace H : (if t719 = 0 then ((tcp_Get.f t718).bind fun bt720 => ((tcp_Right.f a0_7).bind fun t732 => (if (t732 != (bt720.2.2.2.2.2.2.2.2.2.2 == 0)) = true then (some false) else (if bt720.2.2.2.2.2.2.2.2.2.2 = 0 then (if (!(bt720.1 == a0_0) || (!(bt720.2.1 == a0_1) || (!(bt720.2.2.1 == a0_2) || (!(bt720.2.2.2.1 == a0_3) || (!(bt720.2.2.2.2.1 == a0_4) || (!(bt720.2.2.2.2.2.1 == a0_5) || (!(bt720.2.2.2.2.2.2.1 == a0_6) || (!(bt720.2.2.2.2.2.2.2.1.toList == a0_7.toList) || (!(bt720.2.2.2.2.2.2.2.2.1.toList == a0_8.toList)))))))))) = true then (some false) else (if bt720.2.2.2.2.2.2.2.2.2.1 = a1 then (palanquinlaw07_TcpBack.j1 kj5 a2) else (some false))) else (if bt720.2.2.2.2.2.2.2.2.2.2 = 4 then (palanquinlaw07_TcpBack.j1 kj5 a2) else (some false)))))) else (if t718.toList = ([] : List UInt8) then (palanquinlaw07_TcpBack.j1 kj5 a2) else (some false))) = some r := H
          have A16 := Aside0.mk A160
          clear A160
          have HC17 := Aside0.mk H
          clear H
          have hcz18_0 : wc.cell? ⟨gb715, 0, none⟩ = some (.int .i64 a0_0) := (blk_cell BK715.out 0).trans rfl
          have hcz18_1 : wc.cell? ⟨gb715, 1, none⟩ = some (.int .i64 a0_1) := (blk_cell BK715.out 1).trans rfl
          have hcz18_2 : wc.cell? ⟨gb715, 2, none⟩ = some (.int .u32 a0_2) := (blk_cell BK715.out 2).trans rfl
          have hcz18_3 : wc.cell? ⟨gb715, 3, none⟩ = some (.int .u32 a0_3) := (blk_cell BK715.out 3).trans rfl
          have hcz18_4 : wc.cell? ⟨gb715, 4, none⟩ = some (.int .i64 a0_4) := (blk_cell BK715.out 4).trans rfl
          have hcz18_5 : wc.cell? ⟨gb715, 5, none⟩ = some (.int .i64 a0_5) := (blk_cell BK715.out 5).trans rfl
          have hcz18_6 : wc.cell? ⟨gb715, 6, none⟩ = some (.int .i64 a0_6) := (blk_cell BK715.out 6).trans rfl
          have hcz18_7 : wc.cell? ⟨gb715, 7, none⟩ = some (.string a0_7) := (blk_cell BK715.out 7).trans rfl
          have hcz18_8 : wc.cell? ⟨gb715, 8, none⟩ = some (.string a0_8) := (blk_cell BK715.out 8).trans rfl
          have hfz18_0 := blk_frozen BK715.out 0
          have hfz18_1 := blk_frozen BK715.out 1
          have hfz18_2 := blk_frozen BK715.out 2
          have hfz18_3 := blk_frozen BK715.out 3
          have hfz18_4 := blk_frozen BK715.out 4
          have hfz18_5 := blk_frozen BK715.out 5
          have hfz18_6 := blk_frozen BK715.out 6
          have hfz18_7 := blk_frozen BK715.out 7
          have hfz18_8 := blk_frozen BK715.out 8
          go_upto_if 34 with (first | ((with_reducible refine gate_callee (f := 105) rfl ?_); refine goesL_ (some 30) rfl rfl Try.func105 (by kernel_rfl) rfl #[.agg #[.int .i64 a0_0, .int .i64 a0_1, .int .u32 a0_2, .int .u32 a0_3, .int .i64 a0_4, .int .i64 a0_5, .int .i64 a0_6, .string a0_7, .string a0_8], .int .i64 a1] rfl (by (try simp only [List.map_toArray, List.map_cons, List.map_nil]); first | done | rfl | (simp only [List.length_drop, List.length_take]; rfl)) ?_; (with_reducible refine (tcp_Put.calls a0_0 a0_1 a0_2 a0_3 a0_4 a0_5 a0_6 a0_7 a0_8 a1 t718 t719 _ A16.out).mono ?_); rintro e w19 ⟨rfl, hb⟩; refine ⟨_, rfl, ?_⟩; have n0_ := Aside0.mk (blk_below (g := gb715) (o := .cells #[.int .i64 a0_0, .int .i64 a0_1, .int .u32 a0_2, .int .u32 a0_3, .int .i64 a0_4, .int .i64 a0_5, .int .i64 a0_6, .string a0_7, .string a0_8] 127 (0, 0)) (by (with_reducible repeat (first | refine blk_drewN ?_ _ | refine blk_drew ?_ | refine blk_alloc ?_ _)); exact BK715.out) hb); have n1_ := Aside0.mk (below_step (by repeat (first | (with_reducible first | exact HB.out | apply below_alloc | apply pw_below_drewN | apply below_drew1 | refine below_set ?_ GE715.out) | exact HB.out)) hb); clear BK715; clear HB; have BK715 := n0_; have HB := n1_; clear n0_ n1_; (try clear hb); (try clear hb2); (try clear hk); (try clear hi)))
          (try simp only [Act.put, List.setIfInBounds_toArray, List.set_cons_zero, List.set_cons_succ])
          go_cut [] (fun wc => ∃ (kq : Nat), Aside0 (palanquinlaw07_TcpBack.j1 kq a2 = some r) ∧ Aside0 (kq ≤ kj5) ∧ Aside0 (wc.heap[gb715]? = some (.cells #[.int .i64 a0_0, .int .i64 a0_1, .int .u32 a0_2, .int .u32 a0_3, .int .i64 a0_4, .int .i64 a0_5, .int .i64 a0_6, .string a0_7, .string a0_8] 127 (0, 0))) ∧ Aside0 (Below w.heap.size w wc))
          case first =>
            have H := HC17.out
            clear HC17
            by_cases c20 : t719 = 0
            · rw [if_pos c20] at H
              have c20b0 : (t719 == 0) = true := beq_iff_eq.mpr c20
              have c20b1 : (t719 != 0) = false := bne_eq_false_iff_eq.mpr c20
              clear c20
              (first | rw [c20b0] | (simp only [i64_w, i32_w]; rw [c20b0]) | skip)
              replace H := Option.bind_eq_some_iff.mp H
              obtain ⟨⟨t720, t721, t722, t723, t724, t725, t726, t727, t728, t729, t730⟩, A210, H⟩ := H
              replace H : ((tcp_Right.f a0_7).bind fun t732 => (if (t732 != (t730 == 0)) = true then (some false) else (if t730 = 0 then (if (!(t720 == a0_0) || (!(t721 == a0_1) || (!(t722 == a0_2) || (!(t723 == a0_3) || (!(t724 == a0_4) || (!(t725 == a0_5) || (!(t726 == a0_6) || (!(t727.toList == a0_7.toList) || (!(t728.toList == a0_8.toList)))))))))) = true then (some false) else (if t729 = a1 then (palanquinlaw07_TcpBack.j1 kj5 a2) else (some false))) else (if t730 = 4 then (palanquinlaw07_TcpBack.j1 kj5 a2) else (some false))))) = some r := H
              have A21 := Aside0.mk A210
              clear A210
              replace H := Option.bind_eq_some_iff.mp H
              obtain ⟨t732, A220, H⟩ := H
              replace H : (if (t732 != (t730 == 0)) = true then (some false) else (if t730 = 0 then (if (!(t720 == a0_0) || (!(t721 == a0_1) || (!(t722 == a0_2) || (!(t723 == a0_3) || (!(t724 == a0_4) || (!(t725 == a0_5) || (!(t726 == a0_6) || (!(t727.toList == a0_7.toList) || (!(t728.toList == a0_8.toList)))))))))) = true then (some false) else (if t729 = a1 then (palanquinlaw07_TcpBack.j1 kj5 a2) else (some false))) else (if t730 = 4 then (palanquinlaw07_TcpBack.j1 kj5 a2) else (some false)))) = some r := H
              have A22 := Aside0.mk A220
              clear A220
              by_cases c23 : (t732 != (t730 == 0)) = true
              · rw [if_pos c23] at H
                exact absurd ((Option.some.inj H).trans hrt_.out) (by decide)
              · rw [if_neg c23] at H
                have c23b0 : (t732 != (t730 == 0)) = false := by simpa using c23
                (try (have c23b1 : decide (t732 = (t730 == 0)) = true := by simpa using c23))
                (try (have c23b2 : (t732 == (t730 == 0)) = true := by simpa using c23))
                clear c23
                by_cases c30 : t730 = 0
                · rw [if_pos c30] at H
                  have c30b0 : (t730 == 0) = true := beq_iff_eq.mpr c30
                  have c30b1 : (t730 != 0) = false := bne_eq_false_iff_eq.mpr c30
                  clear c30
                  have q_dec : t732 = true := by rw [c30b0] at c23b0; simpa using c23b0
                  by_cases c31 : (!(t720 == a0_0) || (!(t721 == a0_1) || (!(t722 == a0_2) || (!(t723 == a0_3) || (!(t724 == a0_4) || (!(t725 == a0_5) || (!(t726 == a0_6) || (!(t727.toList == a0_7.toList) || (!(t728.toList == a0_8.toList)))))))))) = true
                  · rw [if_pos c31] at H
                    exact absurd ((Option.some.inj H).trans hrt_.out) (by decide)
                  · rw [if_neg c31] at H
                    have c31b0 : (!(t720 == a0_0) || (!(t721 == a0_1) || (!(t722 == a0_2) || (!(t723 == a0_3) || (!(t724 == a0_4) || (!(t725 == a0_5) || (!(t726 == a0_6) || (!(t727.toList == a0_7.toList) || (!(t728.toList == a0_8.toList)))))))))) = false := by simpa using c31
                    clear c31
                    by_cases c40 : t729 = a1
                    · rw [if_pos c40] at H
                      have c40b0 : (t729 == a1) = true := beq_iff_eq.mpr c40
                      have c40b1 : (t729 != a1) = false := bne_eq_false_iff_eq.mpr c40
                      clear c40
                      have H' := Aside0.mk H
                      clear H
                      go_wp2_with (first | ((with_reducible refine gate_callee (f := 107) rfl ?_); refine goesL_ (some 37) rfl rfl Try.func107 (by kernel_rfl) rfl #[.string t718] rfl (by (try simp only [List.map_toArray, List.map_cons, List.map_nil]); first | done | rfl | (simp only [List.length_drop, List.length_take]; rfl)) ?_; (with_reducible refine (tcp_Get.calls t718 t720 t721 t722 t723 t724 t725 t726 t727 t728 t729 t730 _ A21.out).mono ?_); rintro e w41 ⟨rfl, hb⟩; refine ⟨_, rfl, ?_⟩; have n0_ := Aside0.mk (blk_below (g := gb715) (o := .cells #[.int .i64 a0_0, .int .i64 a0_1, .int .u32 a0_2, .int .u32 a0_3, .int .i64 a0_4, .int .i64 a0_5, .int .i64 a0_6, .string a0_7, .string a0_8] 127 (0, 0)) (by (with_reducible repeat (first | refine blk_drewN ?_ _ | refine blk_drew ?_ | refine blk_alloc ?_ _)); exact BK715.out) hb); have n1_ := Aside0.mk (below_step (by repeat (first | (with_reducible first | exact HB.out | apply below_alloc | apply pw_below_drewN | apply below_drew1 | refine below_set ?_ GE715.out) | exact HB.out)) hb); clear BK715; clear HB; have BK715 := n0_; have HB := n1_; clear n0_ n1_; (try clear hb); (try clear hb2); (try clear hk); (try clear hi)) | ((with_reducible refine gate_dst (N := 9) rfl ?_); (try (refine gate_guard (by rfl) ?_; dsimp only)); refine box_event ?hg (N := 9) ?hd (cs := #[.int .i64 0, .int .i64 0, .int .u32 0, .int .u32 0, .int .i64 0, .int .i64 0, .int .i64 0, .string (⟨#[]⟩ : ByteArray), .string (⟨#[]⟩ : ByteArray)]) (t := 127) ?hr ?_; (case hd => rfl); (case hg => rfl); (case hr => first | (go_simp; done) | (go_simp; rfl)); intro gb731 hg w42 hbox hb; have n0_ := Aside0.mk (blk_below (g := gb715) (o := .cells #[.int .i64 a0_0, .int .i64 a0_1, .int .u32 a0_2, .int .u32 a0_3, .int .i64 a0_4, .int .i64 a0_5, .int .i64 a0_6, .string a0_7, .string a0_8] 127 (0, 0)) (by (with_reducible repeat (first | refine blk_drewN ?_ _ | refine blk_drew ?_ | refine blk_alloc ?_ _)); exact BK715.out) hb); have n1_ := Aside0.mk (below_step (by repeat (first | (with_reducible first | exact HB.out | apply below_alloc | apply pw_below_drewN | apply below_drew1 | refine below_set ?_ GE715.out) | exact HB.out)) hb); have n2_ := Aside0.mk (hbox); have n3_ := Aside0.mk ((by rw [hg]; exact (below_size (by repeat (first | (with_reducible first | exact HB.out | apply below_alloc | apply pw_below_drewN | apply below_drew1 | refine below_set ?_ GE715.out) | exact HB.out))) : w.heap.size ≤ gb731)); have n4_ := Aside0.mk ((by rw [hg]; exact (below_size (by repeat (first | (with_reducible first | exact HB.out | apply below_alloc | apply pw_below_drewN | apply below_drew1 | refine below_set ?_ GE715.out) | exact HB.out))) : w.heap.size ≤ gb731)); have n5_ := Aside0.mk ((by rw [hg]; exact Nat.ne_of_lt (blk_lt (g := gb715) (o := .cells #[.int .i64 a0_0, .int .i64 a0_1, .int .u32 a0_2, .int .u32 a0_3, .int .i64 a0_4, .int .i64 a0_5, .int .i64 a0_6, .string a0_7, .string a0_8] 127 (0, 0)) (by (with_reducible repeat (first | refine blk_drewN ?_ _ | refine blk_drew ?_ | refine blk_alloc ?_ _)); exact BK715.out)) : gb715 ≠ gb731)); have n6_ := Aside0.mk ((by rw [hg]; exact Nat.ne_of_gt (blk_lt (g := gb715) (o := .cells #[.int .i64 a0_0, .int .i64 a0_1, .int .u32 a0_2, .int .u32 a0_3, .int .i64 a0_4, .int .i64 a0_5, .int .i64 a0_6, .string a0_7, .string a0_8] 127 (0, 0)) (by (with_reducible repeat (first | refine blk_drewN ?_ _ | refine blk_drew ?_ | refine blk_alloc ?_ _)); exact BK715.out)) : gb731 ≠ gb715)); clear BK715; clear HB; have BK715 := n0_; have HB := n1_; have BK731 := n2_; have GW731 := n3_; have GE731 := n4_; have NB715_731 := n5_; have NB731_715 := n6_; clear n0_ n1_ n2_ n3_ n4_ n5_ n6_; clear hb hbox hg; have hnb43 := NB731_715.out; have hnc43 := NB715_731.out; have hcz44_0 : w42.cell? ⟨gb731, 0, none⟩ = some (.int .i64 0) := (blk_cell BK731.out 0).trans rfl; have hcz44_1 : w42.cell? ⟨gb731, 1, none⟩ = some (.int .i64 0) := (blk_cell BK731.out 1).trans rfl; have hcz44_2 : w42.cell? ⟨gb731, 2, none⟩ = some (.int .u32 0) := (blk_cell BK731.out 2).trans rfl; have hcz44_3 : w42.cell? ⟨gb731, 3, none⟩ = some (.int .u32 0) := (blk_cell BK731.out 3).trans rfl; have hcz44_4 : w42.cell? ⟨gb731, 4, none⟩ = some (.int .i64 0) := (blk_cell BK731.out 4).trans rfl; have hcz44_5 : w42.cell? ⟨gb731, 5, none⟩ = some (.int .i64 0) := (blk_cell BK731.out 5).trans rfl; have hcz44_6 : w42.cell? ⟨gb731, 6, none⟩ = some (.int .i64 0) := (blk_cell BK731.out 6).trans rfl; have hcz44_7 : w42.cell? ⟨gb731, 7, none⟩ = some (.string (⟨#[]⟩ : ByteArray)) := (blk_cell BK731.out 7).trans rfl; have hcz44_8 : w42.cell? ⟨gb731, 8, none⟩ = some (.string (⟨#[]⟩ : ByteArray)) := (blk_cell BK731.out 8).trans rfl; have hfz44_0 := blk_frozen BK731.out 0; have hfz44_1 := blk_frozen BK731.out 1; have hfz44_2 := blk_frozen BK731.out 2; have hfz44_3 := blk_frozen BK731.out 3; have hfz44_4 := blk_frozen BK731.out 4; have hfz44_5 := blk_frozen BK731.out 5; have hfz44_6 := blk_frozen BK731.out 6; have hfz44_7 := blk_frozen BK731.out 7; have hfz44_8 := blk_frozen BK731.out 8; have hcz45_0 : w42.cell? ⟨gb715, 0, none⟩ = some (.int .i64 a0_0) := (blk_cell BK715.out 0).trans rfl; have hcz45_1 : w42.cell? ⟨gb715, 1, none⟩ = some (.int .i64 a0_1) := (blk_cell BK715.out 1).trans rfl; have hcz45_2 : w42.cell? ⟨gb715, 2, none⟩ = some (.int .u32 a0_2) := (blk_cell BK715.out 2).trans rfl; have hcz45_3 : w42.cell? ⟨gb715, 3, none⟩ = some (.int .u32 a0_3) := (blk_cell BK715.out 3).trans rfl; have hcz45_4 : w42.cell? ⟨gb715, 4, none⟩ = some (.int .i64 a0_4) := (blk_cell BK715.out 4).trans rfl; have hcz45_5 : w42.cell? ⟨gb715, 5, none⟩ = some (.int .i64 a0_5) := (blk_cell BK715.out 5).trans rfl; have hcz45_6 : w42.cell? ⟨gb715, 6, none⟩ = some (.int .i64 a0_6) := (blk_cell BK715.out 6).trans rfl; have hcz45_7 : w42.cell? ⟨gb715, 7, none⟩ = some (.string a0_7) := (blk_cell BK715.out 7).trans rfl; have hcz45_8 : w42.cell? ⟨gb715, 8, none⟩ = some (.string a0_8) := (blk_cell BK715.out 8).trans rfl; have hfz45_0 := blk_frozen BK715.out 0; have hfz45_1 := blk_frozen BK715.out 1; have hfz45_2 := blk_frozen BK715.out 2; have hfz45_3 := blk_frozen BK715.out 3; have hfz45_4 := blk_frozen BK715.out 4; have hfz45_5 := blk_frozen BK715.out 5; have hfz45_6 := blk_frozen BK715.out 6; have hfz45_7 := blk_frozen BK715.out 7; have hfz45_8 := blk_frozen BK715.out 8) | ((with_reducible refine gate_callee (f := 65) rfl ?_); refine goesL_ (some 43) rfl rfl Try.func65 (by kernel_rfl) rfl #[.string a0_7] rfl (by (try simp only [List.map_toArray, List.map_cons, List.map_nil]); first | done | rfl | (simp only [List.length_drop, List.length_take]; rfl)) ?_; (with_reducible refine (tcp_Right.calls a0_7 t732 _ A22.out).mono ?_); rintro e w46 ⟨rfl, hb⟩; refine ⟨_, rfl, ?_⟩; have n0_ := Aside0.mk (blk_below (g := gb715) (o := .cells #[.int .i64 a0_0, .int .i64 a0_1, .int .u32 a0_2, .int .u32 a0_3, .int .i64 a0_4, .int .i64 a0_5, .int .i64 a0_6, .string a0_7, .string a0_8] 127 (0, 0)) (by (with_reducible repeat (first | refine blk_drewN ?_ _ | refine blk_drew ?_ | refine blk_alloc ?_ _)); refine blk_far ?_ NB715_731.out _; (with_reducible repeat (first | refine blk_drewN ?_ _ | refine blk_drew ?_ | refine blk_alloc ?_ _)); refine blk_far ?_ NB715_731.out _; (with_reducible repeat (first | refine blk_drewN ?_ _ | refine blk_drew ?_ | refine blk_alloc ?_ _)); refine blk_far ?_ NB715_731.out _; (with_reducible repeat (first | refine blk_drewN ?_ _ | refine blk_drew ?_ | refine blk_alloc ?_ _)); refine blk_far ?_ NB715_731.out _; (with_reducible repeat (first | refine blk_drewN ?_ _ | refine blk_drew ?_ | refine blk_alloc ?_ _)); refine blk_far ?_ NB715_731.out _; (with_reducible repeat (first | refine blk_drewN ?_ _ | refine blk_drew ?_ | refine blk_alloc ?_ _)); refine blk_far ?_ NB715_731.out _; (with_reducible repeat (first | refine blk_drewN ?_ _ | refine blk_drew ?_ | refine blk_alloc ?_ _)); refine blk_far ?_ NB715_731.out _; (with_reducible repeat (first | refine blk_drewN ?_ _ | refine blk_drew ?_ | refine blk_alloc ?_ _)); refine blk_far ?_ NB715_731.out _; (with_reducible repeat (first | refine blk_drewN ?_ _ | refine blk_drew ?_ | refine blk_alloc ?_ _)); refine blk_far ?_ NB715_731.out _; (with_reducible repeat (first | refine blk_drewN ?_ _ | refine blk_drew ?_ | refine blk_alloc ?_ _)); exact BK715.out) hb); have n1_ := Aside0.mk (blk_below (g := gb731) (o := .cells #[.int .i64 t720, .int .i64 t721, .int .u32 t722, .int .u32 t723, .int .i64 t724, .int .i64 t725, .int .i64 t726, .string t727, .string t728] 127 (0, 0)) (by (with_reducible repeat (first | refine blk_drewN ?_ _ | refine blk_drew ?_ | refine blk_alloc ?_ _)); refine blk_put (cs := #[.int .i64 t720, .int .i64 t721, .int .u32 t722, .int .u32 t723, .int .i64 t724, .int .i64 t725, .int .i64 t726, .string t727, .string (⟨#[]⟩ : ByteArray)]) ?_ 8 _ rfl; (with_reducible repeat (first | refine blk_drewN ?_ _ | refine blk_drew ?_ | refine blk_alloc ?_ _)); refine blk_put (cs := #[.int .i64 t720, .int .i64 t721, .int .u32 t722, .int .u32 t723, .int .i64 t724, .int .i64 t725, .int .i64 t726, .string (⟨#[]⟩ : ByteArray), .string (⟨#[]⟩ : ByteArray)]) ?_ 7 _ rfl; (with_reducible repeat (first | refine blk_drewN ?_ _ | refine blk_drew ?_ | refine blk_alloc ?_ _)); refine blk_put (cs := #[.int .i64 t720, .int .i64 t721, .int .u32 t722, .int .u32 t723, .int .i64 t724, .int .i64 t725, .int .i64 0, .string (⟨#[]⟩ : ByteArray), .string (⟨#[]⟩ : ByteArray)]) ?_ 6 _ rfl; (with_reducible repeat (first | refine blk_drewN ?_ _ | refine blk_drew ?_ | refine blk_alloc ?_ _)); refine blk_put (cs := #[.int .i64 t720, .int .i64 t721, .int .u32 t722, .int .u32 t723, .int .i64 t724, .int .i64 0, .int .i64 0, .string (⟨#[]⟩ : ByteArray), .string (⟨#[]⟩ : ByteArray)]) ?_ 5 _ rfl; (with_reducible repeat (first | refine blk_drewN ?_ _ | refine blk_drew ?_ | refine blk_alloc ?_ _)); refine blk_put (cs := #[.int .i64 t720, .int .i64 t721, .int .u32 t722, .int .u32 t723, .int .i64 0, .int .i64 0, .int .i64 0, .string (⟨#[]⟩ : ByteArray), .string (⟨#[]⟩ : ByteArray)]) ?_ 4 _ rfl; (with_reducible repeat (first | refine blk_drewN ?_ _ | refine blk_drew ?_ | refine blk_alloc ?_ _)); refine blk_put (cs := #[.int .i64 t720, .int .i64 t721, .int .u32 t722, .int .u32 0, .int .i64 0, .int .i64 0, .int .i64 0, .string (⟨#[]⟩ : ByteArray), .string (⟨#[]⟩ : ByteArray)]) ?_ 3 _ rfl; (with_reducible repeat (first | refine blk_drewN ?_ _ | refine blk_drew ?_ | refine blk_alloc ?_ _)); refine blk_put (cs := #[.int .i64 t720, .int .i64 t721, .int .u32 0, .int .u32 0, .int .i64 0, .int .i64 0, .int .i64 0, .string (⟨#[]⟩ : ByteArray), .string (⟨#[]⟩ : ByteArray)]) ?_ 2 _ rfl; (with_reducible repeat (first | refine blk_drewN ?_ _ | refine blk_drew ?_ | refine blk_alloc ?_ _)); refine blk_put (cs := #[.int .i64 t720, .int .i64 0, .int .u32 0, .int .u32 0, .int .i64 0, .int .i64 0, .int .i64 0, .string (⟨#[]⟩ : ByteArray), .string (⟨#[]⟩ : ByteArray)]) ?_ 1 _ rfl; (with_reducible repeat (first | refine blk_drewN ?_ _ | refine blk_drew ?_ | refine blk_alloc ?_ _)); refine blk_put (cs := #[.int .i64 0, .int .i64 0, .int .u32 0, .int .u32 0, .int .i64 0, .int .i64 0, .int .i64 0, .string (⟨#[]⟩ : ByteArray), .string (⟨#[]⟩ : ByteArray)]) ?_ 0 _ rfl; (with_reducible repeat (first | refine blk_drewN ?_ _ | refine blk_drew ?_ | refine blk_alloc ?_ _)); exact BK731.out) hb); have n2_ := Aside0.mk (below_step (by repeat (first | (with_reducible first | exact HB.out | apply below_alloc | apply pw_below_drewN | apply below_drew1 | refine below_set ?_ GE715.out | refine below_set ?_ GE731.out) | exact HB.out)) hb); clear BK715; clear BK731; clear HB; have BK715 := n0_; have BK731 := n1_; have HB := n2_; clear n0_ n1_ n2_; (try clear hb); (try clear hb2); (try clear hk); (try clear hi); have hcz47_0 : w46.cell? ⟨gb731, 0, none⟩ = some (.int .i64 t720) := (blk_cell BK731.out 0).trans rfl; have hcz47_1 : w46.cell? ⟨gb731, 1, none⟩ = some (.int .i64 t721) := (blk_cell BK731.out 1).trans rfl; have hcz47_2 : w46.cell? ⟨gb731, 2, none⟩ = some (.int .u32 t722) := (blk_cell BK731.out 2).trans rfl; have hcz47_3 : w46.cell? ⟨gb731, 3, none⟩ = some (.int .u32 t723) := (blk_cell BK731.out 3).trans rfl; have hcz47_4 : w46.cell? ⟨gb731, 4, none⟩ = some (.int .i64 t724) := (blk_cell BK731.out 4).trans rfl; have hcz47_5 : w46.cell? ⟨gb731, 5, none⟩ = some (.int .i64 t725) := (blk_cell BK731.out 5).trans rfl; have hcz47_6 : w46.cell? ⟨gb731, 6, none⟩ = some (.int .i64 t726) := (blk_cell BK731.out 6).trans rfl; have hcz47_7 : w46.cell? ⟨gb731, 7, none⟩ = some (.string t727) := (blk_cell BK731.out 7).trans rfl; have hcz47_8 : w46.cell? ⟨gb731, 8, none⟩ = some (.string t728) := (blk_cell BK731.out 8).trans rfl; have hfz47_0 := blk_frozen BK731.out 0; have hfz47_1 := blk_frozen BK731.out 1; have hfz47_2 := blk_frozen BK731.out 2; have hfz47_3 := blk_frozen BK731.out 3; have hfz47_4 := blk_frozen BK731.out 4; have hfz47_5 := blk_frozen BK731.out 5; have hfz47_6 := blk_frozen BK731.out 6; have hfz47_7 := blk_frozen BK731.out 7; have hfz47_8 := blk_frozen BK731.out 8; have hcz48_0 : w46.cell? ⟨gb715, 0, none⟩ = some (.int .i64 a0_0) := (blk_cell BK715.out 0).trans rfl; have hcz48_1 : w46.cell? ⟨gb715, 1, none⟩ = some (.int .i64 a0_1) := (blk_cell BK715.out 1).trans rfl; have hcz48_2 : w46.cell? ⟨gb715, 2, none⟩ = some (.int .u32 a0_2) := (blk_cell BK715.out 2).trans rfl; have hcz48_3 : w46.cell? ⟨gb715, 3, none⟩ = some (.int .u32 a0_3) := (blk_cell BK715.out 3).trans rfl; have hcz48_4 : w46.cell? ⟨gb715, 4, none⟩ = some (.int .i64 a0_4) := (blk_cell BK715.out 4).trans rfl; have hcz48_5 : w46.cell? ⟨gb715, 5, none⟩ = some (.int .i64 a0_5) := (blk_cell BK715.out 5).trans rfl; have hcz48_6 : w46.cell? ⟨gb715, 6, none⟩ = some (.int .i64 a0_6) := (blk_cell BK715.out 6).trans rfl; have hcz48_7 : w46.cell? ⟨gb715, 7, none⟩ = some (.string a0_7) := (blk_cell BK715.out 7).trans rfl; have hcz48_8 : w46.cell? ⟨gb715, 8, none⟩ = some (.string a0_8) := (blk_cell BK715.out 8).trans rfl; have hfz48_0 := blk_frozen BK715.out 0; have hfz48_1 := blk_frozen BK715.out 1; have hfz48_2 := blk_frozen BK715.out 2; have hfz48_3 := blk_frozen BK715.out 3; have hfz48_4 := blk_frozen BK715.out 4; have hfz48_5 := blk_frozen BK715.out 5; have hfz48_6 := blk_frozen BK715.out 6; have hfz48_7 := blk_frozen BK715.out 7; have hfz48_8 := blk_frozen BK715.out 8))
                      go_meet
                      case rel => exact ⟨_, H', ⟨by have := HJ5.out; first | omega | exact Nat.le_refl _⟩, ⟨by (with_reducible repeat (first | refine blk_drewN ?_ _ | refine blk_drew ?_ | refine blk_alloc ?_ _)); exact BK715.out⟩, ⟨by repeat (first | (with_reducible first | exact HB.out | apply below_alloc | apply pw_below_drewN | apply below_drew1 | refine below_set ?_ GE715.out | refine below_set ?_ GE731.out) | exact HB.out)⟩⟩
                    · rw [if_neg c40] at H
                      exact absurd ((Option.some.inj H).trans hrt_.out) (by decide)
                · rw [if_neg c30] at H
                  have c30b0 : (t730 == 0) = false := beq_eq_false_iff_ne.mpr c30
                  have c30b1 : (t730 != 0) = true := bne_iff_ne.mpr c30
                  have q_dec : t732 = false := by rw [c30b0] at c23b0; simpa using c23b0
                  by_cases c57 : t730 = 4
                  · rw [if_pos c57] at H
                    have c57b0 : (t730 == 4) = true := beq_iff_eq.mpr c57
                    have c57b1 : (t730 != 4) = false := bne_eq_false_iff_eq.mpr c57
                    clear c57
                    have H' := Aside0.mk H
                    clear H
                    go_wp2_with (first | ((with_reducible refine gate_callee (f := 107) rfl ?_); refine goesL_ (some 37) rfl rfl Try.func107 (by kernel_rfl) rfl #[.string t718] rfl (by (try simp only [List.map_toArray, List.map_cons, List.map_nil]); first | done | rfl | (simp only [List.length_drop, List.length_take]; rfl)) ?_; (with_reducible refine (tcp_Get.calls t718 t720 t721 t722 t723 t724 t725 t726 t727 t728 t729 t730 _ A21.out).mono ?_); rintro e w58 ⟨rfl, hb⟩; refine ⟨_, rfl, ?_⟩; have n0_ := Aside0.mk (blk_below (g := gb715) (o := .cells #[.int .i64 a0_0, .int .i64 a0_1, .int .u32 a0_2, .int .u32 a0_3, .int .i64 a0_4, .int .i64 a0_5, .int .i64 a0_6, .string a0_7, .string a0_8] 127 (0, 0)) (by (with_reducible repeat (first | refine blk_drewN ?_ _ | refine blk_drew ?_ | refine blk_alloc ?_ _)); exact BK715.out) hb); have n1_ := Aside0.mk (below_step (by repeat (first | (with_reducible first | exact HB.out | apply below_alloc | apply pw_below_drewN | apply below_drew1 | refine below_set ?_ GE715.out) | exact HB.out)) hb); clear BK715; clear HB; have BK715 := n0_; have HB := n1_; clear n0_ n1_; (try clear hb); (try clear hb2); (try clear hk); (try clear hi)) | ((with_reducible refine gate_dst (N := 9) rfl ?_); (try (refine gate_guard (by rfl) ?_; dsimp only)); refine box_event ?hg (N := 9) ?hd (cs := #[.int .i64 0, .int .i64 0, .int .u32 0, .int .u32 0, .int .i64 0, .int .i64 0, .int .i64 0, .string (⟨#[]⟩ : ByteArray), .string (⟨#[]⟩ : ByteArray)]) (t := 127) ?hr ?_; (case hd => rfl); (case hg => rfl); (case hr => first | (go_simp; done) | (go_simp; rfl)); intro gb731 hg w59 hbox hb; have n0_ := Aside0.mk (blk_below (g := gb715) (o := .cells #[.int .i64 a0_0, .int .i64 a0_1, .int .u32 a0_2, .int .u32 a0_3, .int .i64 a0_4, .int .i64 a0_5, .int .i64 a0_6, .string a0_7, .string a0_8] 127 (0, 0)) (by (with_reducible repeat (first | refine blk_drewN ?_ _ | refine blk_drew ?_ | refine blk_alloc ?_ _)); exact BK715.out) hb); have n1_ := Aside0.mk (below_step (by repeat (first | (with_reducible first | exact HB.out | apply below_alloc | apply pw_below_drewN | apply below_drew1 | refine below_set ?_ GE715.out) | exact HB.out)) hb); have n2_ := Aside0.mk (hbox); have n3_ := Aside0.mk ((by rw [hg]; exact (below_size (by repeat (first | (with_reducible first | exact HB.out | apply below_alloc | apply pw_below_drewN | apply below_drew1 | refine below_set ?_ GE715.out) | exact HB.out))) : w.heap.size ≤ gb731)); have n4_ := Aside0.mk ((by rw [hg]; exact (below_size (by repeat (first | (with_reducible first | exact HB.out | apply below_alloc | apply pw_below_drewN | apply below_drew1 | refine below_set ?_ GE715.out) | exact HB.out))) : w.heap.size ≤ gb731)); have n5_ := Aside0.mk ((by rw [hg]; exact Nat.ne_of_lt (blk_lt (g := gb715) (o := .cells #[.int .i64 a0_0, .int .i64 a0_1, .int .u32 a0_2, .int .u32 a0_3, .int .i64 a0_4, .int .i64 a0_5, .int .i64 a0_6, .string a0_7, .string a0_8] 127 (0, 0)) (by (with_reducible repeat (first | refine blk_drewN ?_ _ | refine blk_drew ?_ | refine blk_alloc ?_ _)); exact BK715.out)) : gb715 ≠ gb731)); have n6_ := Aside0.mk ((by rw [hg]; exact Nat.ne_of_gt (blk_lt (g := gb715) (o := .cells #[.int .i64 a0_0, .int .i64 a0_1, .int .u32 a0_2, .int .u32 a0_3, .int .i64 a0_4, .int .i64 a0_5, .int .i64 a0_6, .string a0_7, .string a0_8] 127 (0, 0)) (by (with_reducible repeat (first | refine blk_drewN ?_ _ | refine blk_drew ?_ | refine blk_alloc ?_ _)); exact BK715.out)) : gb731 ≠ gb715)); clear BK715; clear HB; have BK715 := n0_; have HB := n1_; have BK731 := n2_; have GW731 := n3_; have GE731 := n4_; have NB715_731 := n5_; have NB731_715 := n6_; clear n0_ n1_ n2_ n3_ n4_ n5_ n6_; clear hb hbox hg; have hnb60 := NB731_715.out; have hnc60 := NB715_731.out; have hcz61_0 : w59.cell? ⟨gb731, 0, none⟩ = some (.int .i64 0) := (blk_cell BK731.out 0).trans rfl; have hcz61_1 : w59.cell? ⟨gb731, 1, none⟩ = some (.int .i64 0) := (blk_cell BK731.out 1).trans rfl; have hcz61_2 : w59.cell? ⟨gb731, 2, none⟩ = some (.int .u32 0) := (blk_cell BK731.out 2).trans rfl; have hcz61_3 : w59.cell? ⟨gb731, 3, none⟩ = some (.int .u32 0) := (blk_cell BK731.out 3).trans rfl; have hcz61_4 : w59.cell? ⟨gb731, 4, none⟩ = some (.int .i64 0) := (blk_cell BK731.out 4).trans rfl; have hcz61_5 : w59.cell? ⟨gb731, 5, none⟩ = some (.int .i64 0) := (blk_cell BK731.out 5).trans rfl; have hcz61_6 : w59.cell? ⟨gb731, 6, none⟩ = some (.int .i64 0) := (blk_cell BK731.out 6).trans rfl; have hcz61_7 : w59.cell? ⟨gb731, 7, none⟩ = some (.string (⟨#[]⟩ : ByteArray)) := (blk_cell BK731.out 7).trans rfl; have hcz61_8 : w59.cell? ⟨gb731, 8, none⟩ = some (.string (⟨#[]⟩ : ByteArray)) := (blk_cell BK731.out 8).trans rfl; have hfz61_0 := blk_frozen BK731.out 0; have hfz61_1 := blk_frozen BK731.out 1; have hfz61_2 := blk_frozen BK731.out 2; have hfz61_3 := blk_frozen BK731.out 3; have hfz61_4 := blk_frozen BK731.out 4; have hfz61_5 := blk_frozen BK731.out 5; have hfz61_6 := blk_frozen BK731.out 6; have hfz61_7 := blk_frozen BK731.out 7; have hfz61_8 := blk_frozen BK731.out 8; have hcz62_0 : w59.cell? ⟨gb715, 0, none⟩ = some (.int .i64 a0_0) := (blk_cell BK715.out 0).trans rfl; have hcz62_1 : w59.cell? ⟨gb715, 1, none⟩ = some (.int .i64 a0_1) := (blk_cell BK715.out 1).trans rfl; have hcz62_2 : w59.cell? ⟨gb715, 2, none⟩ = some (.int .u32 a0_2) := (blk_cell BK715.out 2).trans rfl; have hcz62_3 : w59.cell? ⟨gb715, 3, none⟩ = some (.int .u32 a0_3) := (blk_cell BK715.out 3).trans rfl; have hcz62_4 : w59.cell? ⟨gb715, 4, none⟩ = some (.int .i64 a0_4) := (blk_cell BK715.out 4).trans rfl; have hcz62_5 : w59.cell? ⟨gb715, 5, none⟩ = some (.int .i64 a0_5) := (blk_cell BK715.out 5).trans rfl; have hcz62_6 : w59.cell? ⟨gb715, 6, none⟩ = some (.int .i64 a0_6) := (blk_cell BK715.out 6).trans rfl; have hcz62_7 : w59.cell? ⟨gb715, 7, none⟩ = some (.string a0_7) := (blk_cell BK715.out 7).trans rfl; have hcz62_8 : w59.cell? ⟨gb715, 8, none⟩ = some (.string a0_8) := (blk_cell BK715.out 8).trans rfl; have hfz62_0 := blk_frozen BK715.out 0; have hfz62_1 := blk_frozen BK715.out 1; have hfz62_2 := blk_frozen BK715.out 2; have hfz62_3 := blk_frozen BK715.out 3; have hfz62_4 := blk_frozen BK715.out 4; have hfz62_5 := blk_frozen BK715.out 5; have hfz62_6 := blk_frozen BK715.out 6; have hfz62_7 := blk_frozen BK715.out 7; have hfz62_8 := blk_frozen BK715.out 8) | ((with_reducible refine gate_callee (f := 65) rfl ?_); refine goesL_ (some 43) rfl rfl Try.func65 (by kernel_rfl) rfl #[.string a0_7] rfl (by (try simp only [List.map_toArray, List.map_cons, List.map_nil]); first | done | rfl | (simp only [List.length_drop, List.length_take]; rfl)) ?_; (with_reducible refine (tcp_Right.calls a0_7 t732 _ A22.out).mono ?_); rintro e w63 ⟨rfl, hb⟩; refine ⟨_, rfl, ?_⟩; have n0_ := Aside0.mk (blk_below (g := gb715) (o := .cells #[.int .i64 a0_0, .int .i64 a0_1, .int .u32 a0_2, .int .u32 a0_3, .int .i64 a0_4, .int .i64 a0_5, .int .i64 a0_6, .string a0_7, .string a0_8] 127 (0, 0)) (by (with_reducible repeat (first | refine blk_drewN ?_ _ | refine blk_drew ?_ | refine blk_alloc ?_ _)); refine blk_far ?_ NB715_731.out _; (with_reducible repeat (first | refine blk_drewN ?_ _ | refine blk_drew ?_ | refine blk_alloc ?_ _)); refine blk_far ?_ NB715_731.out _; (with_reducible repeat (first | refine blk_drewN ?_ _ | refine blk_drew ?_ | refine blk_alloc ?_ _)); refine blk_far ?_ NB715_731.out _; (with_reducible repeat (first | refine blk_drewN ?_ _ | refine blk_drew ?_ | refine blk_alloc ?_ _)); refine blk_far ?_ NB715_731.out _; (with_reducible repeat (first | refine blk_drewN ?_ _ | refine blk_drew ?_ | refine blk_alloc ?_ _)); refine blk_far ?_ NB715_731.out _; (with_reducible repeat (first | refine blk_drewN ?_ _ | refine blk_drew ?_ | refine blk_alloc ?_ _)); refine blk_far ?_ NB715_731.out _; (with_reducible repeat (first | refine blk_drewN ?_ _ | refine blk_drew ?_ | refine blk_alloc ?_ _)); refine blk_far ?_ NB715_731.out _; (with_reducible repeat (first | refine blk_drewN ?_ _ | refine blk_drew ?_ | refine blk_alloc ?_ _)); refine blk_far ?_ NB715_731.out _; (with_reducible repeat (first | refine blk_drewN ?_ _ | refine blk_drew ?_ | refine blk_alloc ?_ _)); refine blk_far ?_ NB715_731.out _; (with_reducible repeat (first | refine blk_drewN ?_ _ | refine blk_drew ?_ | refine blk_alloc ?_ _)); exact BK715.out) hb); have n1_ := Aside0.mk (blk_below (g := gb731) (o := .cells #[.int .i64 t720, .int .i64 t721, .int .u32 t722, .int .u32 t723, .int .i64 t724, .int .i64 t725, .int .i64 t726, .string t727, .string t728] 127 (0, 0)) (by (with_reducible repeat (first | refine blk_drewN ?_ _ | refine blk_drew ?_ | refine blk_alloc ?_ _)); refine blk_put (cs := #[.int .i64 t720, .int .i64 t721, .int .u32 t722, .int .u32 t723, .int .i64 t724, .int .i64 t725, .int .i64 t726, .string t727, .string (⟨#[]⟩ : ByteArray)]) ?_ 8 _ rfl; (with_reducible repeat (first | refine blk_drewN ?_ _ | refine blk_drew ?_ | refine blk_alloc ?_ _)); refine blk_put (cs := #[.int .i64 t720, .int .i64 t721, .int .u32 t722, .int .u32 t723, .int .i64 t724, .int .i64 t725, .int .i64 t726, .string (⟨#[]⟩ : ByteArray), .string (⟨#[]⟩ : ByteArray)]) ?_ 7 _ rfl; (with_reducible repeat (first | refine blk_drewN ?_ _ | refine blk_drew ?_ | refine blk_alloc ?_ _)); refine blk_put (cs := #[.int .i64 t720, .int .i64 t721, .int .u32 t722, .int .u32 t723, .int .i64 t724, .int .i64 t725, .int .i64 0, .string (⟨#[]⟩ : ByteArray), .string (⟨#[]⟩ : ByteArray)]) ?_ 6 _ rfl; (with_reducible repeat (first | refine blk_drewN ?_ _ | refine blk_drew ?_ | refine blk_alloc ?_ _)); refine blk_put (cs := #[.int .i64 t720, .int .i64 t721, .int .u32 t722, .int .u32 t723, .int .i64 t724, .int .i64 0, .int .i64 0, .string (⟨#[]⟩ : ByteArray), .string (⟨#[]⟩ : ByteArray)]) ?_ 5 _ rfl; (with_reducible repeat (first | refine blk_drewN ?_ _ | refine blk_drew ?_ | refine blk_alloc ?_ _)); refine blk_put (cs := #[.int .i64 t720, .int .i64 t721, .int .u32 t722, .int .u32 t723, .int .i64 0, .int .i64 0, .int .i64 0, .string (⟨#[]⟩ : ByteArray), .string (⟨#[]⟩ : ByteArray)]) ?_ 4 _ rfl; (with_reducible repeat (first | refine blk_drewN ?_ _ | refine blk_drew ?_ | refine blk_alloc ?_ _)); refine blk_put (cs := #[.int .i64 t720, .int .i64 t721, .int .u32 t722, .int .u32 0, .int .i64 0, .int .i64 0, .int .i64 0, .string (⟨#[]⟩ : ByteArray), .string (⟨#[]⟩ : ByteArray)]) ?_ 3 _ rfl; (with_reducible repeat (first | refine blk_drewN ?_ _ | refine blk_drew ?_ | refine blk_alloc ?_ _)); refine blk_put (cs := #[.int .i64 t720, .int .i64 t721, .int .u32 0, .int .u32 0, .int .i64 0, .int .i64 0, .int .i64 0, .string (⟨#[]⟩ : ByteArray), .string (⟨#[]⟩ : ByteArray)]) ?_ 2 _ rfl; (with_reducible repeat (first | refine blk_drewN ?_ _ | refine blk_drew ?_ | refine blk_alloc ?_ _)); refine blk_put (cs := #[.int .i64 t720, .int .i64 0, .int .u32 0, .int .u32 0, .int .i64 0, .int .i64 0, .int .i64 0, .string (⟨#[]⟩ : ByteArray), .string (⟨#[]⟩ : ByteArray)]) ?_ 1 _ rfl; (with_reducible repeat (first | refine blk_drewN ?_ _ | refine blk_drew ?_ | refine blk_alloc ?_ _)); refine blk_put (cs := #[.int .i64 0, .int .i64 0, .int .u32 0, .int .u32 0, .int .i64 0, .int .i64 0, .int .i64 0, .string (⟨#[]⟩ : ByteArray), .string (⟨#[]⟩ : ByteArray)]) ?_ 0 _ rfl; (with_reducible repeat (first | refine blk_drewN ?_ _ | refine blk_drew ?_ | refine blk_alloc ?_ _)); exact BK731.out) hb); have n2_ := Aside0.mk (below_step (by repeat (first | (with_reducible first | exact HB.out | apply below_alloc | apply pw_below_drewN | apply below_drew1 | refine below_set ?_ GE715.out | refine below_set ?_ GE731.out) | exact HB.out)) hb); clear BK715; clear BK731; clear HB; have BK715 := n0_; have BK731 := n1_; have HB := n2_; clear n0_ n1_ n2_; (try clear hb); (try clear hb2); (try clear hk); (try clear hi)))
                    go_meet
                    case rel => exact ⟨_, H', ⟨by have := HJ5.out; first | omega | exact Nat.le_refl _⟩, ⟨by (with_reducible repeat (first | refine blk_drewN ?_ _ | refine blk_drew ?_ | refine blk_alloc ?_ _)); exact BK715.out⟩, ⟨by repeat (first | (with_reducible first | exact HB.out | apply below_alloc | apply pw_below_drewN | apply below_drew1 | refine below_set ?_ GE715.out | refine below_set ?_ GE731.out) | exact HB.out)⟩⟩
                  · rw [if_neg c57] at H
                    exact absurd ((Option.some.inj H).trans hrt_.out) (by decide)
            · rw [if_neg c20] at H
              have c20b0 : (t719 == 0) = false := beq_eq_false_iff_ne.mpr c20
              have c20b1 : (t719 != 0) = true := bne_iff_ne.mpr c20
              (first | rw [c20b0] | (simp only [i64_w, i32_w]; rw [c20b0]) | skip)
              by_cases c70 : t718.toList = ([] : List UInt8)
              · rw [if_pos c70] at H
                have c70b0 : (t718.toList == ([] : List UInt8)) = true := beq_iff_eq.mpr c70
                have c70b1 : (t718.toList != ([] : List UInt8)) = false := bne_eq_false_iff_eq.mpr c70
                clear c70
                have H' := Aside0.mk H
                clear H
                go_wp2
                go_meet
                case rel => exact ⟨_, H', ⟨by have := HJ5.out; first | omega | exact Nat.le_refl _⟩, ⟨by (with_reducible repeat (first | refine blk_drewN ?_ _ | refine blk_drew ?_ | refine blk_alloc ?_ _)); exact BK715.out⟩, ⟨by repeat (first | (with_reducible first | exact HB.out | apply below_alloc | apply pw_below_drewN | apply below_drew1 | refine below_set ?_ GE715.out) | exact HB.out)⟩⟩
              · rw [if_neg c70] at H
                exact absurd ((Option.some.inj H).trans hrt_.out) (by decide)
          case rest =>
            clear HC17
            try clear c1
            try clear c2
            try clear p2
            try clear c3
            try clear c4
            try clear c5
            try clear c6
            try clear c7
            try clear c10
            try clear c15
            try clear c20
            try clear c20b0
            try clear c20b1
            try clear c23
            try clear c23b0
            try clear c23b1
            try clear c23b2
            try clear c26
            try clear c27
            try clear c30
            try clear c30b0
            try clear c30b1
            try clear c31
            try clear c31b0
            try clear c34
            try clear c40
            try clear c40b0
            try clear c40b1
            try clear c43
            try clear c51
            try clear c57
            try clear c57b0
            try clear c57b1
            try clear c60
            try clear c61
            try clear c65
            try clear c66
            try clear c70
            try clear c70b0
            try clear c70b1
            try clear hcz11_0
            try clear hcz11_1
            try clear hcz11_2
            try clear hcz11_3
            try clear hcz11_4
            try clear hcz11_5
            try clear hcz11_6
            try clear hcz11_7
            try clear hcz11_8
            try clear hcz13_0
            try clear hcz13_1
            try clear hcz13_2
            try clear hcz13_3
            try clear hcz13_4
            try clear hcz13_5
            try clear hcz13_6
            try clear hcz13_7
            try clear hcz13_8
            try clear hcz18_0
            try clear hcz18_1
            try clear hcz18_2
            try clear hcz18_3
            try clear hcz18_4
            try clear hcz18_5
            try clear hcz18_6
            try clear hcz18_7
            try clear hcz18_8
            try clear hcz27_0
            try clear hcz27_1
            try clear hcz27_2
            try clear hcz27_3
            try clear hcz27_4
            try clear hcz27_5
            try clear hcz27_6
            try clear hcz27_7
            try clear hcz27_8
            try clear hcz28_0
            try clear hcz28_1
            try clear hcz28_2
            try clear hcz28_3
            try clear hcz28_4
            try clear hcz28_5
            try clear hcz28_6
            try clear hcz28_7
            try clear hcz28_8
            try clear hcz35_0
            try clear hcz35_1
            try clear hcz35_2
            try clear hcz35_3
            try clear hcz35_4
            try clear hcz35_5
            try clear hcz35_6
            try clear hcz35_7
            try clear hcz35_8
            try clear hcz36_0
            try clear hcz36_1
            try clear hcz36_2
            try clear hcz36_3
            try clear hcz36_4
            try clear hcz36_5
            try clear hcz36_6
            try clear hcz36_7
            try clear hcz36_8
            try clear hcz38_0
            try clear hcz38_1
            try clear hcz38_2
            try clear hcz38_3
            try clear hcz38_4
            try clear hcz38_5
            try clear hcz38_6
            try clear hcz38_7
            try clear hcz38_8
            try clear hcz39_0
            try clear hcz39_1
            try clear hcz39_2
            try clear hcz39_3
            try clear hcz39_4
            try clear hcz39_5
            try clear hcz39_6
            try clear hcz39_7
            try clear hcz39_8
            try clear hcz44_0
            try clear hcz44_1
            try clear hcz44_2
            try clear hcz44_3
            try clear hcz44_4
            try clear hcz44_5
            try clear hcz44_6
            try clear hcz44_7
            try clear hcz44_8
            try clear hcz45_0
            try clear hcz45_1
            try clear hcz45_2
            try clear hcz45_3
            try clear hcz45_4
            try clear hcz45_5
            try clear hcz45_6
            try clear hcz45_7
            try clear hcz45_8
            try clear hcz47_0
            try clear hcz47_1
            try clear hcz47_2
            try clear hcz47_3
            try clear hcz47_4
            try clear hcz47_5
            try clear hcz47_6
            try clear hcz47_7
            try clear hcz47_8
            try clear hcz48_0
            try clear hcz48_1
            try clear hcz48_2
            try clear hcz48_3
            try clear hcz48_4
            try clear hcz48_5
            try clear hcz48_6
            try clear hcz48_7
            try clear hcz48_8
            try clear hcz52_0
            try clear hcz52_1
            try clear hcz52_2
            try clear hcz52_3
            try clear hcz52_4
            try clear hcz52_5
            try clear hcz52_6
            try clear hcz52_7
            try clear hcz52_8
            try clear hcz53_0
            try clear hcz53_1
            try clear hcz53_2
            try clear hcz53_3
            try clear hcz53_4
            try clear hcz53_5
            try clear hcz53_6
            try clear hcz53_7
            try clear hcz53_8
            try clear hcz55_0
            try clear hcz55_1
            try clear hcz55_2
            try clear hcz55_3
            try clear hcz55_4
            try clear hcz55_5
            try clear hcz55_6
            try clear hcz55_7
            try clear hcz55_8
            try clear hcz56_0
            try clear hcz56_1
            try clear hcz56_2
            try clear hcz56_3
            try clear hcz56_4
            try clear hcz56_5
            try clear hcz56_6
            try clear hcz56_7
            try clear hcz56_8
            try clear hcz61_0
            try clear hcz61_1
            try clear hcz61_2
            try clear hcz61_3
            try clear hcz61_4
            try clear hcz61_5
            try clear hcz61_6
            try clear hcz61_7
            try clear hcz61_8
            try clear hcz62_0
            try clear hcz62_1
            try clear hcz62_2
            try clear hcz62_3
            try clear hcz62_4
            try clear hcz62_5
            try clear hcz62_6
            try clear hcz62_7
            try clear hcz62_8
            try clear hcz67_0
            try clear hcz67_1
            try clear hcz67_2
            try clear hcz67_3
            try clear hcz67_4
            try clear hcz67_5
            try clear hcz67_6
            try clear hcz67_7
            try clear hcz67_8
            try clear hcz68_0
            try clear hcz68_1
            try clear hcz68_2
            try clear hcz68_3
            try clear hcz68_4
            try clear hcz68_5
            try clear hcz68_6
            try clear hcz68_7
            try clear hcz68_8
            try clear hfz11_0
            try clear hfz11_1
            try clear hfz11_2
            try clear hfz11_3
            try clear hfz11_4
            try clear hfz11_5
            try clear hfz11_6
            try clear hfz11_7
            try clear hfz11_8
            try clear hfz13_0
            try clear hfz13_1
            try clear hfz13_2
            try clear hfz13_3
            try clear hfz13_4
            try clear hfz13_5
            try clear hfz13_6
            try clear hfz13_7
            try clear hfz13_8
            try clear hfz18_0
            try clear hfz18_1
            try clear hfz18_2
            try clear hfz18_3
            try clear hfz18_4
            try clear hfz18_5
            try clear hfz18_6
            try clear hfz18_7
            try clear hfz18_8
            try clear hfz27_0
            try clear hfz27_1
            try clear hfz27_2
            try clear hfz27_3
            try clear hfz27_4
            try clear hfz27_5
            try clear hfz27_6
            try clear hfz27_7
            try clear hfz27_8
            try clear hfz28_0
            try clear hfz28_1
            try clear hfz28_2
            try clear hfz28_3
            try clear hfz28_4
            try clear hfz28_5
            try clear hfz28_6
            try clear hfz28_7
            try clear hfz28_8
            try clear hfz35_0
            try clear hfz35_1
            try clear hfz35_2
            try clear hfz35_3
            try clear hfz35_4
            try clear hfz35_5
            try clear hfz35_6
            try clear hfz35_7
            try clear hfz35_8
            try clear hfz36_0
            try clear hfz36_1
            try clear hfz36_2
            try clear hfz36_3
            try clear hfz36_4
            try clear hfz36_5
            try clear hfz36_6
            try clear hfz36_7
            try clear hfz36_8
            try clear hfz38_0
            try clear hfz38_1
            try clear hfz38_2
            try clear hfz38_3
            try clear hfz38_4
            try clear hfz38_5
            try clear hfz38_6
            try clear hfz38_7
            try clear hfz38_8
            try clear hfz39_0
            try clear hfz39_1
            try clear hfz39_2
            try clear hfz39_3
            try clear hfz39_4
            try clear hfz39_5
            try clear hfz39_6
            try clear hfz39_7
            try clear hfz39_8
            try clear hfz44_0
            try clear hfz44_1
            try clear hfz44_2
            try clear hfz44_3
            try clear hfz44_4
            try clear hfz44_5
            try clear hfz44_6
            try clear hfz44_7
            try clear hfz44_8
            try clear hfz45_0
            try clear hfz45_1
            try clear hfz45_2
            try clear hfz45_3
            try clear hfz45_4
            try clear hfz45_5
            try clear hfz45_6
            try clear hfz45_7
            try clear hfz45_8
            try clear hfz47_0
            try clear hfz47_1
            try clear hfz47_2
            try clear hfz47_3
            try clear hfz47_4
            try clear hfz47_5
            try clear hfz47_6
            try clear hfz47_7
            try clear hfz47_8
            try clear hfz48_0
            try clear hfz48_1
            try clear hfz48_2
            try clear hfz48_3
            try clear hfz48_4
            try clear hfz48_5
            try clear hfz48_6
            try clear hfz48_7
            try clear hfz48_8
            try clear hfz52_0
            try clear hfz52_1
            try clear hfz52_2
            try clear hfz52_3
            try clear hfz52_4
            try clear hfz52_5
            try clear hfz52_6
            try clear hfz52_7
            try clear hfz52_8
            try clear hfz53_0
            try clear hfz53_1
            try clear hfz53_2
            try clear hfz53_3
            try clear hfz53_4
            try clear hfz53_5
            try clear hfz53_6
            try clear hfz53_7
            try clear hfz53_8
            try clear hfz55_0
            try clear hfz55_1
            try clear hfz55_2
            try clear hfz55_3
            try clear hfz55_4
            try clear hfz55_5
            try clear hfz55_6
            try clear hfz55_7
            try clear hfz55_8
            try clear hfz56_0
            try clear hfz56_1
            try clear hfz56_2
            try clear hfz56_3
            try clear hfz56_4
            try clear hfz56_5
            try clear hfz56_6
            try clear hfz56_7
            try clear hfz56_8
            try clear hfz61_0
            try clear hfz61_1
            try clear hfz61_2
            try clear hfz61_3
            try clear hfz61_4
            try clear hfz61_5
            try clear hfz61_6
            try clear hfz61_7
            try clear hfz61_8
            try clear hfz62_0
            try clear hfz62_1
            try clear hfz62_2
            try clear hfz62_3
            try clear hfz62_4
            try clear hfz62_5
            try clear hfz62_6
            try clear hfz62_7
            try clear hfz62_8
            try clear hfz67_0
            try clear hfz67_1
            try clear hfz67_2
            try clear hfz67_3
            try clear hfz67_4
            try clear hfz67_5
            try clear hfz67_6
            try clear hfz67_7
            try clear hfz67_8
            try clear hfz68_0
            try clear hfz68_1
            try clear hfz68_2
            try clear hfz68_3
            try clear hfz68_4
            try clear hfz68_5
            try clear hfz68_6
            try clear hfz68_7
            try clear hfz68_8
            try clear p2
            obtain ⟨kq, HA, HJ16, BK715, HB⟩ := hcut
            cases kq with
            | zero => exact absurd HA.out (by simp [palanquinlaw07_TcpBack.j1])
            | succ kj16 =>
              have H := HA.out
              clear HA
              simp only [palanquinlaw07_TcpBack.j1] at H
              replace H := Option.bind_eq_some_iff.mp H
              obtain ⟨⟨t733, t734, t735, t736, t737, t738, t739, t740, t741, t742, t743⟩, A710, H⟩ := H
              replace H : (if t743 = 0 then ((tcp_Put.f t733 t734 t735 t736 t737 t738 t739 t740 t741 t742).bind fun bt745 => (if bt745.2 = 0 then (some (bt745.1.toList == a2.toList)) else (some false))) else (if (t733 == 0 && (t734 == 0 && (t735 == 0 && (t736 == 0 && (t737 == 0 && (t738 == 0 && (t739 == 0 && (t740.toList == ([] : List UInt8) && (t741.toList == ([] : List UInt8)))))))))) = true then (some (t742 == 0)) else (some false))) = some r := H
              have A71 := Aside0.mk A710
              clear A710
              by_cases c72 : t743 = 0
              · rw [if_pos c72] at H
                have c72b0 : (t743 == 0) = true := beq_iff_eq.mpr c72
                have c72b1 : (t743 != 0) = false := bne_eq_false_iff_eq.mpr c72
                clear c72
                replace H := Option.bind_eq_some_iff.mp H
                obtain ⟨⟨t745, t746⟩, A730, H⟩ := H
                replace H : (if t746 = 0 then (some (t745.toList == a2.toList)) else (some false)) = some r := H
                have A73 := Aside0.mk A730
                clear A730
                by_cases c74 : t746 = 0
                · rw [if_pos c74] at H
                  have c74b0 : (t746 == 0) = true := beq_iff_eq.mpr c74
                  have c74b1 : (t746 != 0) = false := bne_eq_false_iff_eq.mpr c74
                  clear c74
                  obtain rfl := Option.some.inj H
                  go_wp2_with (first | ((with_reducible refine gate_callee (f := 107) rfl ?_); refine goesL_ (some 73) rfl rfl Try.func107 (by kernel_rfl) rfl #[.string a2] rfl (by (try simp only [List.map_toArray, List.map_cons, List.map_nil]); first | done | rfl | (simp only [List.length_drop, List.length_take]; rfl)) ?_; (with_reducible refine (tcp_Get.calls a2 t733 t734 t735 t736 t737 t738 t739 t740 t741 t742 t743 _ A71.out).mono ?_); rintro e w75 ⟨rfl, hb⟩; refine ⟨_, rfl, ?_⟩; have n0_ := Aside0.mk (blk_below (g := gb715) (o := .cells #[.int .i64 a0_0, .int .i64 a0_1, .int .u32 a0_2, .int .u32 a0_3, .int .i64 a0_4, .int .i64 a0_5, .int .i64 a0_6, .string a0_7, .string a0_8] 127 (0, 0)) (by (with_reducible repeat (first | refine blk_drewN ?_ _ | refine blk_drew ?_ | refine blk_alloc ?_ _)); exact BK715.out) hb); have n1_ := Aside0.mk (below_step (by repeat (first | (with_reducible first | exact HB.out | apply below_alloc | apply pw_below_drewN | apply below_drew1 | refine below_set ?_ GE715.out) | exact HB.out)) hb); clear BK715; clear HB; have BK715 := n0_; have HB := n1_; clear n0_ n1_; (try clear hb); (try clear hb2); (try clear hk); (try clear hi)) | ((with_reducible refine gate_dst (N := 12) rfl ?_); (try (refine gate_guard (by rfl) ?_; dsimp only)); refine box_event ?hg (N := 12) ?hd (cs := #[.int .i64 0, .int .i64 0, .int .u32 0, .int .u32 0, .int .i64 0, .int .i64 0, .int .i64 0, .string (⟨#[]⟩ : ByteArray), .string (⟨#[]⟩ : ByteArray)]) (t := 127) ?hr ?_; (case hd => rfl); (case hg => rfl); (case hr => first | (go_simp; done) | (go_simp; rfl)); intro gb744 hg w76 hbox hb; have n0_ := Aside0.mk (blk_below (g := gb715) (o := .cells #[.int .i64 a0_0, .int .i64 a0_1, .int .u32 a0_2, .int .u32 a0_3, .int .i64 a0_4, .int .i64 a0_5, .int .i64 a0_6, .string a0_7, .string a0_8] 127 (0, 0)) (by (with_reducible repeat (first | refine blk_drewN ?_ _ | refine blk_drew ?_ | refine blk_alloc ?_ _)); exact BK715.out) hb); have n1_ := Aside0.mk (below_step (by repeat (first | (with_reducible first | exact HB.out | apply below_alloc | apply pw_below_drewN | apply below_drew1 | refine below_set ?_ GE715.out) | exact HB.out)) hb); have n2_ := Aside0.mk (hbox); have n3_ := Aside0.mk ((by rw [hg]; exact (below_size (by repeat (first | (with_reducible first | exact HB.out | apply below_alloc | apply pw_below_drewN | apply below_drew1 | refine below_set ?_ GE715.out) | exact HB.out))) : w.heap.size ≤ gb744)); have n4_ := Aside0.mk ((by rw [hg]; exact (below_size (by repeat (first | (with_reducible first | exact HB.out | apply below_alloc | apply pw_below_drewN | apply below_drew1 | refine below_set ?_ GE715.out) | exact HB.out))) : w.heap.size ≤ gb744)); have n5_ := Aside0.mk ((by rw [hg]; exact Nat.ne_of_lt (blk_lt (g := gb715) (o := .cells #[.int .i64 a0_0, .int .i64 a0_1, .int .u32 a0_2, .int .u32 a0_3, .int .i64 a0_4, .int .i64 a0_5, .int .i64 a0_6, .string a0_7, .string a0_8] 127 (0, 0)) (by (with_reducible repeat (first | refine blk_drewN ?_ _ | refine blk_drew ?_ | refine blk_alloc ?_ _)); exact BK715.out)) : gb715 ≠ gb744)); have n6_ := Aside0.mk ((by rw [hg]; exact Nat.ne_of_gt (blk_lt (g := gb715) (o := .cells #[.int .i64 a0_0, .int .i64 a0_1, .int .u32 a0_2, .int .u32 a0_3, .int .i64 a0_4, .int .i64 a0_5, .int .i64 a0_6, .string a0_7, .string a0_8] 127 (0, 0)) (by (with_reducible repeat (first | refine blk_drewN ?_ _ | refine blk_drew ?_ | refine blk_alloc ?_ _)); exact BK715.out)) : gb744 ≠ gb715)); clear BK715; clear HB; have BK715 := n0_; have HB := n1_; have BK744 := n2_; have GW744 := n3_; have GE744 := n4_; have NB715_744 := n5_; have NB744_715 := n6_; clear n0_ n1_ n2_ n3_ n4_ n5_ n6_; clear hb hbox hg; have hnb77 := NB744_715.out; have hnc77 := NB715_744.out; have hcz78_0 : w76.cell? ⟨gb744, 0, none⟩ = some (.int .i64 0) := (blk_cell BK744.out 0).trans rfl; have hcz78_1 : w76.cell? ⟨gb744, 1, none⟩ = some (.int .i64 0) := (blk_cell BK744.out 1).trans rfl; have hcz78_2 : w76.cell? ⟨gb744, 2, none⟩ = some (.int .u32 0) := (blk_cell BK744.out 2).trans rfl; have hcz78_3 : w76.cell? ⟨gb744, 3, none⟩ = some (.int .u32 0) := (blk_cell BK744.out 3).trans rfl; have hcz78_4 : w76.cell? ⟨gb744, 4, none⟩ = some (.int .i64 0) := (blk_cell BK744.out 4).trans rfl; have hcz78_5 : w76.cell? ⟨gb744, 5, none⟩ = some (.int .i64 0) := (blk_cell BK744.out 5).trans rfl; have hcz78_6 : w76.cell? ⟨gb744, 6, none⟩ = some (.int .i64 0) := (blk_cell BK744.out 6).trans rfl; have hcz78_7 : w76.cell? ⟨gb744, 7, none⟩ = some (.string (⟨#[]⟩ : ByteArray)) := (blk_cell BK744.out 7).trans rfl; have hcz78_8 : w76.cell? ⟨gb744, 8, none⟩ = some (.string (⟨#[]⟩ : ByteArray)) := (blk_cell BK744.out 8).trans rfl; have hfz78_0 := blk_frozen BK744.out 0; have hfz78_1 := blk_frozen BK744.out 1; have hfz78_2 := blk_frozen BK744.out 2; have hfz78_3 := blk_frozen BK744.out 3; have hfz78_4 := blk_frozen BK744.out 4; have hfz78_5 := blk_frozen BK744.out 5; have hfz78_6 := blk_frozen BK744.out 6; have hfz78_7 := blk_frozen BK744.out 7; have hfz78_8 := blk_frozen BK744.out 8) | ((with_reducible refine gate_callee (f := 105) rfl ?_); refine goesL_ (some 89) rfl rfl Try.func105 (by kernel_rfl) rfl #[.agg #[.int .i64 t733, .int .i64 t734, .int .u32 t735, .int .u32 t736, .int .i64 t737, .int .i64 t738, .int .i64 t739, .string t740, .string t741], .int .i64 t742] rfl (by (try simp only [List.map_toArray, List.map_cons, List.map_nil]); first | done | rfl | (simp only [List.length_drop, List.length_take]; rfl)) ?_; (with_reducible refine (tcp_Put.calls t733 t734 t735 t736 t737 t738 t739 t740 t741 t742 t745 t746 _ A73.out).mono ?_); rintro e w79 ⟨rfl, hb⟩; refine ⟨_, rfl, ?_⟩; have n0_ := Aside0.mk (blk_below (g := gb715) (o := .cells #[.int .i64 a0_0, .int .i64 a0_1, .int .u32 a0_2, .int .u32 a0_3, .int .i64 a0_4, .int .i64 a0_5, .int .i64 a0_6, .string a0_7, .string a0_8] 127 (0, 0)) (by (with_reducible repeat (first | refine blk_drewN ?_ _ | refine blk_drew ?_ | refine blk_alloc ?_ _)); refine blk_far ?_ NB715_744.out _; (with_reducible repeat (first | refine blk_drewN ?_ _ | refine blk_drew ?_ | refine blk_alloc ?_ _)); refine blk_far ?_ NB715_744.out _; (with_reducible repeat (first | refine blk_drewN ?_ _ | refine blk_drew ?_ | refine blk_alloc ?_ _)); refine blk_far ?_ NB715_744.out _; (with_reducible repeat (first | refine blk_drewN ?_ _ | refine blk_drew ?_ | refine blk_alloc ?_ _)); refine blk_far ?_ NB715_744.out _; (with_reducible repeat (first | refine blk_drewN ?_ _ | refine blk_drew ?_ | refine blk_alloc ?_ _)); refine blk_far ?_ NB715_744.out _; (with_reducible repeat (first | refine blk_drewN ?_ _ | refine blk_drew ?_ | refine blk_alloc ?_ _)); refine blk_far ?_ NB715_744.out _; (with_reducible repeat (first | refine blk_drewN ?_ _ | refine blk_drew ?_ | refine blk_alloc ?_ _)); refine blk_far ?_ NB715_744.out _; (with_reducible repeat (first | refine blk_drewN ?_ _ | refine blk_drew ?_ | refine blk_alloc ?_ _)); refine blk_far ?_ NB715_744.out _; (with_reducible repeat (first | refine blk_drewN ?_ _ | refine blk_drew ?_ | refine blk_alloc ?_ _)); refine blk_far ?_ NB715_744.out _; (with_reducible repeat (first | refine blk_drewN ?_ _ | refine blk_drew ?_ | refine blk_alloc ?_ _)); exact BK715.out) hb); have n1_ := Aside0.mk (blk_below (g := gb744) (o := .cells #[.int .i64 t733, .int .i64 t734, .int .u32 t735, .int .u32 t736, .int .i64 t737, .int .i64 t738, .int .i64 t739, .string t740, .string t741] 127 (0, 0)) (by (with_reducible repeat (first | refine blk_drewN ?_ _ | refine blk_drew ?_ | refine blk_alloc ?_ _)); refine blk_put (cs := #[.int .i64 t733, .int .i64 t734, .int .u32 t735, .int .u32 t736, .int .i64 t737, .int .i64 t738, .int .i64 t739, .string t740, .string (⟨#[]⟩ : ByteArray)]) ?_ 8 _ rfl; (with_reducible repeat (first | refine blk_drewN ?_ _ | refine blk_drew ?_ | refine blk_alloc ?_ _)); refine blk_put (cs := #[.int .i64 t733, .int .i64 t734, .int .u32 t735, .int .u32 t736, .int .i64 t737, .int .i64 t738, .int .i64 t739, .string (⟨#[]⟩ : ByteArray), .string (⟨#[]⟩ : ByteArray)]) ?_ 7 _ rfl; (with_reducible repeat (first | refine blk_drewN ?_ _ | refine blk_drew ?_ | refine blk_alloc ?_ _)); refine blk_put (cs := #[.int .i64 t733, .int .i64 t734, .int .u32 t735, .int .u32 t736, .int .i64 t737, .int .i64 t738, .int .i64 0, .string (⟨#[]⟩ : ByteArray), .string (⟨#[]⟩ : ByteArray)]) ?_ 6 _ rfl; (with_reducible repeat (first | refine blk_drewN ?_ _ | refine blk_drew ?_ | refine blk_alloc ?_ _)); refine blk_put (cs := #[.int .i64 t733, .int .i64 t734, .int .u32 t735, .int .u32 t736, .int .i64 t737, .int .i64 0, .int .i64 0, .string (⟨#[]⟩ : ByteArray), .string (⟨#[]⟩ : ByteArray)]) ?_ 5 _ rfl; (with_reducible repeat (first | refine blk_drewN ?_ _ | refine blk_drew ?_ | refine blk_alloc ?_ _)); refine blk_put (cs := #[.int .i64 t733, .int .i64 t734, .int .u32 t735, .int .u32 t736, .int .i64 0, .int .i64 0, .int .i64 0, .string (⟨#[]⟩ : ByteArray), .string (⟨#[]⟩ : ByteArray)]) ?_ 4 _ rfl; (with_reducible repeat (first | refine blk_drewN ?_ _ | refine blk_drew ?_ | refine blk_alloc ?_ _)); refine blk_put (cs := #[.int .i64 t733, .int .i64 t734, .int .u32 t735, .int .u32 0, .int .i64 0, .int .i64 0, .int .i64 0, .string (⟨#[]⟩ : ByteArray), .string (⟨#[]⟩ : ByteArray)]) ?_ 3 _ rfl; (with_reducible repeat (first | refine blk_drewN ?_ _ | refine blk_drew ?_ | refine blk_alloc ?_ _)); refine blk_put (cs := #[.int .i64 t733, .int .i64 t734, .int .u32 0, .int .u32 0, .int .i64 0, .int .i64 0, .int .i64 0, .string (⟨#[]⟩ : ByteArray), .string (⟨#[]⟩ : ByteArray)]) ?_ 2 _ rfl; (with_reducible repeat (first | refine blk_drewN ?_ _ | refine blk_drew ?_ | refine blk_alloc ?_ _)); refine blk_put (cs := #[.int .i64 t733, .int .i64 0, .int .u32 0, .int .u32 0, .int .i64 0, .int .i64 0, .int .i64 0, .string (⟨#[]⟩ : ByteArray), .string (⟨#[]⟩ : ByteArray)]) ?_ 1 _ rfl; (with_reducible repeat (first | refine blk_drewN ?_ _ | refine blk_drew ?_ | refine blk_alloc ?_ _)); refine blk_put (cs := #[.int .i64 0, .int .i64 0, .int .u32 0, .int .u32 0, .int .i64 0, .int .i64 0, .int .i64 0, .string (⟨#[]⟩ : ByteArray), .string (⟨#[]⟩ : ByteArray)]) ?_ 0 _ rfl; (with_reducible repeat (first | refine blk_drewN ?_ _ | refine blk_drew ?_ | refine blk_alloc ?_ _)); exact BK744.out) hb); have n2_ := Aside0.mk (below_step (by repeat (first | (with_reducible first | exact HB.out | apply below_alloc | apply pw_below_drewN | apply below_drew1 | refine below_set ?_ GE715.out | refine below_set ?_ GE744.out) | exact HB.out)) hb); clear BK715; clear BK744; clear HB; have BK715 := n0_; have BK744 := n1_; have HB := n2_; clear n0_ n1_ n2_; (try clear hb); (try clear hb2); (try clear hk); (try clear hi)))
                  go_ret
                  exact ⟨by first | rfl | (simp [errW_none, errW_some] <;> rfl) | (simp [*, errW_none, errW_some] <;> rfl), by repeat (first | (with_reducible first | exact HB.out | apply below_alloc | apply pw_below_drewN | apply below_drew1 | refine below_set ?_ GE715.out | refine below_set ?_ GE744.out) | exact HB.out)⟩
                · rw [if_neg c74] at H
                  exact absurd ((Option.some.inj H).trans hrt_.out) (by decide)
              · rw [if_neg c72] at H
                have c72b0 : (t743 == 0) = false := beq_eq_false_iff_ne.mpr c72
                have c72b1 : (t743 != 0) = true := bne_iff_ne.mpr c72
                by_cases c85 : (t733 == 0 && (t734 == 0 && (t735 == 0 && (t736 == 0 && (t737 == 0 && (t738 == 0 && (t739 == 0 && (t740.toList == ([] : List UInt8) && (t741.toList == ([] : List UInt8)))))))))) = true
                · rw [if_pos c85] at H
                  have c85b0 : (t733 == 0 && (t734 == 0 && (t735 == 0 && (t736 == 0 && (t737 == 0 && (t738 == 0 && (t739 == 0 && (t740.toList == ([] : List UInt8) && (t741.toList == ([] : List UInt8)))))))))) = true := c85
                  (try (have c85b1 : decide (t733 = 0 && (t734 == 0 && (t735 == 0 && (t736 == 0 && (t737 == 0 && (t738 == 0 && (t739 == 0 && (t740.toList == ([] : List UInt8) && (t741.toList == ([] : List UInt8)))))))))) = true := by simpa using c85))
                  (try (have c85b2 : (t733 == 0 && (t734 == 0 && (t735 == 0 && (t736 == 0 && (t737 == 0 && (t738 == 0 && (t739 == 0 && (t740.toList == ([] : List UInt8) && (t741.toList == ([] : List UInt8)))))))))) = true := by simpa using c85))
                  (try (have c85b3 : ((t733 = 0 ∧ (t734 = 0 ∧ (t735 = 0 ∧ (t736 = 0 ∧ (t737 = 0 ∧ (t738 = 0 ∧ (t739 = 0 ∧ (t740.toList = ([] : List UInt8) ∧ (t741.toList = ([] : List UInt8))))))))))) = True := by simpa using c85))
                  clear c85
                  obtain rfl := Option.some.inj H
                  go_wp2_with (first | ((with_reducible refine gate_callee (f := 107) rfl ?_); refine goesL_ (some 73) rfl rfl Try.func107 (by kernel_rfl) rfl #[.string a2] rfl (by (try simp only [List.map_toArray, List.map_cons, List.map_nil]); first | done | rfl | (simp only [List.length_drop, List.length_take]; rfl)) ?_; (with_reducible refine (tcp_Get.calls a2 t733 t734 t735 t736 t737 t738 t739 t740 t741 t742 t743 _ A71.out).mono ?_); rintro e w86 ⟨rfl, hb⟩; refine ⟨_, rfl, ?_⟩; have n0_ := Aside0.mk (blk_below (g := gb715) (o := .cells #[.int .i64 a0_0, .int .i64 a0_1, .int .u32 a0_2, .int .u32 a0_3, .int .i64 a0_4, .int .i64 a0_5, .int .i64 a0_6, .string a0_7, .string a0_8] 127 (0, 0)) (by (with_reducible repeat (first | refine blk_drewN ?_ _ | refine blk_drew ?_ | refine blk_alloc ?_ _)); exact BK715.out) hb); have n1_ := Aside0.mk (below_step (by repeat (first | (with_reducible first | exact HB.out | apply below_alloc | apply pw_below_drewN | apply below_drew1 | refine below_set ?_ GE715.out) | exact HB.out)) hb); clear BK715; clear HB; have BK715 := n0_; have HB := n1_; clear n0_ n1_; (try clear hb); (try clear hb2); (try clear hk); (try clear hi)) | ((with_reducible refine gate_dst (N := 12) rfl ?_); (try (refine gate_guard (by rfl) ?_; dsimp only)); refine box_event ?hg (N := 12) ?hd (cs := #[.int .i64 0, .int .i64 0, .int .u32 0, .int .u32 0, .int .i64 0, .int .i64 0, .int .i64 0, .string (⟨#[]⟩ : ByteArray), .string (⟨#[]⟩ : ByteArray)]) (t := 127) ?hr ?_; (case hd => rfl); (case hg => rfl); (case hr => first | (go_simp; done) | (go_simp; rfl)); intro gb744 hg w87 hbox hb; have n0_ := Aside0.mk (blk_below (g := gb715) (o := .cells #[.int .i64 a0_0, .int .i64 a0_1, .int .u32 a0_2, .int .u32 a0_3, .int .i64 a0_4, .int .i64 a0_5, .int .i64 a0_6, .string a0_7, .string a0_8] 127 (0, 0)) (by (with_reducible repeat (first | refine blk_drewN ?_ _ | refine blk_drew ?_ | refine blk_alloc ?_ _)); exact BK715.out) hb); have n1_ := Aside0.mk (below_step (by repeat (first | (with_reducible first | exact HB.out | apply below_alloc | apply pw_below_drewN | apply below_drew1 | refine below_set ?_ GE715.out) | exact HB.out)) hb); have n2_ := Aside0.mk (hbox); have n3_ := Aside0.mk ((by rw [hg]; exact (below_size (by repeat (first | (with_reducible first | exact HB.out | apply below_alloc | apply pw_below_drewN | apply below_drew1 | refine below_set ?_ GE715.out) | exact HB.out))) : w.heap.size ≤ gb744)); have n4_ := Aside0.mk ((by rw [hg]; exact (below_size (by repeat (first | (with_reducible first | exact HB.out | apply below_alloc | apply pw_below_drewN | apply below_drew1 | refine below_set ?_ GE715.out) | exact HB.out))) : w.heap.size ≤ gb744)); have n5_ := Aside0.mk ((by rw [hg]; exact Nat.ne_of_lt (blk_lt (g := gb715) (o := .cells #[.int .i64 a0_0, .int .i64 a0_1, .int .u32 a0_2, .int .u32 a0_3, .int .i64 a0_4, .int .i64 a0_5, .int .i64 a0_6, .string a0_7, .string a0_8] 127 (0, 0)) (by (with_reducible repeat (first | refine blk_drewN ?_ _ | refine blk_drew ?_ | refine blk_alloc ?_ _)); exact BK715.out)) : gb715 ≠ gb744)); have n6_ := Aside0.mk ((by rw [hg]; exact Nat.ne_of_gt (blk_lt (g := gb715) (o := .cells #[.int .i64 a0_0, .int .i64 a0_1, .int .u32 a0_2, .int .u32 a0_3, .int .i64 a0_4, .int .i64 a0_5, .int .i64 a0_6, .string a0_7, .string a0_8] 127 (0, 0)) (by (with_reducible repeat (first | refine blk_drewN ?_ _ | refine blk_drew ?_ | refine blk_alloc ?_ _)); exact BK715.out)) : gb744 ≠ gb715)); clear BK715; clear HB; have BK715 := n0_; have HB := n1_; have BK744 := n2_; have GW744 := n3_; have GE744 := n4_; have NB715_744 := n5_; have NB744_715 := n6_; clear n0_ n1_ n2_ n3_ n4_ n5_ n6_; clear hb hbox hg; have hnb88 := NB744_715.out; have hnc88 := NB715_744.out; have hcz89_0 : w87.cell? ⟨gb744, 0, none⟩ = some (.int .i64 0) := (blk_cell BK744.out 0).trans rfl; have hcz89_1 : w87.cell? ⟨gb744, 1, none⟩ = some (.int .i64 0) := (blk_cell BK744.out 1).trans rfl; have hcz89_2 : w87.cell? ⟨gb744, 2, none⟩ = some (.int .u32 0) := (blk_cell BK744.out 2).trans rfl; have hcz89_3 : w87.cell? ⟨gb744, 3, none⟩ = some (.int .u32 0) := (blk_cell BK744.out 3).trans rfl; have hcz89_4 : w87.cell? ⟨gb744, 4, none⟩ = some (.int .i64 0) := (blk_cell BK744.out 4).trans rfl; have hcz89_5 : w87.cell? ⟨gb744, 5, none⟩ = some (.int .i64 0) := (blk_cell BK744.out 5).trans rfl; have hcz89_6 : w87.cell? ⟨gb744, 6, none⟩ = some (.int .i64 0) := (blk_cell BK744.out 6).trans rfl; have hcz89_7 : w87.cell? ⟨gb744, 7, none⟩ = some (.string (⟨#[]⟩ : ByteArray)) := (blk_cell BK744.out 7).trans rfl; have hcz89_8 : w87.cell? ⟨gb744, 8, none⟩ = some (.string (⟨#[]⟩ : ByteArray)) := (blk_cell BK744.out 8).trans rfl; have hfz89_0 := blk_frozen BK744.out 0; have hfz89_1 := blk_frozen BK744.out 1; have hfz89_2 := blk_frozen BK744.out 2; have hfz89_3 := blk_frozen BK744.out 3; have hfz89_4 := blk_frozen BK744.out 4; have hfz89_5 := blk_frozen BK744.out 5; have hfz89_6 := blk_frozen BK744.out 6; have hfz89_7 := blk_frozen BK744.out 7; have hfz89_8 := blk_frozen BK744.out 8))
                  go_ret
                  exact ⟨by first | rfl | (simp [errW_none, errW_some] <;> rfl) | (simp [*, errW_none, errW_some] <;> rfl), by repeat (first | (with_reducible first | exact HB.out | apply below_alloc | apply pw_below_drewN | apply below_drew1 | refine below_set ?_ GE715.out | refine below_set ?_ GE744.out) | exact HB.out)⟩
                · rw [if_neg c85] at H
                  exact absurd ((Option.some.inj H).trans hrt_.out) (by decide)
  · replace c5 := Bool.eq_false_iff.mpr c5
    subst c5
    have H1 : (some false) = some r := by rw [if_neg (show ¬ (false = true) by decide)] at H; exact H
    exact absurd ((Option.some.inj H1).trans hrt_.out) (by decide)
end Go.Proofs.Ytejmipoolbodgaa.G
