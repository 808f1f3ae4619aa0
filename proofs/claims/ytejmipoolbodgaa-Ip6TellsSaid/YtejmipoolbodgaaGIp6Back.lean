-- Laid by a program of this session (wip/gen/gprint.py) over the translation's print. Lean checks it.
import Derived.Test.YtejmipoolbodgaaG0
import Derived.Test.YtejmipoolbodgaaGEq4
import Derived.Test.YtejmipoolbodgaaGlaw06
import Derived.Test.YtejmipoolbodgaaHIp6
namespace Go.Proofs.Ytejmipoolbodgaa.G
open Go.RowKit Go.Proofs.YtejmipoolbodgaaW.PrintWords Go.Proofs.YtejmipoolbodgaaW.PrintLast Go.Proofs.YtejmipoolbodgaaW.PrintMore
attribute [local go_sem] max2_int min2_int max_two min_two max_three min_three max_four min_four   -- for this text's walks alone
set_option linter.unusedVariables false
set_option linter.unusedSimpArgs false

attribute [local go_sem high] eqA114
/-! ### palanquinlaw06_Ip6Back: function 24 -/
mutual
def palanquinlaw06_Ip6Back.j0 : Nat → ByteArray → ByteArray → Bool → Int → Int → Int → Int → ByteArray → ByteArray → Option (Bool)
  | 0, _, _, _, _, _, _, _, _, _ => none
  | k + 1, x1, x2, x31, x580000, x580001, x580002, x580003, x580004, x580005 => if x31 = true then (some true) else ((ip6_Put.f x580000 x580001 x580002 x580003 x580004 x580005 x1).bind fun bt582 => (if bt582.2 = 0 then ((ip6_Get.f bt582.1).bind fun bt584 => (if (!(bt584.1 == x580000) || (!(bt584.2.1 == x580001) || (!(bt584.2.2.1 == x580002) || (!(bt584.2.2.2.1 == x580003) || (!(bt584.2.2.2.2.1.toList == x580004.toList) || (!(bt584.2.2.2.2.2.1.toList == x580005.toList))))))) = true then (some false) else (if bt584.2.2.2.2.2.2.1.toList = x1.toList then (if bt584.2.2.2.2.2.2.2 = 0 then (if (bt582.1.size : Int) = (wrap64 (40 + (x1.size : Int))) then (palanquinlaw06_Ip6Back.j1 k x2) else (some false)) else (some false)) else (some false)))) else (if bt582.1.toList = ([] : List UInt8) then (palanquinlaw06_Ip6Back.j1 k x2) else (some false))))
def palanquinlaw06_Ip6Back.j1 : Nat → ByteArray → Option (Bool)
  | 0, _ => none
  | k + 1, x2 => (ip6_Get.f x2).bind fun bt593 => (if bt593.2.2.2.2.2.2.2 = 0 then ((ip6_Put.f bt593.1 bt593.2.1 bt593.2.2.1 bt593.2.2.2.1 bt593.2.2.2.2.1 bt593.2.2.2.2.2.1 bt593.2.2.2.2.2.2.1).bind fun bt602 => (if bt602.2 = 0 then (some (bt602.1.toList == x2.toList)) else (some false))) else (if (bt593.1 == 0 && (bt593.2.1 == 0 && (bt593.2.2.1 == 0 && (bt593.2.2.2.1 == 0 && (bt593.2.2.2.2.1.toList == ([] : List UInt8) && (bt593.2.2.2.2.2.1.toList == ([] : List UInt8))))))) = true then (some (bt593.2.2.2.2.2.2.1.toList == ([] : List UInt8))) else (some false)))
end
def palanquinlaw06_Ip6Back.f (k : Nat) (a0_0 : Int) (a0_1 : Int) (a0_2 : Int) (a0_3 : Int) (a0_4 : ByteArray) (a0_5 : ByteArray) (a1 : ByteArray) (a2 : ByteArray) : Option (Bool) := (palanquinlaw06_awake.f).bind fun t580 => (if t580 = true then ((palanquinlaw06_few.f a0_0 a0_1 a0_2 a0_3 a0_4 a0_5).bind fun t581 => (if t581 = true then (if (a1.size : Int) > 70000 then (palanquinlaw06_Ip6Back.j0 k a1 a2 true a0_0 a0_1 a0_2 a0_3 a0_4 a0_5) else (palanquinlaw06_Ip6Back.j0 k a1 a2 (decide ((a2.size : Int) > 70000)) a0_0 a0_1 a0_2 a0_3 a0_4 a0_5)) else (palanquinlaw06_Ip6Back.j0 k a1 a2 true a0_0 a0_1 a0_2 a0_3 a0_4 a0_5))) else (some false))
theorem palanquinlaw06_Ip6Back.mono_l : ∀ k, (∀ y0 y1 y2 y3 y4 y5 y6 y7 y8, LeO (palanquinlaw06_Ip6Back.j0 k y0 y1 y2 y3 y4 y5 y6 y7 y8) (palanquinlaw06_Ip6Back.j0 (k + 1) y0 y1 y2 y3 y4 y5 y6 y7 y8)) ∧ (∀ y0, LeO (palanquinlaw06_Ip6Back.j1 k y0) (palanquinlaw06_Ip6Back.j1 (k + 1) y0))
  | 0 => ⟨fun _ _ _ _ _ _ _ _ _ r h => by simp [palanquinlaw06_Ip6Back.j0] at h, fun _ r h => by simp [palanquinlaw06_Ip6Back.j1] at h⟩
  | k + 1 => by
    obtain ⟨ih0, ih1⟩ := palanquinlaw06_Ip6Back.mono_l k
    refine ⟨?_, ?_⟩
    · intro y0 y1 y2 y3 y4 y5 y6 y7 y8
      unfold palanquinlaw06_Ip6Back.j0
      repeat' first
      | (with_reducible exact ih0 _ _ _ _ _ _ _ _ _)
      | (with_reducible exact ih1 _)
      | (with_reducible exact LeO.refl _)
      | (with_reducible exact LeO.none _)
      | (with_reducible refine LeO.ite ?_ ?_)
      | (with_reducible refine LeO.bind ?_ (fun _ => ?_))
      | exact ih0 _ _ _ _ _ _ _ _ _
      | exact ih1 _
      | exact LeO.none _
      | refine LeO.ite ?_ ?_
      | refine LeO.bind ?_ (fun _ => ?_)
    · intro y0
      unfold palanquinlaw06_Ip6Back.j1
      repeat' first
      | (with_reducible exact ih0 _ _ _ _ _ _ _ _ _)
      | (with_reducible exact ih1 _)
      | (with_reducible exact LeO.refl _)
      | (with_reducible exact LeO.none _)
      | (with_reducible refine LeO.ite ?_ ?_)
      | (with_reducible refine LeO.bind ?_ (fun _ => ?_))
      | exact ih0 _ _ _ _ _ _ _ _ _
      | exact ih1 _
      | exact LeO.none _
      | refine LeO.ite ?_ ?_
      | refine LeO.bind ?_ (fun _ => ?_)
theorem palanquinlaw06_Ip6Back.mono : ∀ a0 a1 a2 a3 a4 a5 a6 a7 k, LeO (palanquinlaw06_Ip6Back.f k a0 a1 a2 a3 a4 a5 a6 a7) (palanquinlaw06_Ip6Back.f (k + 1) a0 a1 a2 a3 a4 a5 a6 a7) := by
  intro a0 a1 a2 a3 a4 a5 a6 a7 k
  obtain ⟨ih0, ih1⟩ := palanquinlaw06_Ip6Back.mono_l k
  unfold palanquinlaw06_Ip6Back.f
  repeat' first
      | (with_reducible exact ih0 _ _ _ _ _ _ _ _ _)
      | (with_reducible exact ih1 _)
      | (with_reducible exact LeO.refl _)
      | (with_reducible exact LeO.none _)
      | (with_reducible refine LeO.ite ?_ ?_)
      | (with_reducible refine LeO.bind ?_ (fun _ => ?_))
      | exact ih0 _ _ _ _ _ _ _ _ _
      | exact ih1 _
      | exact LeO.none _
      | refine LeO.ite ?_ ?_
      | refine LeO.bind ?_ (fun _ => ?_)
set_option maxHeartbeats 8000000 in
set_option maxRecDepth 100000 in
theorem palanquinlaw06_Ip6Back.calls (k : Nat) (a0_0 : Int) (a0_1 : Int) (a0_2 : Int) (a0_3 : Int) (a0_4 : ByteArray) (a0_5 : ByteArray) (a1 : ByteArray) (a2 : ByteArray) (r : Bool) (w : World) (h : palanquinlaw06_Ip6Back.f k a0_0 a0_1 a0_2 a0_3 a0_4 a0_5 a1 a2 = some r) (hrt_ : Aside0 (r = true)) :
    Calls Try.prog 24 #[.agg #[.int .i64 a0_0, .int .i64 a0_1, .int .i64 a0_2, .int .i64 a0_3, .string a0_4, .string a0_5], .string a1, .string a2] w fun e w' => e = .returned (.bool r) ∧ Below w.heap.size w w' := by
  have hu114 := Try.underlying114
  have HB := Aside0.mk (Below.refl w.heap.size w)
  have H : ((palanquinlaw06_awake.f).bind fun t580 => (if t580 = true then ((palanquinlaw06_few.f a0_0 a0_1 a0_2 a0_3 a0_4 a0_5).bind fun t581 => (if t581 = true then (if (a1.size : Int) > 70000 then (palanquinlaw06_Ip6Back.j0 k a1 a2 true a0_0 a0_1 a0_2 a0_3 a0_4 a0_5) else (palanquinlaw06_Ip6Back.j0 k a1 a2 (decide ((a2.size : Int) > 70000)) a0_0 a0_1 a0_2 a0_3 a0_4 a0_5)) else (palanquinlaw06_Ip6Back.j0 k a1 a2 true a0_0 a0_1 a0_2 a0_3 a0_4 a0_5))) else (some false))) = some r := h
  clear h
  replace H := Option.bind_eq_some_iff.mp H
  obtain ⟨t580, A40, H⟩ := H
  replace H : (if t580 = true then ((palanquinlaw06_few.f a0_0 a0_1 a0_2 a0_3 a0_4 a0_5).bind fun t581 => (if t581 = true then (if (a1.size : Int) > 70000 then (palanquinlaw06_Ip6Back.j0 k a1 a2 true a0_0 a0_1 a0_2 a0_3 a0_4 a0_5) else (palanquinlaw06_Ip6Back.j0 k a1 a2 (decide ((a2.size : Int) > 70000)) a0_0 a0_1 a0_2 a0_3 a0_4 a0_5)) else (palanquinlaw06_Ip6Back.j0 k a1 a2 true a0_0 a0_1 a0_2 a0_3 a0_4 a0_5))) else (some false)) = some r := H
  have A4 := Aside0.mk A40
  clear A40
  by_cases c5 : t580 = true
  · subst c5
    have H1 : ((palanquinlaw06_few.f a0_0 a0_1 a0_2 a0_3 a0_4 a0_5).bind fun t581 => (if t581 = true then (if (a1.size : Int) > 70000 then (palanquinlaw06_Ip6Back.j0 k a1 a2 true a0_0 a0_1 a0_2 a0_3 a0_4 a0_5) else (palanquinlaw06_Ip6Back.j0 k a1 a2 (decide ((a2.size : Int) > 70000)) a0_0 a0_1 a0_2 a0_3 a0_4 a0_5)) else (palanquinlaw06_Ip6Back.j0 k a1 a2 true a0_0 a0_1 a0_2 a0_3 a0_4 a0_5))) = some r := by rw [if_pos rfl] at H; exact H
    clear H
    have H := H1
    clear H1
    have HC6 := Aside0.mk H
    clear H
    go_enter Try.func24, Try.ntmps24
    go_upto_region 3 with (first | ((with_reducible refine gate_dst (N := 3) rfl ?_); (try (refine gate_guard (by rfl) ?_; dsimp only)); refine box_event ?hg (N := 3) ?hd (cs := #[.int .i64 a0_0, .int .i64 a0_1, .int .i64 a0_2, .int .i64 a0_3, .string a0_4, .string a0_5]) (t := 114) ?hr ?_; (case hd => rfl); (case hg => rfl); (case hr => first | (go_simp; done) | (go_simp; rfl)); intro gb579 hg w7 hbox hb; have n0_ := Aside0.mk (below_step (by repeat (first | (with_reducible first | exact HB.out | apply below_alloc | apply pw_below_drewN | apply below_drew1) | exact HB.out)) hb); have n1_ := Aside0.mk (hbox); have n2_ := Aside0.mk ((by rw [hg]; exact (below_size (by repeat (first | (with_reducible first | exact HB.out | apply below_alloc | apply pw_below_drewN | apply below_drew1) | exact HB.out))) : w.heap.size ≤ gb579)); have n3_ := Aside0.mk ((by rw [hg]; exact (below_size (by repeat (first | (with_reducible first | exact HB.out | apply below_alloc | apply pw_below_drewN | apply below_drew1) | exact HB.out))) : w.heap.size ≤ gb579)); clear HB; have HB := n0_; have BK579 := n1_; have GW579 := n2_; have GE579 := n3_; clear n0_ n1_ n2_ n3_; clear hb hbox hg) | ((with_reducible refine gate_callee (f := 96) rfl ?_); refine goesL_ (some 17) rfl rfl Try.func96 (by kernel_rfl) rfl #[] rfl (by (try simp only [List.map_toArray, List.map_cons, List.map_nil]); first | done | rfl | (simp only [List.length_drop, List.length_take]; rfl)) ?_; (with_reducible refine (palanquinlaw06_awake.calls  true _ A4.out).mono ?_); rintro e w8 ⟨rfl, hb⟩; refine ⟨_, rfl, ?_⟩; have n0_ := Aside0.mk (blk_below (g := gb579) (o := .cells #[.int .i64 a0_0, .int .i64 a0_1, .int .i64 a0_2, .int .i64 a0_3, .string a0_4, .string a0_5] 114 (0, 0)) (by (with_reducible repeat (first | refine blk_drewN ?_ _ | refine blk_drew ?_ | refine blk_alloc ?_ _)); exact BK579.out) hb); have n1_ := Aside0.mk (below_step (by repeat (first | (with_reducible first | exact HB.out | apply below_alloc | apply pw_below_drewN | apply below_drew1 | refine below_set ?_ GE579.out) | exact HB.out)) hb); clear BK579; clear HB; have BK579 := n0_; have HB := n1_; clear n0_ n1_; (try clear hb); (try clear hb2); (try clear hk); (try clear hi)))
    (try simp only [Act.put, List.setIfInBounds_toArray, List.set_cons_zero, List.set_cons_succ])
    go_cut [31] (fun v31 wc => ∃ (kq : Nat) (x31_5 : Bool), v31 = .bool x31_5 ∧ Aside0 (palanquinlaw06_Ip6Back.j0 kq a1 a2 x31_5 a0_0 a0_1 a0_2 a0_3 a0_4 a0_5 = some r) ∧ Aside0 (kq ≤ k) ∧ Aside0 (wc.heap[gb579]? = some (.cells #[.int .i64 a0_0, .int .i64 a0_1, .int .i64 a0_2, .int .i64 a0_3, .string a0_4, .string a0_5] 114 (0, 0))) ∧ Aside0 (Below w.heap.size w wc))
    case first =>
      have H := HC6.out
      clear HC6
      replace H := Option.bind_eq_some_iff.mp H
      obtain ⟨t581, A90, H⟩ := H
      replace H : (if t581 = true then (if (a1.size : Int) > 70000 then (palanquinlaw06_Ip6Back.j0 k a1 a2 true a0_0 a0_1 a0_2 a0_3 a0_4 a0_5) else (palanquinlaw06_Ip6Back.j0 k a1 a2 (decide ((a2.size : Int) > 70000)) a0_0 a0_1 a0_2 a0_3 a0_4 a0_5)) else (palanquinlaw06_Ip6Back.j0 k a1 a2 true a0_0 a0_1 a0_2 a0_3 a0_4 a0_5)) = some r := H
      have A9 := Aside0.mk A90
      clear A90
      by_cases c10 : t581 = true
      · subst c10
        have H1 : (if (a1.size : Int) > 70000 then (palanquinlaw06_Ip6Back.j0 k a1 a2 true a0_0 a0_1 a0_2 a0_3 a0_4 a0_5) else (palanquinlaw06_Ip6Back.j0 k a1 a2 (decide ((a2.size : Int) > 70000)) a0_0 a0_1 a0_2 a0_3 a0_4 a0_5)) = some r := by rw [if_pos rfl] at H; exact H
        clear H
        have H := H1
        clear H1
        by_cases c11 : (a1.size : Int) > 70000
        · rw [if_pos c11] at H
          have c11b0 : decide (70000 < (a1.size : Int)) = true := decide_eq_true c11
          have c11b1 : decide (70000 < a1.size) = true := decide_eq_true (by omega)
          clear c11
          (first | rw [c11b0] | (simp only [i64_w, i32_w]; rw [c11b0]) | skip)
          have H' := Aside0.mk H
          clear H
          have hcz12_0 : w8.cell? ⟨gb579, 0, none⟩ = some (.int .i64 a0_0) := (blk_cell BK579.out 0).trans rfl
          have hcz12_1 : w8.cell? ⟨gb579, 1, none⟩ = some (.int .i64 a0_1) := (blk_cell BK579.out 1).trans rfl
          have hcz12_2 : w8.cell? ⟨gb579, 2, none⟩ = some (.int .i64 a0_2) := (blk_cell BK579.out 2).trans rfl
          have hcz12_3 : w8.cell? ⟨gb579, 3, none⟩ = some (.int .i64 a0_3) := (blk_cell BK579.out 3).trans rfl
          have hcz12_4 : w8.cell? ⟨gb579, 4, none⟩ = some (.string a0_4) := (blk_cell BK579.out 4).trans rfl
          have hcz12_5 : w8.cell? ⟨gb579, 5, none⟩ = some (.string a0_5) := (blk_cell BK579.out 5).trans rfl
          have hfz12_0 := blk_frozen BK579.out 0
          have hfz12_1 := blk_frozen BK579.out 1
          have hfz12_2 := blk_frozen BK579.out 2
          have hfz12_3 := blk_frozen BK579.out 3
          have hfz12_4 := blk_frozen BK579.out 4
          have hfz12_5 := blk_frozen BK579.out 5
          go_wp2_with (first | ((with_reducible refine gate_callee (f := 97) rfl ?_); refine goesL_ (some 20) rfl rfl Try.func97 (by kernel_rfl) rfl #[.agg #[.int .i64 a0_0, .int .i64 a0_1, .int .i64 a0_2, .int .i64 a0_3, .string a0_4, .string a0_5]] rfl (by (try simp only [List.map_toArray, List.map_cons, List.map_nil]); first | done | rfl | (simp only [List.length_drop, List.length_take]; rfl)) ?_; (with_reducible refine (palanquinlaw06_few.calls a0_0 a0_1 a0_2 a0_3 a0_4 a0_5 true _ A9.out).mono ?_); rintro e w13 ⟨rfl, hb⟩; refine ⟨_, rfl, ?_⟩; have n0_ := Aside0.mk (blk_below (g := gb579) (o := .cells #[.int .i64 a0_0, .int .i64 a0_1, .int .i64 a0_2, .int .i64 a0_3, .string a0_4, .string a0_5] 114 (0, 0)) (by (with_reducible repeat (first | refine blk_drewN ?_ _ | refine blk_drew ?_ | refine blk_alloc ?_ _)); exact BK579.out) hb); have n1_ := Aside0.mk (below_step (by repeat (first | (with_reducible first | exact HB.out | apply below_alloc | apply pw_below_drewN | apply below_drew1 | refine below_set ?_ GE579.out) | exact HB.out)) hb); clear BK579; clear HB; have BK579 := n0_; have HB := n1_; clear n0_ n1_; (try clear hb); (try clear hb2); (try clear hk); (try clear hi)))
          go_meet
          case rel => exact ⟨_, (true), (by first | rfl | (simp; done) | (simp [*]; done)), H', ⟨by first | omega | exact Nat.le_refl _⟩, ⟨by (with_reducible repeat (first | refine blk_drewN ?_ _ | refine blk_drew ?_ | refine blk_alloc ?_ _)); exact BK579.out⟩, ⟨by repeat (first | (with_reducible first | exact HB.out | apply below_alloc | apply pw_below_drewN | apply below_drew1 | refine below_set ?_ GE579.out) | exact HB.out)⟩⟩
        · rw [if_neg c11] at H
          have c11b0 : decide (70000 < (a1.size : Int)) = false := decide_eq_false c11
          have c11b1 : decide (70000 < a1.size) = false := decide_eq_false (by omega)
          clear c11
          (first | rw [c11b0] | (simp only [i64_w, i32_w]; rw [c11b0]) | skip)
          have H' := Aside0.mk H
          clear H
          have hcz14_0 : w8.cell? ⟨gb579, 0, none⟩ = some (.int .i64 a0_0) := (blk_cell BK579.out 0).trans rfl
          have hcz14_1 : w8.cell? ⟨gb579, 1, none⟩ = some (.int .i64 a0_1) := (blk_cell BK579.out 1).trans rfl
          have hcz14_2 : w8.cell? ⟨gb579, 2, none⟩ = some (.int .i64 a0_2) := (blk_cell BK579.out 2).trans rfl
          have hcz14_3 : w8.cell? ⟨gb579, 3, none⟩ = some (.int .i64 a0_3) := (blk_cell BK579.out 3).trans rfl
          have hcz14_4 : w8.cell? ⟨gb579, 4, none⟩ = some (.string a0_4) := (blk_cell BK579.out 4).trans rfl
          have hcz14_5 : w8.cell? ⟨gb579, 5, none⟩ = some (.string a0_5) := (blk_cell BK579.out 5).trans rfl
          have hfz14_0 := blk_frozen BK579.out 0
          have hfz14_1 := blk_frozen BK579.out 1
          have hfz14_2 := blk_frozen BK579.out 2
          have hfz14_3 := blk_frozen BK579.out 3
          have hfz14_4 := blk_frozen BK579.out 4
          have hfz14_5 := blk_frozen BK579.out 5
          go_wp2_with (first | ((with_reducible refine gate_callee (f := 97) rfl ?_); refine goesL_ (some 20) rfl rfl Try.func97 (by kernel_rfl) rfl #[.agg #[.int .i64 a0_0, .int .i64 a0_1, .int .i64 a0_2, .int .i64 a0_3, .string a0_4, .string a0_5]] rfl (by (try simp only [List.map_toArray, List.map_cons, List.map_nil]); first | done | rfl | (simp only [List.length_drop, List.length_take]; rfl)) ?_; (with_reducible refine (palanquinlaw06_few.calls a0_0 a0_1 a0_2 a0_3 a0_4 a0_5 true _ A9.out).mono ?_); rintro e w15 ⟨rfl, hb⟩; refine ⟨_, rfl, ?_⟩; have n0_ := Aside0.mk (blk_below (g := gb579) (o := .cells #[.int .i64 a0_0, .int .i64 a0_1, .int .i64 a0_2, .int .i64 a0_3, .string a0_4, .string a0_5] 114 (0, 0)) (by (with_reducible repeat (first | refine blk_drewN ?_ _ | refine blk_drew ?_ | refine blk_alloc ?_ _)); exact BK579.out) hb); have n1_ := Aside0.mk (below_step (by repeat (first | (with_reducible first | exact HB.out | apply below_alloc | apply pw_below_drewN | apply below_drew1 | refine below_set ?_ GE579.out) | exact HB.out)) hb); clear BK579; clear HB; have BK579 := n0_; have HB := n1_; clear n0_ n1_; (try clear hb); (try clear hb2); (try clear hk); (try clear hi)))
          go_meet
          case rel => exact ⟨_, (decide ((a2.size : Int) > 70000)), (by first | rfl | (simp; done) | (simp [*]; done)), H', ⟨by first | omega | exact Nat.le_refl _⟩, ⟨by (with_reducible repeat (first | refine blk_drewN ?_ _ | refine blk_drew ?_ | refine blk_alloc ?_ _)); exact BK579.out⟩, ⟨by repeat (first | (with_reducible first | exact HB.out | apply below_alloc | apply pw_below_drewN | apply below_drew1 | refine below_set ?_ GE579.out) | exact HB.out)⟩⟩
      · replace c10 := Bool.eq_false_iff.mpr c10
        subst c10
        have H1 : (palanquinlaw06_Ip6Back.j0 k a1 a2 true a0_0 a0_1 a0_2 a0_3 a0_4 a0_5) = some r := by rw [if_neg (show ¬ (false = true) by decide)] at H; exact H
        clear H
        have H := H1
        clear H1
        have H' := Aside0.mk H
        clear H
        have hcz16_0 : w8.cell? ⟨gb579, 0, none⟩ = some (.int .i64 a0_0) := (blk_cell BK579.out 0).trans rfl
        have hcz16_1 : w8.cell? ⟨gb579, 1, none⟩ = some (.int .i64 a0_1) := (blk_cell BK579.out 1).trans rfl
        have hcz16_2 : w8.cell? ⟨gb579, 2, none⟩ = some (.int .i64 a0_2) := (blk_cell BK579.out 2).trans rfl
        have hcz16_3 : w8.cell? ⟨gb579, 3, none⟩ = some (.int .i64 a0_3) := (blk_cell BK579.out 3).trans rfl
        have hcz16_4 : w8.cell? ⟨gb579, 4, none⟩ = some (.string a0_4) := (blk_cell BK579.out 4).trans rfl
        have hcz16_5 : w8.cell? ⟨gb579, 5, none⟩ = some (.string a0_5) := (blk_cell BK579.out 5).trans rfl
        have hfz16_0 := blk_frozen BK579.out 0
        have hfz16_1 := blk_frozen BK579.out 1
        have hfz16_2 := blk_frozen BK579.out 2
        have hfz16_3 := blk_frozen BK579.out 3
        have hfz16_4 := blk_frozen BK579.out 4
        have hfz16_5 := blk_frozen BK579.out 5
        go_wp2_with (first | ((with_reducible refine gate_callee (f := 97) rfl ?_); refine goesL_ (some 20) rfl rfl Try.func97 (by kernel_rfl) rfl #[.agg #[.int .i64 a0_0, .int .i64 a0_1, .int .i64 a0_2, .int .i64 a0_3, .string a0_4, .string a0_5]] rfl (by (try simp only [List.map_toArray, List.map_cons, List.map_nil]); first | done | rfl | (simp only [List.length_drop, List.length_take]; rfl)) ?_; (with_reducible refine (palanquinlaw06_few.calls a0_0 a0_1 a0_2 a0_3 a0_4 a0_5 false _ A9.out).mono ?_); rintro e w17 ⟨rfl, hb⟩; refine ⟨_, rfl, ?_⟩; have n0_ := Aside0.mk (blk_below (g := gb579) (o := .cells #[.int .i64 a0_0, .int .i64 a0_1, .int .i64 a0_2, .int .i64 a0_3, .string a0_4, .string a0_5] 114 (0, 0)) (by (with_reducible repeat (first | refine blk_drewN ?_ _ | refine blk_drew ?_ | refine blk_alloc ?_ _)); exact BK579.out) hb); have n1_ := Aside0.mk (below_step (by repeat (first | (with_reducible first | exact HB.out | apply below_alloc | apply pw_below_drewN | apply below_drew1 | refine below_set ?_ GE579.out) | exact HB.out)) hb); clear BK579; clear HB; have BK579 := n0_; have HB := n1_; clear n0_ n1_; (try clear hb); (try clear hb2); (try clear hk); (try clear hi)))
        go_meet
        case rel => exact ⟨_, (true), (by first | rfl | (simp; done) | (simp [*]; done)), H', ⟨by first | omega | exact Nat.le_refl _⟩, ⟨by (with_reducible repeat (first | refine blk_drewN ?_ _ | refine blk_drew ?_ | refine blk_alloc ?_ _)); exact BK579.out⟩, ⟨by repeat (first | (with_reducible first | exact HB.out | apply below_alloc | apply pw_below_drewN | apply below_drew1 | refine below_set ?_ GE579.out) | exact HB.out)⟩⟩
    case rest =>
      clear HC6
      try clear c1
      try clear c2
      try clear p2
      try clear c5
      try clear p6
      try clear c9
      try clear c10
      try clear c11
      try clear c11b0
      try clear c11b1
      try clear hcz12_0
      try clear hcz12_1
      try clear hcz12_2
      try clear hcz12_3
      try clear hcz12_4
      try clear hcz12_5
      try clear hcz14_0
      try clear hcz14_1
      try clear hcz14_2
      try clear hcz14_3
      try clear hcz14_4
      try clear hcz14_5
      try clear hcz16_0
      try clear hcz16_1
      try clear hcz16_2
      try clear hcz16_3
      try clear hcz16_4
      try clear hcz16_5
      try clear hfz12_0
      try clear hfz12_1
      try clear hfz12_2
      try clear hfz12_3
      try clear hfz12_4
      try clear hfz12_5
      try clear hfz14_0
      try clear hfz14_1
      try clear hfz14_2
      try clear hfz14_3
      try clear hfz14_4
      try clear hfz14_5
      try clear hfz16_0
      try clear hfz16_1
      try clear hfz16_2
      try clear hfz16_3
      try clear hfz16_4
      try clear hfz16_5
      obtain ⟨kq, x31_5, rfl, HA, HJ5, BK579, HB⟩ := hcut
      cases kq with
      | zero => exact absurd HA.out (by simp [palanquinlaw06_Ip6Back.j0])
      | succ kj5 =>
        have H := HA.out
        clear HA
        simp only [palanquinlaw06_Ip6Back.j0] at H
        by_cases c18 : x31_5 = true
        · subst c18
          have H1 : (some true) = some r := by rw [if_pos rfl] at H; exact H
          clear H
          have H := H1
          clear H1
          obtain rfl := Option.some.inj H
          go_wp2
          go_ret
          exact ⟨by first | rfl | (simp [errW_none, errW_some] <;> rfl) | (simp [*, errW_none, errW_some] <;> rfl), by repeat (first | (with_reducible first | exact HB.out | apply below_alloc | apply pw_below_drewN | apply below_drew1 | refine below_set ?_ GE579.out) | exact HB.out)⟩
        · replace c18 := Bool.eq_false_iff.mpr c18
          subst c18
          have H1 : ((ip6_Put.f a0_0 a0_1 a0_2 a0_3 a0_4 a0_5 a1).bind fun bt582 => (if bt582.2 = 0 then ((ip6_Get.f bt582.1).bind fun bt584 => (if (!(bt584.1 == a0_0) || (!(bt584.2.1 == a0_1) || (!(bt584.2.2.1 == a0_2) || (!(bt584.2.2.2.1 == a0_3) || (!(bt584.2.2.2.2.1.toList == a0_4.toList) || (!(bt584.2.2.2.2.2.1.toList == a0_5.toList))))))) = true then (some false) else (if bt584.2.2.2.2.2.2.1.toList = a1.toList then (if bt584.2.2.2.2.2.2.2 = 0 then (if (bt582.1.size : Int) = (wrap64 (40 + (a1.size : Int))) then (palanquinlaw06_Ip6Back.j1 kj5 a2) else (some false)) else (some false)) else (some false)))) else (if bt582.1.toList = ([] : List UInt8) then (palanquinlaw06_Ip6Back.j1 kj5 a2) else (some false)))) = some r := by rw [if_neg (show ¬ (false = true) by decide)] at H; exact H
          clear H
          have H := H1
          clear H1
          replace H := Option.bind_eq_some_iff.mp H
          obtain ⟨⟨t582, t583⟩, A190, H⟩ := H
          replace H : (if t583 = 0 then ((ip6_Get.f t582).bind fun bt584 => (if (!(bt584.1 == a0_0) || (!(bt584.2.1 == a0_1) || (!(bt584.2.2.1 == a0_2) || (!(bt584.2.2.2.1 == a0_3) || (!(bt584.2.2.2.2.1.toList == a0_4.toList) || (!(bt584.2.2.2.2.2.1.toList == a0_5.toList))))))) = true then (some false) else (if bt584.2.2.2.2.2.2.1.toList = a1.toList then (if bt584.2.2.2.2.2.2.2 = 0 then (if (t582.size : Int) = (wrap64 (40 + (a1.size : Int))) then (palanquinlaw06_Ip6Back.j1 kj5 a2) else (some false)) else (some false)) else (some false)))) else (if t582.toList = ([] : List UInt8) then (palanquinlaw06_Ip6Back.j1 kj5 a2) else (some false))) = some r := H
          have A19 := Aside0.mk A190
          clear A190
          have HC20 := Aside0.mk H
          clear H
          have hcz21_0 : wc.cell? ⟨gb579, 0, none⟩ = some (.int .i64 a0_0) := (blk_cell BK579.out 0).trans rfl
          have hcz21_1 : wc.cell? ⟨gb579, 1, none⟩ = some (.int .i64 a0_1) := (blk_cell BK579.out 1).trans rfl
          have hcz21_2 : wc.cell? ⟨gb579, 2, none⟩ = some (.int .i64 a0_2) := (blk_cell BK579.out 2).trans rfl
          have hcz21_3 : wc.cell? ⟨gb579, 3, none⟩ = some (.int .i64 a0_3) := (blk_cell BK579.out 3).trans rfl
          have hcz21_4 : wc.cell? ⟨gb579, 4, none⟩ = some (.string a0_4) := (blk_cell BK579.out 4).trans rfl
          have hcz21_5 : wc.cell? ⟨gb579, 5, none⟩ = some (.string a0_5) := (blk_cell BK579.out 5).trans rfl
          have hfz21_0 := blk_frozen BK579.out 0
          have hfz21_1 := blk_frozen BK579.out 1
          have hfz21_2 := blk_frozen BK579.out 2
          have hfz21_3 := blk_frozen BK579.out 3
          have hfz21_4 := blk_frozen BK579.out 4
          have hfz21_5 := blk_frozen BK579.out 5
          go_upto_if 39 with (first | ((with_reducible refine gate_callee (f := 98) rfl ?_); refine goesL_ (some 35) rfl rfl Try.func98 (by kernel_rfl) rfl #[.agg #[.int .i64 a0_0, .int .i64 a0_1, .int .i64 a0_2, .int .i64 a0_3, .string a0_4, .string a0_5], .string a1] rfl (by (try simp only [List.map_toArray, List.map_cons, List.map_nil]); first | done | rfl | (simp only [List.length_drop, List.length_take]; rfl)) ?_; (with_reducible refine (ip6_Put.calls a0_0 a0_1 a0_2 a0_3 a0_4 a0_5 a1 t582 t583 _ A19.out).mono ?_); rintro e w22 ⟨rfl, hb⟩; refine ⟨_, rfl, ?_⟩; have n0_ := Aside0.mk (blk_below (g := gb579) (o := .cells #[.int .i64 a0_0, .int .i64 a0_1, .int .i64 a0_2, .int .i64 a0_3, .string a0_4, .string a0_5] 114 (0, 0)) (by (with_reducible repeat (first | refine blk_drewN ?_ _ | refine blk_drew ?_ | refine blk_alloc ?_ _)); exact BK579.out) hb); have n1_ := Aside0.mk (below_step (by repeat (first | (with_reducible first | exact HB.out | apply below_alloc | apply pw_below_drewN | apply below_drew1 | refine below_set ?_ GE579.out) | exact HB.out)) hb); clear BK579; clear HB; have BK579 := n0_; have HB := n1_; clear n0_ n1_; (try clear hb); (try clear hb2); (try clear hk); (try clear hi)))
          (try simp only [Act.put, List.setIfInBounds_toArray, List.set_cons_zero, List.set_cons_succ])
          go_cut [] (fun wc => ∃ (kq : Nat), Aside0 (palanquinlaw06_Ip6Back.j1 kq a2 = some r) ∧ Aside0 (kq ≤ kj5) ∧ Aside0 (wc.heap[gb579]? = some (.cells #[.int .i64 a0_0, .int .i64 a0_1, .int .i64 a0_2, .int .i64 a0_3, .string a0_4, .string a0_5] 114 (0, 0))) ∧ Aside0 (Below w.heap.size w wc))
          case first =>
            have H := HC20.out
            clear HC20
            by_cases c23 : t583 = 0
            · rw [if_pos c23] at H
              have c23b0 : (t583 == 0) = true := beq_iff_eq.mpr c23
              have c23b1 : (t583 != 0) = false := bne_eq_false_iff_eq.mpr c23
              clear c23
              (first | rw [c23b0] | (simp only [i64_w, i32_w]; rw [c23b0]) | skip)
              replace H := Option.bind_eq_some_iff.mp H
              obtain ⟨⟨t584, t585, t586, t587, t588, t589, t590, t591⟩, A240, H⟩ := H
              replace H : (if (!(t584 == a0_0) || (!(t585 == a0_1) || (!(t586 == a0_2) || (!(t587 == a0_3) || (!(t588.toList == a0_4.toList) || (!(t589.toList == a0_5.toList))))))) = true then (some false) else (if t590.toList = a1.toList then (if t591 = 0 then (if (t582.size : Int) = (wrap64 (40 + (a1.size : Int))) then (palanquinlaw06_Ip6Back.j1 kj5 a2) else (some false)) else (some false)) else (some false))) = some r := H
              have A24 := Aside0.mk A240
              clear A240
              by_cases c25 : (!(t584 == a0_0) || (!(t585 == a0_1) || (!(t586 == a0_2) || (!(t587 == a0_3) || (!(t588.toList == a0_4.toList) || (!(t589.toList == a0_5.toList))))))) = true
              · rw [if_pos c25] at H
                exact absurd ((Option.some.inj H).trans hrt_.out) (by decide)
              · rw [if_neg c25] at H
                have c25b0 : (!(t584 == a0_0) || (!(t585 == a0_1) || (!(t586 == a0_2) || (!(t587 == a0_3) || (!(t588.toList == a0_4.toList) || (!(t589.toList == a0_5.toList))))))) = false := by simpa using c25
                clear c25
                by_cases c31 : t590.toList = a1.toList
                · rw [if_pos c31] at H
                  have c31b0 : (t590.toList == a1.toList) = true := beq_iff_eq.mpr c31
                  have c31b1 : (t590.toList != a1.toList) = false := bne_eq_false_iff_eq.mpr c31
                  clear c31
                  by_cases c32 : t591 = 0
                  · rw [if_pos c32] at H
                    have c32b0 : (t591 == 0) = true := beq_iff_eq.mpr c32
                    have c32b1 : (t591 != 0) = false := bne_eq_false_iff_eq.mpr c32
                    clear c32
                    by_cases c33 : (t582.size : Int) = (wrap64 (40 + (a1.size : Int)))
                    · rw [if_pos c33] at H
                      have c33b0 : ((t582.size : Int) == (wrap64 (40 + (a1.size : Int)))) = true := beq_iff_eq.mpr c33
                      have c33b1 : ((t582.size : Int) != (wrap64 (40 + (a1.size : Int)))) = false := bne_eq_false_iff_eq.mpr c33
                      clear c33
                      have H' := Aside0.mk H
                      clear H
                      go_wp2_with (first | ((with_reducible refine gate_callee (f := 100) rfl ?_); refine goesL_ (some 42) rfl rfl Try.func100 (by kernel_rfl) rfl #[.string t582] rfl (by (try simp only [List.map_toArray, List.map_cons, List.map_nil]); first | done | rfl | (simp only [List.length_drop, List.length_take]; rfl)) ?_; (with_reducible refine (ip6_Get.calls t582 t584 t585 t586 t587 t588 t589 t590 t591 _ A24.out).mono ?_); rintro e w34 ⟨rfl, hb⟩; refine ⟨_, rfl, ?_⟩; have n0_ := Aside0.mk (blk_below (g := gb579) (o := .cells #[.int .i64 a0_0, .int .i64 a0_1, .int .i64 a0_2, .int .i64 a0_3, .string a0_4, .string a0_5] 114 (0, 0)) (by (with_reducible repeat (first | refine blk_drewN ?_ _ | refine blk_drew ?_ | refine blk_alloc ?_ _)); exact BK579.out) hb); have n1_ := Aside0.mk (below_step (by repeat (first | (with_reducible first | exact HB.out | apply below_alloc | apply pw_below_drewN | apply below_drew1 | refine below_set ?_ GE579.out) | exact HB.out)) hb); clear BK579; clear HB; have BK579 := n0_; have HB := n1_; clear n0_ n1_; (try clear hb); (try clear hb2); (try clear hk); (try clear hi)) | ((with_reducible refine gate_dst (N := 9) rfl ?_); (try (refine gate_guard (by rfl) ?_; dsimp only)); refine box_event ?hg (N := 9) ?hd (cs := #[.int .i64 0, .int .i64 0, .int .i64 0, .int .i64 0, .string (⟨#[]⟩ : ByteArray), .string (⟨#[]⟩ : ByteArray)]) (t := 114) ?hr ?_; (case hd => rfl); (case hg => rfl); (case hr => first | (go_simp; done) | (go_simp; rfl)); intro gb592 hg w35 hbox hb; have n0_ := Aside0.mk (blk_below (g := gb579) (o := .cells #[.int .i64 a0_0, .int .i64 a0_1, .int .i64 a0_2, .int .i64 a0_3, .string a0_4, .string a0_5] 114 (0, 0)) (by (with_reducible repeat (first | refine blk_drewN ?_ _ | refine blk_drew ?_ | refine blk_alloc ?_ _)); exact BK579.out) hb); have n1_ := Aside0.mk (below_step (by repeat (first | (with_reducible first | exact HB.out | apply below_alloc | apply pw_below_drewN | apply below_drew1 | refine below_set ?_ GE579.out) | exact HB.out)) hb); have n2_ := Aside0.mk (hbox); have n3_ := Aside0.mk ((by rw [hg]; exact (below_size (by repeat (first | (with_reducible first | exact HB.out | apply below_alloc | apply pw_below_drewN | apply below_drew1 | refine below_set ?_ GE579.out) | exact HB.out))) : w.heap.size ≤ gb592)); have n4_ := Aside0.mk ((by rw [hg]; exact (below_size (by repeat (first | (with_reducible first | exact HB.out | apply below_alloc | apply pw_below_drewN | apply below_drew1 | refine below_set ?_ GE579.out) | exact HB.out))) : w.heap.size ≤ gb592)); have n5_ := Aside0.mk ((by rw [hg]; exact Nat.ne_of_lt (blk_lt (g := gb579) (o := .cells #[.int .i64 a0_0, .int .i64 a0_1, .int .i64 a0_2, .int .i64 a0_3, .string a0_4, .string a0_5] 114 (0, 0)) (by (with_reducible repeat (first | refine blk_drewN ?_ _ | refine blk_drew ?_ | refine blk_alloc ?_ _)); exact BK579.out)) : gb579 ≠ gb592)); have n6_ := Aside0.mk ((by rw [hg]; exact Nat.ne_of_gt (blk_lt (g := gb579) (o := .cells #[.int .i64 a0_0, .int .i64 a0_1, .int .i64 a0_2, .int .i64 a0_3, .string a0_4, .string a0_5] 114 (0, 0)) (by (with_reducible repeat (first | refine blk_drewN ?_ _ | refine blk_drew ?_ | refine blk_alloc ?_ _)); exact BK579.out)) : gb592 ≠ gb579)); clear BK579; clear HB; have BK579 := n0_; have HB := n1_; have BK592 := n2_; have GW592 := n3_; have GE592 := n4_; have NB579_592 := n5_; have NB592_579 := n6_; clear n0_ n1_ n2_ n3_ n4_ n5_ n6_; clear hb hbox hg; have hnb36 := NB592_579.out; have hnc36 := NB579_592.out; have hcz37_0 : w35.cell? ⟨gb592, 0, none⟩ = some (.int .i64 0) := (blk_cell BK592.out 0).trans rfl; have hcz37_1 : w35.cell? ⟨gb592, 1, none⟩ = some (.int .i64 0) := (blk_cell BK592.out 1).trans rfl; have hcz37_2 : w35.cell? ⟨gb592, 2, none⟩ = some (.int .i64 0) := (blk_cell BK592.out 2).trans rfl; have hcz37_3 : w35.cell? ⟨gb592, 3, none⟩ = some (.int .i64 0) := (blk_cell BK592.out 3).trans rfl; have hcz37_4 : w35.cell? ⟨gb592, 4, none⟩ = some (.string (⟨#[]⟩ : ByteArray)) := (blk_cell BK592.out 4).trans rfl; have hcz37_5 : w35.cell? ⟨gb592, 5, none⟩ = some (.string (⟨#[]⟩ : ByteArray)) := (blk_cell BK592.out 5).trans rfl; have hfz37_0 := blk_frozen BK592.out 0; have hfz37_1 := blk_frozen BK592.out 1; have hfz37_2 := blk_frozen BK592.out 2; have hfz37_3 := blk_frozen BK592.out 3; have hfz37_4 := blk_frozen BK592.out 4; have hfz37_5 := blk_frozen BK592.out 5; have hcz38_0 : w35.cell? ⟨gb579, 0, none⟩ = some (.int .i64 a0_0) := (blk_cell BK579.out 0).trans rfl; have hcz38_1 : w35.cell? ⟨gb579, 1, none⟩ = some (.int .i64 a0_1) := (blk_cell BK579.out 1).trans rfl; have hcz38_2 : w35.cell? ⟨gb579, 2, none⟩ = some (.int .i64 a0_2) := (blk_cell BK579.out 2).trans rfl; have hcz38_3 : w35.cell? ⟨gb579, 3, none⟩ = some (.int .i64 a0_3) := (blk_cell BK579.out 3).trans rfl; have hcz38_4 : w35.cell? ⟨gb579, 4, none⟩ = some (.string a0_4) := (blk_cell BK579.out 4).trans rfl; have hcz38_5 : w35.cell? ⟨gb579, 5, none⟩ = some (.string a0_5) := (blk_cell BK579.out 5).trans rfl; have hfz38_0 := blk_frozen BK579.out 0; have hfz38_1 := blk_frozen BK579.out 1; have hfz38_2 := blk_frozen BK579.out 2; have hfz38_3 := blk_frozen BK579.out 3; have hfz38_4 := blk_frozen BK579.out 4; have hfz38_5 := blk_frozen BK579.out 5))
                      go_meet
                      case rel => exact ⟨_, H', ⟨by have := HJ5.out; first | omega | exact Nat.le_refl _⟩, ⟨by (with_reducible repeat (first | refine blk_drewN ?_ _ | refine blk_drew ?_ | refine blk_alloc ?_ _)); refine blk_far ?_ NB579_592.out _; (with_reducible repeat (first | refine blk_drewN ?_ _ | refine blk_drew ?_ | refine blk_alloc ?_ _)); refine blk_far ?_ NB579_592.out _; (with_reducible repeat (first | refine blk_drewN ?_ _ | refine blk_drew ?_ | refine blk_alloc ?_ _)); refine blk_far ?_ NB579_592.out _; (with_reducible repeat (first | refine blk_drewN ?_ _ | refine blk_drew ?_ | refine blk_alloc ?_ _)); refine blk_far ?_ NB579_592.out _; (with_reducible repeat (first | refine blk_drewN ?_ _ | refine blk_drew ?_ | refine blk_alloc ?_ _)); refine blk_far ?_ NB579_592.out _; (with_reducible repeat (first | refine blk_drewN ?_ _ | refine blk_drew ?_ | refine blk_alloc ?_ _)); refine blk_far ?_ NB579_592.out _; (with_reducible repeat (first | refine blk_drewN ?_ _ | refine blk_drew ?_ | refine blk_alloc ?_ _)); exact BK579.out⟩, ⟨by repeat (first | (with_reducible first | exact HB.out | apply below_alloc | apply pw_below_drewN | apply below_drew1 | refine below_set ?_ GE579.out | refine below_set ?_ GE592.out) | exact HB.out)⟩⟩
                    · rw [if_neg c33] at H
                      exact absurd ((Option.some.inj H).trans hrt_.out) (by decide)
                  · rw [if_neg c32] at H
                    exact absurd ((Option.some.inj H).trans hrt_.out) (by decide)
                · rw [if_neg c31] at H
                  exact absurd ((Option.some.inj H).trans hrt_.out) (by decide)
            · rw [if_neg c23] at H
              have c23b0 : (t583 == 0) = false := beq_eq_false_iff_ne.mpr c23
              have c23b1 : (t583 != 0) = true := bne_iff_ne.mpr c23
              (first | rw [c23b0] | (simp only [i64_w, i32_w]; rw [c23b0]) | skip)
              by_cases c54 : t582.toList = ([] : List UInt8)
              · rw [if_pos c54] at H
                have c54b0 : (t582.toList == ([] : List UInt8)) = true := beq_iff_eq.mpr c54
                have c54b1 : (t582.toList != ([] : List UInt8)) = false := bne_eq_false_iff_eq.mpr c54
                clear c54
                have H' := Aside0.mk H
                clear H
                go_wp2
                go_meet
                case rel => exact ⟨_, H', ⟨by have := HJ5.out; first | omega | exact Nat.le_refl _⟩, ⟨by (with_reducible repeat (first | refine blk_drewN ?_ _ | refine blk_drew ?_ | refine blk_alloc ?_ _)); exact BK579.out⟩, ⟨by repeat (first | (with_reducible first | exact HB.out | apply below_alloc | apply pw_below_drewN | apply below_drew1 | refine below_set ?_ GE579.out) | exact HB.out)⟩⟩
              · rw [if_neg c54] at H
                exact absurd ((Option.some.inj H).trans hrt_.out) (by decide)
          case rest =>
            clear HC20
            try clear c1
            try clear c2
            try clear p2
            try clear c3
            try clear c4
            try clear c5
            try clear p6
            try clear c9
            try clear c10
            try clear c11
            try clear c11b0
            try clear c11b1
            try clear c18
            try clear c23
            try clear c23b0
            try clear c23b1
            try clear c24
            try clear c25
            try clear c25b0
            try clear c28
            try clear c31
            try clear c31b0
            try clear c31b1
            try clear c32
            try clear c32b0
            try clear c32b1
            try clear c33
            try clear c33b0
            try clear c33b1
            try clear c36
            try clear c41
            try clear c46
            try clear c51
            try clear c54
            try clear c54b0
            try clear c54b1
            try clear hcz12_0
            try clear hcz12_1
            try clear hcz12_2
            try clear hcz12_3
            try clear hcz12_4
            try clear hcz12_5
            try clear hcz14_0
            try clear hcz14_1
            try clear hcz14_2
            try clear hcz14_3
            try clear hcz14_4
            try clear hcz14_5
            try clear hcz16_0
            try clear hcz16_1
            try clear hcz16_2
            try clear hcz16_3
            try clear hcz16_4
            try clear hcz16_5
            try clear hcz21_0
            try clear hcz21_1
            try clear hcz21_2
            try clear hcz21_3
            try clear hcz21_4
            try clear hcz21_5
            try clear hcz29_0
            try clear hcz29_1
            try clear hcz29_2
            try clear hcz29_3
            try clear hcz29_4
            try clear hcz29_5
            try clear hcz30_0
            try clear hcz30_1
            try clear hcz30_2
            try clear hcz30_3
            try clear hcz30_4
            try clear hcz30_5
            try clear hcz37_0
            try clear hcz37_1
            try clear hcz37_2
            try clear hcz37_3
            try clear hcz37_4
            try clear hcz37_5
            try clear hcz38_0
            try clear hcz38_1
            try clear hcz38_2
            try clear hcz38_3
            try clear hcz38_4
            try clear hcz38_5
            try clear hcz42_0
            try clear hcz42_1
            try clear hcz42_2
            try clear hcz42_3
            try clear hcz42_4
            try clear hcz42_5
            try clear hcz43_0
            try clear hcz43_1
            try clear hcz43_2
            try clear hcz43_3
            try clear hcz43_4
            try clear hcz43_5
            try clear hcz47_0
            try clear hcz47_1
            try clear hcz47_2
            try clear hcz47_3
            try clear hcz47_4
            try clear hcz47_5
            try clear hcz48_0
            try clear hcz48_1
            try clear hcz48_2
            try clear hcz48_3
            try clear hcz48_4
            try clear hcz48_5
            try clear hcz52_0
            try clear hcz52_1
            try clear hcz52_2
            try clear hcz52_3
            try clear hcz52_4
            try clear hcz52_5
            try clear hcz53_0
            try clear hcz53_1
            try clear hcz53_2
            try clear hcz53_3
            try clear hcz53_4
            try clear hcz53_5
            try clear hfz12_0
            try clear hfz12_1
            try clear hfz12_2
            try clear hfz12_3
            try clear hfz12_4
            try clear hfz12_5
            try clear hfz14_0
            try clear hfz14_1
            try clear hfz14_2
            try clear hfz14_3
            try clear hfz14_4
            try clear hfz14_5
            try clear hfz16_0
            try clear hfz16_1
            try clear hfz16_2
            try clear hfz16_3
            try clear hfz16_4
            try clear hfz16_5
            try clear hfz21_0
            try clear hfz21_1
            try clear hfz21_2
            try clear hfz21_3
            try clear hfz21_4
            try clear hfz21_5
            try clear hfz29_0
            try clear hfz29_1
            try clear hfz29_2
            try clear hfz29_3
            try clear hfz29_4
            try clear hfz29_5
            try clear hfz30_0
            try clear hfz30_1
            try clear hfz30_2
            try clear hfz30_3
            try clear hfz30_4
            try clear hfz30_5
            try clear hfz37_0
            try clear hfz37_1
            try clear hfz37_2
            try clear hfz37_3
            try clear hfz37_4
            try clear hfz37_5
            try clear hfz38_0
            try clear hfz38_1
            try clear hfz38_2
            try clear hfz38_3
            try clear hfz38_4
            try clear hfz38_5
            try clear hfz42_0
            try clear hfz42_1
            try clear hfz42_2
            try clear hfz42_3
            try clear hfz42_4
            try clear hfz42_5
            try clear hfz43_0
            try clear hfz43_1
            try clear hfz43_2
            try clear hfz43_3
            try clear hfz43_4
            try clear hfz43_5
            try clear hfz47_0
            try clear hfz47_1
            try clear hfz47_2
            try clear hfz47_3
            try clear hfz47_4
            try clear hfz47_5
            try clear hfz48_0
            try clear hfz48_1
            try clear hfz48_2
            try clear hfz48_3
            try clear hfz48_4
            try clear hfz48_5
            try clear hfz52_0
            try clear hfz52_1
            try clear hfz52_2
            try clear hfz52_3
            try clear hfz52_4
            try clear hfz52_5
            try clear hfz53_0
            try clear hfz53_1
            try clear hfz53_2
            try clear hfz53_3
            try clear hfz53_4
            try clear hfz53_5
            try clear p2
            try clear p6
            obtain ⟨kq, HA, HJ19, BK579, HB⟩ := hcut
            cases kq with
            | zero => exact absurd HA.out (by simp [palanquinlaw06_Ip6Back.j1])
            | succ kj19 =>
              have H := HA.out
              clear HA
              simp only [palanquinlaw06_Ip6Back.j1] at H
              replace H := Option.bind_eq_some_iff.mp H
              obtain ⟨⟨t593, t594, t595, t596, t597, t598, t599, t600⟩, A550, H⟩ := H
              replace H : (if t600 = 0 then ((ip6_Put.f t593 t594 t595 t596 t597 t598 t599).bind fun bt602 => (if bt602.2 = 0 then (some (bt602.1.toList == a2.toList)) else (some false))) else (if (t593 == 0 && (t594 == 0 && (t595 == 0 && (t596 == 0 && (t597.toList == ([] : List UInt8) && (t598.toList == ([] : List UInt8))))))) = true then (some (t599.toList == ([] : List UInt8))) else (some false))) = some r := H
              have A55 := Aside0.mk A550
              clear A550
              by_cases c56 : t600 = 0
              · rw [if_pos c56] at H
                have c56b0 : (t600 == 0) = true := beq_iff_eq.mpr c56
                have c56b1 : (t600 != 0) = false := bne_eq_false_iff_eq.mpr c56
                clear c56
                replace H := Option.bind_eq_some_iff.mp H
                obtain ⟨⟨t602, t603⟩, A570, H⟩ := H
                replace H : (if t603 = 0 then (some (t602.toList == a2.toList)) else (some false)) = some r := H
                have A57 := Aside0.mk A570
                clear A570
                by_cases c58 : t603 = 0
                · rw [if_pos c58] at H
                  have c58b0 : (t603 == 0) = true := beq_iff_eq.mpr c58
                  have c58b1 : (t603 != 0) = false := bne_eq_false_iff_eq.mpr c58
                  clear c58
                  obtain rfl := Option.some.inj H
                  go_wp2_with (first | ((with_reducible refine gate_callee (f := 100) rfl ?_); refine goesL_ (some 70) rfl rfl Try.func100 (by kernel_rfl) rfl #[.string a2] rfl (by (try simp only [List.map_toArray, List.map_cons, List.map_nil]); first | done | rfl | (simp only [List.length_drop, List.length_take]; rfl)) ?_; (with_reducible refine (ip6_Get.calls a2 t593 t594 t595 t596 t597 t598 t599 t600 _ A55.out).mono ?_); rintro e w59 ⟨rfl, hb⟩; refine ⟨_, rfl, ?_⟩; have n0_ := Aside0.mk (blk_below (g := gb579) (o := .cells #[.int .i64 a0_0, .int .i64 a0_1, .int .i64 a0_2, .int .i64 a0_3, .string a0_4, .string a0_5] 114 (0, 0)) (by (with_reducible repeat (first | refine blk_drewN ?_ _ | refine blk_drew ?_ | refine blk_alloc ?_ _)); exact BK579.out) hb); have n1_ := Aside0.mk (below_step (by repeat (first | (with_reducible first | exact HB.out | apply below_alloc | apply pw_below_drewN | apply below_drew1 | refine below_set ?_ GE579.out) | exact HB.out)) hb); clear BK579; clear HB; have BK579 := n0_; have HB := n1_; clear n0_ n1_; (try clear hb); (try clear hb2); (try clear hk); (try clear hi)) | ((with_reducible refine gate_dst (N := 12) rfl ?_); (try (refine gate_guard (by rfl) ?_; dsimp only)); refine box_event ?hg (N := 12) ?hd (cs := #[.int .i64 0, .int .i64 0, .int .i64 0, .int .i64 0, .string (⟨#[]⟩ : ByteArray), .string (⟨#[]⟩ : ByteArray)]) (t := 114) ?hr ?_; (case hd => rfl); (case hg => rfl); (case hr => first | (go_simp; done) | (go_simp; rfl)); intro gb601 hg w60 hbox hb; have n0_ := Aside0.mk (blk_below (g := gb579) (o := .cells #[.int .i64 a0_0, .int .i64 a0_1, .int .i64 a0_2, .int .i64 a0_3, .string a0_4, .string a0_5] 114 (0, 0)) (by (with_reducible repeat (first | refine blk_drewN ?_ _ | refine blk_drew ?_ | refine blk_alloc ?_ _)); exact BK579.out) hb); have n1_ := Aside0.mk (below_step (by repeat (first | (with_reducible first | exact HB.out | apply below_alloc | apply pw_below_drewN | apply below_drew1 | refine below_set ?_ GE579.out) | exact HB.out)) hb); have n2_ := Aside0.mk (hbox); have n3_ := Aside0.mk ((by rw [hg]; exact (below_size (by repeat (first | (with_reducible first | exact HB.out | apply below_alloc | apply pw_below_drewN | apply below_drew1 | refine below_set ?_ GE579.out) | exact HB.out))) : w.heap.size ≤ gb601)); have n4_ := Aside0.mk ((by rw [hg]; exact (below_size (by repeat (first | (with_reducible first | exact HB.out | apply below_alloc | apply pw_below_drewN | apply below_drew1 | refine below_set ?_ GE579.out) | exact HB.out))) : w.heap.size ≤ gb601)); have n5_ := Aside0.mk ((by rw [hg]; exact Nat.ne_of_lt (blk_lt (g := gb579) (o := .cells #[.int .i64 a0_0, .int .i64 a0_1, .int .i64 a0_2, .int .i64 a0_3, .string a0_4, .string a0_5] 114 (0, 0)) (by (with_reducible repeat (first | refine blk_drewN ?_ _ | refine blk_drew ?_ | refine blk_alloc ?_ _)); exact BK579.out)) : gb579 ≠ gb601)); have n6_ := Aside0.mk ((by rw [hg]; exact Nat.ne_of_gt (blk_lt (g := gb579) (o := .cells #[.int .i64 a0_0, .int .i64 a0_1, .int .i64 a0_2, .int .i64 a0_3, .string a0_4, .string a0_5] 114 (0, 0)) (by (with_reducible repeat (first | refine blk_drewN ?_ _ | refine blk_drew ?_ | refine blk_alloc ?_ _)); exact BK579.out)) : gb601 ≠ gb579)); clear BK579; clear HB; have BK579 := n0_; have HB := n1_; have BK601 := n2_; have GW601 := n3_; have GE601 := n4_; have NB579_601 := n5_; have NB601_579 := n6_; clear n0_ n1_ n2_ n3_ n4_ n5_ n6_; clear hb hbox hg; have hnb61 := NB601_579.out; have hnc61 := NB579_601.out; have hcz62_0 : w60.cell? ⟨gb601, 0, none⟩ = some (.int .i64 0) := (blk_cell BK601.out 0).trans rfl; have hcz62_1 : w60.cell? ⟨gb601, 1, none⟩ = some (.int .i64 0) := (blk_cell BK601.out 1).trans rfl; have hcz62_2 : w60.cell? ⟨gb601, 2, none⟩ = some (.int .i64 0) := (blk_cell BK601.out 2).trans rfl; have hcz62_3 : w60.cell? ⟨gb601, 3, none⟩ = some (.int .i64 0) := (blk_cell BK601.out 3).trans rfl; have hcz62_4 : w60.cell? ⟨gb601, 4, none⟩ = some (.string (⟨#[]⟩ : ByteArray)) := (blk_cell BK601.out 4).trans rfl; have hcz62_5 : w60.cell? ⟨gb601, 5, none⟩ = some (.string (⟨#[]⟩ : ByteArray)) := (blk_cell BK601.out 5).trans rfl; have hfz62_0 := blk_frozen BK601.out 0; have hfz62_1 := blk_frozen BK601.out 1; have hfz62_2 := blk_frozen BK601.out 2; have hfz62_3 := blk_frozen BK601.out 3; have hfz62_4 := blk_frozen BK601.out 4; have hfz62_5 := blk_frozen BK601.out 5) | ((with_reducible refine gate_callee (f := 98) rfl ?_); refine goesL_ (some 86) rfl rfl Try.func98 (by kernel_rfl) rfl #[.agg #[.int .i64 t593, .int .i64 t594, .int .i64 t595, .int .i64 t596, .string t597, .string t598], .string t599] rfl (by (try simp only [List.map_toArray, List.map_cons, List.map_nil]); first | done | rfl | (simp only [List.length_drop, List.length_take]; rfl)) ?_; (with_reducible refine (ip6_Put.calls t593 t594 t595 t596 t597 t598 t599 t602 t603 _ A57.out).mono ?_); rintro e w63 ⟨rfl, hb⟩; refine ⟨_, rfl, ?_⟩; have n0_ := Aside0.mk (blk_below (g := gb579) (o := .cells #[.int .i64 a0_0, .int .i64 a0_1, .int .i64 a0_2, .int .i64 a0_3, .string a0_4, .string a0_5] 114 (0, 0)) (by (with_reducible repeat (first | refine blk_drewN ?_ _ | refine blk_drew ?_ | refine blk_alloc ?_ _)); refine blk_far ?_ NB579_601.out _; (with_reducible repeat (first | refine blk_drewN ?_ _ | refine blk_drew ?_ | refine blk_alloc ?_ _)); refine blk_far ?_ NB579_601.out _; (with_reducible repeat (first | refine blk_drewN ?_ _ | refine blk_drew ?_ | refine blk_alloc ?_ _)); refine blk_far ?_ NB579_601.out _; (with_reducible repeat (first | refine blk_drewN ?_ _ | refine blk_drew ?_ | refine blk_alloc ?_ _)); refine blk_far ?_ NB579_601.out _; (with_reducible repeat (first | refine blk_drewN ?_ _ | refine blk_drew ?_ | refine blk_alloc ?_ _)); refine blk_far ?_ NB579_601.out _; (with_reducible repeat (first | refine blk_drewN ?_ _ | refine blk_drew ?_ | refine blk_alloc ?_ _)); refine blk_far ?_ NB579_601.out _; (with_reducible repeat (first | refine blk_drewN ?_ _ | refine blk_drew ?_ | refine blk_alloc ?_ _)); exact BK579.out) hb); have n1_ := Aside0.mk (blk_below (g := gb601) (o := .cells #[.int .i64 t593, .int .i64 t594, .int .i64 t595, .int .i64 t596, .string t597, .string t598] 114 (0, 0)) (by (with_reducible repeat (first | refine blk_drewN ?_ _ | refine blk_drew ?_ | refine blk_alloc ?_ _)); refine blk_put (cs := #[.int .i64 t593, .int .i64 t594, .int .i64 t595, .int .i64 t596, .string t597, .string (⟨#[]⟩ : ByteArray)]) ?_ 5 _ rfl; (with_reducible repeat (first | refine blk_drewN ?_ _ | refine blk_drew ?_ | refine blk_alloc ?_ _)); refine blk_put (cs := #[.int .i64 t593, .int .i64 t594, .int .i64 t595, .int .i64 t596, .string (⟨#[]⟩ : ByteArray), .string (⟨#[]⟩ : ByteArray)]) ?_ 4 _ rfl; (with_reducible repeat (first | refine blk_drewN ?_ _ | refine blk_drew ?_ | refine blk_alloc ?_ _)); refine blk_put (cs := #[.int .i64 t593, .int .i64 t594, .int .i64 t595, .int .i64 0, .string (⟨#[]⟩ : ByteArray), .string (⟨#[]⟩ : ByteArray)]) ?_ 3 _ rfl; (with_reducible repeat (first | refine blk_drewN ?_ _ | refine blk_drew ?_ | refine blk_alloc ?_ _)); refine blk_put (cs := #[.int .i64 t593, .int .i64 t594, .int .i64 0, .int .i64 0, .string (⟨#[]⟩ : ByteArray), .string (⟨#[]⟩ : ByteArray)]) ?_ 2 _ rfl; (with_reducible repeat (first | refine blk_drewN ?_ _ | refine blk_drew ?_ | refine blk_alloc ?_ _)); refine blk_put (cs := #[.int .i64 t593, .int .i64 0, .int .i64 0, .int .i64 0, .string (⟨#[]⟩ : ByteArray), .string (⟨#[]⟩ : ByteArray)]) ?_ 1 _ rfl; (with_reducible repeat (first | refine blk_drewN ?_ _ | refine blk_drew ?_ | refine blk_alloc ?_ _)); refine blk_put (cs := #[.int .i64 0, .int .i64 0, .int .i64 0, .int .i64 0, .string (⟨#[]⟩ : ByteArray), .string (⟨#[]⟩ : ByteArray)]) ?_ 0 _ rfl; (with_reducible repeat (first | refine blk_drewN ?_ _ | refine blk_drew ?_ | refine blk_alloc ?_ _)); exact BK601.out) hb); have n2_ := Aside0.mk (below_step (by repeat (first | (with_reducible first | exact HB.out | apply below_alloc | apply pw_below_drewN | apply below_drew1 | refine below_set ?_ GE579.out | refine below_set ?_ GE601.out) | exact HB.out)) hb); clear BK579; clear BK601; clear HB; have BK579 := n0_; have BK601 := n1_; have HB := n2_; clear n0_ n1_ n2_; (try clear hb); (try clear hb2); (try clear hk); (try clear hi)))
                  go_ret
                  exact ⟨by first | rfl | (simp [errW_none, errW_some] <;> rfl) | (simp [*, errW_none, errW_some] <;> rfl), by repeat (first | (with_reducible first | exact HB.out | apply below_alloc | apply pw_below_drewN | apply below_drew1 | refine below_set ?_ GE579.out | refine below_set ?_ GE601.out) | exact HB.out)⟩
                · rw [if_neg c58] at H
                  exact absurd ((Option.some.inj H).trans hrt_.out) (by decide)
              · rw [if_neg c56] at H
                have c56b0 : (t600 == 0) = false := beq_eq_false_iff_ne.mpr c56
                have c56b1 : (t600 != 0) = true := bne_iff_ne.mpr c56
                by_cases c69 : (t593 == 0 && (t594 == 0 && (t595 == 0 && (t596 == 0 && (t597.toList == ([] : List UInt8) && (t598.toList == ([] : List UInt8))))))) = true
                · rw [if_pos c69] at H
                  have c69b0 : (t593 == 0 && (t594 == 0 && (t595 == 0 && (t596 == 0 && (t597.toList == ([] : List UInt8) && (t598.toList == ([] : List UInt8))))))) = true := c69
                  (try (have c69b1 : decide (t593 = 0 && (t594 == 0 && (t595 == 0 && (t596 == 0 && (t597.toList == ([] : List UInt8) && (t598.toList == ([] : List UInt8))))))) = true := by simpa using c69))
                  (try (have c69b2 : (t593 == 0 && (t594 == 0 && (t595 == 0 && (t596 == 0 && (t597.toList == ([] : List UInt8) && (t598.toList == ([] : List UInt8))))))) = true := by simpa using c69))
                  (try (have c69b3 : ((t593 = 0 ∧ (t594 = 0 ∧ (t595 = 0 ∧ (t596 = 0 ∧ (t597.toList = ([] : List UInt8) ∧ (t598.toList = ([] : List UInt8)))))))) = True := by simpa using c69))
                  clear c69
                  obtain rfl := Option.some.inj H
                  go_wp2_with (first | ((with_reducible refine gate_callee (f := 100) rfl ?_); refine goesL_ (some 70) rfl rfl Try.func100 (by kernel_rfl) rfl #[.string a2] rfl (by (try simp only [List.map_toArray, List.map_cons, List.map_nil]); first | done | rfl | (simp only [List.length_drop, List.length_take]; rfl)) ?_; (with_reducible refine (ip6_Get.calls a2 t593 t594 t595 t596 t597 t598 t599 t600 _ A55.out).mono ?_); rintro e w70 ⟨rfl, hb⟩; refine ⟨_, rfl, ?_⟩; have n0_ := Aside0.mk (blk_below (g := gb579) (o := .cells #[.int .i64 a0_0, .int .i64 a0_1, .int .i64 a0_2, .int .i64 a0_3, .string a0_4, .string a0_5] 114 (0, 0)) (by (with_reducible repeat (first | refine blk_drewN ?_ _ | refine blk_drew ?_ | refine blk_alloc ?_ _)); exact BK579.out) hb); have n1_ := Aside0.mk (below_step (by repeat (first | (with_reducible first | exact HB.out | apply below_alloc | apply pw_below_drewN | apply below_drew1 | refine below_set ?_ GE579.out) | exact HB.out)) hb); clear BK579; clear HB; have BK579 := n0_; have HB := n1_; clear n0_ n1_; (try clear hb); (try clear hb2); (try clear hk); (try clear hi)) | ((with_reducible refine gate_dst (N := 12) rfl ?_); (try (refine gate_guard (by rfl) ?_; dsimp only)); refine box_event ?hg (N := 12) ?hd (cs := #[.int .i64 0, .int .i64 0, .int .i64 0, .int .i64 0, .string (⟨#[]⟩ : ByteArray), .string (⟨#[]⟩ : ByteArray)]) (t := 114) ?hr ?_; (case hd => rfl); (case hg => rfl); (case hr => first | (go_simp; done) | (go_simp; rfl)); intro gb601 hg w71 hbox hb; have n0_ := Aside0.mk (blk_below (g := gb579) (o := .cells #[.int .i64 a0_0, .int .i64 a0_1, .int .i64 a0_2, .int .i64 a0_3, .string a0_4, .string a0_5] 114 (0, 0)) (by (with_reducible repeat (first | refine blk_drewN ?_ _ | refine blk_drew ?_ | refine blk_alloc ?_ _)); exact BK579.out) hb); have n1_ := Aside0.mk (below_step (by repeat (first | (with_reducible first | exact HB.out | apply below_alloc | apply pw_below_drewN | apply below_drew1 | refine below_set ?_ GE579.out) | exact HB.out)) hb); have n2_ := Aside0.mk (hbox); have n3_ := Aside0.mk ((by rw [hg]; exact (below_size (by repeat (first | (with_reducible first | exact HB.out | apply below_alloc | apply pw_below_drewN | apply below_drew1 | refine below_set ?_ GE579.out) | exact HB.out))) : w.heap.size ≤ gb601)); have n4_ := Aside0.mk ((by rw [hg]; exact (below_size (by repeat (first | (with_reducible first | exact HB.out | apply below_alloc | apply pw_below_drewN | apply below_drew1 | refine below_set ?_ GE579.out) | exact HB.out))) : w.heap.size ≤ gb601)); have n5_ := Aside0.mk ((by rw [hg]; exact Nat.ne_of_lt (blk_lt (g := gb579) (o := .cells #[.int .i64 a0_0, .int .i64 a0_1, .int .i64 a0_2, .int .i64 a0_3, .string a0_4, .string a0_5] 114 (0, 0)) (by (with_reducible repeat (first | refine blk_drewN ?_ _ | refine blk_drew ?_ | refine blk_alloc ?_ _)); exact BK579.out)) : gb579 ≠ gb601)); have n6_ := Aside0.mk ((by rw [hg]; exact Nat.ne_of_gt (blk_lt (g := gb579) (o := .cells #[.int .i64 a0_0, .int .i64 a0_1, .int .i64 a0_2, .int .i64 a0_3, .string a0_4, .string a0_5] 114 (0, 0)) (by (with_reducible repeat (first | refine blk_drewN ?_ _ | refine blk_drew ?_ | refine blk_alloc ?_ _)); exact BK579.out)) : gb601 ≠ gb579)); clear BK579; clear HB; have BK579 := n0_; have HB := n1_; have BK601 := n2_; have GW601 := n3_; have GE601 := n4_; have NB579_601 := n5_; have NB601_579 := n6_; clear n0_ n1_ n2_ n3_ n4_ n5_ n6_; clear hb hbox hg; have hnb72 := NB601_579.out; have hnc72 := NB579_601.out; have hcz73_0 : w71.cell? ⟨gb601, 0, none⟩ = some (.int .i64 0) := (blk_cell BK601.out 0).trans rfl; have hcz73_1 : w71.cell? ⟨gb601, 1, none⟩ = some (.int .i64 0) := (blk_cell BK601.out 1).trans rfl; have hcz73_2 : w71.cell? ⟨gb601, 2, none⟩ = some (.int .i64 0) := (blk_cell BK601.out 2).trans rfl; have hcz73_3 : w71.cell? ⟨gb601, 3, none⟩ = some (.int .i64 0) := (blk_cell BK601.out 3).trans rfl; have hcz73_4 : w71.cell? ⟨gb601, 4, none⟩ = some (.string (⟨#[]⟩ : ByteArray)) := (blk_cell BK601.out 4).trans rfl; have hcz73_5 : w71.cell? ⟨gb601, 5, none⟩ = some (.string (⟨#[]⟩ : ByteArray)) := (blk_cell BK601.out 5).trans rfl; have hfz73_0 := blk_frozen BK601.out 0; have hfz73_1 := blk_frozen BK601.out 1; have hfz73_2 := blk_frozen BK601.out 2; have hfz73_3 := blk_frozen BK601.out 3; have hfz73_4 := blk_frozen BK601.out 4; have hfz73_5 := blk_frozen BK601.out 5))
                  go_ret
                  exact ⟨by first | rfl | (simp [errW_none, errW_some] <;> rfl) | (simp [*, errW_none, errW_some] <;> rfl), by repeat (first | (with_reducible first | exact HB.out | apply below_alloc | apply pw_below_drewN | apply below_drew1 | refine below_set ?_ GE579.out | refine below_set ?_ GE601.out) | exact HB.out)⟩
                · rw [if_neg c69] at H
                  exact absurd ((Option.some.inj H).trans hrt_.out) (by decide)
  · replace c5 := Bool.eq_false_iff.mpr c5
    subst c5
    have H1 : (some false) = some r := by rw [if_neg (show ¬ (false = true) by decide)] at H; exact H
    exact absurd ((Option.some.inj H1).trans hrt_.out) (by decide)
end Go.Proofs.Ytejmipoolbodgaa.G
