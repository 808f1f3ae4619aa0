-- Laid by a program of this session (wip/gen/gprint.py) over the translation's print. Lean checks it.
import Derived.Test.YtejmipoolbodgaaG0
import Derived.Test.YtejmipoolbodgaaGEq4
import Derived.Test.YtejmipoolbodgaaGip6
import Derived.Test.YtejmipoolbodgaaGlaw06
import Derived.Test.YtejmipoolbodgaaGref06
import Derived.Test.YtejmipoolbodgaaGref06q1
import Derived.Test.YtejmipoolbodgaaHIp6
namespace Go.Proofs.Ytejmipoolbodgaa.G
open Go.RowKit Go.Proofs.YtejmipoolbodgaaW.PrintWords Go.Proofs.YtejmipoolbodgaaW.PrintLast Go.Proofs.YtejmipoolbodgaaW.PrintMore
attribute [local go_sem] max2_int min2_int max_two min_two max_three min_three max_four min_four   -- for this text's walks alone
set_option linter.unusedVariables false
set_option linter.unusedSimpArgs false

attribute [local go_sem high] eqA114
/-! ### palanquinlaw06_Ip6Tells: function 23 -/
def palanquinlaw06_Ip6Tells.j0 : Nat → ByteArray → ByteArray → Bool → Int → Int → Int → Int → ByteArray → ByteArray → Option (Bool)
  | 0, _, _, _, _, _, _, _, _, _ => none
  | k + 1, x1, x2, x31, x553000, x553001, x553002, x553003, x553004, x553005 => if x31 = true then (some true) else ((ip6_Put.f x553000 x553001 x553002 x553003 x553004 x553005 x1).bind fun bt555 => ((palanquinref06_Put.f k x553000 x553001 x553002 x553003 x553004 x553005 x1).bind fun bt557 => ((ip6_Get.f x2).bind fun bt559 => ((palanquinref06_Get.f k x2).bind fun bt568 => (if bt555.1.toList = bt557.1.toList then (if bt555.2 = bt557.2 then ((ip6_Check.f x553000 x553001 x553002 x553003 x553004 x553005).bind fun t577 => ((palanquinref06_Right.f x553000 x553001 x553002 x553003 x553004 x553005).bind fun t578 => (if ((t577 == 0) == t578) = true then (if (bt559.1 == bt568.1 && (bt559.2.1 == bt568.2.1 && (bt559.2.2.1 == bt568.2.2.1 && (bt559.2.2.2.1 == bt568.2.2.2.1 && (bt559.2.2.2.2.1.toList == bt568.2.2.2.2.1.toList && (bt559.2.2.2.2.2.1.toList == bt568.2.2.2.2.2.1.toList)))))) = true then (if bt559.2.2.2.2.2.2.1.toList = bt568.2.2.2.2.2.2.1.toList then (some (bt559.2.2.2.2.2.2.2 == bt568.2.2.2.2.2.2.2)) else (some false)) else (some false)) else (some false)))) else (some false)) else (some false))))))
def palanquinlaw06_Ip6Tells.f (k : Nat) (a0_0 : Int) (a0_1 : Int) (a0_2 : Int) (a0_3 : Int) (a0_4 : ByteArray) (a0_5 : ByteArray) (a1 : ByteArray) (a2 : ByteArray) : Option (Bool) := (palanquinlaw06_awake.f).bind fun t553 => (if t553 = true then ((palanquinlaw06_few.f a0_0 a0_1 a0_2 a0_3 a0_4 a0_5).bind fun t554 => (if t554 = true then (if (a1.size : Int) > 70000 then (palanquinlaw06_Ip6Tells.j0 k a1 a2 true a0_0 a0_1 a0_2 a0_3 a0_4 a0_5) else (palanquinlaw06_Ip6Tells.j0 k a1 a2 (decide ((a2.size : Int) > 70000)) a0_0 a0_1 a0_2 a0_3 a0_4 a0_5)) else (palanquinlaw06_Ip6Tells.j0 k a1 a2 true a0_0 a0_1 a0_2 a0_3 a0_4 a0_5))) else (some false))
theorem palanquinlaw06_Ip6Tells.mono_l : ∀ k, (∀ y0 y1 y2 y3 y4 y5 y6 y7 y8, LeO (palanquinlaw06_Ip6Tells.j0 k y0 y1 y2 y3 y4 y5 y6 y7 y8) (palanquinlaw06_Ip6Tells.j0 (k + 1) y0 y1 y2 y3 y4 y5 y6 y7 y8))
  | 0 => fun _ _ _ _ _ _ _ _ _ r h => by simp [palanquinlaw06_Ip6Tells.j0] at h
  | k + 1 => by
    have ih0 := palanquinlaw06_Ip6Tells.mono_l k
    · intro y0 y1 y2 y3 y4 y5 y6 y7 y8
      unfold palanquinlaw06_Ip6Tells.j0
      repeat' first
      | (with_reducible exact ih0 _ _ _ _ _ _ _ _ _)
      | (with_reducible exact palanquinref06_Get.mono _ _)
      | (with_reducible exact palanquinref06_Put.mono _ _ _ _ _ _ _ _)
      | (with_reducible exact LeO.refl _)
      | (with_reducible exact LeO.none _)
      | (with_reducible refine LeO.ite ?_ ?_)
      | (with_reducible refine LeO.bind ?_ (fun _ => ?_))
      | exact ih0 _ _ _ _ _ _ _ _ _
      | exact palanquinref06_Get.mono _ _
      | exact palanquinref06_Put.mono _ _ _ _ _ _ _ _
      | exact LeO.none _
      | refine LeO.ite ?_ ?_
      | refine LeO.bind ?_ (fun _ => ?_)
theorem palanquinlaw06_Ip6Tells.mono : ∀ a0 a1 a2 a3 a4 a5 a6 a7 k, LeO (palanquinlaw06_Ip6Tells.f k a0 a1 a2 a3 a4 a5 a6 a7) (palanquinlaw06_Ip6Tells.f (k + 1) a0 a1 a2 a3 a4 a5 a6 a7) := by
  intro a0 a1 a2 a3 a4 a5 a6 a7 k
  have ih0 := palanquinlaw06_Ip6Tells.mono_l k
  unfold palanquinlaw06_Ip6Tells.f
  repeat' first
      | (with_reducible exact ih0 _ _ _ _ _ _ _ _ _)
      | (with_reducible exact palanquinref06_Get.mono _ _)
      | (with_reducible exact palanquinref06_Put.mono _ _ _ _ _ _ _ _)
      | (with_reducible exact LeO.refl _)
      | (with_reducible exact LeO.none _)
      | (with_reducible refine LeO.ite ?_ ?_)
      | (with_reducible refine LeO.bind ?_ (fun _ => ?_))
      | exact ih0 _ _ _ _ _ _ _ _ _
      | exact palanquinref06_Get.mono _ _
      | exact palanquinref06_Put.mono _ _ _ _ _ _ _ _
      | exact LeO.none _
      | refine LeO.ite ?_ ?_
      | refine LeO.bind ?_ (fun _ => ?_)
def palanquinlaw06_Ip6Tells.T9 : Bool × List (List Nat × List Nat) := (true, [([], []), ([], []), ([0, 1], [0, 1]), ([2], [2]), ([3], [3]), ([3], [3]), ([4, 5, 3], [3, 4, 5]), ([3, 6], [3, 6]), ([7, 3], [7]), ([8], [8]), ([9, 8, 8], [8, 9]), ([10, 8], [8, 10]), ([8], [8]), ([12, 10, 8], [8, 12]), ([11, 13, 8], [8, 11, 13]), ([8, 14], [8, 14]), ([15, 13], [15]), ([16], [16]), ([16], [16]), ([17, 18, 16], [16, 17, 18]), ([16, 19], [16, 19]), ([20, 16], [20]), ([21], [21]), ([21], [21]), ([22, 23, 21], [21, 22, 23]), ([21, 24], [21, 24]), ([25, 21], [25]), ([26], [26]), ([26], [26]), ([27, 28, 26], [26, 27, 28]), ([26, 29], [26, 29]), ([30, 26, 0, 1, 2, 3, 4, 5, 6, 7, 8, 9, 10, 11, 12, 13, 14, 15, 16, 17, 18, 19, 20, 21, 22, 23, 24, 25, 26, 27, 28, 29, 30], [30])])
def palanquinlaw06_Ip6Tells.B9 : List Nat := [0, 0, 3, 7, 15, 15, 63, 127, 255, 511, 1023, 2047, 511, 6143, 16383, 32767, 65535, 131071, 131071, 524287, 1048575, 2097151, 4194303, 4194303, 16777215, 33554431, 67108863, 134217727, 134217727, 536870911, 1073741823, 2147483647]
theorem palanquinlaw06_Ip6Tells.tab9 : rtab .any (opsOf Try.f23 9) = palanquinlaw06_Ip6Tells.T9 := by kernel_rfl
theorem palanquinlaw06_Ip6Tells.bits9 : waitsOk palanquinlaw06_Ip6Tells.T9.2 palanquinlaw06_Ip6Tells.B9 = true := by kernel_rfl
set_option maxHeartbeats 8000000 in
set_option maxRecDepth 100000 in
theorem palanquinlaw06_Ip6Tells.calls (k : Nat) (a0_0 : Int) (a0_1 : Int) (a0_2 : Int) (a0_3 : Int) (a0_4 : ByteArray) (a0_5 : ByteArray) (a1 : ByteArray) (a2 : ByteArray) (r : Bool) (w : World) (h : palanquinlaw06_Ip6Tells.f k a0_0 a0_1 a0_2 a0_3 a0_4 a0_5 a1 a2 = some r) (hrt_ : Aside0 (r = true)) :
    Calls Try.prog 23 #[.agg #[.int .i64 a0_0, .int .i64 a0_1, .int .i64 a0_2, .int .i64 a0_3, .string a0_4, .string a0_5], .string a1, .string a2] w fun e w' => e = .returned (.bool r) ∧ Below w.heap.size w w' := by
  have hu114 := Try.underlying114
  have HB := Aside0.mk (Below.refl w.heap.size w)
  have H : ((palanquinlaw06_awake.f).bind fun t553 => (if t553 = true then ((palanquinlaw06_few.f a0_0 a0_1 a0_2 a0_3 a0_4 a0_5).bind fun t554 => (if t554 = true then (if (a1.size : Int) > 70000 then (palanquinlaw06_Ip6Tells.j0 k a1 a2 true a0_0 a0_1 a0_2 a0_3 a0_4 a0_5) else (palanquinlaw06_Ip6Tells.j0 k a1 a2 (decide ((a2.size : Int) > 70000)) a0_0 a0_1 a0_2 a0_3 a0_4 a0_5)) else (palanquinlaw06_Ip6Tells.j0 k a1 a2 true a0_0 a0_1 a0_2 a0_3 a0_4 a0_5))) else (some false))) = some r := h
  clear h
  replace H := Option.bind_eq_some_iff.mp H
  obtain ⟨t553, A40, H⟩ := H
  replace H : (if t553 = true then ((palanquinlaw06_few.f a0_0 a0_1 a0_2 a0_3 a0_4 a0_5).bind fun t554 => (if t554 = true then (if (a1.size : Int) > 70000 then (palanquinlaw06_Ip6Tells.j0 k a1 a2 true a0_0 a0_1 a0_2 a0_3 a0_4 a0_5) else (palanquinlaw06_Ip6Tells.j0 k a1 a2 (decide ((a2.size : Int) > 70000)) a0_0 a0_1 a0_2 a0_3 a0_4 a0_5)) else (palanquinlaw06_Ip6Tells.j0 k a1 a2 true a0_0 a0_1 a0_2 a0_3 a0_4 a0_5))) else (some false)) = some r := H
  have A4 := Aside0.mk A40
  clear A40
  by_cases c5 : t553 = true
  · subst c5
    have H1 : ((palanquinlaw06_few.f a0_0 a0_1 a0_2 a0_3 a0_4 a0_5).bind fun t554 => (if t554 = true then (if (a1.size : Int) > 70000 then (palanquinlaw06_Ip6Tells.j0 k a1 a2 true a0_0 a0_1 a0_2 a0_3 a0_4 a0_5) else (palanquinlaw06_Ip6Tells.j0 k a1 a2 (decide ((a2.size : Int) > 70000)) a0_0 a0_1 a0_2 a0_3 a0_4 a0_5)) else (palanquinlaw06_Ip6Tells.j0 k a1 a2 true a0_0 a0_1 a0_2 a0_3 a0_4 a0_5))) = some r := by rw [if_pos rfl] at H; exact H
    clear H
    have H := H1
    clear H1
    have HC6 := Aside0.mk H
    clear H
    go_enter Try.func23, Try.ntmps23
    go_upto_region 3 with (first | ((with_reducible refine gate_dst (N := 3) rfl ?_); (try (refine gate_guard (by rfl) ?_; dsimp only)); refine box_event ?hg (N := 3) ?hd (cs := #[.int .i64 a0_0, .int .i64 a0_1, .int .i64 a0_2, .int .i64 a0_3, .string a0_4, .string a0_5]) (t := 114) ?hr ?_; (case hd => rfl); (case hg => rfl); (case hr => first | (go_simp; done) | (go_simp; rfl)); intro gb552 hg w7 hbox hb; have n0_ := Aside0.mk (below_step (by repeat (first | (with_reducible first | exact HB.out | apply below_alloc | apply pw_below_drewN | apply below_drew1) | exact HB.out)) hb); have n1_ := Aside0.mk (hbox); have n2_ := Aside0.mk ((by rw [hg]; exact (below_size (by repeat (first | (with_reducible first | exact HB.out | apply below_alloc | apply pw_below_drewN | apply below_drew1) | exact HB.out))) : w.heap.size ≤ gb552)); have n3_ := Aside0.mk ((by rw [hg]; exact (below_size (by repeat (first | (with_reducible first | exact HB.out | apply below_alloc | apply pw_below_drewN | apply below_drew1) | exact HB.out))) : w.heap.size ≤ gb552)); clear HB; have HB := n0_; have BK552 := n1_; have GW552 := n2_; have GE552 := n3_; clear n0_ n1_ n2_ n3_; clear hb hbox hg) | ((with_reducible refine gate_callee (f := 96) rfl ?_); refine goesL_ (some 17) rfl rfl Try.func96 (by kernel_rfl) rfl #[] rfl (by (try simp only [List.map_toArray, List.map_cons, List.map_nil]); first | done | rfl | (simp only [List.length_drop, List.length_take]; rfl)) ?_; (with_reducible refine (palanquinlaw06_awake.calls  true _ A4.out).mono ?_); rintro e w8 ⟨rfl, hb⟩; refine ⟨_, rfl, ?_⟩; have n0_ := Aside0.mk (blk_below (g := gb552) (o := .cells #[.int .i64 a0_0, .int .i64 a0_1, .int .i64 a0_2, .int .i64 a0_3, .string a0_4, .string a0_5] 114 (0, 0)) (by (with_reducible repeat (first | refine blk_drewN ?_ _ | refine blk_drew ?_ | refine blk_alloc ?_ _)); exact BK552.out) hb); have n1_ := Aside0.mk (below_step (by repeat (first | (with_reducible first | exact HB.out | apply below_alloc | apply pw_below_drewN | apply below_drew1 | refine below_set ?_ GE552.out) | exact HB.out)) hb); clear BK552; clear HB; have BK552 := n0_; have HB := n1_; clear n0_ n1_; (try clear hb); (try clear hb2); (try clear hk); (try clear hi)))
    (try simp only [Act.put, List.setIfInBounds_toArray, List.set_cons_zero, List.set_cons_succ])
    go_cut [31] (fun v31 wc => ∃ (kq : Nat) (x31_5 : Bool), v31 = .bool x31_5 ∧ Aside0 (palanquinlaw06_Ip6Tells.j0 kq a1 a2 x31_5 a0_0 a0_1 a0_2 a0_3 a0_4 a0_5 = some r) ∧ Aside0 (kq ≤ k) ∧ Aside0 (wc.heap[gb552]? = some (.cells #[.int .i64 a0_0, .int .i64 a0_1, .int .i64 a0_2, .int .i64 a0_3, .string a0_4, .string a0_5] 114 (0, 0))) ∧ Aside0 (Below w.heap.size w wc))
    case first =>
      have H := HC6.out
      clear HC6
      replace H := Option.bind_eq_some_iff.mp H
      obtain ⟨t554, A90, H⟩ := H
      replace H : (if t554 = true then (if (a1.size : Int) > 70000 then (palanquinlaw06_Ip6Tells.j0 k a1 a2 true a0_0 a0_1 a0_2 a0_3 a0_4 a0_5) else (palanquinlaw06_Ip6Tells.j0 k a1 a2 (decide ((a2.size : Int) > 70000)) a0_0 a0_1 a0_2 a0_3 a0_4 a0_5)) else (palanquinlaw06_Ip6Tells.j0 k a1 a2 true a0_0 a0_1 a0_2 a0_3 a0_4 a0_5)) = some r := H
      have A9 := Aside0.mk A90
      clear A90
      by_cases c10 : t554 = true
      · subst c10
        have H1 : (if (a1.size : Int) > 70000 then (palanquinlaw06_Ip6Tells.j0 k a1 a2 true a0_0 a0_1 a0_2 a0_3 a0_4 a0_5) else (palanquinlaw06_Ip6Tells.j0 k a1 a2 (decide ((a2.size : Int) > 70000)) a0_0 a0_1 a0_2 a0_3 a0_4 a0_5)) = some r := by rw [if_pos rfl] at H; exact H
        clear H
        have H := H1
        clear H1
        by_cases c11 : (a1.size : Int) > 70000
        · rw [if_pos c11] at H
          have c11b0 : decide (70000 < (a1.size : Int)) = true := decide_eq_true c11
          have c11b1 : decide (70000 < a1.size) = true := decide_eq_true (by omega)
          clear c11
          (first | rw [c11b0] | (simp only [i64_w, i32_w]; rw [c11b0]) | skip)
          have H' := Aside0.mk H
          clear H
          have hcz12_0 : w8.cell? ⟨gb552, 0, none⟩ = some (.int .i64 a0_0) := (blk_cell BK552.out 0).trans rfl
          have hcz12_1 : w8.cell? ⟨gb552, 1, none⟩ = some (.int .i64 a0_1) := (blk_cell BK552.out 1).trans rfl
          have hcz12_2 : w8.cell? ⟨gb552, 2, none⟩ = some (.int .i64 a0_2) := (blk_cell BK552.out 2).trans rfl
          have hcz12_3 : w8.cell? ⟨gb552, 3, none⟩ = some (.int .i64 a0_3) := (blk_cell BK552.out 3).trans rfl
          have hcz12_4 : w8.cell? ⟨gb552, 4, none⟩ = some (.string a0_4) := (blk_cell BK552.out 4).trans rfl
          have hcz12_5 : w8.cell? ⟨gb552, 5, none⟩ = some (.string a0_5) := (blk_cell BK552.out 5).trans rfl
          have hfz12_0 := blk_frozen BK552.out 0
          have hfz12_1 := blk_frozen BK552.out 1
          have hfz12_2 := blk_frozen BK552.out 2
          have hfz12_3 := blk_frozen BK552.out 3
          have hfz12_4 := blk_frozen BK552.out 4
          have hfz12_5 := blk_frozen BK552.out 5
          go_wp2_with (first | ((with_reducible refine gate_callee (f := 97) rfl ?_); refine goesL_ (some 20) rfl rfl Try.func97 (by kernel_rfl) rfl #[.agg #[.int .i64 a0_0, .int .i64 a0_1, .int .i64 a0_2, .int .i64 a0_3, .string a0_4, .string a0_5]] rfl (by (try simp only [List.map_toArray, List.map_cons, List.map_nil]); first | done | rfl | (simp only [List.length_drop, List.length_take]; rfl)) ?_; (with_reducible refine (palanquinlaw06_few.calls a0_0 a0_1 a0_2 a0_3 a0_4 a0_5 true _ A9.out).mono ?_); rintro e w13 ⟨rfl, hb⟩; refine ⟨_, rfl, ?_⟩; have n0_ := Aside0.mk (blk_below (g := gb552) (o := .cells #[.int .i64 a0_0, .int .i64 a0_1, .int .i64 a0_2, .int .i64 a0_3, .string a0_4, .string a0_5] 114 (0, 0)) (by (with_reducible repeat (first | refine blk_drewN ?_ _ | refine blk_drew ?_ | refine blk_alloc ?_ _)); exact BK552.out) hb); have n1_ := Aside0.mk (below_step (by repeat (first | (with_reducible first | exact HB.out | apply below_alloc | apply pw_below_drewN | apply below_drew1 | refine below_set ?_ GE552.out) | exact HB.out)) hb); clear BK552; clear HB; have BK552 := n0_; have HB := n1_; clear n0_ n1_; (try clear hb); (try clear hb2); (try clear hk); (try clear hi)))
          go_meet
          case rel => exact ⟨_, (true), (by first | rfl | (simp; done) | (simp [*]; done)), H', ⟨by first | omega | exact Nat.le_refl _⟩, ⟨by (with_reducible repeat (first | refine blk_drewN ?_ _ | refine blk_drew ?_ | refine blk_alloc ?_ _)); exact BK552.out⟩, ⟨by repeat (first | (with_reducible first | exact HB.out | apply below_alloc | apply pw_below_drewN | apply below_drew1 | refine below_set ?_ GE552.out) | exact HB.out)⟩⟩
        · rw [if_neg c11] at H
          have c11b0 : decide (70000 < (a1.size : Int)) = false := decide_eq_false c11
          have c11b1 : decide (70000 < a1.size) = false := decide_eq_false (by omega)
          clear c11
          (first | rw [c11b0] | (simp only [i64_w, i32_w]; rw [c11b0]) | skip)
          have H' := Aside0.mk H
          clear H
          have hcz14_0 : w8.cell? ⟨gb552, 0, none⟩ = some (.int .i64 a0_0) := (blk_cell BK552.out 0).trans rfl
          have hcz14_1 : w8.cell? ⟨gb552, 1, none⟩ = some (.int .i64 a0_1) := (blk_cell BK552.out 1).trans rfl
          have hcz14_2 : w8.cell? ⟨gb552, 2, none⟩ = some (.int .i64 a0_2) := (blk_cell BK552.out 2).trans rfl
          have hcz14_3 : w8.cell? ⟨gb552, 3, none⟩ = some (.int .i64 a0_3) := (blk_cell BK552.out 3).trans rfl
          have hcz14_4 : w8.cell? ⟨gb552, 4, none⟩ = some (.string a0_4) := (blk_cell BK552.out 4).trans rfl
          have hcz14_5 : w8.cell? ⟨gb552, 5, none⟩ = some (.string a0_5) := (blk_cell BK552.out 5).trans rfl
          have hfz14_0 := blk_frozen BK552.out 0
          have hfz14_1 := blk_frozen BK552.out 1
          have hfz14_2 := blk_frozen BK552.out 2
          have hfz14_3 := blk_frozen BK552.out 3
          have hfz14_4 := blk_frozen BK552.out 4
          have hfz14_5 := blk_frozen BK552.out 5
          go_wp2_with (first | ((with_reducible refine gate_callee (f := 97) rfl ?_); refine goesL_ (some 20) rfl rfl Try.func97 (by kernel_rfl) rfl #[.agg #[.int .i64 a0_0, .int .i64 a0_1, .int .i64 a0_2, .int .i64 a0_3, .string a0_4, .string a0_5]] rfl (by (try simp only [List.map_toArray, List.map_cons, List.map_nil]); first | done | rfl | (simp only [List.length_drop, List.length_take]; rfl)) ?_; (with_reducible refine (palanquinlaw06_few.calls a0_0 a0_1 a0_2 a0_3 a0_4 a0_5 true _ A9.out).mono ?_); rintro e w15 ⟨rfl, hb⟩; refine ⟨_, rfl, ?_⟩; have n0_ := Aside0.mk (blk_below (g := gb552) (o := .cells #[.int .i64 a0_0, .int .i64 a0_1, .int .i64 a0_2, .int .i64 a0_3, .string a0_4, .string a0_5] 114 (0, 0)) (by (with_reducible repeat (first | refine blk_drewN ?_ _ | refine blk_drew ?_ | refine blk_alloc ?_ _)); exact BK552.out) hb); have n1_ := Aside0.mk (below_step (by repeat (first | (with_reducible first | exact HB.out | apply below_alloc | apply pw_below_drewN | apply below_drew1 | refine below_set ?_ GE552.out) | exact HB.out)) hb); clear BK552; clear HB; have BK552 := n0_; have HB := n1_; clear n0_ n1_; (try clear hb); (try clear hb2); (try clear hk); (try clear hi)))
          go_meet
          case rel => exact ⟨_, (decide ((a2.size : Int) > 70000)), (by first | rfl | (simp; done) | (simp [*]; done)), H', ⟨by first | omega | exact Nat.le_refl _⟩, ⟨by (with_reducible repeat (first | refine blk_drewN ?_ _ | refine blk_drew ?_ | refine blk_alloc ?_ _)); exact BK552.out⟩, ⟨by repeat (first | (with_reducible first | exact HB.out | apply below_alloc | apply pw_below_drewN | apply below_drew1 | refine below_set ?_ GE552.out) | exact HB.out)⟩⟩
      · replace c10 := Bool.eq_false_iff.mpr c10
        subst c10
        have H1 : (palanquinlaw06_Ip6Tells.j0 k a1 a2 true a0_0 a0_1 a0_2 a0_3 a0_4 a0_5) = some r := by rw [if_neg (show ¬ (false = true) by decide)] at H; exact H
        clear H
        have H := H1
        clear H1
        have H' := Aside0.mk H
        clear H
        have hcz16_0 : w8.cell? ⟨gb552, 0, none⟩ = some (.int .i64 a0_0) := (blk_cell BK552.out 0).trans rfl
        have hcz16_1 : w8.cell? ⟨gb552, 1, none⟩ = some (.int .i64 a0_1) := (blk_cell BK552.out 1).trans rfl
        have hcz16_2 : w8.cell? ⟨gb552, 2, none⟩ = some (.int .i64 a0_2) := (blk_cell BK552.out 2).trans rfl
        have hcz16_3 : w8.cell? ⟨gb552, 3, none⟩ = some (.int .i64 a0_3) := (blk_cell BK552.out 3).trans rfl
        have hcz16_4 : w8.cell? ⟨gb552, 4, none⟩ = some (.string a0_4) := (blk_cell BK552.out 4).trans rfl
        have hcz16_5 : w8.cell? ⟨gb552, 5, none⟩ = some (.string a0_5) := (blk_cell BK552.out 5).trans rfl
        have hfz16_0 := blk_frozen BK552.out 0
        have hfz16_1 := blk_frozen BK552.out 1
        have hfz16_2 := blk_frozen BK552.out 2
        have hfz16_3 := blk_frozen BK552.out 3
        have hfz16_4 := blk_frozen BK552.out 4
        have hfz16_5 := blk_frozen BK552.out 5
        go_wp2_with (first | ((with_reducible refine gate_callee (f := 97) rfl ?_); refine goesL_ (some 20) rfl rfl Try.func97 (by kernel_rfl) rfl #[.agg #[.int .i64 a0_0, .int .i64 a0_1, .int .i64 a0_2, .int .i64 a0_3, .string a0_4, .string a0_5]] rfl (by (try simp only [List.map_toArray, List.map_cons, List.map_nil]); first | done | rfl | (simp only [List.length_drop, List.length_take]; rfl)) ?_; (with_reducible refine (palanquinlaw06_few.calls a0_0 a0_1 a0_2 a0_3 a0_4 a0_5 false _ A9.out).mono ?_); rintro e w17 ⟨rfl, hb⟩; refine ⟨_, rfl, ?_⟩; have n0_ := Aside0.mk (blk_below (g := gb552) (o := .cells #[.int .i64 a0_0, .int .i64 a0_1, .int .i64 a0_2, .int .i64 a0_3, .string a0_4, .string a0_5] 114 (0, 0)) (by (with_reducible repeat (first | refine blk_drewN ?_ _ | refine blk_drew ?_ | refine blk_alloc ?_ _)); exact BK552.out) hb); have n1_ := Aside0.mk (below_step (by repeat (first | (with_reducible first | exact HB.out | apply below_alloc | apply pw_below_drewN | apply below_drew1 | refine below_set ?_ GE552.out) | exact HB.out)) hb); clear BK552; clear HB; have BK552 := n0_; have HB := n1_; clear n0_ n1_; (try clear hb); (try clear hb2); (try clear hk); (try clear hi)))
        go_meet
        case rel => exact ⟨_, (true), (by first | rfl | (simp; done) | (simp [*]; done)), H', ⟨by first | omega | exact Nat.le_refl _⟩, ⟨by (with_reducible repeat (first | refine blk_drewN ?_ _ | refine blk_drew ?_ | refine blk_alloc ?_ _)); exact BK552.out⟩, ⟨by repeat (first | (with_reducible first | exact HB.out | apply below_alloc | apply pw_below_drewN | apply below_drew1 | refine below_set ?_ GE552.out) | exact HB.out)⟩⟩
    case rest =>
      clear HC6
      try clear c1
      try clear c2
      try clear p2
      try clear c5
      try clear p6
      try clear c9
      try clear c10
      try clear c11
      try clear c11b0
      try clear c11b1
      try clear hcz12_0
      try clear hcz12_1
      try clear hcz12_2
      try clear hcz12_3
      try clear hcz12_4
      try clear hcz12_5
      try clear hcz14_0
      try clear hcz14_1
      try clear hcz14_2
      try clear hcz14_3
      try clear hcz14_4
      try clear hcz14_5
      try clear hcz16_0
      try clear hcz16_1
      try clear hcz16_2
      try clear hcz16_3
      try clear hcz16_4
      try clear hcz16_5
      try clear hfz12_0
      try clear hfz12_1
      try clear hfz12_2
      try clear hfz12_3
      try clear hfz12_4
      try clear hfz12_5
      try clear hfz14_0
      try clear hfz14_1
      try clear hfz14_2
      try clear hfz14_3
      try clear hfz14_4
      try clear hfz14_5
      try clear hfz16_0
      try clear hfz16_1
      try clear hfz16_2
      try clear hfz16_3
      try clear hfz16_4
      try clear hfz16_5
      obtain ⟨kq, x31_5, rfl, HA, HJ5, BK552, HB⟩ := hcut
      cases kq with
      | zero => exact absurd HA.out (by simp [palanquinlaw06_Ip6Tells.j0])
      | succ kj5 =>
        have H := HA.out
        clear HA
        simp only [palanquinlaw06_Ip6Tells.j0] at H
        by_cases c18 : x31_5 = true
        · subst c18
          have H1 : (some true) = some r := by rw [if_pos rfl] at H; exact H
          clear H
          have H := H1
          clear H1
          obtain rfl := Option.some.inj H
          go_wp2
          go_ret
          exact ⟨by first | rfl | (simp [errW_none, errW_some] <;> rfl) | (simp [*, errW_none, errW_some] <;> rfl), by repeat (first | (with_reducible first | exact HB.out | apply below_alloc | apply pw_below_drewN | apply below_drew1 | refine below_set ?_ GE552.out) | exact HB.out)⟩
        · replace c18 := Bool.eq_false_iff.mpr c18
          subst c18
          have H1 : ((ip6_Put.f a0_0 a0_1 a0_2 a0_3 a0_4 a0_5 a1).bind fun bt555 => ((palanquinref06_Put.f kj5 a0_0 a0_1 a0_2 a0_3 a0_4 a0_5 a1).bind fun bt557 => ((ip6_Get.f a2).bind fun bt559 => ((palanquinref06_Get.f kj5 a2).bind fun bt568 => (if bt555.1.toList = bt557.1.toList then (if bt555.2 = bt557.2 then ((ip6_Check.f a0_0 a0_1 a0_2 a0_3 a0_4 a0_5).bind fun t577 => ((palanquinref06_Right.f a0_0 a0_1 a0_2 a0_3 a0_4 a0_5).bind fun t578 => (if ((t577 == 0) == t578) = true then (if (bt559.1 == bt568.1 && (bt559.2.1 == bt568.2.1 && (bt559.2.2.1 == bt568.2.2.1 && (bt559.2.2.2.1 == bt568.2.2.2.1 && (bt559.2.2.2.2.1.toList == bt568.2.2.2.2.1.toList && (bt559.2.2.2.2.2.1.toList == bt568.2.2.2.2.2.1.toList)))))) = true then (if bt559.2.2.2.2.2.2.1.toList = bt568.2.2.2.2.2.2.1.toList then (some (bt559.2.2.2.2.2.2.2 == bt568.2.2.2.2.2.2.2)) else (some false)) else (some false)) else (some false)))) else (some false)) else (some false)))))) = some r := by rw [if_neg (show ¬ (false = true) by decide)] at H; exact H
          clear H
          have H := H1
          clear H1
          replace H := Option.bind_eq_some_iff.mp H
          obtain ⟨⟨t555, t556⟩, A190, H⟩ := H
          replace H : ((palanquinref06_Put.f kj5 a0_0 a0_1 a0_2 a0_3 a0_4 a0_5 a1).bind fun bt557 => ((ip6_Get.f a2).bind fun bt559 => ((palanquinref06_Get.f kj5 a2).bind fun bt568 => (if t555.toList = bt557.1.toList then (if t556 = bt557.2 then ((ip6_Check.f a0_0 a0_1 a0_2 a0_3 a0_4 a0_5).bind fun t577 => ((palanquinref06_Right.f a0_0 a0_1 a0_2 a0_3 a0_4 a0_5).bind fun t578 => (if ((t577 == 0) == t578) = true then (if (bt559.1 == bt568.1 && (bt559.2.1 == bt568.2.1 && (bt559.2.2.1 == bt568.2.2.1 && (bt559.2.2.2.1 == bt568.2.2.2.1 && (bt559.2.2.2.2.1.toList == bt568.2.2.2.2.1.toList && (bt559.2.2.2.2.2.1.toList == bt568.2.2.2.2.2.1.toList)))))) = true then (if bt559.2.2.2.2.2.2.1.toList = bt568.2.2.2.2.2.2.1.toList then (some (bt559.2.2.2.2.2.2.2 == bt568.2.2.2.2.2.2.2)) else (some false)) else (some false)) else (some false)))) else (some false)) else (some false))))) = some r := H
          have A19 := Aside0.mk A190
          clear A190
          replace H := Option.bind_eq_some_iff.mp H
          obtain ⟨⟨t557, t558⟩, A200, H⟩ := H
          replace H : ((ip6_Get.f a2).bind fun bt559 => ((palanquinref06_Get.f kj5 a2).bind fun bt568 => (if t555.toList = t557.toList then (if t556 = t558 then ((ip6_Check.f a0_0 a0_1 a0_2 a0_3 a0_4 a0_5).bind fun t577 => ((palanquinref06_Right.f a0_0 a0_1 a0_2 a0_3 a0_4 a0_5).bind fun t578 => (if ((t577 == 0) == t578) = true then (if (bt559.1 == bt568.1 && (bt559.2.1 == bt568.2.1 && (bt559.2.2.1 == bt568.2.2.1 && (bt559.2.2.2.1 == bt568.2.2.2.1 && (bt559.2.2.2.2.1.toList == bt568.2.2.2.2.1.toList && (bt559.2.2.2.2.2.1.toList == bt568.2.2.2.2.2.1.toList)))))) = true then (if bt559.2.2.2.2.2.2.1.toList = bt568.2.2.2.2.2.2.1.toList then (some (bt559.2.2.2.2.2.2.2 == bt568.2.2.2.2.2.2.2)) else (some false)) else (some false)) else (some false)))) else (some false)) else (some false)))) = some r := H
          have A20 := Aside0.mk A200
          clear A200
          replace H := Option.bind_eq_some_iff.mp H
          obtain ⟨⟨t559, t560, t561, t562, t563, t564, t565, t566⟩, A210, H⟩ := H
          replace H : ((palanquinref06_Get.f kj5 a2).bind fun bt568 => (if t555.toList = t557.toList then (if t556 = t558 then ((ip6_Check.f a0_0 a0_1 a0_2 a0_3 a0_4 a0_5).bind fun t577 => ((palanquinref06_Right.f a0_0 a0_1 a0_2 a0_3 a0_4 a0_5).bind fun t578 => (if ((t577 == 0) == t578) = true then (if (t559 == bt568.1 && (t560 == bt568.2.1 && (t561 == bt568.2.2.1 && (t562 == bt568.2.2.2.1 && (t563.toList == bt568.2.2.2.2.1.toList && (t564.toList == bt568.2.2.2.2.2.1.toList)))))) = true then (if t565.toList = bt568.2.2.2.2.2.2.1.toList then (some (t566 == bt568.2.2.2.2.2.2.2)) else (some false)) else (some false)) else (some false)))) else (some false)) else (some false))) = some r := H
          have A21 := Aside0.mk A210
          clear A210
          replace H := Option.bind_eq_some_iff.mp H
          obtain ⟨⟨t568, t569, t570, t571, t572, t573, t574, t575⟩, A220, H⟩ := H
          replace H : (if t555.toList = t557.toList then (if t556 = t558 then ((ip6_Check.f a0_0 a0_1 a0_2 a0_3 a0_4 a0_5).bind fun t577 => ((palanquinref06_Right.f a0_0 a0_1 a0_2 a0_3 a0_4 a0_5).bind fun t578 => (if ((t577 == 0) == t578) = true then (if (t559 == t568 && (t560 == t569 && (t561 == t570 && (t562 == t571 && (t563.toList == t572.toList && (t564.toList == t573.toList)))))) = true then (if t565.toList = t574.toList then (some (t566 == t575)) else (some false)) else (some false)) else (some false)))) else (some false)) else (some false)) = some r := H
          have A22 := Aside0.mk A220
          clear A220
          by_cases c23 : t555.toList = t557.toList
          · rw [if_pos c23] at H
            have c23b0 : (t555.toList == t557.toList) = true := beq_iff_eq.mpr c23
            have c23b1 : (t555.toList != t557.toList) = false := bne_eq_false_iff_eq.mpr c23
            clear c23
            by_cases c24 : t556 = t558
            · rw [if_pos c24] at H
              have c24b0 : (t556 == t558) = true := beq_iff_eq.mpr c24
              have c24b1 : (t556 != t558) = false := bne_eq_false_iff_eq.mpr c24
              clear c24
              replace H := Option.bind_eq_some_iff.mp H
              obtain ⟨t577, A250, H⟩ := H
              replace H : ((palanquinref06_Right.f a0_0 a0_1 a0_2 a0_3 a0_4 a0_5).bind fun t578 => (if ((t577 == 0) == t578) = true then (if (t559 == t568 && (t560 == t569 && (t561 == t570 && (t562 == t571 && (t563.toList == t572.toList && (t564.toList == t573.toList)))))) = true then (if t565.toList = t574.toList then (some (t566 == t575)) else (some false)) else (some false)) else (some false))) = some r := H
              have A25 := Aside0.mk A250
              clear A250
              replace H := Option.bind_eq_some_iff.mp H
              obtain ⟨t578, A260, H⟩ := H
              replace H : (if ((t577 == 0) == t578) = true then (if (t559 == t568 && (t560 == t569 && (t561 == t570 && (t562 == t571 && (t563.toList == t572.toList && (t564.toList == t573.toList)))))) = true then (if t565.toList = t574.toList then (some (t566 == t575)) else (some false)) else (some false)) else (some false)) = some r := H
              have A26 := Aside0.mk A260
              clear A260
              by_cases c27 : ((t577 == 0) == t578) = true
              · rw [if_pos c27] at H
                have c27b0 : ((t577 == 0) == t578) = true := c27
                (try (have c27b1 : decide ((t577 == 0) = t578) = true := by simpa using c27))
                (try (have c27b2 : ((t577 == 0) == t578) = true := by simpa using c27))
                clear c27
                by_cases c28 : (t559 == t568 && (t560 == t569 && (t561 == t570 && (t562 == t571 && (t563.toList == t572.toList && (t564.toList == t573.toList)))))) = true
                · rw [if_pos c28] at H
                  have c28b0 : (t559 == t568 && (t560 == t569 && (t561 == t570 && (t562 == t571 && (t563.toList == t572.toList && (t564.toList == t573.toList)))))) = true := c28
                  (try (have c28b1 : decide (t559 = t568 && (t560 == t569 && (t561 == t570 && (t562 == t571 && (t563.toList == t572.toList && (t564.toList == t573.toList)))))) = true := by simpa using c28))
                  (try (have c28b2 : (t559 == t568 && (t560 == t569 && (t561 == t570 && (t562 == t571 && (t563.toList == t572.toList && (t564.toList == t573.toList)))))) = true := by simpa using c28))
                  (try (have c28b3 : ((t559 = t568 ∧ (t560 = t569 ∧ (t561 = t570 ∧ (t562 = t571 ∧ (t563.toList = t572.toList ∧ (t564.toList = t573.toList))))))) = True := by simpa using c28))
                  clear c28
                  by_cases c29 : t565.toList = t574.toList
                  · rw [if_pos c29] at H
                    have c29b0 : (t565.toList == t574.toList) = true := beq_iff_eq.mpr c29
                    have c29b1 : (t565.toList != t574.toList) = false := bne_eq_false_iff_eq.mpr c29
                    clear c29
                    obtain rfl := Option.some.inj H
                    have hcz30_0 : wc.cell? ⟨gb552, 0, none⟩ = some (.int .i64 a0_0) := (blk_cell BK552.out 0).trans rfl
                    have hcz30_1 : wc.cell? ⟨gb552, 1, none⟩ = some (.int .i64 a0_1) := (blk_cell BK552.out 1).trans rfl
                    have hcz30_2 : wc.cell? ⟨gb552, 2, none⟩ = some (.int .i64 a0_2) := (blk_cell BK552.out 2).trans rfl
                    have hcz30_3 : wc.cell? ⟨gb552, 3, none⟩ = some (.int .i64 a0_3) := (blk_cell BK552.out 3).trans rfl
                    have hcz30_4 : wc.cell? ⟨gb552, 4, none⟩ = some (.string a0_4) := (blk_cell BK552.out 4).trans rfl
                    have hcz30_5 : wc.cell? ⟨gb552, 5, none⟩ = some (.string a0_5) := (blk_cell BK552.out 5).trans rfl
                    have hfz30_0 := blk_frozen BK552.out 0
                    have hfz30_1 := blk_frozen BK552.out 1
                    have hfz30_2 := blk_frozen BK552.out 2
                    have hfz30_3 := blk_frozen BK552.out 3
                    have hfz30_4 := blk_frozen BK552.out 4
                    have hfz30_5 := blk_frozen BK552.out 5
                    try go_wp2_with (first | ((with_reducible refine gate_callee (f := 98) rfl ?_); refine goesL_ (some 35) rfl rfl Try.func98 (by kernel_rfl) rfl #[.agg #[.int .i64 a0_0, .int .i64 a0_1, .int .i64 a0_2, .int .i64 a0_3, .string a0_4, .string a0_5], .string a1] rfl (by (try simp only [List.map_toArray, List.map_cons, List.map_nil]); first | done | rfl | (simp only [List.length_drop, List.length_take]; rfl)) ?_; (with_reducible refine (ip6_Put.calls a0_0 a0_1 a0_2 a0_3 a0_4 a0_5 a1 t555 t556 _ A19.out).mono ?_); rintro e w31 ⟨rfl, hb⟩; refine ⟨_, rfl, ?_⟩; have n0_ := Aside0.mk (blk_below (g := gb552) (o := .cells #[.int .i64 a0_0, .int .i64 a0_1, .int .i64 a0_2, .int .i64 a0_3, .string a0_4, .string a0_5] 114 (0, 0)) (by (with_reducible repeat (first | refine blk_drewN ?_ _ | refine blk_drew ?_ | refine blk_alloc ?_ _)); exact BK552.out) hb); have n1_ := Aside0.mk (below_step (by repeat (first | (with_reducible first | exact HB.out | apply below_alloc | apply pw_below_drewN | apply below_drew1 | refine below_set ?_ GE552.out) | exact HB.out)) hb); clear BK552; clear HB; have BK552 := n0_; have HB := n1_; clear n0_ n1_; (try clear hb); (try clear hb2); (try clear hk); (try clear hi); have hcz32_0 : w31.cell? ⟨gb552, 0, none⟩ = some (.int .i64 a0_0) := (blk_cell BK552.out 0).trans rfl; have hcz32_1 : w31.cell? ⟨gb552, 1, none⟩ = some (.int .i64 a0_1) := (blk_cell BK552.out 1).trans rfl; have hcz32_2 : w31.cell? ⟨gb552, 2, none⟩ = some (.int .i64 a0_2) := (blk_cell BK552.out 2).trans rfl; have hcz32_3 : w31.cell? ⟨gb552, 3, none⟩ = some (.int .i64 a0_3) := (blk_cell BK552.out 3).trans rfl; have hcz32_4 : w31.cell? ⟨gb552, 4, none⟩ = some (.string a0_4) := (blk_cell BK552.out 4).trans rfl; have hcz32_5 : w31.cell? ⟨gb552, 5, none⟩ = some (.string a0_5) := (blk_cell BK552.out 5).trans rfl; have hfz32_0 := blk_frozen BK552.out 0; have hfz32_1 := blk_frozen BK552.out 1; have hfz32_2 := blk_frozen BK552.out 2; have hfz32_3 := blk_frozen BK552.out 3; have hfz32_4 := blk_frozen BK552.out 4; have hfz32_5 := blk_frozen BK552.out 5) | ((with_reducible refine gate_callee (f := 99) rfl ?_); refine goesL_ (some 41) rfl rfl Try.func99 (by kernel_rfl) rfl #[.agg #[.int .i64 a0_0, .int .i64 a0_1, .int .i64 a0_2, .int .i64 a0_3, .string a0_4, .string a0_5], .string a1] rfl (by (try simp only [List.map_toArray, List.map_cons, List.map_nil]); first | done | rfl | (simp only [List.length_drop, List.length_take]; rfl)) ?_; (with_reducible refine (palanquinref06_Put.calls kj5 a0_0 a0_1 a0_2 a0_3 a0_4 a0_5 a1 t557 t558 _ A20.out).mono ?_); rintro e w33 ⟨rfl, hb⟩; refine ⟨_, rfl, ?_⟩; have n0_ := Aside0.mk (blk_below (g := gb552) (o := .cells #[.int .i64 a0_0, .int .i64 a0_1, .int .i64 a0_2, .int .i64 a0_3, .string a0_4, .string a0_5] 114 (0, 0)) (by (with_reducible repeat (first | refine blk_drewN ?_ _ | refine blk_drew ?_ | refine blk_alloc ?_ _)); exact BK552.out) hb); have n1_ := Aside0.mk (below_step (by repeat (first | (with_reducible first | exact HB.out | apply below_alloc | apply pw_below_drewN | apply below_drew1 | refine below_set ?_ GE552.out) | exact HB.out)) hb); clear BK552; clear HB; have BK552 := n0_; have HB := n1_; clear n0_ n1_; (try clear hb); (try clear hb2); (try clear hk); (try clear hi)) | ((with_reducible refine gate_callee (f := 100) rfl ?_); refine goesL_ (some 46) rfl rfl Try.func100 (by kernel_rfl) rfl #[.string a2] rfl (by (try simp only [List.map_toArray, List.map_cons, List.map_nil]); first | done | rfl | (simp only [List.length_drop, List.length_take]; rfl)) ?_; (with_reducible refine (ip6_Get.calls a2 t559 t560 t561 t562 t563 t564 t565 t566 _ A21.out).mono ?_); rintro e w34 ⟨rfl, hb⟩; refine ⟨_, rfl, ?_⟩; have n0_ := Aside0.mk (blk_below (g := gb552) (o := .cells #[.int .i64 a0_0, .int .i64 a0_1, .int .i64 a0_2, .int .i64 a0_3, .string a0_4, .string a0_5] 114 (0, 0)) (by (with_reducible repeat (first | refine blk_drewN ?_ _ | refine blk_drew ?_ | refine blk_alloc ?_ _)); exact BK552.out) hb); have n1_ := Aside0.mk (below_step (by repeat (first | (with_reducible first | exact HB.out | apply below_alloc | apply pw_below_drewN | apply below_drew1 | refine below_set ?_ GE552.out) | exact HB.out)) hb); clear BK552; clear HB; have BK552 := n0_; have HB := n1_; clear n0_ n1_; (try clear hb); (try clear hb2); (try clear hk); (try clear hi)) | ((with_reducible refine gate_dst (N := 11) rfl ?_); (try (refine gate_guard (by rfl) ?_; dsimp only)); refine box_event ?hg (N := 11) ?hd (cs := #[.int .i64 0, .int .i64 0, .int .i64 0, .int .i64 0, .string (⟨#[]⟩ : ByteArray), .string (⟨#[]⟩ : ByteArray)]) (t := 114) ?hr ?_; (case hd => rfl); (case hg => rfl); (case hr => first | (go_simp; done) | (go_simp; rfl)); intro gb567 hg w35 hbox hb; have n0_ := Aside0.mk (blk_below (g := gb552) (o := .cells #[.int .i64 a0_0, .int .i64 a0_1, .int .i64 a0_2, .int .i64 a0_3, .string a0_4, .string a0_5] 114 (0, 0)) (by (with_reducible repeat (first | refine blk_drewN ?_ _ | refine blk_drew ?_ | refine blk_alloc ?_ _)); exact BK552.out) hb); have n1_ := Aside0.mk (below_step (by repeat (first | (with_reducible first | exact HB.out | apply below_alloc | apply pw_below_drewN | apply below_drew1 | refine below_set ?_ GE552.out) | exact HB.out)) hb); have n2_ := Aside0.mk (hbox); have n3_ := Aside0.mk ((by rw [hg]; exact (below_size (by repeat (first | (with_reducible first | exact HB.out | apply below_alloc | apply pw_below_drewN | apply below_drew1 | refine below_set ?_ GE552.out) | exact HB.out))) : w.heap.size ≤ gb567)); have n4_ := Aside0.mk ((by rw [hg]; exact (below_size (by repeat (first | (with_reducible first | exact HB.out | apply below_alloc | apply pw_below_drewN | apply below_drew1 | refine below_set ?_ GE552.out) | exact HB.out))) : w.heap.size ≤ gb567)); have n5_ := Aside0.mk ((by rw [hg]; exact Nat.ne_of_lt (blk_lt (g := gb552) (o := .cells #[.int .i64 a0_0, .int .i64 a0_1, .int .i64 a0_2, .int .i64 a0_3, .string a0_4, .string a0_5] 114 (0, 0)) (by (with_reducible repeat (first | refine blk_drewN ?_ _ | refine blk_drew ?_ | refine blk_alloc ?_ _)); exact BK552.out)) : gb552 ≠ gb567)); have n6_ := Aside0.mk ((by rw [hg]; exact Nat.ne_of_gt (blk_lt (g := gb552) (o := .cells #[.int .i64 a0_0, .int .i64 a0_1, .int .i64 a0_2, .int .i64 a0_3, .string a0_4, .string a0_5] 114 (0, 0)) (by (with_reducible repeat (first | refine blk_drewN ?_ _ | refine blk_drew ?_ | refine blk_alloc ?_ _)); exact BK552.out)) : gb567 ≠ gb552)); clear BK552; clear HB; have BK552 := n0_; have HB := n1_; have BK567 := n2_; have GW567 := n3_; have GE567 := n4_; have NB552_567 := n5_; have NB567_552 := n6_; clear n0_ n1_ n2_ n3_ n4_ n5_ n6_; clear hb hbox hg; have hnb36 := NB567_552.out; have hnc36 := NB552_567.out; have hcz37_0 : w35.cell? ⟨gb567, 0, none⟩ = some (.int .i64 0) := (blk_cell BK567.out 0).trans rfl; have hcz37_1 : w35.cell? ⟨gb567, 1, none⟩ = some (.int .i64 0) := (blk_cell BK567.out 1).trans rfl; have hcz37_2 : w35.cell? ⟨gb567, 2, none⟩ = some (.int .i64 0) := (blk_cell BK567.out 2).trans rfl; have hcz37_3 : w35.cell? ⟨gb567, 3, none⟩ = some (.int .i64 0) := (blk_cell BK567.out 3).trans rfl; have hcz37_4 : w35.cell? ⟨gb567, 4, none⟩ = some (.string (⟨#[]⟩ : ByteArray)) := (blk_cell BK567.out 4).trans rfl; have hcz37_5 : w35.cell? ⟨gb567, 5, none⟩ = some (.string (⟨#[]⟩ : ByteArray)) := (blk_cell BK567.out 5).trans rfl; have hfz37_0 := blk_frozen BK567.out 0; have hfz37_1 := blk_frozen BK567.out 1; have hfz37_2 := blk_frozen BK567.out 2; have hfz37_3 := blk_frozen BK567.out 3; have hfz37_4 := blk_frozen BK567.out 4; have hfz37_5 := blk_frozen BK567.out 5) | ((with_reducible refine gate_callee (f := 101) rfl ?_); refine goesL_ (some 52) rfl rfl Try.func101 (by kernel_rfl) rfl #[.string a2] rfl (by (try simp only [List.map_toArray, List.map_cons, List.map_nil]); first | done | rfl | (simp only [List.length_drop, List.length_take]; rfl)) ?_; (with_reducible refine (palanquinref06_Get.calls kj5 a2 t568 t569 t570 t571 t572 t573 t574 t575 _ A22.out).mono ?_); rintro e w38 ⟨rfl, hb⟩; refine ⟨_, rfl, ?_⟩; have n0_ := Aside0.mk (blk_below (g := gb552) (o := .cells #[.int .i64 a0_0, .int .i64 a0_1, .int .i64 a0_2, .int .i64 a0_3, .string a0_4, .string a0_5] 114 (0, 0)) (by (with_reducible repeat (first | refine blk_drewN ?_ _ | refine blk_drew ?_ | refine blk_alloc ?_ _)); refine blk_far ?_ NB552_567.out _; (with_reducible repeat (first | refine blk_drewN ?_ _ | refine blk_drew ?_ | refine blk_alloc ?_ _)); refine blk_far ?_ NB552_567.out _; (with_reducible repeat (first | refine blk_drewN ?_ _ | refine blk_drew ?_ | refine blk_alloc ?_ _)); refine blk_far ?_ NB552_567.out _; (with_reducible repeat (first | refine blk_drewN ?_ _ | refine blk_drew ?_ | refine blk_alloc ?_ _)); refine blk_far ?_ NB552_567.out _; (with_reducible repeat (first | refine blk_drewN ?_ _ | refine blk_drew ?_ | refine blk_alloc ?_ _)); refine blk_far ?_ NB552_567.out _; (with_reducible repeat (first | refine blk_drewN ?_ _ | refine blk_drew ?_ | refine blk_alloc ?_ _)); refine blk_far ?_ NB552_567.out _; (with_reducible repeat (first | refine blk_drewN ?_ _ | refine blk_drew ?_ | refine blk_alloc ?_ _)); exact BK552.out) hb); have n1_ := Aside0.mk (blk_below (g := gb567) (o := .cells #[.int .i64 t559, .int .i64 t560, .int .i64 t561, .int .i64 t562, .string t563, .string t564] 114 (0, 0)) (by (with_reducible repeat (first | refine blk_drewN ?_ _ | refine blk_drew ?_ | refine blk_alloc ?_ _)); refine blk_put (cs := #[.int .i64 t559, .int .i64 t560, .int .i64 t561, .int .i64 t562, .string t563, .string (⟨#[]⟩ : ByteArray)]) ?_ 5 _ rfl; (with_reducible repeat (first | refine blk_drewN ?_ _ | refine blk_drew ?_ | refine blk_alloc ?_ _)); refine blk_put (cs := #[.int .i64 t559, .int .i64 t560, .int .i64 t561, .int .i64 t562, .string (⟨#[]⟩ : ByteArray), .string (⟨#[]⟩ : ByteArray)]) ?_ 4 _ rfl; (with_reducible repeat (first | refine blk_drewN ?_ _ | refine blk_drew ?_ | refine blk_alloc ?_ _)); refine blk_put (cs := #[.int .i64 t559, .int .i64 t560, .int .i64 t561, .int .i64 0, .string (⟨#[]⟩ : ByteArray), .string (⟨#[]⟩ : ByteArray)]) ?_ 3 _ rfl; (with_reducible repeat (first | refine blk_drewN ?_ _ | refine blk_drew ?_ | refine blk_alloc ?_ _)); refine blk_put (cs := #[.int .i64 t559, .int .i64 t560, .int .i64 0, .int .i64 0, .string (⟨#[]⟩ : ByteArray), .string (⟨#[]⟩ : ByteArray)]) ?_ 2 _ rfl; (with_reducible repeat (first | refine blk_drewN ?_ _ | refine blk_drew ?_ | refine blk_alloc ?_ _)); refine blk_put (cs := #[.int .i64 t559, .int .i64 0, .int .i64 0, .int .i64 0, .string (⟨#[]⟩ : ByteArray), .string (⟨#[]⟩ : ByteArray)]) ?_ 1 _ rfl; (with_reducible repeat (first | refine blk_drewN ?_ _ | refine blk_drew ?_ | refine blk_alloc ?_ _)); refine blk_put (cs := #[.int .i64 0, .int .i64 0, .int .i64 0, .int .i64 0, .string (⟨#[]⟩ : ByteArray), .string (⟨#[]⟩ : ByteArray)]) ?_ 0 _ rfl; (with_reducible repeat (first | refine blk_drewN ?_ _ | refine blk_drew ?_ | refine blk_alloc ?_ _)); exact BK567.out) hb); have n2_ := Aside0.mk (below_step (by repeat (first | (with_reducible first | exact HB.out | apply below_alloc | apply pw_below_drewN | apply below_drew1 | refine below_set ?_ GE552.out | refine below_set ?_ GE567.out) | exact HB.out)) hb); clear BK552; clear BK567; clear HB; have BK552 := n0_; have BK567 := n1_; have HB := n2_; clear n0_ n1_ n2_; (try clear hb); (try clear hb2); (try clear hk); (try clear hi)) | ((with_reducible refine gate_dst (N := 14) rfl ?_); (try (refine gate_guard (by rfl) ?_; dsimp only)); refine box_event ?hg (N := 14) ?hd (cs := #[.int .i64 0, .int .i64 0, .int .i64 0, .int .i64 0, .string (⟨#[]⟩ : ByteArray), .string (⟨#[]⟩ : ByteArray)]) (t := 114) ?hr ?_; (case hd => rfl); (case hg => rfl); (case hr => first | (go_simp; done) | (go_simp; rfl)); intro gb576 hg w39 hbox hb; have n0_ := Aside0.mk (blk_below (g := gb552) (o := .cells #[.int .i64 a0_0, .int .i64 a0_1, .int .i64 a0_2, .int .i64 a0_3, .string a0_4, .string a0_5] 114 (0, 0)) (by (with_reducible repeat (first | refine blk_drewN ?_ _ | refine blk_drew ?_ | refine blk_alloc ?_ _)); exact BK552.out) hb); have n1_ := Aside0.mk (blk_below (g := gb567) (o := .cells #[.int .i64 t559, .int .i64 t560, .int .i64 t561, .int .i64 t562, .string t563, .string t564] 114 (0, 0)) (by (with_reducible repeat (first | refine blk_drewN ?_ _ | refine blk_drew ?_ | refine blk_alloc ?_ _)); exact BK567.out) hb); have n2_ := Aside0.mk (below_step (by repeat (first | (with_reducible first | exact HB.out | apply below_alloc | apply pw_below_drewN | apply below_drew1 | refine below_set ?_ GE552.out | refine below_set ?_ GE567.out) | exact HB.out)) hb); have n3_ := Aside0.mk (hbox); have n4_ := Aside0.mk ((by rw [hg]; exact (below_size (by repeat (first | (with_reducible first | exact HB.out | apply below_alloc | apply pw_below_drewN | apply below_drew1 | refine below_set ?_ GE552.out | refine below_set ?_ GE567.out) | exact HB.out))) : w.heap.size ≤ gb576)); have n5_ := Aside0.mk ((by rw [hg]; exact (below_size (by repeat (first | (with_reducible first | exact HB.out | apply below_alloc | apply pw_below_drewN | apply below_drew1 | refine below_set ?_ GE552.out | refine below_set ?_ GE567.out) | exact HB.out))) : w.heap.size ≤ gb576)); have n6_ := Aside0.mk ((by rw [hg]; exact Nat.ne_of_lt (blk_lt (g := gb552) (o := .cells #[.int .i64 a0_0, .int .i64 a0_1, .int .i64 a0_2, .int .i64 a0_3, .string a0_4, .string a0_5] 114 (0, 0)) (by (with_reducible repeat (first | refine blk_drewN ?_ _ | refine blk_drew ?_ | refine blk_alloc ?_ _)); exact BK552.out)) : gb552 ≠ gb576)); have n7_ := Aside0.mk ((by rw [hg]; exact Nat.ne_of_gt (blk_lt (g := gb552) (o := .cells #[.int .i64 a0_0, .int .i64 a0_1, .int .i64 a0_2, .int .i64 a0_3, .string a0_4, .string a0_5] 114 (0, 0)) (by (with_reducible repeat (first | refine blk_drewN ?_ _ | refine blk_drew ?_ | refine blk_alloc ?_ _)); exact BK552.out)) : gb576 ≠ gb552)); have n8_ := Aside0.mk ((by rw [hg]; exact Nat.ne_of_lt (blk_lt (g := gb567) (o := .cells #[.int .i64 t559, .int .i64 t560, .int .i64 t561, .int .i64 t562, .string t563, .string t564] 114 (0, 0)) (by (with_reducible repeat (first | refine blk_drewN ?_ _ | refine blk_drew ?_ | refine blk_alloc ?_ _)); exact BK567.out)) : gb567 ≠ gb576)); have n9_ := Aside0.mk ((by rw [hg]; exact Nat.ne_of_gt (blk_lt (g := gb567) (o := .cells #[.int .i64 t559, .int .i64 t560, .int .i64 t561, .int .i64 t562, .string t563, .string t564] 114 (0, 0)) (by (with_reducible repeat (first | refine blk_drewN ?_ _ | refine blk_drew ?_ | refine blk_alloc ?_ _)); exact BK567.out)) : gb576 ≠ gb567)); clear BK552; clear BK567; clear HB; have BK552 := n0_; have BK567 := n1_; have HB := n2_; have BK576 := n3_; have GW576 := n4_; have GE576 := n5_; have NB552_576 := n6_; have NB576_552 := n7_; have NB567_576 := n8_; have NB576_567 := n9_; clear n0_ n1_ n2_ n3_ n4_ n5_ n6_ n7_ n8_ n9_; clear hb hbox hg; have hnb40 := NB576_552.out; have hnc40 := NB552_576.out; have hnb41 := NB576_567.out; have hnc41 := NB567_576.out; have hcz42_0 : w39.cell? ⟨gb576, 0, none⟩ = some (.int .i64 0) := (blk_cell BK576.out 0).trans rfl; have hcz42_1 : w39.cell? ⟨gb576, 1, none⟩ = some (.int .i64 0) := (blk_cell BK576.out 1).trans rfl; have hcz42_2 : w39.cell? ⟨gb576, 2, none⟩ = some (.int .i64 0) := (blk_cell BK576.out 2).trans rfl; have hcz42_3 : w39.cell? ⟨gb576, 3, none⟩ = some (.int .i64 0) := (blk_cell BK576.out 3).trans rfl; have hcz42_4 : w39.cell? ⟨gb576, 4, none⟩ = some (.string (⟨#[]⟩ : ByteArray)) := (blk_cell BK576.out 4).trans rfl; have hcz42_5 : w39.cell? ⟨gb576, 5, none⟩ = some (.string (⟨#[]⟩ : ByteArray)) := (blk_cell BK576.out 5).trans rfl; have hfz42_0 := blk_frozen BK576.out 0; have hfz42_1 := blk_frozen BK576.out 1; have hfz42_2 := blk_frozen BK576.out 2; have hfz42_3 := blk_frozen BK576.out 3; have hfz42_4 := blk_frozen BK576.out 4; have hfz42_5 := blk_frozen BK576.out 5))
                    have n0_ : Aside0 (((((((w39.setCell ⟨gb576, 0, none⟩ (.int .i64 t568)).setCell ⟨gb576, 1, none⟩ (.int .i64 t569)).setCell ⟨gb576, 2, none⟩ (.int .i64 t570)).setCell ⟨gb576, 3, none⟩ (.int .i64 t571)).setCell ⟨gb576, 4, none⟩ (.string t572)).setCell ⟨gb576, 5, none⟩ (.string t573)).heap[gb552]? = some (.cells #[.int .i64 a0_0, .int .i64 a0_1, .int .i64 a0_2, .int .i64 a0_3, .string a0_4, .string a0_5] 114 (0, 0))) := ⟨by (with_reducible repeat (first | refine blk_drewN ?_ _ | refine blk_drew ?_ | refine blk_alloc ?_ _)); refine blk_far ?_ NB552_576.out _; (with_reducible repeat (first | refine blk_drewN ?_ _ | refine blk_drew ?_ | refine blk_alloc ?_ _)); refine blk_far ?_ NB552_576.out _; (with_reducible repeat (first | refine blk_drewN ?_ _ | refine blk_drew ?_ | refine blk_alloc ?_ _)); refine blk_far ?_ NB552_576.out _; (with_reducible repeat (first | refine blk_drewN ?_ _ | refine blk_drew ?_ | refine blk_alloc ?_ _)); refine blk_far ?_ NB552_576.out _; (with_reducible repeat (first | refine blk_drewN ?_ _ | refine blk_drew ?_ | refine blk_alloc ?_ _)); refine blk_far ?_ NB552_576.out _; (with_reducible repeat (first | refine blk_drewN ?_ _ | refine blk_drew ?_ | refine blk_alloc ?_ _)); refine blk_far ?_ NB552_576.out _; (with_reducible repeat (first | refine blk_drewN ?_ _ | refine blk_drew ?_ | refine blk_alloc ?_ _)); exact BK552.out⟩
                    have n1_ : Aside0 (((((((w39.setCell ⟨gb576, 0, none⟩ (.int .i64 t568)).setCell ⟨gb576, 1, none⟩ (.int .i64 t569)).setCell ⟨gb576, 2, none⟩ (.int .i64 t570)).setCell ⟨gb576, 3, none⟩ (.int .i64 t571)).setCell ⟨gb576, 4, none⟩ (.string t572)).setCell ⟨gb576, 5, none⟩ (.string t573)).heap[gb567]? = some (.cells #[.int .i64 t559, .int .i64 t560, .int .i64 t561, .int .i64 t562, .string t563, .string t564] 114 (0, 0))) := ⟨by (with_reducible repeat (first | refine blk_drewN ?_ _ | refine blk_drew ?_ | refine blk_alloc ?_ _)); refine blk_far ?_ NB567_576.out _; (with_reducible repeat (first | refine blk_drewN ?_ _ | refine blk_drew ?_ | refine blk_alloc ?_ _)); refine blk_far ?_ NB567_576.out _; (with_reducible repeat (first | refine blk_drewN ?_ _ | refine blk_drew ?_ | refine blk_alloc ?_ _)); refine blk_far ?_ NB567_576.out _; (with_reducible repeat (first | refine blk_drewN ?_ _ | refine blk_drew ?_ | refine blk_alloc ?_ _)); refine blk_far ?_ NB567_576.out _; (with_reducible repeat (first | refine blk_drewN ?_ _ | refine blk_drew ?_ | refine blk_alloc ?_ _)); refine blk_far ?_ NB567_576.out _; (with_reducible repeat (first | refine blk_drewN ?_ _ | refine blk_drew ?_ | refine blk_alloc ?_ _)); refine blk_far ?_ NB567_576.out _; (with_reducible repeat (first | refine blk_drewN ?_ _ | refine blk_drew ?_ | refine blk_alloc ?_ _)); exact BK567.out⟩
                    have n2_ : Aside0 (((((((w39.setCell ⟨gb576, 0, none⟩ (.int .i64 t568)).setCell ⟨gb576, 1, none⟩ (.int .i64 t569)).setCell ⟨gb576, 2, none⟩ (.int .i64 t570)).setCell ⟨gb576, 3, none⟩ (.int .i64 t571)).setCell ⟨gb576, 4, none⟩ (.string t572)).setCell ⟨gb576, 5, none⟩ (.string t573)).heap[gb576]? = some (.cells #[.int .i64 t568, .int .i64 t569, .int .i64 t570, .int .i64 t571, .string t572, .string t573] 114 (0, 0))) := ⟨by (with_reducible repeat (first | refine blk_drewN ?_ _ | refine blk_drew ?_ | refine blk_alloc ?_ _)); refine blk_put (cs := #[.int .i64 t568, .int .i64 t569, .int .i64 t570, .int .i64 t571, .string t572, .string (⟨#[]⟩ : ByteArray)]) ?_ 5 _ rfl; (with_reducible repeat (first | refine blk_drewN ?_ _ | refine blk_drew ?_ | refine blk_alloc ?_ _)); refine blk_put (cs := #[.int .i64 t568, .int .i64 t569, .int .i64 t570, .int .i64 t571, .string (⟨#[]⟩ : ByteArray), .string (⟨#[]⟩ : ByteArray)]) ?_ 4 _ rfl; (with_reducible repeat (first | refine blk_drewN ?_ _ | refine blk_drew ?_ | refine blk_alloc ?_ _)); refine blk_put (cs := #[.int .i64 t568, .int .i64 t569, .int .i64 t570, .int .i64 0, .string (⟨#[]⟩ : ByteArray), .string (⟨#[]⟩ : ByteArray)]) ?_ 3 _ rfl; (with_reducible repeat (first | refine blk_drewN ?_ _ | refine blk_drew ?_ | refine blk_alloc ?_ _)); refine blk_put (cs := #[.int .i64 t568, .int .i64 t569, .int .i64 0, .int .i64 0, .string (⟨#[]⟩ : ByteArray), .string (⟨#[]⟩ : ByteArray)]) ?_ 2 _ rfl; (with_reducible repeat (first | refine blk_drewN ?_ _ | refine blk_drew ?_ | refine blk_alloc ?_ _)); refine blk_put (cs := #[.int .i64 t568, .int .i64 0, .int .i64 0, .int .i64 0, .string (⟨#[]⟩ : ByteArray), .string (⟨#[]⟩ : ByteArray)]) ?_ 1 _ rfl; (with_reducible repeat (first | refine blk_drewN ?_ _ | refine blk_drew ?_ | refine blk_alloc ?_ _)); refine blk_put (cs := #[.int .i64 0, .int .i64 0, .int .i64 0, .int .i64 0, .string (⟨#[]⟩ : ByteArray), .string (⟨#[]⟩ : ByteArray)]) ?_ 0 _ rfl; (with_reducible repeat (first | refine blk_drewN ?_ _ | refine blk_drew ?_ | refine blk_alloc ?_ _)); exact BK576.out⟩
                    have n3_ : Aside0 (Below w.heap.size w ((((((w39.setCell ⟨gb576, 0, none⟩ (.int .i64 t568)).setCell ⟨gb576, 1, none⟩ (.int .i64 t569)).setCell ⟨gb576, 2, none⟩ (.int .i64 t570)).setCell ⟨gb576, 3, none⟩ (.int .i64 t571)).setCell ⟨gb576, 4, none⟩ (.string t572)).setCell ⟨gb576, 5, none⟩ (.string t573))) := ⟨by repeat (first | (with_reducible first | exact HB.out | apply below_alloc | apply pw_below_drewN | apply below_drew1 | refine below_set ?_ GE552.out | refine below_set ?_ GE567.out | refine below_set ?_ GE576.out) | exact HB.out)⟩
                    (try clear BK552)
                    (try clear BK567)
                    (try clear BK576)
                    (try clear HB)
                    generalize ((((((w39.setCell ⟨gb576, 0, none⟩ (.int .i64 t568)).setCell ⟨gb576, 1, none⟩ (.int .i64 t569)).setCell ⟨gb576, 2, none⟩ (.int .i64 t570)).setCell ⟨gb576, 3, none⟩ (.int .i64 t571)).setCell ⟨gb576, 4, none⟩ (.string t572)).setCell ⟨gb576, 5, none⟩ (.string t573)) = w43 at n0_ n1_ n2_ n3_ ⊢
                    have BK552 := n0_
                    have BK567 := n1_
                    have BK576 := n2_
                    have HB := n3_
                    clear n0_ n1_ n2_ n3_
                    have n0_ := Aside0.mk (blk_drew BK552.out)
                    have n1_ := Aside0.mk (blk_drew BK567.out)
                    have n2_ := Aside0.mk (blk_drew BK576.out)
                    have n3_ := Aside0.mk (below_drew1 HB.out)
                    clear BK552
                    clear BK567
                    clear BK576
                    clear HB
                    have BK552 := n0_
                    have BK567 := n1_
                    have BK576 := n2_
                    have HB := n3_
                    clear n0_ n1_ n2_ n3_
                    refine start_ (n := 32) (S := fun w' => w'.cell? ⟨gb552, 0, none⟩ = some (.int .i64 a0_0) ∧ w'.cell? ⟨gb552, 1, none⟩ = some (.int .i64 a0_1) ∧ w'.cell? ⟨gb552, 2, none⟩ = some (.int .i64 a0_2) ∧ w'.cell? ⟨gb552, 3, none⟩ = some (.int .i64 a0_3) ∧ w'.cell? ⟨gb552, 4, none⟩ = some (.string a0_4) ∧ w'.cell? ⟨gb552, 5, none⟩ = some (.string a0_5) ∧ w'.cell? ⟨gb567, 0, none⟩ = some (.int .i64 t559) ∧ w'.cell? ⟨gb567, 1, none⟩ = some (.int .i64 t560) ∧ w'.cell? ⟨gb567, 2, none⟩ = some (.int .i64 t561) ∧ w'.cell? ⟨gb567, 3, none⟩ = some (.int .i64 t562) ∧ w'.cell? ⟨gb567, 4, none⟩ = some (.string t563) ∧ w'.cell? ⟨gb567, 5, none⟩ = some (.string t564) ∧ w'.cell? ⟨gb576, 0, none⟩ = some (.int .i64 t568) ∧ w'.cell? ⟨gb576, 1, none⟩ = some (.int .i64 t569) ∧ w'.cell? ⟨gb576, 2, none⟩ = some (.int .i64 t570) ∧ w'.cell? ⟨gb576, 3, none⟩ = some (.int .i64 t571) ∧ w'.cell? ⟨gb576, 4, none⟩ = some (.string t572) ∧ w'.cell? ⟨gb576, 5, none⟩ = some (.string t573)) (ds := []) #[false, false, false, false, false, false, false, false, false, false, false, false, false, false, false, false, false, false, false, false, false, false, false, false, false, false, false, false, false, false, false, false] (by kernel_rfl) rfl rfl ⟨(blk_cell BK552.out 0).trans rfl, (blk_cell BK552.out 1).trans rfl, (blk_cell BK552.out 2).trans rfl, (blk_cell BK552.out 3).trans rfl, (blk_cell BK552.out 4).trans rfl, (blk_cell BK552.out 5).trans rfl, (blk_cell BK567.out 0).trans rfl, (blk_cell BK567.out 1).trans rfl, (blk_cell BK567.out 2).trans rfl, (blk_cell BK567.out 3).trans rfl, (blk_cell BK567.out 4).trans rfl, (blk_cell BK567.out 5).trans rfl, (blk_cell BK576.out 0).trans rfl, (blk_cell BK576.out 1).trans rfl, (blk_cell BK576.out 2).trans rfl, (blk_cell BK576.out 3).trans rfl, (blk_cell BK576.out 4).trans rfl, (blk_cell BK576.out 5).trans rfl⟩ (fun hHeld => ?_); refine with_tabW palanquinlaw06_Ip6Tells.tab9 palanquinlaw06_Ip6Tells.bits9 (fun HT_ HW_ => ?_)
                    generalize w43.drew = w44 at BK552 BK567 BK576 HB hHeld ⊢
                    refine pure_ (i := 0) (N := some 56) (v := ?_) (a' := ?_) #[true, false, false, false, false, false, false, false, false, false, false, false, false, false, false, false, false, false, false, false, false, false, false, false, false, false, false, false, false, false, false, false] rfl rfl (any_of HT_.out (by kernel_rfl)) (fun _ _ _ h => h) (Or.inl ⟨by rfl, ?_⟩) ?_ ?_
                    rotate_left
                    · intro w'
                      go_simp
                      with_reducible rfl
                    rotate_left
                    · simp only [Act.put, List.setIfInBounds_toArray, List.set_cons_zero, List.set_cons_succ, i64_w, i32_w]
                      rfl
                    refine pure_ (i := 1) (N := some 57) (v := ?_) (a' := ?_) #[true, true, false, false, false, false, false, false, false, false, false, false, false, false, false, false, false, false, false, false, false, false, false, false, false, false, false, false, false, false, false, false] rfl rfl (any_of HT_.out (by kernel_rfl)) (fun _ _ _ h => h) (Or.inl ⟨by rfl, ?_⟩) ?_ ?_
                    rotate_left
                    · intro w'
                      go_simp
                      with_reducible rfl
                    rotate_left
                    · simp only [Act.put, List.setIfInBounds_toArray, List.set_cons_zero, List.set_cons_succ, i64_w, i32_w]
                      rfl
                    refine pure_ (i := 2) (N := some 58) (v := ?_) (a' := ?_) #[true, true, true, false, false, false, false, false, false, false, false, false, false, false, false, false, false, false, false, false, false, false, false, false, false, false, false, false, false, false, false, false] rfl rfl (any_of HT_.out (by kernel_rfl)) (fun _ _ _ h => h) (Or.inl ⟨by rfl, ?_⟩) ?_ ?_
                    rotate_left
                    · intro w'
                      go_simp
                      with_reducible rfl
                    rotate_left
                    · simp only [Act.put, List.setIfInBounds_toArray, List.set_cons_zero, List.set_cons_succ, i64_w, i32_w]
                      rfl
                    refine pure_ (i := 3) (N := some 59) (v := ?_) (a' := ?_) #[true, true, true, true, false, false, false, false, false, false, false, false, false, false, false, false, false, false, false, false, false, false, false, false, false, false, false, false, false, false, false, false] rfl rfl (any_of HT_.out (by kernel_rfl)) (fun _ _ _ h => h) (Or.inl ⟨by rfl, ?_⟩) ?_ ?_
                    rotate_left
                    · intro w'
                      go_simp
                      with_reducible rfl
                    rotate_left
                    · simp only [Act.put, List.setIfInBounds_toArray, List.set_cons_zero, List.set_cons_succ, i64_w, i32_w]
                      rfl
                    refine pure_ (i := 4) (N := some 60) (v := ?_) (a' := ?_) #[true, true, true, true, true, false, false, false, false, false, false, false, false, false, false, false, false, false, false, false, false, false, false, false, false, false, false, false, false, false, false, false] rfl rfl (any_of HT_.out (by kernel_rfl)) (fun _ _ _ h => h) (Or.inl ⟨by rfl, ?_⟩) ?_ ?_
                    rotate_left
                    · intro w'
                      go_simp
                      with_reducible rfl
                    rotate_left
                    · simp only [Act.put, List.setIfInBounds_toArray, List.set_cons_zero, List.set_cons_succ, i64_w, i32_w]
                      rfl
                    refine pure_ (i := 5) (N := some 61) (v := ?_) (a' := ?_) #[true, true, true, true, true, true, false, false, false, false, false, false, false, false, false, false, false, false, false, false, false, false, false, false, false, false, false, false, false, false, false, false] rfl rfl (any_of HT_.out (by kernel_rfl)) (fun _ _ _ h => h) (Or.inl ⟨by rfl, ?_⟩) ?_ ?_
                    rotate_left
                    · intro w'
                      go_simp
                      with_reducible rfl
                    rotate_left
                    · simp only [Act.put, List.setIfInBounds_toArray, List.set_cons_zero, List.set_cons_succ, i64_w, i32_w]
                      rfl
                    refine pure_ (i := 6) (N := some 62) (v := ?_) (a' := ?_) #[true, true, true, true, true, true, true, false, false, false, false, false, false, false, false, false, false, false, false, false, false, false, false, false, false, false, false, false, false, false, false, false] rfl rfl (any_of HT_.out (by kernel_rfl)) (fun _ _ _ h => h) (Or.inl ⟨by rfl, ?_⟩) ?_ ?_
                    rotate_left
                    · intro w'
                      go_simp
                      with_reducible rfl
                    rotate_left
                    · simp only [Act.put, List.setIfInBounds_toArray, List.set_cons_zero, List.set_cons_succ, i64_w, i32_w]
                      rfl
                    refine pure_ (i := 7) (N := some 63) (v := ?_) (a' := ?_) #[true, true, true, true, true, true, true, true, false, false, false, false, false, false, false, false, false, false, false, false, false, false, false, false, false, false, false, false, false, false, false, false] rfl rfl (any_of HT_.out (by kernel_rfl)) (fun _ _ _ h => h) (Or.inl ⟨by rfl, ?_⟩) ?_ ?_
                    rotate_left
                    · intro w'
                      go_simp
                      with_reducible rfl
                    rotate_left
                    · simp only [Act.put, List.setIfInBounds_toArray, List.set_cons_zero, List.set_cons_succ, i64_w, i32_w]
                      rfl
                    refine pure_ (i := 8) (N := some 64) (v := ?_) (a' := ?_) #[true, true, true, true, true, true, true, true, true, false, false, false, false, false, false, false, false, false, false, false, false, false, false, false, false, false, false, false, false, false, false, false] rfl rfl (any_of HT_.out (by kernel_rfl)) (fun _ _ _ h => h) (Or.inl ⟨by rfl, ?_⟩) ?_ ?_
                    rotate_left
                    · intro w'
                      go_simp
                      with_reducible rfl
                    rotate_left
                    · simp only [Act.put, List.setIfInBounds_toArray, List.set_cons_zero, List.set_cons_succ, i64_w, i32_w]
                      rfl
                    refine take_ (i := 9) (N := some 65) (v := ?_) (a' := ?_) #[true, true, true, true, true, true, true, true, true, true, false, false, false, false, false, false, false, false, false, false, false, false, false, false, false, false, false, false, false, false, false, false] rfl rfl (take_ofW HT_.out HW_.out (by kernel_rfl)) (fun _ _ _ h => h) (Or.inl ⟨by rfl, ?_⟩) hHeld ?_ ?_
                    rotate_left
                    · rintro w' ⟨s0, s1, s2, s3, s4, s5, s6, s7, s8, s9, s10, s11, s12, s13, s14, s15, s16, s17⟩
                      go_simp
                      with_reducible rfl
                    rotate_left
                    · simp only [Act.put, List.setIfInBounds_toArray, List.set_cons_zero, List.set_cons_succ, i64_w, i32_w]
                      rfl
                    refine take_ (i := 12) (N := some 68) (v := ?_) (a' := ?_) #[true, true, true, true, true, true, true, true, true, true, false, false, true, false, false, false, false, false, false, false, false, false, false, false, false, false, false, false, false, false, false, false] rfl rfl (take_ofW HT_.out HW_.out (by kernel_rfl)) (fun _ _ _ h => h) (Or.inl ⟨by rfl, ?_⟩) hHeld ?_ ?_
                    rotate_left
                    · rintro w' ⟨s0, s1, s2, s3, s4, s5, s6, s7, s8, s9, s10, s11, s12, s13, s14, s15, s16, s17⟩
                      go_simp
                      with_reducible rfl
                    rotate_left
                    · simp only [Act.put, List.setIfInBounds_toArray, List.set_cons_zero, List.set_cons_succ, i64_w, i32_w]
                      rfl
                    refine one_ (i := 10) (N := some 66) #[true, true, true, true, true, true, true, true, true, true, true, false, true, false, false, false, false, false, false, false, false, false, false, false, false, false, false, false, false, false, false, false] rfl rfl (one_of HT_.out (by kernel_rfl)) (by decide) (fun K hK => ?_)
                    refine goes_ Try.func102 (by kernel_rfl) rfl #[.agg #[.int .i64 a0_0, .int .i64 a0_1, .int .i64 a0_2, .int .i64 a0_3, .string a0_4, .string a0_5]] (by rfl) rfl rfl (by (try simp only [List.map_toArray, List.map_cons, List.map_nil]); first | done | rfl | (simp only [List.length_drop, List.length_take]; rfl)) ?_
                    with_reducible refine (ip6_Check.calls a0_0 a0_1 a0_2 a0_3 a0_4 a0_5 t577 _ A25.out).mono ?_
                    rintro e w45 ⟨rfl, hb⟩
                    refine ⟨_, rfl, ?_⟩
                    have n0_ := Aside0.mk (blk_below (g := gb552) (o := .cells #[.int .i64 a0_0, .int .i64 a0_1, .int .i64 a0_2, .int .i64 a0_3, .string a0_4, .string a0_5] 114 (0, 0)) (by (with_reducible repeat (first | refine blk_drewN ?_ _ | refine blk_drew ?_ | refine blk_alloc ?_ _)); exact BK552.out) hb)
                    have n1_ := Aside0.mk (blk_below (g := gb567) (o := .cells #[.int .i64 t559, .int .i64 t560, .int .i64 t561, .int .i64 t562, .string t563, .string t564] 114 (0, 0)) (by (with_reducible repeat (first | refine blk_drewN ?_ _ | refine blk_drew ?_ | refine blk_alloc ?_ _)); exact BK567.out) hb)
                    have n2_ := Aside0.mk (blk_below (g := gb576) (o := .cells #[.int .i64 t568, .int .i64 t569, .int .i64 t570, .int .i64 t571, .string t572, .string t573] 114 (0, 0)) (by (with_reducible repeat (first | refine blk_drewN ?_ _ | refine blk_drew ?_ | refine blk_alloc ?_ _)); exact BK576.out) hb)
                    have n3_ := Aside0.mk (below_step (by repeat (first | (with_reducible first | exact HB.out | apply below_alloc | apply pw_below_drewN | apply below_drew1 | refine below_set ?_ GE552.out | refine below_set ?_ GE567.out | refine below_set ?_ GE576.out) | exact HB.out)) hb)
                    clear BK552
                    clear BK567
                    clear BK576
                    clear HB
                    have BK552 := n0_
                    have BK567 := n1_
                    have BK576 := n2_
                    have HB := n3_
                    clear n0_ n1_ n2_ n3_
                    (try clear hb)
                    (try clear hb2)
                    (try clear hk)
                    (try clear hi)
                    refine hK.out _ _ ⟨(blk_cell BK552.out 0).trans rfl, (blk_cell BK552.out 1).trans rfl, (blk_cell BK552.out 2).trans rfl, (blk_cell BK552.out 3).trans rfl, (blk_cell BK552.out 4).trans rfl, (blk_cell BK552.out 5).trans rfl, (blk_cell BK567.out 0).trans rfl, (blk_cell BK567.out 1).trans rfl, (blk_cell BK567.out 2).trans rfl, (blk_cell BK567.out 3).trans rfl, (blk_cell BK567.out 4).trans rfl, (blk_cell BK567.out 5).trans rfl, (blk_cell BK576.out 0).trans rfl, (blk_cell BK576.out 1).trans rfl, (blk_cell BK576.out 2).trans rfl, (blk_cell BK576.out 3).trans rfl, (blk_cell BK576.out 4).trans rfl, (blk_cell BK576.out 5).trans rfl⟩ (fun hHeld => ?_)
                    clear hK K
                    refine norm_ (a' := ?_) ?_ ?_
                    rotate_left
                    · show Act.put _ (some 66) _ = _
                      simp only [Act.put, List.setIfInBounds_toArray, List.set_cons_zero, List.set_cons_succ, i64_w, i32_w]
                      rfl
                    refine pure_ (i := 11) (N := some 67) (v := ?_) (a' := ?_) #[true, true, true, true, true, true, true, true, true, true, true, true, true, false, false, false, false, false, false, false, false, false, false, false, false, false, false, false, false, false, false, false] rfl rfl (any_of HT_.out (by kernel_rfl)) (fun _ _ _ h => h) (Or.inl ⟨by rfl, ?_⟩) ?_ ?_
                    rotate_left
                    · intro w'
                      go_simp
                      with_reducible rfl
                    rotate_left
                    · simp only [Act.put, List.setIfInBounds_toArray, List.set_cons_zero, List.set_cons_succ, i64_w, i32_w]
                      rfl
                    refine one_ (i := 13) (N := some 69) #[true, true, true, true, true, true, true, true, true, true, true, true, true, true, false, false, false, false, false, false, false, false, false, false, false, false, false, false, false, false, false, false] rfl rfl (one_of HT_.out (by kernel_rfl)) (by decide) (fun K hK => ?_)
                    refine goes_ Try.func103 (by kernel_rfl) rfl #[.agg #[.int .i64 a0_0, .int .i64 a0_1, .int .i64 a0_2, .int .i64 a0_3, .string a0_4, .string a0_5]] (by rfl) rfl rfl (by (try simp only [List.map_toArray, List.map_cons, List.map_nil]); first | done | rfl | (simp only [List.length_drop, List.length_take]; rfl)) ?_
                    with_reducible refine (palanquinref06_Right.calls a0_0 a0_1 a0_2 a0_3 a0_4 a0_5 t578 _ A26.out).mono ?_
                    rintro e w46 ⟨rfl, hb⟩
                    refine ⟨_, rfl, ?_⟩
                    have n0_ := Aside0.mk (blk_below (g := gb552) (o := .cells #[.int .i64 a0_0, .int .i64 a0_1, .int .i64 a0_2, .int .i64 a0_3, .string a0_4, .string a0_5] 114 (0, 0)) (by (with_reducible repeat (first | refine blk_drewN ?_ _ | refine blk_drew ?_ | refine blk_alloc ?_ _)); exact BK552.out) hb)
                    have n1_ := Aside0.mk (blk_below (g := gb567) (o := .cells #[.int .i64 t559, .int .i64 t560, .int .i64 t561, .int .i64 t562, .string t563, .string t564] 114 (0, 0)) (by (with_reducible repeat (first | refine blk_drewN ?_ _ | refine blk_drew ?_ | refine blk_alloc ?_ _)); exact BK567.out) hb)
                    have n2_ := Aside0.mk (blk_below (g := gb576) (o := .cells #[.int .i64 t568, .int .i64 t569, .int .i64 t570, .int .i64 t571, .string t572, .string t573] 114 (0, 0)) (by (with_reducible repeat (first | refine blk_drewN ?_ _ | refine blk_drew ?_ | refine blk_alloc ?_ _)); exact BK576.out) hb)
                    have n3_ := Aside0.mk (below_step (by repeat (first | (with_reducible first | exact HB.out | apply below_alloc | apply pw_below_drewN | apply below_drew1 | refine below_set ?_ GE552.out | refine below_set ?_ GE567.out | refine below_set ?_ GE576.out) | exact HB.out)) hb)
                    clear BK552
                    clear BK567
                    clear BK576
                    clear HB
                    have BK552 := n0_
                    have BK567 := n1_
                    have BK576 := n2_
                    have HB := n3_
                    clear n0_ n1_ n2_ n3_
                    (try clear hb)
                    (try clear hb2)
                    (try clear hk)
                    (try clear hi)
                    refine hK.out _ _ ⟨(blk_cell BK552.out 0).trans rfl, (blk_cell BK552.out 1).trans rfl, (blk_cell BK552.out 2).trans rfl, (blk_cell BK552.out 3).trans rfl, (blk_cell BK552.out 4).trans rfl, (blk_cell BK552.out 5).trans rfl, (blk_cell BK567.out 0).trans rfl, (blk_cell BK567.out 1).trans rfl, (blk_cell BK567.out 2).trans rfl, (blk_cell BK567.out 3).trans rfl, (blk_cell BK567.out 4).trans rfl, (blk_cell BK567.out 5).trans rfl, (blk_cell BK576.out 0).trans rfl, (blk_cell BK576.out 1).trans rfl, (blk_cell BK576.out 2).trans rfl, (blk_cell BK576.out 3).trans rfl, (blk_cell BK576.out 4).trans rfl, (blk_cell BK576.out 5).trans rfl⟩ (fun hHeld => ?_)
                    clear hK K
                    refine norm_ (a' := ?_) ?_ ?_
                    rotate_left
                    · show Act.put _ (some 69) _ = _
                      simp only [Act.put, List.setIfInBounds_toArray, List.set_cons_zero, List.set_cons_succ, i64_w, i32_w]
                      rfl
                    refine pure_ (i := 14) (N := some 70) (v := ?_) (a' := ?_) #[true, true, true, true, true, true, true, true, true, true, true, true, true, true, true, false, false, false, false, false, false, false, false, false, false, false, false, false, false, false, false, false] rfl rfl (any_of HT_.out (by kernel_rfl)) (fun _ _ _ h => h) (Or.inl ⟨by rfl, ?_⟩) ?_ ?_
                    rotate_left
                    · intro w'
                      go_simp
                      with_reducible rfl
                    rotate_left
                    · simp only [Act.put, List.setIfInBounds_toArray, List.set_cons_zero, List.set_cons_succ, i64_w, i32_w]
                      rfl
                    refine pure_ (i := 15) (N := some 71) (v := ?_) (a' := ?_) #[true, true, true, true, true, true, true, true, true, true, true, true, true, true, true, true, false, false, false, false, false, false, false, false, false, false, false, false, false, false, false, false] rfl rfl (any_of HT_.out (by kernel_rfl)) (fun _ _ _ h => h) (Or.inl ⟨by rfl, ?_⟩) ?_ ?_
                    rotate_left
                    · intro w'
                      go_simp
                      with_reducible rfl
                    rotate_left
                    · simp only [Act.put, List.setIfInBounds_toArray, List.set_cons_zero, List.set_cons_succ, i64_w, i32_w]
                      rfl
                    refine pure_ (i := 16) (N := some 72) (v := ?_) (a' := ?_) #[true, true, true, true, true, true, true, true, true, true, true, true, true, true, true, true, true, false, false, false, false, false, false, false, false, false, false, false, false, false, false, false] rfl rfl (any_of HT_.out (by kernel_rfl)) (fun _ _ _ h => h) (Or.inl ⟨by rfl, ?_⟩) ?_ ?_
                    rotate_left
                    · intro w'
                      go_simp
                      with_reducible rfl
                    rotate_left
                    · simp only [Act.put, List.setIfInBounds_toArray, List.set_cons_zero, List.set_cons_succ, i64_w, i32_w]
                      rfl
                    refine take_ (i := 17) (N := some 73) (v := ?_) (a' := ?_) #[true, true, true, true, true, true, true, true, true, true, true, true, true, true, true, true, true, true, false, false, false, false, false, false, false, false, false, false, false, false, false, false] rfl rfl (take_ofW HT_.out HW_.out (by kernel_rfl)) (fun _ _ _ h => h) (Or.inl ⟨by rfl, ?_⟩) hHeld ?_ ?_
                    rotate_left
                    · rintro w' ⟨s0, s1, s2, s3, s4, s5, s6, s7, s8, s9, s10, s11, s12, s13, s14, s15, s16, s17⟩
                      go_simp
                      with_reducible rfl
                    rotate_left
                    · simp only [Act.put, List.setIfInBounds_toArray, List.set_cons_zero, List.set_cons_succ, i64_w, i32_w]
                      rfl
                    refine take_ (i := 18) (N := some 74) (v := ?_) (a' := ?_) #[true, true, true, true, true, true, true, true, true, true, true, true, true, true, true, true, true, true, true, false, false, false, false, false, false, false, false, false, false, false, false, false] rfl rfl (take_ofW HT_.out HW_.out (by kernel_rfl)) (fun _ _ _ h => h) (Or.inl ⟨by rfl, ?_⟩) hHeld ?_ ?_
                    rotate_left
                    · rintro w' ⟨s0, s1, s2, s3, s4, s5, s6, s7, s8, s9, s10, s11, s12, s13, s14, s15, s16, s17⟩
                      go_simp
                      with_reducible rfl
                    rotate_left
                    · simp only [Act.put, List.setIfInBounds_toArray, List.set_cons_zero, List.set_cons_succ, i64_w, i32_w]
                      rfl
                    refine pure_ (i := 19) (N := some 75) (v := ?_) (a' := ?_) #[true, true, true, true, true, true, true, true, true, true, true, true, true, true, true, true, true, true, true, true, false, false, false, false, false, false, false, false, false, false, false, false] rfl rfl (any_of HT_.out (by kernel_rfl)) (fun _ _ _ h => h) (Or.inl ⟨by rfl, ?_⟩) ?_ ?_
                    rotate_left
                    · intro w'
                      go_simp
                      with_reducible rfl
                    rotate_left
                    · simp only [Act.put, List.setIfInBounds_toArray, List.set_cons_zero, List.set_cons_succ, i64_w, i32_w]
                      rfl
                    refine pure_ (i := 20) (N := some 76) (v := ?_) (a' := ?_) #[true, true, true, true, true, true, true, true, true, true, true, true, true, true, true, true, true, true, true, true, true, false, false, false, false, false, false, false, false, false, false, false] rfl rfl (any_of HT_.out (by kernel_rfl)) (fun _ _ _ h => h) (Or.inl ⟨by rfl, ?_⟩) ?_ ?_
                    rotate_left
                    · intro w'
                      go_simp
                      with_reducible rfl
                    rotate_left
                    · simp only [Act.put, List.setIfInBounds_toArray, List.set_cons_zero, List.set_cons_succ, i64_w, i32_w]
                      rfl
                    refine pure_ (i := 21) (N := some 77) (v := ?_) (a' := ?_) #[true, true, true, true, true, true, true, true, true, true, true, true, true, true, true, true, true, true, true, true, true, true, false, false, false, false, false, false, false, false, false, false] rfl rfl (any_of HT_.out (by kernel_rfl)) (fun _ _ _ h => h) (Or.inl ⟨by rfl, ?_⟩) ?_ ?_
                    rotate_left
                    · intro w'
                      go_simp
                      with_reducible rfl
                    rotate_left
                    · simp only [Act.put, List.setIfInBounds_toArray, List.set_cons_zero, List.set_cons_succ, i64_w, i32_w]
                      rfl
                    refine pure_ (i := 22) (N := some 78) (v := ?_) (a' := ?_) #[true, true, true, true, true, true, true, true, true, true, true, true, true, true, true, true, true, true, true, true, true, true, true, false, false, false, false, false, false, false, false, false] rfl rfl (any_of HT_.out (by kernel_rfl)) (fun _ _ _ h => h) (Or.inl ⟨by rfl, ?_⟩) ?_ ?_
                    rotate_left
                    · intro w'
                      go_simp
                      with_reducible rfl
                    rotate_left
                    · simp only [Act.put, List.setIfInBounds_toArray, List.set_cons_zero, List.set_cons_succ, i64_w, i32_w]
                      rfl
                    refine pure_ (i := 23) (N := some 79) (v := ?_) (a' := ?_) #[true, true, true, true, true, true, true, true, true, true, true, true, true, true, true, true, true, true, true, true, true, true, true, true, false, false, false, false, false, false, false, false] rfl rfl (any_of HT_.out (by kernel_rfl)) (fun _ _ _ h => h) (Or.inl ⟨by rfl, ?_⟩) ?_ ?_
                    rotate_left
                    · intro w'
                      go_simp
                      with_reducible rfl
                    rotate_left
                    · simp only [Act.put, List.setIfInBounds_toArray, List.set_cons_zero, List.set_cons_succ, i64_w, i32_w]
                      rfl
                    refine pure_ (i := 24) (N := some 80) (v := ?_) (a' := ?_) #[true, true, true, true, true, true, true, true, true, true, true, true, true, true, true, true, true, true, true, true, true, true, true, true, true, false, false, false, false, false, false, false] rfl rfl (any_of HT_.out (by kernel_rfl)) (fun _ _ _ h => h) (Or.inl ⟨by rfl, ?_⟩) ?_ ?_
                    rotate_left
                    · intro w'
                      go_simp
                      with_reducible rfl
                    rotate_left
                    · simp only [Act.put, List.setIfInBounds_toArray, List.set_cons_zero, List.set_cons_succ, i64_w, i32_w]
                      rfl
                    refine pure_ (i := 25) (N := some 81) (v := ?_) (a' := ?_) #[true, true, true, true, true, true, true, true, true, true, true, true, true, true, true, true, true, true, true, true, true, true, true, true, true, true, false, false, false, false, false, false] rfl rfl (any_of HT_.out (by kernel_rfl)) (fun _ _ _ h => h) (Or.inl ⟨by rfl, ?_⟩) ?_ ?_
                    rotate_left
                    · intro w'
                      go_simp
                      with_reducible rfl
                    rotate_left
                    · simp only [Act.put, List.setIfInBounds_toArray, List.set_cons_zero, List.set_cons_succ, i64_w, i32_w]
                      rfl
                    refine pure_ (i := 26) (N := some 82) (v := ?_) (a' := ?_) #[true, true, true, true, true, true, true, true, true, true, true, true, true, true, true, true, true, true, true, true, true, true, true, true, true, true, true, false, false, false, false, false] rfl rfl (any_of HT_.out (by kernel_rfl)) (fun _ _ _ h => h) (Or.inl ⟨by rfl, ?_⟩) ?_ ?_
                    rotate_left
                    · intro w'
                      go_simp
                      with_reducible rfl
                    rotate_left
                    · simp only [Act.put, List.setIfInBounds_toArray, List.set_cons_zero, List.set_cons_succ, i64_w, i32_w]
                      rfl
                    refine pure_ (i := 27) (N := some 83) (v := ?_) (a' := ?_) #[true, true, true, true, true, true, true, true, true, true, true, true, true, true, true, true, true, true, true, true, true, true, true, true, true, true, true, true, false, false, false, false] rfl rfl (any_of HT_.out (by kernel_rfl)) (fun _ _ _ h => h) (Or.inl ⟨by rfl, ?_⟩) ?_ ?_
                    rotate_left
                    · intro w'
                      go_simp
                      with_reducible rfl
                    rotate_left
                    · simp only [Act.put, List.setIfInBounds_toArray, List.set_cons_zero, List.set_cons_succ, i64_w, i32_w]
                      rfl
                    refine pure_ (i := 28) (N := some 84) (v := ?_) (a' := ?_) #[true, true, true, true, true, true, true, true, true, true, true, true, true, true, true, true, true, true, true, true, true, true, true, true, true, true, true, true, true, false, false, false] rfl rfl (any_of HT_.out (by kernel_rfl)) (fun _ _ _ h => h) (Or.inl ⟨by rfl, ?_⟩) ?_ ?_
                    rotate_left
                    · intro w'
                      go_simp
                      with_reducible rfl
                    rotate_left
                    · simp only [Act.put, List.setIfInBounds_toArray, List.set_cons_zero, List.set_cons_succ, i64_w, i32_w]
                      rfl
                    refine pure_ (i := 29) (N := some 85) (v := ?_) (a' := ?_) #[true, true, true, true, true, true, true, true, true, true, true, true, true, true, true, true, true, true, true, true, true, true, true, true, true, true, true, true, true, true, false, false] rfl rfl (any_of HT_.out (by kernel_rfl)) (fun _ _ _ h => h) (Or.inl ⟨by rfl, ?_⟩) ?_ ?_
                    rotate_left
                    · intro w'
                      go_simp
                      with_reducible rfl
                    rotate_left
                    · simp only [Act.put, List.setIfInBounds_toArray, List.set_cons_zero, List.set_cons_succ, i64_w, i32_w]
                      rfl
                    refine pure_ (i := 30) (N := some 86) (v := ?_) (a' := ?_) #[true, true, true, true, true, true, true, true, true, true, true, true, true, true, true, true, true, true, true, true, true, true, true, true, true, true, true, true, true, true, true, false] rfl rfl (any_of HT_.out (by kernel_rfl)) (fun _ _ _ h => h) (Or.inl ⟨by rfl, ?_⟩) ?_ ?_
                    rotate_left
                    · intro w'
                      go_simp
                      with_reducible rfl
                    rotate_left
                    · simp only [Act.put, List.setIfInBounds_toArray, List.set_cons_zero, List.set_cons_succ, i64_w, i32_w]
                      rfl
                    refine pure_ (i := 31) (N := some 6) (v := ?_) (a' := ?_) #[true, true, true, true, true, true, true, true, true, true, true, true, true, true, true, true, true, true, true, true, true, true, true, true, true, true, true, true, true, true, true, true] rfl rfl (any_of HT_.out (by kernel_rfl)) (fun _ _ _ h => h) (Or.inl ⟨by rfl, ?_⟩) ?_ ?_
                    rotate_left
                    · intro w'
                      go_simp
                      with_reducible rfl
                    rotate_left
                    · simp only [Act.put, List.setIfInBounds_toArray, List.set_cons_zero, List.set_cons_succ, i64_w, i32_w]
                      rfl
                    refine done_ (done_of HT_.out (by kernel_rfl)) ?_
                    try go_wp2
                    go_ret
                    exact ⟨by first | rfl | (simp [errW_none, errW_some] <;> rfl) | (simp [*, errW_none, errW_some] <;> rfl), by repeat (first | (with_reducible first | exact HB.out | apply below_alloc | apply pw_below_drewN | apply below_drew1 | refine below_set ?_ GE552.out | refine below_set ?_ GE567.out | refine below_set ?_ GE576.out) | exact HB.out)⟩
                  · rw [if_neg c29] at H
                    exact absurd ((Option.some.inj H).trans hrt_.out) (by decide)
                · rw [if_neg c28] at H
                  exact absurd ((Option.some.inj H).trans hrt_.out) (by decide)
              · rw [if_neg c27] at H
                exact absurd ((Option.some.inj H).trans hrt_.out) (by decide)
            · rw [if_neg c24] at H
              exact absurd ((Option.some.inj H).trans hrt_.out) (by decide)
          · rw [if_neg c23] at H
            exact absurd ((Option.some.inj H).trans hrt_.out) (by decide)
  · replace c5 := Bool.eq_false_iff.mpr c5
    subst c5
    have H1 : (some false) = some r := by rw [if_neg (show ¬ (false = true) by decide)] at H; exact H
    exact absurd ((Option.some.inj H1).trans hrt_.out) (by decide)
end Go.Proofs.Ytejmipoolbodgaa.G
