/- Texts of this session, joined: each is a section. -/
import Derived.Test.YtejmipoolbodgaaMFrag1
import Derived.Test.YtejmipoolbodgaaMFrag3
import Derived.Test.YtejmipoolbodgaaMFrag7
import Derived.Test.YtejmipoolbodgaaMFrag4
section
namespace Go.Proofs.Ytejmipoolbodgaa.G
open Go.RowKit Go.Proofs.YtejmipoolbodgaaW.PrintWords Go.Proofs.YtejmipoolbodgaaW.PrintLast Go.Proofs.YtejmipoolbodgaaW.PrintMore
attribute [local go_sem] max2_int min2_int max_two min_two max_three min_three max_four min_four   -- for this text's walks alone
set_option linter.unusedVariables false
set_option linter.unusedSimpArgs false

/-! ### palanquinlaw15_FragSizes: function 34 -/
mutual
def palanquinlaw15_FragSizes.j0 : Nat → ByteArray → Int → Int → Bool → Option (Bool)
  | 0, _, _, _, _ => none
  | k + 1, x0, x1, x2, x25 => if x25 = true then (some true) else ((frag_Cut.f x0 x1).bind fun bt882 => (if bt882.2 = 0 then ((ip4_Get.f x0).bind fun bt886 => ((frag_Part.f (wrap64 ((x0.size : Int) - (bt886.2.2.2.2.2.2.2.2.2.2.1.size : Int))) x1).bind fun t899 => (if (x0.size : Int) > x1 then (if t899 < 8 then (palanquinlaw15_FragSizes.j1 k x0 x1 x2 bt882.1 bt886.2.2.2.2.2.2.2.2.2.2.1 t899 true) else (if t899 = 0 then (none) else (if (bt882.1.length : Int) = (wrap64 (Int.tdiv (wrap64 ((wrap64 ((bt886.2.2.2.2.2.2.2.2.2.2.1.size : Int) + t899)) - 1)) t899)) then (if (x0.size : Int) ≤ x1 then (if (bt882.1.length : Int) = 1 then (if 0 < (bt882.1.length : Int) then (palanquinlaw15_FragSizes.j1 k x0 x1 x2 bt882.1 bt886.2.2.2.2.2.2.2.2.2.2.1 t899 ((rdOf ByteArray.empty bt882.1 0).toList != x0.toList)) else (none)) else (palanquinlaw15_FragSizes.j1 k x0 x1 x2 bt882.1 bt886.2.2.2.2.2.2.2.2.2.2.1 t899 true)) else (palanquinlaw15_FragSizes.j1 k x0 x1 x2 bt882.1 bt886.2.2.2.2.2.2.2.2.2.2.1 t899 false)) else (palanquinlaw15_FragSizes.j1 k x0 x1 x2 bt882.1 bt886.2.2.2.2.2.2.2.2.2.2.1 t899 true)))) else (if (x0.size : Int) ≤ x1 then (if (bt882.1.length : Int) = 1 then (if 0 < (bt882.1.length : Int) then (palanquinlaw15_FragSizes.j1 k x0 x1 x2 bt882.1 bt886.2.2.2.2.2.2.2.2.2.2.1 t899 ((rdOf ByteArray.empty bt882.1 0).toList != x0.toList)) else (none)) else (palanquinlaw15_FragSizes.j1 k x0 x1 x2 bt882.1 bt886.2.2.2.2.2.2.2.2.2.2.1 t899 true)) else (palanquinlaw15_FragSizes.j1 k x0 x1 x2 bt882.1 bt886.2.2.2.2.2.2.2.2.2.2.1 t899 false))))) else (some ((bt882.1.length : Int) == 0))))
def palanquinlaw15_FragSizes.j1 : Nat → ByteArray → Int → Int → List ByteArray → ByteArray → Int → Bool → Option (Bool)
  | 0, _, _, _, _, _, _, _ => none
  | k + 1, x0, x1, x2, x7, x10, x12, x87 => if x87 = true then (some false) else (palanquinlaw15_FragSizes.l0 k x0 x1 x2 x7 x10 x12 0)
def palanquinlaw15_FragSizes.l0 : Nat → ByteArray → Int → Int → List ByteArray → ByteArray → Int → Int → Option (Bool)
  | 0, _, _, _, _, _, _, _ => none
  | k + 1, x0, x1, x2, x7, x10, x12, x13 => if (wrap64 (x13 + 1)) < (x7.length : Int) then (if 0 ≤ x13 then (if x13 < (x7.length : Int) then (if ((rdOf ByteArray.empty x7 x13).size : Int) = (wrap64 ((wrap64 ((x0.size : Int) - (x10.size : Int))) + x12)) then (if (wrap64 (((rdOf ByteArray.empty x7 x13).size : Int) + 8)) ≤ x1 then (some false) else (palanquinlaw15_FragSizes.l0 k x0 x1 x2 x7 x10 x12 (wrap64 (x13 + 1)))) else (some false)) else (none)) else (none)) else ((frag_Cut.f x0 x2).bind fun bt904 => (if bt904.2 = 0 then (if bt904.2 = 4 then (some true) else (some (decide ((bt904.1.length : Int) ≤ (x7.length : Int))))) else (if x2 > 65535 then (some true) else (if bt904.2 = 4 then (some true) else (some false)))))
end
def palanquinlaw15_FragSizes.f (k : Nat) (a0 : ByteArray) (a1 : Int) (a2 : Int) : Option (Bool) := (palanquinlaw15_awake.f k).bind fun t881 => (if t881 = true then (if (a0.size : Int) > 3000 then (palanquinlaw15_FragSizes.j0 k a0 a1 a2 true) else (palanquinlaw15_FragSizes.j0 k a0 a1 a2 (decide (a2 < a1)))) else (some false))
theorem palanquinlaw15_FragSizes.mono_l : ∀ k, (∀ y0 y1 y2 y3, LeO (palanquinlaw15_FragSizes.j0 k y0 y1 y2 y3) (palanquinlaw15_FragSizes.j0 (k + 1) y0 y1 y2 y3)) ∧ (∀ y0 y1 y2 y3 y4 y5 y6, LeO (palanquinlaw15_FragSizes.j1 k y0 y1 y2 y3 y4 y5 y6) (palanquinlaw15_FragSizes.j1 (k + 1) y0 y1 y2 y3 y4 y5 y6)) ∧ (∀ y0 y1 y2 y3 y4 y5 y6, LeO (palanquinlaw15_FragSizes.l0 k y0 y1 y2 y3 y4 y5 y6) (palanquinlaw15_FragSizes.l0 (k + 1) y0 y1 y2 y3 y4 y5 y6))
  | 0 => ⟨fun _ _ _ _ r h => by simp [palanquinlaw15_FragSizes.j0] at h, fun _ _ _ _ _ _ _ r h => by simp [palanquinlaw15_FragSizes.j1] at h, fun _ _ _ _ _ _ _ r h => by simp [palanquinlaw15_FragSizes.l0] at h⟩
  | k + 1 => by
    obtain ⟨ih0, ih1, ih2⟩ := palanquinlaw15_FragSizes.mono_l k
    refine ⟨?_, ?_, ?_⟩
    · intro y0 y1 y2 y3
      unfold palanquinlaw15_FragSizes.j0
      repeat' first
      | (with_reducible exact ih0 _ _ _ _)
      | (with_reducible exact ih1 _ _ _ _ _ _ _)
      | (with_reducible exact ih2 _ _ _ _ _ _ _)
      | (with_reducible exact palanquinlaw15_awake.mono _)
      | (with_reducible exact LeO.refl _)
      | (with_reducible exact LeO.none _)
      | (with_reducible refine LeO.ite ?_ ?_)
      | (with_reducible refine LeO.bind ?_ (fun _ => ?_))
      | exact ih0 _ _ _ _
      | exact ih1 _ _ _ _ _ _ _
      | exact ih2 _ _ _ _ _ _ _
      | exact palanquinlaw15_awake.mono _
      | exact LeO.none _
      | refine LeO.ite ?_ ?_
      | refine LeO.bind ?_ (fun _ => ?_)
    · intro y0 y1 y2 y3 y4 y5 y6
      unfold palanquinlaw15_FragSizes.j1
      repeat' first
      | (with_reducible exact ih0 _ _ _ _)
      | (with_reducible exact ih1 _ _ _ _ _ _ _)
      | (with_reducible exact ih2 _ _ _ _ _ _ _)
      | (with_reducible exact palanquinlaw15_awake.mono _)
      | (with_reducible exact LeO.refl _)
      | (with_reducible exact LeO.none _)
      | (with_reducible refine LeO.ite ?_ ?_)
      | (with_reducible refine LeO.bind ?_ (fun _ => ?_))
      | exact ih0 _ _ _ _
      | exact ih1 _ _ _ _ _ _ _
      | exact ih2 _ _ _ _ _ _ _
      | exact palanquinlaw15_awake.mono _
      | exact LeO.none _
      | refine LeO.ite ?_ ?_
      | refine LeO.bind ?_ (fun _ => ?_)
    · intro y0 y1 y2 y3 y4 y5 y6
      unfold palanquinlaw15_FragSizes.l0
      repeat' first
      | (with_reducible exact ih0 _ _ _ _)
      | (with_reducible exact ih1 _ _ _ _ _ _ _)
      | (with_reducible exact ih2 _ _ _ _ _ _ _)
      | (with_reducible exact palanquinlaw15_awake.mono _)
      | (with_reducible exact LeO.refl _)
      | (with_reducible exact LeO.none _)
      | (with_reducible refine LeO.ite ?_ ?_)
      | (with_reducible refine LeO.bind ?_ (fun _ => ?_))
      | exact ih0 _ _ _ _
      | exact ih1 _ _ _ _ _ _ _
      | exact ih2 _ _ _ _ _ _ _
      | exact palanquinlaw15_awake.mono _
      | exact LeO.none _
      | refine LeO.ite ?_ ?_
      | refine LeO.bind ?_ (fun _ => ?_)
theorem palanquinlaw15_FragSizes.mono : ∀ a0 a1 a2 k, LeO (palanquinlaw15_FragSizes.f k a0 a1 a2) (palanquinlaw15_FragSizes.f (k + 1) a0 a1 a2) := by
  intro a0 a1 a2 k
  obtain ⟨ih0, ih1, ih2⟩ := palanquinlaw15_FragSizes.mono_l k
  unfold palanquinlaw15_FragSizes.f
  repeat' first
      | (with_reducible exact ih0 _ _ _ _)
      | (with_reducible exact ih1 _ _ _ _ _ _ _)
      | (with_reducible exact ih2 _ _ _ _ _ _ _)
      | (with_reducible exact palanquinlaw15_awake.mono _)
      | (with_reducible exact LeO.refl _)
      | (with_reducible exact LeO.none _)
      | (with_reducible refine LeO.ite ?_ ?_)
      | (with_reducible refine LeO.bind ?_ (fun _ => ?_))
      | exact ih0 _ _ _ _
      | exact ih1 _ _ _ _ _ _ _
      | exact ih2 _ _ _ _ _ _ _
      | exact palanquinlaw15_awake.mono _
      | exact LeO.none _
      | refine LeO.ite ?_ ?_
      | refine LeO.bind ?_ (fun _ => ?_)
theorem palanquinlaw15_FragSizes.j1_no : ∀ k y0 y1 y2 y3 y4 y5 r, palanquinlaw15_FragSizes.j1 k y0 y1 y2 y3 y4 y5 true = some r → Aside0 (r = true) → False
  | 0, _, _, _, _, _, _, _ => fun h _ => by simp [palanquinlaw15_FragSizes.j1] at h
  | k + 1, _, _, _, _, _, _, _ => fun h hr => by rw [palanquinlaw15_FragSizes.j1, if_pos rfl] at h; exact absurd ((Option.some.inj h).trans hr.out) (by decide)
set_option maxHeartbeats 8000000 in
set_option maxRecDepth 100000 in
theorem palanquinlaw15_FragSizes.calls (k : Nat) (a0 : ByteArray) (a1 : Int) (a2 : Int) (r : Bool) (w : World) (h : palanquinlaw15_FragSizes.f k a0 a1 a2 = some r) (hrt_ : Aside0 (r = true)) :
    Calls Try.prog 34 #[.string a0, .int .i64 a1, .int .i64 a2] w fun e w' => e = .returned (.bool r) ∧ Below w.heap.size w w' := by
  have hu93 := Try.underlying93
  have HB := Aside0.mk (Below.refl w.heap.size w)
  have H : ((palanquinlaw15_awake.f k).bind fun t881 => (if t881 = true then (if (a0.size : Int) > 3000 then (palanquinlaw15_FragSizes.j0 k a0 a1 a2 true) else (palanquinlaw15_FragSizes.j0 k a0 a1 a2 (decide (a2 < a1)))) else (some false))) = some r := h
  clear h
  replace H := Option.bind_eq_some_iff.mp H
  obtain ⟨t881, A40, H⟩ := H
  replace H : (if t881 = true then (if (a0.size : Int) > 3000 then (palanquinlaw15_FragSizes.j0 k a0 a1 a2 true) else (palanquinlaw15_FragSizes.j0 k a0 a1 a2 (decide (a2 < a1)))) else (some false)) = some r := H
  have A4 := Aside0.mk A40
  clear A40
  by_cases c5 : t881 = true
  · subst c5
    have H1 : (if (a0.size : Int) > 3000 then (palanquinlaw15_FragSizes.j0 k a0 a1 a2 true) else (palanquinlaw15_FragSizes.j0 k a0 a1 a2 (decide (a2 < a1)))) = some r := by rw [if_pos rfl] at H; exact H
    clear H
    have H := H1
    clear H1
    have HC6 := Aside0.mk H
    clear H
    go_enter Try.func34, Try.ntmps34
    go_upto_region 3 with (first | ((with_reducible refine gate_callee (f := 113) rfl ?_); refine goesL_ (some 16) rfl rfl Try.func113 (by kernel_rfl) rfl #[] rfl (by (try simp only [List.map_toArray, List.map_cons, List.map_nil]); first | done | rfl | (simp only [List.length_drop, List.length_take]; rfl)) ?_; (with_reducible refine (palanquinlaw15_awake.calls k  true _ A4.out).mono ?_); rintro e w7 ⟨rfl, hb⟩; refine ⟨_, rfl, ?_⟩; have n0_ := Aside0.mk (below_step (by repeat (first | (with_reducible first | exact HB.out | apply below_alloc | apply pw_below_drewN | apply below_drew1) | exact HB.out)) hb); clear HB; have HB := n0_; clear n0_; (try clear hb); (try clear hb2); (try clear hk); (try clear hi)))
    (try simp only [Act.put, List.setIfInBounds_toArray, List.set_cons_zero, List.set_cons_succ])
    go_cut [25] (fun v25 wc => ∃ (kq : Nat) (x25_5 : Bool), v25 = .bool x25_5 ∧ Aside0 (palanquinlaw15_FragSizes.j0 kq a0 a1 a2 x25_5 = some r) ∧ Aside0 (kq ≤ k) ∧ Aside0 (Below w.heap.size w wc))
    case first =>
      have H := HC6.out
      clear HC6
      by_cases c8 : (a0.size : Int) > 3000
      · rw [if_pos c8] at H
        have c8b0 : decide (3000 < (a0.size : Int)) = true := decide_eq_true c8
        have c8b1 : decide (3000 < a0.size) = true := decide_eq_true (by omega)
        clear c8
        (first | rw [c8b0] | (simp only [i64_w, i32_w]; rw [c8b0]) | skip)
        have H' := Aside0.mk H
        clear H
        go_wp2
        go_meet
        case rel => exact ⟨_, (true), (by first | rfl | (simp; done) | (simp [*]; done)), H', ⟨by first | omega | exact Nat.le_refl _⟩, ⟨by repeat (first | (with_reducible first | exact HB.out | apply below_alloc | apply pw_below_drewN | apply below_drew1) | exact HB.out)⟩⟩
      · rw [if_neg c8] at H
        have c8b0 : decide (3000 < (a0.size : Int)) = false := decide_eq_false c8
        have c8b1 : decide (3000 < a0.size) = false := decide_eq_false (by omega)
        clear c8
        (first | rw [c8b0] | (simp only [i64_w, i32_w]; rw [c8b0]) | skip)
        have H' := Aside0.mk H
        clear H
        go_wp2
        go_meet
        case rel => exact ⟨_, (decide (a2 < a1)), (by first | rfl | (simp; done) | (simp [*]; done)), H', ⟨by first | omega | exact Nat.le_refl _⟩, ⟨by repeat (first | (with_reducible first | exact HB.out | apply below_alloc | apply pw_below_drewN | apply below_drew1) | exact HB.out)⟩⟩
    case rest =>
      clear HC6
      try clear c1
      try clear p2
      try clear c3
      try clear c5
      try clear c8
      try clear c8b0
      try clear c8b1
      obtain ⟨kq, x25_5, rfl, HA, HJ5, HB⟩ := hcut
      cases kq with
      | zero => exact absurd HA.out (by simp [palanquinlaw15_FragSizes.j0])
      | succ kj5 =>
        have H := HA.out
        clear HA
        simp only [palanquinlaw15_FragSizes.j0] at H
        by_cases c9 : x25_5 = true
        · subst c9
          have H1 : (some true) = some r := by rw [if_pos rfl] at H; exact H
          clear H
          have H := H1
          clear H1
          obtain rfl := Option.some.inj H
          go_wp2
          go_ret
          exact ⟨by first | rfl | (simp [errW_none, errW_some] <;> rfl) | (simp [*, errW_none, errW_some] <;> rfl), by repeat (first | (with_reducible first | exact HB.out | apply below_alloc | apply pw_below_drewN | apply below_drew1) | exact HB.out)⟩
        · replace c9 := Bool.eq_false_iff.mpr c9
          subst c9
          have H1 : ((frag_Cut.f a0 a1).bind fun bt882 => (if bt882.2 = 0 then ((ip4_Get.f a0).bind fun bt886 => ((frag_Part.f (wrap64 ((a0.size : Int) - (bt886.2.2.2.2.2.2.2.2.2.2.1.size : Int))) a1).bind fun t899 => (if (a0.size : Int) > a1 then (if t899 < 8 then (palanquinlaw15_FragSizes.j1 kj5 a0 a1 a2 bt882.1 bt886.2.2.2.2.2.2.2.2.2.2.1 t899 true) else (if t899 = 0 then (none) else (if (bt882.1.length : Int) = (wrap64 (Int.tdiv (wrap64 ((wrap64 ((bt886.2.2.2.2.2.2.2.2.2.2.1.size : Int) + t899)) - 1)) t899)) then (if (a0.size : Int) ≤ a1 then (if (bt882.1.length : Int) = 1 then (if 0 < (bt882.1.length : Int) then (palanquinlaw15_FragSizes.j1 kj5 a0 a1 a2 bt882.1 bt886.2.2.2.2.2.2.2.2.2.2.1 t899 ((rdOf ByteArray.empty bt882.1 0).toList != a0.toList)) else (none)) else (palanquinlaw15_FragSizes.j1 kj5 a0 a1 a2 bt882.1 bt886.2.2.2.2.2.2.2.2.2.2.1 t899 true)) else (palanquinlaw15_FragSizes.j1 kj5 a0 a1 a2 bt882.1 bt886.2.2.2.2.2.2.2.2.2.2.1 t899 false)) else (palanquinlaw15_FragSizes.j1 kj5 a0 a1 a2 bt882.1 bt886.2.2.2.2.2.2.2.2.2.2.1 t899 true)))) else (if (a0.size : Int) ≤ a1 then (if (bt882.1.length : Int) = 1 then (if 0 < (bt882.1.length : Int) then (palanquinlaw15_FragSizes.j1 kj5 a0 a1 a2 bt882.1 bt886.2.2.2.2.2.2.2.2.2.2.1 t899 ((rdOf ByteArray.empty bt882.1 0).toList != a0.toList)) else (none)) else (palanquinlaw15_FragSizes.j1 kj5 a0 a1 a2 bt882.1 bt886.2.2.2.2.2.2.2.2.2.2.1 t899 true)) else (palanquinlaw15_FragSizes.j1 kj5 a0 a1 a2 bt882.1 bt886.2.2.2.2.2.2.2.2.2.2.1 t899 false))))) else (some ((bt882.1.length : Int) == 0)))) = some r := by rw [if_neg (show ¬ (false = true) by decide)] at H; exact H
          clear H
          have H := H1
          clear H1
          replace H := Option.bind_eq_some_iff.mp H
          obtain ⟨⟨t882, t883⟩, A100, H⟩ := H
          replace H : (if t883 = 0 then ((ip4_Get.f a0).bind fun bt886 => ((frag_Part.f (wrap64 ((a0.size : Int) - (bt886.2.2.2.2.2.2.2.2.2.2.1.size : Int))) a1).bind fun t899 => (if (a0.size : Int) > a1 then (if t899 < 8 then (palanquinlaw15_FragSizes.j1 kj5 a0 a1 a2 t882 bt886.2.2.2.2.2.2.2.2.2.2.1 t899 true) else (if t899 = 0 then (none) else (if (t882.length : Int) = (wrap64 (Int.tdiv (wrap64 ((wrap64 ((bt886.2.2.2.2.2.2.2.2.2.2.1.size : Int) + t899)) - 1)) t899)) then (if (a0.size : Int) ≤ a1 then (if (t882.length : Int) = 1 then (if 0 < (t882.length : Int) then (palanquinlaw15_FragSizes.j1 kj5 a0 a1 a2 t882 bt886.2.2.2.2.2.2.2.2.2.2.1 t899 ((rdOf ByteArray.empty t882 0).toList != a0.toList)) else (none)) else (palanquinlaw15_FragSizes.j1 kj5 a0 a1 a2 t882 bt886.2.2.2.2.2.2.2.2.2.2.1 t899 true)) else (palanquinlaw15_FragSizes.j1 kj5 a0 a1 a2 t882 bt886.2.2.2.2.2.2.2.2.2.2.1 t899 false)) else (palanquinlaw15_FragSizes.j1 kj5 a0 a1 a2 t882 bt886.2.2.2.2.2.2.2.2.2.2.1 t899 true)))) else (if (a0.size : Int) ≤ a1 then (if (t882.length : Int) = 1 then (if 0 < (t882.length : Int) then (palanquinlaw15_FragSizes.j1 kj5 a0 a1 a2 t882 bt886.2.2.2.2.2.2.2.2.2.2.1 t899 ((rdOf ByteArray.empty t882 0).toList != a0.toList)) else (none)) else (palanquinlaw15_FragSizes.j1 kj5 a0 a1 a2 t882 bt886.2.2.2.2.2.2.2.2.2.2.1 t899 true)) else (palanquinlaw15_FragSizes.j1 kj5 a0 a1 a2 t882 bt886.2.2.2.2.2.2.2.2.2.2.1 t899 false))))) else (some ((t882.length : Int) == 0))) = some r := H
          have A10 := Aside0.mk A100
          clear A100
          by_cases c11 : t883 = 0
          · rw [if_pos c11] at H
            have c11b0 : (t883 == 0) = true := beq_iff_eq.mpr c11
            have c11b1 : (t883 != 0) = false := bne_eq_false_iff_eq.mpr c11
            clear c11
            replace H := Option.bind_eq_some_iff.mp H
            obtain ⟨⟨t886, t887, t888, t889, t890, t891, t892, t893, t894, t895, t896, t897⟩, A120, H⟩ := H
            replace H : ((frag_Part.f (wrap64 ((a0.size : Int) - (t896.size : Int))) a1).bind fun t899 => (if (a0.size : Int) > a1 then (if t899 < 8 then (palanquinlaw15_FragSizes.j1 kj5 a0 a1 a2 t882 t896 t899 true) else (if t899 = 0 then (none) else (if (t882.length : Int) = (wrap64 (Int.tdiv (wrap64 ((wrap64 ((t896.size : Int) + t899)) - 1)) t899)) then (if (a0.size : Int) ≤ a1 then (if (t882.length : Int) = 1 then (if 0 < (t882.length : Int) then (palanquinlaw15_FragSizes.j1 kj5 a0 a1 a2 t882 t896 t899 ((rdOf ByteArray.empty t882 0).toList != a0.toList)) else (none)) else (palanquinlaw15_FragSizes.j1 kj5 a0 a1 a2 t882 t896 t899 true)) else (palanquinlaw15_FragSizes.j1 kj5 a0 a1 a2 t882 t896 t899 false)) else (palanquinlaw15_FragSizes.j1 kj5 a0 a1 a2 t882 t896 t899 true)))) else (if (a0.size : Int) ≤ a1 then (if (t882.length : Int) = 1 then (if 0 < (t882.length : Int) then (palanquinlaw15_FragSizes.j1 kj5 a0 a1 a2 t882 t896 t899 ((rdOf ByteArray.empty t882 0).toList != a0.toList)) else (none)) else (palanquinlaw15_FragSizes.j1 kj5 a0 a1 a2 t882 t896 t899 true)) else (palanquinlaw15_FragSizes.j1 kj5 a0 a1 a2 t882 t896 t899 false)))) = some r := H
            have A12 := Aside0.mk A120
            clear A120
            replace H := Option.bind_eq_some_iff.mp H
            obtain ⟨t899, A130, H⟩ := H
            replace H : (if (a0.size : Int) > a1 then (if t899 < 8 then (palanquinlaw15_FragSizes.j1 kj5 a0 a1 a2 t882 t896 t899 true) else (if t899 = 0 then (none) else (if (t882.length : Int) = (wrap64 (Int.tdiv (wrap64 ((wrap64 ((t896.size : Int) + t899)) - 1)) t899)) then (if (a0.size : Int) ≤ a1 then (if (t882.length : Int) = 1 then (if 0 < (t882.length : Int) then (palanquinlaw15_FragSizes.j1 kj5 a0 a1 a2 t882 t896 t899 ((rdOf ByteArray.empty t882 0).toList != a0.toList)) else (none)) else (palanquinlaw15_FragSizes.j1 kj5 a0 a1 a2 t882 t896 t899 true)) else (palanquinlaw15_FragSizes.j1 kj5 a0 a1 a2 t882 t896 t899 false)) else (palanquinlaw15_FragSizes.j1 kj5 a0 a1 a2 t882 t896 t899 true)))) else (if (a0.size : Int) ≤ a1 then (if (t882.length : Int) = 1 then (if 0 < (t882.length : Int) then (palanquinlaw15_FragSizes.j1 kj5 a0 a1 a2 t882 t896 t899 ((rdOf ByteArray.empty t882 0).toList != a0.toList)) else (none)) else (palanquinlaw15_FragSizes.j1 kj5 a0 a1 a2 t882 t896 t899 true)) else (palanquinlaw15_FragSizes.j1 kj5 a0 a1 a2 t882 t896 t899 false))) = some r := H
            have A13 := Aside0.mk A130
            clear A130
            have HC14 := Aside0.mk H
            clear H
            go_upto_region 10 with (first | ((with_reducible refine gate_callee (f := 114) rfl ?_); refine goesL_ (some 29) rfl rfl Try.func114 (by kernel_rfl) rfl #[.string a0, .int .i64 a1] rfl (by (try simp only [List.map_toArray, List.map_cons, List.map_nil]); first | done | rfl | (simp only [List.length_drop, List.length_take]; rfl)) ?_; (with_reducible refine (frag_Cut.calls a0 a1 t882 t883 _ A10.out).mono ?_); rintro e w15 ⟨v884, rfl, ho0, hb⟩; refine ⟨_, rfl, ?_⟩; have n0_ := Aside0.mk (Kd.R_lower ho0 (below_size (by repeat (first | (with_reducible first | exact HB.out | apply below_alloc | apply pw_below_drewN | apply below_drew1) | exact HB.out)))); have n1_ := Aside0.mk (below_step (by repeat (first | (with_reducible first | exact HB.out | apply below_alloc | apply pw_below_drewN | apply below_drew1) | exact HB.out)) hb); clear HB; have HO885 := n0_; have HB := n1_; clear n0_ n1_; (try clear hb); (try clear hb2); (try clear hk); (try clear hi); (try clear ho0)) | ((with_reducible refine gate_callee (f := 111) rfl ?_); refine goesL_ (some 39) rfl rfl Try.func111 (by kernel_rfl) rfl #[.string a0] rfl (by (try simp only [List.map_toArray, List.map_cons, List.map_nil]); first | done | rfl | (simp only [List.length_drop, List.length_take]; rfl)) ?_; (with_reducible refine (ip4_Get.calls a0 t886 t887 t888 t889 t890 t891 t892 t893 t894 t895 t896 t897 _ A12.out).mono ?_); rintro e w16 ⟨rfl, hb⟩; refine ⟨_, rfl, ?_⟩; have n0_ := Aside0.mk (Kd.R_below (by (with_reducible repeat (first | apply Kd.R_alloc | apply Kd.R_drewN | apply Kd.R_drew)); exact HO885.out) hb); have n1_ := Aside0.mk (below_step (by repeat (first | (with_reducible first | exact HB.out | apply below_alloc | apply pw_below_drewN | apply below_drew1) | exact HB.out)) hb); clear HO885; clear HB; have HO885 := n0_; have HB := n1_; clear n0_ n1_; (try clear hb); (try clear hb2); (try clear hk); (try clear hi)) | ((with_reducible refine gate_dst (N := 9) rfl ?_); (try (refine gate_guard (by rfl) ?_; dsimp only)); refine box_event ?hg (N := 9) ?hd (cs := #[.int .i64 0, .int .i64 0, .int .i64 0, .int .i64 0, .int .i64 0, .bool false, .bool false, .string (⟨#[]⟩ : ByteArray), .string (⟨#[]⟩ : ByteArray), .string (⟨#[]⟩ : ByteArray)]) (t := 93) ?hr ?_; (case hd => rfl); (case hg => rfl); (case hr => first | (go_simp; done) | (go_simp; rfl)); intro gb898 hg w17 hbox hb; have n0_ := Aside0.mk (Kd.R_below (by (with_reducible repeat (first | apply Kd.R_alloc | apply Kd.R_drewN | apply Kd.R_drew)); exact HO885.out) hb); have n1_ := Aside0.mk (below_step (by repeat (first | (with_reducible first | exact HB.out | apply below_alloc | apply pw_below_drewN | apply below_drew1) | exact HB.out)) hb); have n2_ := Aside0.mk (hbox); have n3_ := Aside0.mk ((by rw [hg]; exact (below_size (by repeat (first | (with_reducible first | exact HB.out | apply below_alloc | apply pw_below_drewN | apply below_drew1) | exact HB.out))) : w.heap.size ≤ gb898)); have n4_ := Aside0.mk ((by rw [hg]; exact (below_size (by repeat (first | (with_reducible first | exact HB.out | apply below_alloc | apply pw_below_drewN | apply below_drew1) | exact HB.out))) : w.heap.size ≤ gb898)); clear HO885; clear HB; have HO885 := n0_; have HB := n1_; have BK898 := n2_; have GW898 := n3_; have GE898 := n4_; clear n0_ n1_ n2_ n3_ n4_; clear hb hbox hg; have hcz18_0 : w17.cell? ⟨gb898, 0, none⟩ = some (.int .i64 0) := (blk_cell BK898.out 0).trans rfl; have hcz18_1 : w17.cell? ⟨gb898, 1, none⟩ = some (.int .i64 0) := (blk_cell BK898.out 1).trans rfl; have hcz18_2 : w17.cell? ⟨gb898, 2, none⟩ = some (.int .i64 0) := (blk_cell BK898.out 2).trans rfl; have hcz18_3 : w17.cell? ⟨gb898, 3, none⟩ = some (.int .i64 0) := (blk_cell BK898.out 3).trans rfl; have hcz18_4 : w17.cell? ⟨gb898, 4, none⟩ = some (.int .i64 0) := (blk_cell BK898.out 4).trans rfl; have hcz18_5 : w17.cell? ⟨gb898, 5, none⟩ = some (.bool false) := (blk_cell BK898.out 5).trans rfl; have hcz18_6 : w17.cell? ⟨gb898, 6, none⟩ = some (.bool false) := (blk_cell BK898.out 6).trans rfl; have hcz18_7 : w17.cell? ⟨gb898, 7, none⟩ = some (.string (⟨#[]⟩ : ByteArray)) := (blk_cell BK898.out 7).trans rfl; have hcz18_8 : w17.cell? ⟨gb898, 8, none⟩ = some (.string (⟨#[]⟩ : ByteArray)) := (blk_cell BK898.out 8).trans rfl; have hcz18_9 : w17.cell? ⟨gb898, 9, none⟩ = some (.string (⟨#[]⟩ : ByteArray)) := (blk_cell BK898.out 9).trans rfl; have hfz18_0 := blk_frozen BK898.out 0; have hfz18_1 := blk_frozen BK898.out 1; have hfz18_2 := blk_frozen BK898.out 2; have hfz18_3 := blk_frozen BK898.out 3; have hfz18_4 := blk_frozen BK898.out 4; have hfz18_5 := blk_frozen BK898.out 5; have hfz18_6 := blk_frozen BK898.out 6; have hfz18_7 := blk_frozen BK898.out 7; have hfz18_8 := blk_frozen BK898.out 8; have hfz18_9 := blk_frozen BK898.out 9) | ((with_reducible refine gate_callee (f := 115) rfl ?_); refine goesL_ (some 49) rfl rfl Try.func115 (by kernel_rfl) rfl #[.int .i64 (wrap64 ((a0.size : Int) - (t896.size : Int))), .int .i64 a1] rfl (by (try simp only [List.map_toArray, List.map_cons, List.map_nil]); first | done | rfl | (simp only [List.length_drop, List.length_take]; rfl)) ?_; (with_reducible refine (frag_Part.calls (wrap64 ((a0.size : Int) - (t896.size : Int))) a1 t899 _ A13.out).mono ?_); rintro e w19 ⟨rfl, hb⟩; refine ⟨_, rfl, ?_⟩; have n0_ := Aside0.mk (Kd.R_below (by (with_reducible repeat (first | apply Kd.R_alloc | apply Kd.R_drewN | apply Kd.R_drew)); exact (Kd.R_mono (Kd.R_far (p := ⟨gb898, 9, none⟩) (Kd.R_far (p := ⟨gb898, 8, none⟩) (Kd.R_far (p := ⟨gb898, 7, none⟩) (Kd.R_far (p := ⟨gb898, 6, none⟩) (Kd.R_far (p := ⟨gb898, 5, none⟩) (Kd.R_far (p := ⟨gb898, 4, none⟩) (Kd.R_far (p := ⟨gb898, 3, none⟩) (Kd.R_far (p := ⟨gb898, 2, none⟩) (Kd.R_far (p := ⟨gb898, 1, none⟩) (Kd.R_far (p := ⟨gb898, 0, none⟩) (Kd.R_types HO885.out BK898.out (by decide)) (fun _ hk => hk.2) (.int .i64 t886)) (fun _ hk => hk.2) (.int .i64 t887)) (fun _ hk => hk.2) (.int .i64 t888)) (fun _ hk => hk.2) (.int .i64 t889)) (fun _ hk => hk.2) (.int .i64 t890)) (fun _ hk => hk.2) (.bool t891)) (fun _ hk => hk.2) (.bool t892)) (fun _ hk => hk.2) (.string t893)) (fun _ hk => hk.2) (.string t894)) (fun _ hk => hk.2) (.string t895)) (fun _ h_ => h_.1))) hb); have n1_ := Aside0.mk (blk_below (g := gb898) (o := .cells #[.int .i64 t886, .int .i64 t887, .int .i64 t888, .int .i64 t889, .int .i64 t890, .bool t891, .bool t892, .string t893, .string t894, .string t895] 93 (0, 0)) (by (with_reducible repeat (first | refine blk_drewN ?_ _ | refine blk_drew ?_ | refine blk_alloc ?_ _)); refine blk_put (cs := #[.int .i64 t886, .int .i64 t887, .int .i64 t888, .int .i64 t889, .int .i64 t890, .bool t891, .bool t892, .string t893, .string t894, .string (⟨#[]⟩ : ByteArray)]) ?_ 9 _ rfl; (with_reducible repeat (first | refine blk_drewN ?_ _ | refine blk_drew ?_ | refine blk_alloc ?_ _)); refine blk_put (cs := #[.int .i64 t886, .int .i64 t887, .int .i64 t888, .int .i64 t889, .int .i64 t890, .bool t891, .bool t892, .string t893, .string (⟨#[]⟩ : ByteArray), .string (⟨#[]⟩ : ByteArray)]) ?_ 8 _ rfl; (with_reducible repeat (first | refine blk_drewN ?_ _ | refine blk_drew ?_ | refine blk_alloc ?_ _)); refine blk_put (cs := #[.int .i64 t886, .int .i64 t887, .int .i64 t888, .int .i64 t889, .int .i64 t890, .bool t891, .bool t892, .string (⟨#[]⟩ : ByteArray), .string (⟨#[]⟩ : ByteArray), .string (⟨#[]⟩ : ByteArray)]) ?_ 7 _ rfl; (with_reducible repeat (first | refine blk_drewN ?_ _ | refine blk_drew ?_ | refine blk_alloc ?_ _)); refine blk_put (cs := #[.int .i64 t886, .int .i64 t887, .int .i64 t888, .int .i64 t889, .int .i64 t890, .bool t891, .bool false, .string (⟨#[]⟩ : ByteArray), .string (⟨#[]⟩ : ByteArray), .string (⟨#[]⟩ : ByteArray)]) ?_ 6 _ rfl; (with_reducible repeat (first | refine blk_drewN ?_ _ | refine blk_drew ?_ | refine blk_alloc ?_ _)); refine blk_put (cs := #[.int .i64 t886, .int .i64 t887, .int .i64 t888, .int .i64 t889, .int .i64 t890, .bool false, .bool false, .string (⟨#[]⟩ : ByteArray), .string (⟨#[]⟩ : ByteArray), .string (⟨#[]⟩ : ByteArray)]) ?_ 5 _ rfl; (with_reducible repeat (first | refine blk_drewN ?_ _ | refine blk_drew ?_ | refine blk_alloc ?_ _)); refine blk_put (cs := #[.int .i64 t886, .int .i64 t887, .int .i64 t888, .int .i64 t889, .int .i64 0, .bool false, .bool false, .string (⟨#[]⟩ : ByteArray), .string (⟨#[]⟩ : ByteArray), .string (⟨#[]⟩ : ByteArray)]) ?_ 4 _ rfl; (with_reducible repeat (first | refine blk_drewN ?_ _ | refine blk_drew ?_ | refine blk_alloc ?_ _)); refine blk_put (cs := #[.int .i64 t886, .int .i64 t887, .int .i64 t888, .int .i64 0, .int .i64 0, .bool false, .bool false, .string (⟨#[]⟩ : ByteArray), .string (⟨#[]⟩ : ByteArray), .string (⟨#[]⟩ : ByteArray)]) ?_ 3 _ rfl; (with_reducible repeat (first | refine blk_drewN ?_ _ | refine blk_drew ?_ | refine blk_alloc ?_ _)); refine blk_put (cs := #[.int .i64 t886, .int .i64 t887, .int .i64 0, .int .i64 0, .int .i64 0, .bool false, .bool false, .string (⟨#[]⟩ : ByteArray), .string (⟨#[]⟩ : ByteArray), .string (⟨#[]⟩ : ByteArray)]) ?_ 2 _ rfl; (with_reducible repeat (first | refine blk_drewN ?_ _ | refine blk_drew ?_ | refine blk_alloc ?_ _)); refine blk_put (cs := #[.int .i64 t886, .int .i64 0, .int .i64 0, .int .i64 0, .int .i64 0, .bool false, .bool false, .string (⟨#[]⟩ : ByteArray), .string (⟨#[]⟩ : ByteArray), .string (⟨#[]⟩ : ByteArray)]) ?_ 1 _ rfl; (with_reducible repeat (first | refine blk_drewN ?_ _ | refine blk_drew ?_ | refine blk_alloc ?_ _)); refine blk_put (cs := #[.int .i64 0, .int .i64 0, .int .i64 0, .int .i64 0, .int .i64 0, .bool false, .bool false, .string (⟨#[]⟩ : ByteArray), .string (⟨#[]⟩ : ByteArray), .string (⟨#[]⟩ : ByteArray)]) ?_ 0 _ rfl; (with_reducible repeat (first | refine blk_drewN ?_ _ | refine blk_drew ?_ | refine blk_alloc ?_ _)); exact BK898.out) hb); have n2_ := Aside0.mk (below_step (by repeat (first | (with_reducible first | exact HB.out | apply below_alloc | apply pw_below_drewN | apply below_drew1 | refine below_set ?_ GE898.out) | exact HB.out)) hb); clear HO885; clear BK898; clear HB; have HO885 := n0_; have BK898 := n1_; have HB := n2_; clear n0_ n1_ n2_; (try clear hb); (try clear hb2); (try clear hk); (try clear hi)))
            (try simp only [Act.put, List.setIfInBounds_toArray, List.set_cons_zero, List.set_cons_succ])
            go_cut [87] (fun v87 wc => ∃ (kq : Nat) (x87_13 : Bool), v87 = .bool x87_13 ∧ Aside0 (palanquinlaw15_FragSizes.j1 kq a0 a1 a2 t882 t896 t899 x87_13 = some r) ∧ Aside0 (kq ≤ kj5) ∧ Aside0 (Kd.R Kd.string 9 wc w.heap.size (fun _ => True) v884 t882) ∧ Aside0 (wc.heap[gb898]? = some (.cells #[.int .i64 t886, .int .i64 t887, .int .i64 t888, .int .i64 t889, .int .i64 t890, .bool t891, .bool t892, .string t893, .string t894, .string t895] 93 (0, 0))) ∧ Aside0 (Below w.heap.size w wc))
            case first =>
              have H := HC14.out
              clear HC14
              by_cases c20 : (a0.size : Int) > a1
              · rw [if_pos c20] at H
                have c20b0 : decide (a1 < (a0.size : Int)) = true := decide_eq_true c20
                clear c20
                (first | rw [c20b0] | (simp only [i64_w, i32_w]; rw [c20b0]) | skip)
                by_cases c21 : t899 < 8
                · rw [if_pos c21] at H
                  exact (palanquinlaw15_FragSizes.j1_no _ _ _ _ _ _ _ _ H hrt_).elim
                · rw [if_neg c21] at H
                  have c21b0 : decide (t899 < 8) = false := decide_eq_false c21
                  clear c21
                  by_cases c22 : t899 = 0
                  · rw [if_pos c22] at H
                    exact absurd H (by simp)
                  · rw [if_neg c22] at H
                    have c22b0 : (t899 == 0) = false := beq_eq_false_iff_ne.mpr c22
                    have c22b1 : (t899 != 0) = true := bne_iff_ne.mpr c22
                    by_cases c23 : (t882.length : Int) = (wrap64 (Int.tdiv (wrap64 ((wrap64 ((t896.size : Int) + t899)) - 1)) t899))
                    · rw [if_pos c23] at H
                      have c23b0 : ((t882.length : Int) == (wrap64 (Int.tdiv (wrap64 ((wrap64 ((t896.size : Int) + t899)) - 1)) t899))) = true := beq_iff_eq.mpr c23
                      have c23b1 : ((t882.length : Int) != (wrap64 (Int.tdiv (wrap64 ((wrap64 ((t896.size : Int) + t899)) - 1)) t899))) = false := bne_eq_false_iff_eq.mpr c23
                      clear c23
                      by_cases c24 : (a0.size : Int) ≤ a1
                      · rw [if_pos c24] at H
                        have c24b0 : decide ((a0.size : Int) ≤ a1) = true := decide_eq_true c24
                        clear c24
                        by_cases c25 : (t882.length : Int) = 1
                        · rw [if_pos c25] at H
                          have c25b0 : ((t882.length : Int) == 1) = true := beq_iff_eq.mpr c25
                          have c25b1 : ((t882.length : Int) != 1) = false := bne_eq_false_iff_eq.mpr c25
                          clear c25
                          by_cases c26 : 0 < (t882.length : Int)
                          · rw [if_pos c26] at H
                            have c26b0 : decide (0 < (t882.length : Int)) = true := decide_eq_true c26
                            have c26b1 : decide (0 < t882.length) = true := decide_eq_true (by omega)
                            clear c26
                            have H' := Aside0.mk H
                            clear H
                            obtain ⟨Ao27, co27, eo27⟩ := Kd.R_slice HO885.out
                            subst eo27
                            have p900 : 0 ≤ (0 : Int) := (by omega)
                            have q900 : 0 < (t882.length : Int) := of_decide_eq_true (by first | (with_reducible assumption) | assumption)
                            obtain ⟨ad900, e900, hx900_0⟩ := Kd.at_string (Kd.R_reads' HO885.out).2.2 0 p900 q900
                            cases e900
                            have qi900 : (0 < t882.length) = True := eq_true (by omega)
                            (try rw [show ((0 : Int)).toNat = 0 from rfl] at hx900_0)
                            (try rw [Addr.add_zero'] at hx900_0)
                            replace p900 := eq_true p900
                            replace q900 := eq_true q900
                            go_wp2
                            go_meet
                            case rel => exact ⟨_, (((rdOf ByteArray.empty t882 0).toList != a0.toList)), (by first | rfl | (simp; done) | (simp [*]; done)), H', ⟨by have := HJ5.out; first | omega | exact Nat.le_refl _⟩, ⟨by (with_reducible repeat (first | apply Kd.R_alloc | apply Kd.R_drewN | apply Kd.R_drew)); exact HO885.out⟩, ⟨by (with_reducible repeat (first | refine blk_drewN ?_ _ | refine blk_drew ?_ | refine blk_alloc ?_ _)); exact BK898.out⟩, ⟨by repeat (first | (with_reducible first | exact HB.out | apply below_alloc | apply pw_below_drewN | apply below_drew1 | refine below_set ?_ GE898.out) | exact HB.out)⟩⟩
                          · rw [if_neg c26] at H
                            exact absurd H (by simp)
                        · rw [if_neg c25] at H
                          exact (palanquinlaw15_FragSizes.j1_no _ _ _ _ _ _ _ _ H hrt_).elim
                      · rw [if_neg c24] at H
                        have c24b0 : decide ((a0.size : Int) ≤ a1) = false := decide_eq_false c24
                        clear c24
                        have H' := Aside0.mk H
                        clear H
                        obtain ⟨Ao29, co29, eo29⟩ := Kd.R_slice HO885.out
                        subst eo29
                        go_wp2
                        go_meet
                        case rel => exact ⟨_, (false), (by first | rfl | (simp; done) | (simp [*]; done)), H', ⟨by have := HJ5.out; first | omega | exact Nat.le_refl _⟩, ⟨by (with_reducible repeat (first | apply Kd.R_alloc | apply Kd.R_drewN | apply Kd.R_drew)); exact HO885.out⟩, ⟨by (with_reducible repeat (first | refine blk_drewN ?_ _ | refine blk_drew ?_ | refine blk_alloc ?_ _)); exact BK898.out⟩, ⟨by repeat (first | (with_reducible first | exact HB.out | apply below_alloc | apply pw_below_drewN | apply below_drew1 | refine below_set ?_ GE898.out) | exact HB.out)⟩⟩
                    · rw [if_neg c23] at H
                      exact (palanquinlaw15_FragSizes.j1_no _ _ _ _ _ _ _ _ H hrt_).elim
              · rw [if_neg c20] at H
                have c20b0 : decide (a1 < (a0.size : Int)) = false := decide_eq_false c20
                clear c20
                (first | rw [c20b0] | (simp only [i64_w, i32_w]; rw [c20b0]) | skip)
                by_cases c31 : (a0.size : Int) ≤ a1
                · rw [if_pos c31] at H
                  have c31b0 : decide ((a0.size : Int) ≤ a1) = true := decide_eq_true c31
                  clear c31
                  by_cases c32 : (t882.length : Int) = 1
                  · rw [if_pos c32] at H
                    have c32b0 : ((t882.length : Int) == 1) = true := beq_iff_eq.mpr c32
                    have c32b1 : ((t882.length : Int) != 1) = false := bne_eq_false_iff_eq.mpr c32
                    clear c32
                    by_cases c33 : 0 < (t882.length : Int)
                    · rw [if_pos c33] at H
                      have c33b0 : decide (0 < (t882.length : Int)) = true := decide_eq_true c33
                      have c33b1 : decide (0 < t882.length) = true := decide_eq_true (by omega)
                      clear c33
                      have H' := Aside0.mk H
                      clear H
                      obtain ⟨Ao34, co34, eo34⟩ := Kd.R_slice HO885.out
                      subst eo34
                      have p901 : 0 ≤ (0 : Int) := (by omega)
                      have q901 : 0 < (t882.length : Int) := of_decide_eq_true (by first | (with_reducible assumption) | assumption)
                      obtain ⟨ad901, e901, hx901_0⟩ := Kd.at_string (Kd.R_reads' HO885.out).2.2 0 p901 q901
                      cases e901
                      have qi901 : (0 < t882.length) = True := eq_true (by omega)
                      (try rw [show ((0 : Int)).toNat = 0 from rfl] at hx901_0)
                      (try rw [Addr.add_zero'] at hx901_0)
                      replace p901 := eq_true p901
                      replace q901 := eq_true q901
                      go_wp2
                      go_meet
                      case rel => exact ⟨_, (((rdOf ByteArray.empty t882 0).toList != a0.toList)), (by first | rfl | (simp; done) | (simp [*]; done)), H', ⟨by have := HJ5.out; first | omega | exact Nat.le_refl _⟩, ⟨by (with_reducible repeat (first | apply Kd.R_alloc | apply Kd.R_drewN | apply Kd.R_drew)); exact HO885.out⟩, ⟨by (with_reducible repeat (first | refine blk_drewN ?_ _ | refine blk_drew ?_ | refine blk_alloc ?_ _)); exact BK898.out⟩, ⟨by repeat (first | (with_reducible first | exact HB.out | apply below_alloc | apply pw_below_drewN | apply below_drew1 | refine below_set ?_ GE898.out) | exact HB.out)⟩⟩
                    · rw [if_neg c33] at H
                      exact absurd H (by simp)
                  · rw [if_neg c32] at H
                    exact (palanquinlaw15_FragSizes.j1_no _ _ _ _ _ _ _ _ H hrt_).elim
                · rw [if_neg c31] at H
                  have c31b0 : decide ((a0.size : Int) ≤ a1) = false := decide_eq_false c31
                  clear c31
                  have H' := Aside0.mk H
                  clear H
                  go_wp2
                  go_meet
                  case rel => exact ⟨_, (false), (by first | rfl | (simp; done) | (simp [*]; done)), H', ⟨by have := HJ5.out; first | omega | exact Nat.le_refl _⟩, ⟨by (with_reducible repeat (first | apply Kd.R_alloc | apply Kd.R_drewN | apply Kd.R_drew)); exact HO885.out⟩, ⟨by (with_reducible repeat (first | refine blk_drewN ?_ _ | refine blk_drew ?_ | refine blk_alloc ?_ _)); exact BK898.out⟩, ⟨by repeat (first | (with_reducible first | exact HB.out | apply below_alloc | apply pw_below_drewN | apply below_drew1 | refine below_set ?_ GE898.out) | exact HB.out)⟩⟩
            case rest =>
              clear HC14
              try clear c1
              try clear c2
              try clear p2
              try clear c3
              try clear p4
              try clear c5
              try clear p6
              try clear c8
              try clear c8b0
              try clear c8b1
              try clear c9
              try clear p9
              try clear q9
              try clear hx9
              try clear qi9
              try clear c11
              try clear c11b0
              try clear c11b1
              try clear c20
              try clear c20b0
              try clear c21
              try clear c21b0
              try clear c22
              try clear c22b0
              try clear c22b1
              try clear c23
              try clear c23b0
              try clear c23b1
              try clear c24
              try clear c24b0
              try clear c25
              try clear c25b0
              try clear c25b1
              try clear c26
              try clear c26b0
              try clear c26b1
              try clear c31
              try clear c31b0
              try clear c32
              try clear c32b0
              try clear c32b1
              try clear c33
              try clear c33b0
              try clear c33b1
              try clear c34
              try clear hcz18_0
              try clear hcz18_1
              try clear hcz18_2
              try clear hcz18_3
              try clear hcz18_4
              try clear hcz18_5
              try clear hcz18_6
              try clear hcz18_7
              try clear hcz18_8
              try clear hcz18_9
              try clear hfz18_0
              try clear hfz18_1
              try clear hfz18_2
              try clear hfz18_3
              try clear hfz18_4
              try clear hfz18_5
              try clear hfz18_6
              try clear hfz18_7
              try clear hfz18_8
              try clear hfz18_9
              try clear hx900_0
              try clear hx901_0
              try clear p2
              try clear p900
              try clear p901
              try clear q900
              try clear q901
              obtain ⟨kq, x87_13, rfl, HA, HJ13, HO_7, BK898, HB⟩ := hcut
              cases kq with
              | zero => exact absurd HA.out (by simp [palanquinlaw15_FragSizes.j1])
              | succ kj13 =>
                have H := HA.out
                clear HA
                simp only [palanquinlaw15_FragSizes.j1] at H
                by_cases c36 : x87_13 = true
                · subst c36
                  have H1 : (some false) = some r := by rw [if_pos rfl] at H; exact H
                  exact absurd ((Option.some.inj H1).trans hrt_.out) (by decide)
                · replace c36 := Bool.eq_false_iff.mpr c36
                  subst c36
                  have H1 : (palanquinlaw15_FragSizes.l0 kj13 a0 a1 a2 t882 t896 t899 0) = some r := by rw [if_neg (show ¬ (false = true) by decide)] at H; exact H
                  clear H
                  have H := H1
                  clear H1
                  have H' := Aside0.mk H
                  clear H
                  go_wp2
                  go_loopg [13] kj13 (fun kq v13 w' => ∃ (x13_3 : Int), v13 = .int .i64 x13_3 ∧ Aside0 (palanquinlaw15_FragSizes.l0 kq a0 a1 a2 t882 t896 t899 x13_3 = some r) ∧ Aside0 (kq ≤ kj13) ∧ Aside0 (Kd.R Kd.string 9 w' w.heap.size (fun _ => True) v884 t882) ∧ Aside0 (w'.heap[gb898]? = some (.cells #[.int .i64 t886, .int .i64 t887, .int .i64 t888, .int .i64 t889, .int .i64 t890, .bool t891, .bool t892, .string t893, .string t894, .string t895] 93 (0, 0))) ∧ Aside0 (Below w.heap.size w w'))
                  case atStart => exact ⟨(0), (by first | rfl | (simp; done) | (simp [*]; done)), H', ⟨Nat.le_refl _⟩, ⟨by (with_reducible repeat (first | apply Kd.R_alloc | apply Kd.R_drewN | apply Kd.R_drew)); exact HO_7.out⟩, ⟨by (with_reducible repeat (first | refine blk_drewN ?_ _ | refine blk_drew ?_ | refine blk_alloc ?_ _)); exact BK898.out⟩, ⟨by repeat (first | (with_reducible first | exact HB.out | apply below_alloc | apply pw_below_drewN | apply below_drew1 | refine below_set ?_ GE898.out) | exact HB.out)⟩⟩
                  case round =>
                    clear H'
                    try clear c1
                    try clear c2
                    try clear p2
                    try clear c3
                    try clear p4
                    try clear c5
                    try clear p6
                    try clear c8
                    try clear c8b0
                    try clear c8b1
                    try clear c9
                    try clear p9
                    try clear q9
                    try clear hx9
                    try clear qi9
                    try clear c11
                    try clear c11b0
                    try clear c11b1
                    try clear c20
                    try clear c20b0
                    try clear c21
                    try clear c21b0
                    try clear c22
                    try clear c22b0
                    try clear c22b1
                    try clear c23
                    try clear c23b0
                    try clear c23b1
                    try clear c24
                    try clear c24b0
                    try clear c25
                    try clear c25b0
                    try clear c25b1
                    try clear c26
                    try clear c26b0
                    try clear c26b1
                    try clear c31
                    try clear c31b0
                    try clear c32
                    try clear c32b0
                    try clear c32b1
                    try clear c33
                    try clear c33b0
                    try clear c33b1
                    try clear c34
                    try clear c36
                    try clear hcz18_0
                    try clear hcz18_1
                    try clear hcz18_2
                    try clear hcz18_3
                    try clear hcz18_4
                    try clear hcz18_5
                    try clear hcz18_6
                    try clear hcz18_7
                    try clear hcz18_8
                    try clear hcz18_9
                    try clear hfz18_0
                    try clear hfz18_1
                    try clear hfz18_2
                    try clear hfz18_3
                    try clear hfz18_4
                    try clear hfz18_5
                    try clear hfz18_6
                    try clear hfz18_7
                    try clear hfz18_8
                    try clear hfz18_9
                    try clear hx900_0
                    try clear hx901_0
                    try clear p2
                    try clear p4
                    try clear p6
                    try clear p9
                    try clear p900
                    try clear p901
                    try clear q9
                    try clear q900
                    try clear q901
                    obtain ⟨x13_3, rfl, HA, HK3, HO_7, BK898, HB⟩ := hrel
                    cases gk with
                    | zero => exact absurd HA.out (by simp [palanquinlaw15_FragSizes.l0])
                    | succ k3 =>
                      have H := HA.out
                      clear HA
                      simp only [palanquinlaw15_FragSizes.l0] at H
                      by_cases c37 : (wrap64 (x13_3 + 1)) < (t882.length : Int)
                      · rw [if_pos c37] at H
                        have c37b0 : decide ((wrap64 (x13_3 + 1)) < (t882.length : Int)) = true := decide_eq_true c37
                        clear c37
                        by_cases c38 : 0 ≤ x13_3
                        · rw [if_pos c38] at H
                          have c38b0 : decide (0 ≤ x13_3) = true := decide_eq_true c38
                          clear c38
                          by_cases c39 : x13_3 < (t882.length : Int)
                          · rw [if_pos c39] at H
                            have c39b0 : decide (x13_3 < (t882.length : Int)) = true := decide_eq_true c39
                            clear c39
                            by_cases c40 : ((rdOf ByteArray.empty t882 x13_3).size : Int) = (wrap64 ((wrap64 ((a0.size : Int) - (t896.size : Int))) + t899))
                            · rw [if_pos c40] at H
                              have c40b0 : (((rdOf ByteArray.empty t882 x13_3).size : Int) == (wrap64 ((wrap64 ((a0.size : Int) - (t896.size : Int))) + t899))) = true := beq_iff_eq.mpr c40
                              have c40b1 : (((rdOf ByteArray.empty t882 x13_3).size : Int) != (wrap64 ((wrap64 ((a0.size : Int) - (t896.size : Int))) + t899))) = false := bne_eq_false_iff_eq.mpr c40
                              clear c40
                              by_cases c41 : (wrap64 (((rdOf ByteArray.empty t882 x13_3).size : Int) + 8)) ≤ a1
                              · rw [if_pos c41] at H
                                have c41b0 : decide ((wrap64 (((rdOf ByteArray.empty t882 x13_3).size : Int) + 8)) ≤ a1) = true := decide_eq_true c41
                                clear c41
                                obtain rfl := Option.some.inj H
                                obtain ⟨Ao42, co42, eo42⟩ := Kd.R_slice HO_7.out
                                subst eo42
                                have p902 : 0 ≤ (x13_3 : Int) := of_decide_eq_true (by first | (with_reducible assumption) | assumption)
                                have q902 : x13_3 < (t882.length : Int) := of_decide_eq_true (by first | (with_reducible assumption) | assumption)
                                obtain ⟨ad902, e902, hx902_0⟩ := Kd.at_string (Kd.R_reads' HO_7.out).2.2 x13_3 p902 q902
                                cases e902
                                replace p902 := eq_true p902
                                replace q902 := eq_true q902
                                have p903 : 0 ≤ (x13_3 : Int) := of_decide_eq_true (by first | (with_reducible assumption) | assumption)
                                have q903 : x13_3 < (t882.length : Int) := of_decide_eq_true (by first | (with_reducible assumption) | assumption)
                                obtain ⟨ad903, e903, hx903_0⟩ := Kd.at_string (Kd.R_reads' HO_7.out).2.2 x13_3 p903 q903
                                obtain rfl : ad902 = ad903 := (by injection e903)
                                replace p903 := eq_true p903
                                replace q903 := eq_true q903
                                go_wp2
                                go_ret
                                exact ⟨by first | rfl | (simp [errW_none, errW_some] <;> rfl) | (simp [*, errW_none, errW_some] <;> rfl), by repeat (first | (with_reducible first | exact HB.out | apply below_alloc | apply pw_below_drewN | apply below_drew1 | refine below_set ?_ GE898.out) | exact HB.out)⟩
                              · rw [if_neg c41] at H
                                have c41b0 : decide ((wrap64 (((rdOf ByteArray.empty t882 x13_3).size : Int) + 8)) ≤ a1) = false := decide_eq_false c41
                                clear c41
                                have H' := Aside0.mk H
                                clear H
                                obtain ⟨Ao43, co43, eo43⟩ := Kd.R_slice HO_7.out
                                subst eo43
                                have p902 : 0 ≤ (x13_3 : Int) := of_decide_eq_true (by first | (with_reducible assumption) | assumption)
                                have q902 : x13_3 < (t882.length : Int) := of_decide_eq_true (by first | (with_reducible assumption) | assumption)
                                obtain ⟨ad902, e902, hx902_0⟩ := Kd.at_string (Kd.R_reads' HO_7.out).2.2 x13_3 p902 q902
                                cases e902
                                replace p902 := eq_true p902
                                replace q902 := eq_true q902
                                have p903 : 0 ≤ (x13_3 : Int) := of_decide_eq_true (by first | (with_reducible assumption) | assumption)
                                have q903 : x13_3 < (t882.length : Int) := of_decide_eq_true (by first | (with_reducible assumption) | assumption)
                                obtain ⟨ad903, e903, hx903_0⟩ := Kd.at_string (Kd.R_reads' HO_7.out).2.2 x13_3 p903 q903
                                obtain rfl : ad902 = ad903 := (by injection e903)
                                replace p903 := eq_true p903
                                replace q903 := eq_true q903
                                go_wp2
                                go_roundg k3
                                case measure => have := HJ5.out; have := HJ13.out; have := HK3.out; omega
                                case rel => exact ⟨(wrap64 (x13_3 + 1)), (by first | rfl | (simp; done) | (simp [*]; done)), H', ⟨by have := HJ5.out; have := HJ13.out; have := HK3.out; omega⟩, ⟨by (with_reducible repeat (first | apply Kd.R_alloc | apply Kd.R_drewN | apply Kd.R_drew)); exact HO_7.out⟩, ⟨by (with_reducible repeat (first | refine blk_drewN ?_ _ | refine blk_drew ?_ | refine blk_alloc ?_ _)); exact BK898.out⟩, ⟨by repeat (first | (with_reducible first | exact HB.out | apply below_alloc | apply pw_below_drewN | apply below_drew1 | refine below_set ?_ GE898.out) | exact HB.out)⟩⟩
                            · rw [if_neg c40] at H
                              have c40b0 : (((rdOf ByteArray.empty t882 x13_3).size : Int) == (wrap64 ((wrap64 ((a0.size : Int) - (t896.size : Int))) + t899))) = false := beq_eq_false_iff_ne.mpr c40
                              have c40b1 : (((rdOf ByteArray.empty t882 x13_3).size : Int) != (wrap64 ((wrap64 ((a0.size : Int) - (t896.size : Int))) + t899))) = true := bne_iff_ne.mpr c40
                              obtain rfl := Option.some.inj H
                              obtain ⟨Ao44, co44, eo44⟩ := Kd.R_slice HO_7.out
                              subst eo44
                              have p902 : 0 ≤ (x13_3 : Int) := of_decide_eq_true (by first | (with_reducible assumption) | assumption)
                              have q902 : x13_3 < (t882.length : Int) := of_decide_eq_true (by first | (with_reducible assumption) | assumption)
                              obtain ⟨ad902, e902, hx902_0⟩ := Kd.at_string (Kd.R_reads' HO_7.out).2.2 x13_3 p902 q902
                              cases e902
                              replace p902 := eq_true p902
                              replace q902 := eq_true q902
                              go_wp2
                              go_ret
                              exact ⟨by first | rfl | (simp [errW_none, errW_some] <;> rfl) | (simp [*, errW_none, errW_some] <;> rfl), by repeat (first | (with_reducible first | exact HB.out | apply below_alloc | apply pw_below_drewN | apply below_drew1 | refine below_set ?_ GE898.out) | exact HB.out)⟩
                          · rw [if_neg c39] at H
                            exact absurd H (by simp)
                        · rw [if_neg c38] at H
                          exact absurd H (by simp)
                      · rw [if_neg c37] at H
                        have c37b0 : decide ((wrap64 (x13_3 + 1)) < (t882.length : Int)) = false := decide_eq_false c37
                        clear c37
                        replace H := Option.bind_eq_some_iff.mp H
                        obtain ⟨⟨t904, t905⟩, A450, H⟩ := H
                        replace H : (if t905 = 0 then (if t905 = 4 then (some true) else (some (decide ((t904.length : Int) ≤ (t882.length : Int))))) else (if a2 > 65535 then (some true) else (if t905 = 4 then (some true) else (some false)))) = some r := H
                        have A45 := Aside0.mk A450
                        clear A450
                        by_cases c46 : t905 = 0
                        · rw [if_pos c46] at H
                          have c46b0 : (t905 == 0) = true := beq_iff_eq.mpr c46
                          have c46b1 : (t905 != 0) = false := bne_eq_false_iff_eq.mpr c46
                          clear c46
                          by_cases c47 : t905 = 4
                          · rw [if_pos c47] at H
                            have c47b0 : (t905 == 4) = true := beq_iff_eq.mpr c47
                            have c47b1 : (t905 != 4) = false := bne_eq_false_iff_eq.mpr c47
                            clear c47
                            obtain rfl := Option.some.inj H
                            obtain ⟨Ao48, co48, eo48⟩ := Kd.R_slice HO_7.out
                            subst eo48
                            go_wp2_with (first | ((with_reducible refine gate_callee (f := 114) rfl ?_); refine goesL_ (some 121) rfl rfl Try.func114 (by kernel_rfl) rfl #[.string a0, .int .i64 a2] rfl (by (try simp only [List.map_toArray, List.map_cons, List.map_nil]); first | done | rfl | (simp only [List.length_drop, List.length_take]; rfl)) ?_; (with_reducible refine (frag_Cut.calls a0 a2 t904 t905 _ A45.out).mono ?_); rintro e w49 ⟨v906, rfl, ho0, hb⟩; refine ⟨_, rfl, ?_⟩; have n0_ := Aside0.mk (Kd.R_elder' (by (with_reducible repeat (first | apply Kd.R_alloc | apply Kd.R_drewN | apply Kd.R_drew)); exact HO_7.out) (Kd.R_base ho0) hb); have n1_ := Aside0.mk (Kd.R_lower (Kd.R_new' ho0 (Kd.R_lt (by (with_reducible repeat (first | apply Kd.R_alloc | apply Kd.R_drewN | apply Kd.R_drew)); exact HO_7.out))) (below_size (by repeat (first | (with_reducible first | exact HB.out | apply below_alloc | apply pw_below_drewN | apply below_drew1 | refine below_set ?_ GE898.out) | exact HB.out)))); have n2_ := Aside0.mk (blk_below (g := gb898) (o := .cells #[.int .i64 t886, .int .i64 t887, .int .i64 t888, .int .i64 t889, .int .i64 t890, .bool t891, .bool t892, .string t893, .string t894, .string t895] 93 (0, 0)) (by (with_reducible repeat (first | refine blk_drewN ?_ _ | refine blk_drew ?_ | refine blk_alloc ?_ _)); exact BK898.out) hb); have n3_ := Aside0.mk (below_step (by repeat (first | (with_reducible first | exact HB.out | apply below_alloc | apply pw_below_drewN | apply below_drew1 | refine below_set ?_ GE898.out) | exact HB.out)) hb); clear HO_7; clear BK898; clear HB; have HO_7 := n0_; have HO907 := n1_; have BK898 := n2_; have HB := n3_; clear n0_ n1_ n2_ n3_; (try clear hb); (try clear hb2); (try clear hk); (try clear hi); (try clear ho0)))
                            go_ret
                            exact ⟨by first | rfl | (simp [errW_none, errW_some] <;> rfl) | (simp [*, errW_none, errW_some] <;> rfl), by repeat (first | (with_reducible first | exact HB.out | apply below_alloc | apply pw_below_drewN | apply below_drew1 | refine below_set ?_ GE898.out) | exact HB.out)⟩
                          · rw [if_neg c47] at H
                            have c47b0 : (t905 == 4) = false := beq_eq_false_iff_ne.mpr c47
                            have c47b1 : (t905 != 4) = true := bne_iff_ne.mpr c47
                            obtain rfl := Option.some.inj H
                            obtain ⟨Ao50, co50, eo50⟩ := Kd.R_slice HO_7.out
                            subst eo50
                            go_wp2_with (first | ((with_reducible refine gate_callee (f := 114) rfl ?_); refine goesL_ (some 121) rfl rfl Try.func114 (by kernel_rfl) rfl #[.string a0, .int .i64 a2] rfl (by (try simp only [List.map_toArray, List.map_cons, List.map_nil]); first | done | rfl | (simp only [List.length_drop, List.length_take]; rfl)) ?_; (with_reducible refine (frag_Cut.calls a0 a2 t904 t905 _ A45.out).mono ?_); rintro e w51 ⟨v906, rfl, ho0, hb⟩; refine ⟨_, rfl, ?_⟩; have n0_ := Aside0.mk (Kd.R_elder' (by (with_reducible repeat (first | apply Kd.R_alloc | apply Kd.R_drewN | apply Kd.R_drew)); exact HO_7.out) (Kd.R_base ho0) hb); have n1_ := Aside0.mk (Kd.R_lower (Kd.R_new' ho0 (Kd.R_lt (by (with_reducible repeat (first | apply Kd.R_alloc | apply Kd.R_drewN | apply Kd.R_drew)); exact HO_7.out))) (below_size (by repeat (first | (with_reducible first | exact HB.out | apply below_alloc | apply pw_below_drewN | apply below_drew1 | refine below_set ?_ GE898.out) | exact HB.out)))); have n2_ := Aside0.mk (blk_below (g := gb898) (o := .cells #[.int .i64 t886, .int .i64 t887, .int .i64 t888, .int .i64 t889, .int .i64 t890, .bool t891, .bool t892, .string t893, .string t894, .string t895] 93 (0, 0)) (by (with_reducible repeat (first | refine blk_drewN ?_ _ | refine blk_drew ?_ | refine blk_alloc ?_ _)); exact BK898.out) hb); have n3_ := Aside0.mk (below_step (by repeat (first | (with_reducible first | exact HB.out | apply below_alloc | apply pw_below_drewN | apply below_drew1 | refine below_set ?_ GE898.out) | exact HB.out)) hb); clear HO_7; clear BK898; clear HB; have HO_7 := n0_; have HO907 := n1_; have BK898 := n2_; have HB := n3_; clear n0_ n1_ n2_ n3_; (try clear hb); (try clear hb2); (try clear hk); (try clear hi); (try clear ho0); obtain ⟨Ao52, co52, eo52⟩ := Kd.R_slice HO907.out; subst eo52))
                            go_ret
                            exact ⟨by first | rfl | (simp [errW_none, errW_some] <;> rfl) | (simp [*, errW_none, errW_some] <;> rfl), by repeat (first | (with_reducible first | exact HB.out | apply below_alloc | apply pw_below_drewN | apply below_drew1 | refine below_set ?_ GE898.out) | exact HB.out)⟩
                        · rw [if_neg c46] at H
                          have c46b0 : (t905 == 0) = false := beq_eq_false_iff_ne.mpr c46
                          have c46b1 : (t905 != 0) = true := bne_iff_ne.mpr c46
                          by_cases c53 : a2 > 65535
                          · rw [if_pos c53] at H
                            have c53b0 : decide (65535 < a2) = true := decide_eq_true c53
                            clear c53
                            obtain rfl := Option.some.inj H
                            obtain ⟨Ao54, co54, eo54⟩ := Kd.R_slice HO_7.out
                            subst eo54
                            go_wp2_with (first | ((with_reducible refine gate_callee (f := 114) rfl ?_); refine goesL_ (some 121) rfl rfl Try.func114 (by kernel_rfl) rfl #[.string a0, .int .i64 a2] rfl (by (try simp only [List.map_toArray, List.map_cons, List.map_nil]); first | done | rfl | (simp only [List.length_drop, List.length_take]; rfl)) ?_; (with_reducible refine (frag_Cut.calls a0 a2 t904 t905 _ A45.out).mono ?_); rintro e w55 ⟨v906, rfl, ho0, hb⟩; refine ⟨_, rfl, ?_⟩; have n0_ := Aside0.mk (Kd.R_elder' (by (with_reducible repeat (first | apply Kd.R_alloc | apply Kd.R_drewN | apply Kd.R_drew)); exact HO_7.out) (Kd.R_base ho0) hb); have n1_ := Aside0.mk (Kd.R_lower (Kd.R_new' ho0 (Kd.R_lt (by (with_reducible repeat (first | apply Kd.R_alloc | apply Kd.R_drewN | apply Kd.R_drew)); exact HO_7.out))) (below_size (by repeat (first | (with_reducible first | exact HB.out | apply below_alloc | apply pw_below_drewN | apply below_drew1 | refine below_set ?_ GE898.out) | exact HB.out)))); have n2_ := Aside0.mk (blk_below (g := gb898) (o := .cells #[.int .i64 t886, .int .i64 t887, .int .i64 t888, .int .i64 t889, .int .i64 t890, .bool t891, .bool t892, .string t893, .string t894, .string t895] 93 (0, 0)) (by (with_reducible repeat (first | refine blk_drewN ?_ _ | refine blk_drew ?_ | refine blk_alloc ?_ _)); exact BK898.out) hb); have n3_ := Aside0.mk (below_step (by repeat (first | (with_reducible first | exact HB.out | apply below_alloc | apply pw_below_drewN | apply below_drew1 | refine below_set ?_ GE898.out) | exact HB.out)) hb); clear HO_7; clear BK898; clear HB; have HO_7 := n0_; have HO907 := n1_; have BK898 := n2_; have HB := n3_; clear n0_ n1_ n2_ n3_; (try clear hb); (try clear hb2); (try clear hk); (try clear hi); (try clear ho0)))
                            go_ret
                            exact ⟨by first | rfl | (simp [errW_none, errW_some] <;> rfl) | (simp [*, errW_none, errW_some] <;> rfl), by repeat (first | (with_reducible first | exact HB.out | apply below_alloc | apply pw_below_drewN | apply below_drew1 | refine below_set ?_ GE898.out) | exact HB.out)⟩
                          · rw [if_neg c53] at H
                            have c53b0 : decide (65535 < a2) = false := decide_eq_false c53
                            clear c53
                            by_cases c56 : t905 = 4
                            · rw [if_pos c56] at H
                              have c56b0 : (t905 == 4) = true := beq_iff_eq.mpr c56
                              have c56b1 : (t905 != 4) = false := bne_eq_false_iff_eq.mpr c56
                              clear c56
                              obtain rfl := Option.some.inj H
                              obtain ⟨Ao57, co57, eo57⟩ := Kd.R_slice HO_7.out
                              subst eo57
                              go_wp2_with (first | ((with_reducible refine gate_callee (f := 114) rfl ?_); refine goesL_ (some 121) rfl rfl Try.func114 (by kernel_rfl) rfl #[.string a0, .int .i64 a2] rfl (by (try simp only [List.map_toArray, List.map_cons, List.map_nil]); first | done | rfl | (simp only [List.length_drop, List.length_take]; rfl)) ?_; (with_reducible refine (frag_Cut.calls a0 a2 t904 t905 _ A45.out).mono ?_); rintro e w58 ⟨v906, rfl, ho0, hb⟩; refine ⟨_, rfl, ?_⟩; have n0_ := Aside0.mk (Kd.R_elder' (by (with_reducible repeat (first | apply Kd.R_alloc | apply Kd.R_drewN | apply Kd.R_drew)); exact HO_7.out) (Kd.R_base ho0) hb); have n1_ := Aside0.mk (Kd.R_lower (Kd.R_new' ho0 (Kd.R_lt (by (with_reducible repeat (first | apply Kd.R_alloc | apply Kd.R_drewN | apply Kd.R_drew)); exact HO_7.out))) (below_size (by repeat (first | (with_reducible first | exact HB.out | apply below_alloc | apply pw_below_drewN | apply below_drew1 | refine below_set ?_ GE898.out) | exact HB.out)))); have n2_ := Aside0.mk (blk_below (g := gb898) (o := .cells #[.int .i64 t886, .int .i64 t887, .int .i64 t888, .int .i64 t889, .int .i64 t890, .bool t891, .bool t892, .string t893, .string t894, .string t895] 93 (0, 0)) (by (with_reducible repeat (first | refine blk_drewN ?_ _ | refine blk_drew ?_ | refine blk_alloc ?_ _)); exact BK898.out) hb); have n3_ := Aside0.mk (below_step (by repeat (first | (with_reducible first | exact HB.out | apply below_alloc | apply pw_below_drewN | apply below_drew1 | refine below_set ?_ GE898.out) | exact HB.out)) hb); clear HO_7; clear BK898; clear HB; have HO_7 := n0_; have HO907 := n1_; have BK898 := n2_; have HB := n3_; clear n0_ n1_ n2_ n3_; (try clear hb); (try clear hb2); (try clear hk); (try clear hi); (try clear ho0)))
                              go_ret
                              exact ⟨by first | rfl | (simp [errW_none, errW_some] <;> rfl) | (simp [*, errW_none, errW_some] <;> rfl), by repeat (first | (with_reducible first | exact HB.out | apply below_alloc | apply pw_below_drewN | apply below_drew1 | refine below_set ?_ GE898.out) | exact HB.out)⟩
                            · rw [if_neg c56] at H
                              exact absurd ((Option.some.inj H).trans hrt_.out) (by decide)
          · rw [if_neg c11] at H
            have c11b0 : (t883 == 0) = false := beq_eq_false_iff_ne.mpr c11
            have c11b1 : (t883 != 0) = true := bne_iff_ne.mpr c11
            obtain rfl := Option.some.inj H
            go_wp2_with (first | ((with_reducible refine gate_callee (f := 114) rfl ?_); refine goesL_ (some 29) rfl rfl Try.func114 (by kernel_rfl) rfl #[.string a0, .int .i64 a1] rfl (by (try simp only [List.map_toArray, List.map_cons, List.map_nil]); first | done | rfl | (simp only [List.length_drop, List.length_take]; rfl)) ?_; (with_reducible refine (frag_Cut.calls a0 a1 t882 t883 _ A10.out).mono ?_); rintro e w61 ⟨v884, rfl, ho0, hb⟩; refine ⟨_, rfl, ?_⟩; have n0_ := Aside0.mk (Kd.R_lower ho0 (below_size (by repeat (first | (with_reducible first | exact HB.out | apply below_alloc | apply pw_below_drewN | apply below_drew1) | exact HB.out)))); have n1_ := Aside0.mk (below_step (by repeat (first | (with_reducible first | exact HB.out | apply below_alloc | apply pw_below_drewN | apply below_drew1) | exact HB.out)) hb); clear HB; have HO885 := n0_; have HB := n1_; clear n0_ n1_; (try clear hb); (try clear hb2); (try clear hk); (try clear hi); (try clear ho0); obtain ⟨Ao62, co62, eo62⟩ := Kd.R_slice HO885.out; subst eo62))
            go_ret
            exact ⟨by first | rfl | (simp [errW_none, errW_some] <;> rfl) | (simp [*, errW_none, errW_some] <;> rfl), by repeat (first | (with_reducible first | exact HB.out | apply below_alloc | apply pw_below_drewN | apply below_drew1) | exact HB.out)⟩
  · replace c5 := Bool.eq_false_iff.mpr c5
    subst c5
    have H1 : (some false) = some r := by rw [if_neg (show ¬ (false = true) by decide)] at H; exact H
    exact absurd ((Option.some.inj H1).trans hrt_.out) (by decide)
/-- THE ONE PURE STATEMENT of palanquinlaw15_FragSizes: yours. -/
def palanquinlaw15_FragSizes.Pure : Prop := ∀ (a0 : ByteArray) (a1 : Int) (a2 : Int), a0.size ≤ 140737488351232 → (Lit.int .i64 a1).wf = true → (Lit.int .i64 a2).wf = true → ∃ k, palanquinlaw15_FragSizes.f k a0 a1 a2 = some true
theorem palanquinlaw15_FragSizes.walk (P : palanquinlaw15_FragSizes.Pure) (a0 : ByteArray) (a1 : Int) (a2 : Int) (w : World) (w0 : a0.size ≤ 140737488351232) (w1 : (Lit.int .i64 a1).wf = true) (w2 : (Lit.int .i64 a2).wf = true) :
    Calls Try.prog 34 #[.string a0, .int .i64 a1, .int .i64 a2] w fun e w' => e = .returned (.bool true) ∧ Below w.heap.size w w' := by
  obtain ⟨k, h⟩ := P a0 a1 a2 w0 w1 w2
  refine (palanquinlaw15_FragSizes.calls k a0 a1 a2 true w h ⟨rfl⟩).mono ?_
  rintro e w' ⟨rfl, hd⟩
  exact ⟨rfl, hd⟩

end Go.Proofs.Ytejmipoolbodgaa.G
end

section
/- Plain law of FragSizes: there are just as many pieces as the parts need, all but the last one as great as fit; a greater mtu makes no more of them. -/
namespace Go.Proofs.Ytejmipoolbodgaa.Pure
open Go.RowKit Go.Proofs.YtejmipoolbodgaaW.PrintWords Go.Proofs.YtejmipoolbodgaaW.PrintLast Go.Proofs.Ytejmipoolbodgaa.G Go.Proofs.Ytejmipoolbodgaa.Pal
set_option linter.unusedVariables false
theorem sz_round (i n X : Nat) (h : i + 1 < n) (hn : n ≤ 100000) (x : Int) (m : Int) (hx : (X : Int) = x) (hm : m < (X : Int) + 8) (hX : X ≤ 100000) :
    wrap64 ((i : Int) + 1) = ((i + 1 : Nat) : Int) ∧ ((i + 1 : Nat) : Int) < (n : Int) ∧ (0 : Int) ≤ (i : Int) ∧ (i : Int) < (n : Int) ∧ ¬ wrap64 ((X : Int) + 8) ≤ m := by
  refine ⟨by unfold wrap64; omega, by omega, by omega, by omega, ?_⟩
  unfold wrap64; omega
theorem sz_last (i n : Nat) (h : n ≤ i + 1) (hi : i ≤ 100000) : ¬ wrap64 ((i : Int) + 1) < (n : Int) := by unfold wrap64; omega
/-- The loop, where each piece but the last one is as great as fits. -/
theorem sizes_loop (s : ByteArray) (a b : Int) (L : List ByteArray) (P : ByteArray) (z : Int) (hL : L.length ≤ 100000)
    (hend : ((frag_Cut.f s b).bind fun bt => (if bt.2 = 0 then (if bt.2 = 4 then (some true) else (some (decide ((bt.1.length : Int) ≤ (L.length : Int))))) else (if b > 65535 then (some true) else (if bt.2 = 4 then (some true) else (some false))))) = some true)
    (hr : ∀ i : Nat, i + 1 < L.length → ((rdOf ByteArray.empty L (i : Int)).size : Int) = wrap64 (wrap64 ((s.size : Int) - (P.size : Int)) + z) ∧ a < ((rdOf ByteArray.empty L (i : Int)).size : Int) + 8 ∧ (rdOf ByteArray.empty L (i : Int)).size ≤ 100000) :
    ∀ (n i : Nat), L.length ≤ i + n → i ≤ 100000 → palanquinlaw15_FragSizes.l0 (n + 1) s a b L P z (i : Int) = some true := by
  intro n
  induction n with
  | zero =>
    intro i hi hi2
    rw [palanquinlaw15_FragSizes.l0, if_neg (sz_last i L.length (by omega) hi2)]
    exact hend
  | succ n ih =>
    intro i hi hi2
    by_cases h : i + 1 < L.length
    · obtain ⟨r1, r2, r3⟩ := hr i h
      obtain ⟨q1, q2, q3, q4, q5⟩ := sz_round i L.length _ h hL _ a r1 r2 r3
      rw [palanquinlaw15_FragSizes.l0, q1, if_pos q2, if_pos q3, if_pos q4, if_pos r1, if_neg q5]
      exact ih (i + 1) (by omega) (by omega)
    · rw [palanquinlaw15_FragSizes.l0, if_neg (sz_last i L.length (by omega) hi2)]
      exact hend
theorem nF_mono (s : ByteArray) {a b : Nat} (h : a ≤ b) : nF s a ≤ nF s b := by unfold nF; omega
theorem cntP_anti (P : ByteArray) {z y : Nat} (hz : 0 < z) (h : z ≤ y) : cntP P y ≤ cntP P z := by
  by_cases hh : cntP P y ≤ cntP P z
  · exact hh
  · have h1 := (cntP_lt P (Nat.lt_of_lt_of_le hz h) (cntP P z)).mp (by omega)
    have h2 : cntP P z * z ≤ cntP P z * y := Nat.mul_le_mul_left _ h
    exact absurd ((cntP_lt P hz _).mpr (Nat.lt_of_le_of_lt h2 h1)) (Nat.lt_irrefl _)
theorem cutL_cnt {s : ByteArray} {m : Int} (h : cutErr s m = 0) (hl : ¬ (s.size : Int) ≤ m) : (cutL s m).length = cntP (hPay s) (nF s m.toNat) := by
  unfold cutL; rw [if_pos h, if_neg hl, List.length_map, List.length_range]
theorem cutL_whole {s : ByteArray} {m : Int} (h : cutErr s m = 0) (hl : (s.size : Int) ≤ m) : cutL s m = [s] := by
  unfold cutL; rw [if_pos h, if_pos hl]
/-- A greater mtu makes no more pieces. -/
theorem cut_more {s : ByteArray} {a b : Int} (h : cutErr s a = 0) (hab : a ≤ b) (hb : b ≤ 65535) (h4 : cutErr s b ≠ 4) : cutErr s b = 0 ∧ (cutL s b).length ≤ (cutL s a).length := by
  obtain ⟨he, hm⟩ := cutErr_ok h
  have e := cutErr_in he (show 28 ≤ b ∧ b ≤ 65535 by omega)
  by_cases hl : (s.size : Int) ≤ b
  · rw [if_pos hl] at e
    obtain ⟨K, at_, hK, hlen, _⟩ := cut_tiles h
    exact ⟨e, by rw [cutL_whole e hl, hlen]; exact hK⟩
  · obtain ⟨c1, c2, c3⟩ := cutErr_cut h (by omega)
    have hz : nF s a.toNat ≤ nF s b.toNat := nF_mono s (by omega)
    rw [if_neg hl, if_neg (by rw [c1]; decide), if_neg (by omega)] at e
    split at e
    · exact absurd e h4
    · exact ⟨e, by rw [cutL_cnt e hl, cutL_cnt h (by omega)]; exact cntP_anti _ c2 hz⟩
theorem sizes_end {s : ByteArray} (hs : s.size ≤ 140737488351232) {a b : Int} (h : cutErr s a = 0) (hab : a ≤ b) : ((frag_Cut.f s b).bind fun bt => (if bt.2 = 0 then (if bt.2 = 4 then (some true) else (some (decide ((bt.1.length : Int) ≤ ((cutL s a).length : Int))))) else (if b > 65535 then (some true) else (if bt.2 = 4 then (some true) else (some false))))) = some true := by
  rw [cut_f hs, Option.bind_some]
  dsimp +instances only
  by_cases hb : b ≤ 65535
  · by_cases h4 : cutErr s b = 4
    · rw [if_neg (by rw [h4]; decide), if_neg (by omega), if_pos h4]
    · obtain ⟨e, hl⟩ := cut_more h hab hb h4
      rw [if_pos e, if_neg h4, decide_eq_true (by omega)]
  · have e : cutErr s b ≠ 0 := fun hh => hb (cutErr_ok hh).2.2
    rw [if_neg e, if_pos (by omega)]
theorem part_of {s : ByteArray} (he : ip4Err s = 0) (m : Nat) (hm : m ≤ 65535) : frag_Part.f (wrap64 ((s.size : Int) - ((hPay s).size : Int))) (m : Int) = some ((nF s m : Nat) : Int) := by
  have h4 := sized4 he
  have e : m - (s.size - (hPay s).size) = m - hl4 s := by omega
  rw [part_is s.size (hPay s).size m (by omega) (by omega) hm, e]
  rfl
/-- What the loop asks of each piece. -/
theorem sizes_pieces {s : ByteArray} {m : Nat} (h : cutErr s (m : Int) = 0) : ∀ i : Nat, i + 1 < (cutL s (m : Int)).length → ((rdOf ByteArray.empty (cutL s (m : Int)) (i : Int)).size : Int) = wrap64 (wrap64 ((s.size : Int) - ((hPay s).size : Int)) + ((nF s m : Nat) : Int)) ∧ (m : Int) < ((rdOf ByteArray.empty (cutL s (m : Int)) (i : Int)).size : Int) + 8 ∧ (rdOf ByteArray.empty (cutL s (m : Int)) (i : Int)).size ≤ 100000 := by
  intro i hi
  obtain ⟨he, hm⟩ := cutErr_ok h
  by_cases hl : (s.size : Int) ≤ (m : Int)
  · rw [cutL_whole h hl] at hi
    exact absurd hi (by simp)
  · obtain ⟨c1, c2, c3⟩ := cutErr_cut h hl
    rw [Int.toNat_natCast] at c2 c3
    have hc := cutL_cnt h hl
    rw [Int.toNat_natCast] at hc
    have h4 := sized4 he
    have hle := nF_le s m c2
    have hp0 : 0 < (hPay s).size := by omega
    have fits := piece_fits he c2 c3 hp0
    obtain ⟨f1, f2, f3, f4⟩ := fits i (by omega)
    have pc := (pieceF_is he (nF_eight s m) f1 f2).size he
    have full := (partP_full (hPay s) c2 (by omega : i + 1 < cntP (hPay s) (nF s m))).1
    have er : rdOf ByteArray.empty (cutL s (m : Int)) (i : Int) = pieceF s (nF s m) i := by
      unfold cutL rdOf
      rw [if_pos h, if_neg hl, Int.toNat_natCast, Int.toNat_natCast, List.getD_eq_getElem?_getD, List.getElem?_map, List.getElem?_range (by omega)]
      rfl
    rw [er, pc.2, full]
    have hn8 : m < hl4 s + nF s m + 8 := by unfold nF; omega
    refine ⟨?_, by omega, by omega⟩
    have : wrap64 ((s.size : Int) - ((hPay s).size : Int)) = (hl4 s : Int) := by unfold wrap64; omega
    rw [this]; unfold wrap64; omega
theorem cnt_is (p z : Nat) (hp : p ≤ 65535) (hz : 0 < z) (hz2 : z ≤ 65536) : wrap64 (Int.tdiv (wrap64 ((wrap64 ((p : Int) + (z : Int))) - 1)) (z : Int)) = (((p + z - 1) / z : Nat) : Int) := by
  have e : wrap64 ((wrap64 ((p : Int) + (z : Int))) - 1) = ((p + z - 1 : Nat) : Int) := by unfold wrap64; omega
  rw [e, Int.tdiv_eq_ediv_of_nonneg (by omega), ← Int.natCast_ediv]
  have : (p + z - 1) / z ≤ p + z - 1 := Nat.div_le_self _ _
  generalize (p + z - 1) / z = q at this ⊢
  unfold wrap64; omega
theorem FragSizes : palanquinlaw15_FragSizes.Pure := by
  intro s a b hs _ _
  refine ⟨10002 + 1, ?_⟩
  unfold palanquinlaw15_FragSizes.f
  have skip : palanquinlaw15_FragSizes.j0 (10002 + 1) s a b true = some true := by rw [palanquinlaw15_FragSizes.j0, if_pos rfl]
  rw [awake15 _ (by decide), Option.bind_some, if_pos rfl]
  by_cases h3 : (s.size : Int) > 3000
  · rw [if_pos h3]; exact skip
  rw [if_neg h3]
  by_cases hab : b < a
  · rw [decide_eq_true hab]; exact skip
  rw [decide_eq_false hab, palanquinlaw15_FragSizes.j0, if_neg (by decide), cut_f hs, Option.bind_some]
  dsimp +instances only
  by_cases hc : cutErr s a = 0
  case neg => rw [if_neg hc, cutL_bad hc]; rfl
  obtain ⟨he, hm⟩ := cutErr_ok hc
  obtain ⟨m, rfl⟩ := Int.eq_ofNat_of_zero_le (show 0 ≤ a by omega)
  rw [if_pos hc, get4_f s hs he, Option.bind_some]
  dsimp +instances only
  rw [part_of he m (by omega), Option.bind_some]
  have h4 := sized4 he
  have hlen := cutL_len (s := s) (m : Int)
  have main : palanquinlaw15_FragSizes.j1 10002 s (m : Int) b (cutL s (m : Int)) (hPay s) ((nF s m : Nat) : Int) false = some true := by
    rw [palanquinlaw15_FragSizes.j1, if_neg (by decide)]
    exact sizes_loop s (m : Int) b (cutL s (m : Int)) (hPay s) _ (by omega) (sizes_end hs hc (by omega)) (sizes_pieces hc) 10000 0 (by omega) (by decide)
  by_cases hl : (s.size : Int) ≤ (m : Int)
  · rw [if_neg (by omega), if_pos hl, cutL_whole hc hl]
    rw [cutL_whole hc hl] at main
    rw [if_pos (by rfl), if_pos (by show (0 : Int) < ((1 : Nat) : Int); decide), show ((rdOf ByteArray.empty [s] 0).toList != s.toList) = false by simp [rdOf]]
    exact main
  · obtain ⟨c1, c2, c3⟩ := cutErr_cut hc hl
    rw [Int.toNat_natCast] at c2
    have h8 := nF_eight s m
    have hle := nF_le s m c2
    have hcn := cutL_cnt hc hl
    rw [Int.toNat_natCast] at hcn
    rw [if_pos (by omega), if_neg (by omega), if_neg (by omega), cnt_is _ _ (by omega) c2 (by omega), if_pos (by rw [hcn]; rfl), if_neg hl]
    exact main
end Go.Proofs.Ytejmipoolbodgaa.Pure
end
