-- Laid by a program of this session (wip/gen/gprint.py) over the translation's print. Lean checks it.
import Derived.Test.YtejmipoolbodgaaG0
import Derived.Test.YtejmipoolbodgaaGlaw07
import Derived.Test.YtejmipoolbodgaaHTcpM
import Derived.Test.YtejmipoolbodgaaHTcpN
namespace Go.Proofs.Ytejmipoolbodgaa.G
open Go.RowKit Go.Proofs.YtejmipoolbodgaaW.PrintWords Go.Proofs.YtejmipoolbodgaaW.PrintLast Go.Proofs.YtejmipoolbodgaaW.PrintMore
attribute [local go_sem] max2_int min2_int max_two min_two max_three min_three max_four min_four   -- for this text's walks alone
set_option linter.unusedVariables false
set_option linter.unusedSimpArgs false

/-! ### palanquinlaw07_TcpWalks: function 12 -/
mutual
def palanquinlaw07_TcpWalks.j0 : Nat → ByteArray → ByteArray → ByteArray → Bool → Option (Bool)
  | 0, _, _, _, _ => none
  | k + 1, x0, x1, x2, x48 => if x48 = true then (some true) else ((tcp_MSS.f x0).bind fun bt276 => (if 1 + x0.size ≤ 9223372036854775807 then ((tcp_MSS.f ((⟨#[1]⟩ : ByteArray) ++ x0)).bind fun bt279 => ((tcp_Right.f ((⟨#[1]⟩ : ByteArray) ++ x0)).bind fun t282 => (if t282 = true then (if bt279.1 = bt276.1 then (if (bt276.2.2 != bt279.2.2) = true then (palanquinlaw07_TcpWalks.j1 k x0 x1 x2 bt276.1 bt276.2.2 true) else (if bt276.2.2 = true then (palanquinlaw07_TcpWalks.j1 k x0 x1 x2 bt276.1 bt276.2.2 (bt279.2.1 != (wrap64 (bt276.2.1 + 1)))) else (palanquinlaw07_TcpWalks.j1 k x0 x1 x2 bt276.1 bt276.2.2 false))) else (palanquinlaw07_TcpWalks.j1 k x0 x1 x2 bt276.1 bt276.2.2 true)) else (palanquinlaw07_TcpWalks.j1 k x0 x1 x2 bt276.1 bt276.2.2 true)))) else (none)))
def palanquinlaw07_TcpWalks.j1 : Nat → ByteArray → ByteArray → ByteArray → Int → Bool → Bool → Option (Bool)
  | 0, _, _, _, _, _, _ => none
  | k + 1, x0, x1, x2, x7, x9, x84 => if x84 = true then (some false) else (if x0.size + 1 ≤ 9223372036854775807 then (if (x0 ++ (⟨#[0]⟩ : ByteArray)).size + x2.size ≤ 9223372036854775807 then ((tcp_MSS.f ((x0 ++ (⟨#[0]⟩ : ByteArray)) ++ x2)).bind fun bt283 => ((tcp_Right.f ((x0 ++ (⟨#[0]⟩ : ByteArray)) ++ x2)).bind fun t286 => (if t286 = true then (if (bt283.2.2 != x9) = true then (palanquinlaw07_TcpWalks.j2 k x0 x1 x7 x9 true) else (palanquinlaw07_TcpWalks.j2 k x0 x1 x7 x9 (bt283.1 != x7))) else (palanquinlaw07_TcpWalks.j2 k x0 x1 x7 x9 true)))) else (none)) else (none))
def palanquinlaw07_TcpWalks.j2 : Nat → ByteArray → ByteArray → Int → Bool → Bool → Option (Bool)
  | 0, _, _, _, _, _ => none
  | k + 1, x0, x1, x7, x9, x109 => if x109 = true then (some false) else (palanquinlaw07_TcpWalks.l0 k x0 x1 x7 x9 false 0)
def palanquinlaw07_TcpWalks.l0 : Nat → ByteArray → ByteArray → Int → Bool → Bool → Int → Option (Bool)
  | 0, _, _, _, _, _, _ => none
  | k + 1, x0, x1, x7, x9, x16, x17 => if x17 < (x0.size : Int) then (if 0 ≤ x17 then (if (bt x0 x17) = 0 then (palanquinlaw07_TcpWalks.l0 k x0 x1 x7 x9 true (wrap64 (x17 + 1))) else (palanquinlaw07_TcpWalks.l0 k x0 x1 x7 x9 x16 (wrap64 (x17 + 1)))) else (none)) else (if x16 = true then (some true) else (if x0.size + x1.size ≤ 9223372036854775807 then ((tcp_MSS.f (x0 ++ x1)).bind fun bt287 => ((tcp_MSS.f x1).bind fun bt290 => (if x9 = true then ((tcp_Right.f (x0 ++ x1)).bind fun t293 => (if t293 = true then (if bt287.1 = x7 then (some (bt287.2.2 == x9)) else (some false)) else (some false))) else ((tcp_Right.f (x0 ++ x1)).bind fun t294 => (if t294 = true then (if bt287.1 = bt290.1 then (some (bt287.2.2 == bt290.2.2)) else (some false)) else (some false)))))) else (none)))
end
def palanquinlaw07_TcpWalks.f (k : Nat) (a0 : ByteArray) (a1 : ByteArray) (a2 : ByteArray) : Option (Bool) := (palanquinlaw07_awake.f).bind fun t273 => (if t273 = true then (if (a0.size : Int) > 500 then (palanquinlaw07_TcpWalks.j0 k a0 a1 a2 true) else (if (a1.size : Int) > 500 then (palanquinlaw07_TcpWalks.j0 k a0 a1 a2 true) else (if (a2.size : Int) > 500 then (palanquinlaw07_TcpWalks.j0 k a0 a1 a2 true) else ((tcp_Right.f a0).bind fun t274 => (if t274 = true then ((tcp_Right.f a1).bind fun t275 => (palanquinlaw07_TcpWalks.j0 k a0 a1 a2 (!t275))) else (palanquinlaw07_TcpWalks.j0 k a0 a1 a2 true)))))) else (some false))
theorem palanquinlaw07_TcpWalks.mono_l : ∀ k, (∀ y0 y1 y2 y3, LeO (palanquinlaw07_TcpWalks.j0 k y0 y1 y2 y3) (palanquinlaw07_TcpWalks.j0 (k + 1) y0 y1 y2 y3)) ∧ (∀ y0 y1 y2 y3 y4 y5, LeO (palanquinlaw07_TcpWalks.j1 k y0 y1 y2 y3 y4 y5) (palanquinlaw07_TcpWalks.j1 (k + 1) y0 y1 y2 y3 y4 y5)) ∧ (∀ y0 y1 y2 y3 y4, LeO (palanquinlaw07_TcpWalks.j2 k y0 y1 y2 y3 y4) (palanquinlaw07_TcpWalks.j2 (k + 1) y0 y1 y2 y3 y4)) ∧ (∀ y0 y1 y2 y3 y4 y5, LeO (palanquinlaw07_TcpWalks.l0 k y0 y1 y2 y3 y4 y5) (palanquinlaw07_TcpWalks.l0 (k + 1) y0 y1 y2 y3 y4 y5))
  | 0 => ⟨fun _ _ _ _ r h => by simp [palanquinlaw07_TcpWalks.j0] at h, fun _ _ _ _ _ _ r h => by simp [palanquinlaw07_TcpWalks.j1] at h, fun _ _ _ _ _ r h => by simp [palanquinlaw07_TcpWalks.j2] at h, fun _ _ _ _ _ _ r h => by simp [palanquinlaw07_TcpWalks.l0] at h⟩
  | k + 1 => by
    obtain ⟨ih0, ih1, ih2, ih3⟩ := palanquinlaw07_TcpWalks.mono_l k
    refine ⟨?_, ?_, ?_, ?_⟩
    · intro y0 y1 y2 y3
      unfold palanquinlaw07_TcpWalks.j0
      repeat' first
      | (with_reducible exact ih0 _ _ _ _)
      | (with_reducible exact ih1 _ _ _ _ _ _)
      | (with_reducible exact ih2 _ _ _ _ _)
      | (with_reducible exact ih3 _ _ _ _ _ _)
      | (with_reducible exact LeO.refl _)
      | (with_reducible exact LeO.none _)
      | (with_reducible refine LeO.ite ?_ ?_)
      | (with_reducible refine LeO.bind ?_ (fun _ => ?_))
      | exact ih0 _ _ _ _
      | exact ih1 _ _ _ _ _ _
      | exact ih2 _ _ _ _ _
      | exact ih3 _ _ _ _ _ _
      | exact LeO.none _
      | refine LeO.ite ?_ ?_
      | refine LeO.bind ?_ (fun _ => ?_)
    · intro y0 y1 y2 y3 y4 y5
      unfold palanquinlaw07_TcpWalks.j1
      repeat' first
      | (with_reducible exact ih0 _ _ _ _)
      | (with_reducible exact ih1 _ _ _ _ _ _)
      | (with_reducible exact ih2 _ _ _ _ _)
      | (with_reducible exact ih3 _ _ _ _ _ _)
      | (with_reducible exact LeO.refl _)
      | (with_reducible exact LeO.none _)
      | (with_reducible refine LeO.ite ?_ ?_)
      | (with_reducible refine LeO.bind ?_ (fun _ => ?_))
      | exact ih0 _ _ _ _
      | exact ih1 _ _ _ _ _ _
      | exact ih2 _ _ _ _ _
      | exact ih3 _ _ _ _ _ _
      | exact LeO.none _
      | refine LeO.ite ?_ ?_
      | refine LeO.bind ?_ (fun _ => ?_)
    · intro y0 y1 y2 y3 y4
      unfold palanquinlaw07_TcpWalks.j2
      repeat' first
      | (with_reducible exact ih0 _ _ _ _)
      | (with_reducible exact ih1 _ _ _ _ _ _)
      | (with_reducible exact ih2 _ _ _ _ _)
      | (with_reducible exact ih3 _ _ _ _ _ _)
      | (with_reducible exact LeO.refl _)
      | (with_reducible exact LeO.none _)
      | (with_reducible refine LeO.ite ?_ ?_)
      | (with_reducible refine LeO.bind ?_ (fun _ => ?_))
      | exact ih0 _ _ _ _
      | exact ih1 _ _ _ _ _ _
      | exact ih2 _ _ _ _ _
      | exact ih3 _ _ _ _ _ _
      | exact LeO.none _
      | refine LeO.ite ?_ ?_
      | refine LeO.bind ?_ (fun _ => ?_)
    · intro y0 y1 y2 y3 y4 y5
      unfold palanquinlaw07_TcpWalks.l0
      repeat' first
      | (with_reducible exact ih0 _ _ _ _)
      | (with_reducible exact ih1 _ _ _ _ _ _)
      | (with_reducible exact ih2 _ _ _ _ _)
      | (with_reducible exact ih3 _ _ _ _ _ _)
      | (with_reducible exact LeO.refl _)
      | (with_reducible exact LeO.none _)
      | (with_reducible refine LeO.ite ?_ ?_)
      | (with_reducible refine LeO.bind ?_ (fun _ => ?_))
      | exact ih0 _ _ _ _
      | exact ih1 _ _ _ _ _ _
      | exact ih2 _ _ _ _ _
      | exact ih3 _ _ _ _ _ _
      | exact LeO.none _
      | refine LeO.ite ?_ ?_
      | refine LeO.bind ?_ (fun _ => ?_)
theorem palanquinlaw07_TcpWalks.mono : ∀ a0 a1 a2 k, LeO (palanquinlaw07_TcpWalks.f k a0 a1 a2) (palanquinlaw07_TcpWalks.f (k + 1) a0 a1 a2) := by
  intro a0 a1 a2 k
  obtain ⟨ih0, ih1, ih2, ih3⟩ := palanquinlaw07_TcpWalks.mono_l k
  unfold palanquinlaw07_TcpWalks.f
  repeat' first
      | (with_reducible exact ih0 _ _ _ _)
      | (with_reducible exact ih1 _ _ _ _ _ _)
      | (with_reducible exact ih2 _ _ _ _ _)
      | (with_reducible exact ih3 _ _ _ _ _ _)
      | (with_reducible exact LeO.refl _)
      | (with_reducible exact LeO.none _)
      | (with_reducible refine LeO.ite ?_ ?_)
      | (with_reducible refine LeO.bind ?_ (fun _ => ?_))
      | exact ih0 _ _ _ _
      | exact ih1 _ _ _ _ _ _
      | exact ih2 _ _ _ _ _
      | exact ih3 _ _ _ _ _ _
      | exact LeO.none _
      | refine LeO.ite ?_ ?_
      | refine LeO.bind ?_ (fun _ => ?_)
set_option maxHeartbeats 8000000 in
set_option maxRecDepth 100000 in
theorem palanquinlaw07_TcpWalks.calls (k : Nat) (a0 : ByteArray) (a1 : ByteArray) (a2 : ByteArray) (r : Bool) (w : World) (h : palanquinlaw07_TcpWalks.f k a0 a1 a2 = some r) (hrt_ : Aside0 (r = true)) :
    Calls Try.prog 12 #[.string a0, .string a1, .string a2] w fun e w' => e = .returned (.bool r) ∧ Below w.heap.size w w' := by
  have HB := Aside0.mk (Below.refl w.heap.size w)
  have H : ((palanquinlaw07_awake.f).bind fun t273 => (if t273 = true then (if (a0.size : Int) > 500 then (palanquinlaw07_TcpWalks.j0 k a0 a1 a2 true) else (if (a1.size : Int) > 500 then (palanquinlaw07_TcpWalks.j0 k a0 a1 a2 true) else (if (a2.size : Int) > 500 then (palanquinlaw07_TcpWalks.j0 k a0 a1 a2 true) else ((tcp_Right.f a0).bind fun t274 => (if t274 = true then ((tcp_Right.f a1).bind fun t275 => (palanquinlaw07_TcpWalks.j0 k a0 a1 a2 (!t275))) else (palanquinlaw07_TcpWalks.j0 k a0 a1 a2 true)))))) else (some false))) = some r := h
  clear h
  replace H := Option.bind_eq_some_iff.mp H
  obtain ⟨t273, A40, H⟩ := H
  replace H : (if t273 = true then (if (a0.size : Int) > 500 then (palanquinlaw07_TcpWalks.j0 k a0 a1 a2 true) else (if (a1.size : Int) > 500 then (palanquinlaw07_TcpWalks.j0 k a0 a1 a2 true) else (if (a2.size : Int) > 500 then (palanquinlaw07_TcpWalks.j0 k a0 a1 a2 true) else ((tcp_Right.f a0).bind fun t274 => (if t274 = true then ((tcp_Right.f a1).bind fun t275 => (palanquinlaw07_TcpWalks.j0 k a0 a1 a2 (!t275))) else (palanquinlaw07_TcpWalks.j0 k a0 a1 a2 true)))))) else (some false)) = some r := H
  have A4 := Aside0.mk A40
  clear A40
  by_cases c5 : t273 = true
  · subst c5
    have H1 : (if (a0.size : Int) > 500 then (palanquinlaw07_TcpWalks.j0 k a0 a1 a2 true) else (if (a1.size : Int) > 500 then (palanquinlaw07_TcpWalks.j0 k a0 a1 a2 true) else (if (a2.size : Int) > 500 then (palanquinlaw07_TcpWalks.j0 k a0 a1 a2 true) else ((tcp_Right.f a0).bind fun t274 => (if t274 = true then ((tcp_Right.f a1).bind fun t275 => (palanquinlaw07_TcpWalks.j0 k a0 a1 a2 (!t275))) else (palanquinlaw07_TcpWalks.j0 k a0 a1 a2 true)))))) = some r := by rw [if_pos rfl] at H; exact H
    clear H
    have H := H1
    clear H1
    have HC6 := Aside0.mk H
    clear H
    go_enter Try.func12, Try.ntmps12
    go_upto_region 3 with (first | ((with_reducible refine gate_callee (f := 61) rfl ?_); refine goesL_ (some 24) rfl rfl Try.func61 (by kernel_rfl) rfl #[] rfl (by (try simp only [List.map_toArray, List.map_cons, List.map_nil]); first | done | rfl | (simp only [List.length_drop, List.length_take]; rfl)) ?_; (with_reducible refine (palanquinlaw07_awake.calls  true _ A4.out).mono ?_); rintro e w7 ⟨rfl, hb⟩; refine ⟨_, rfl, ?_⟩; have n0_ := Aside0.mk (below_step (by repeat (first | (with_reducible first | exact HB.out | apply below_alloc | apply pw_below_drewN | apply below_drew1) | exact HB.out)) hb); clear HB; have HB := n0_; clear n0_; (try clear hb); (try clear hb2); (try clear hk); (try clear hi)))
    (try simp only [Act.put, List.setIfInBounds_toArray, List.set_cons_zero, List.set_cons_succ])
    go_cut [48] (fun v48 wc => ∃ (kq : Nat) (x48_5 : Bool), v48 = .bool x48_5 ∧ Aside0 (palanquinlaw07_TcpWalks.j0 kq a0 a1 a2 x48_5 = some r) ∧ Aside0 (kq ≤ k) ∧ Aside0 (Below w.heap.size w wc))
    case first =>
      have H := HC6.out
      clear HC6
      by_cases c8 : (a0.size : Int) > 500
      · rw [if_pos c8] at H
        have c8b0 : decide (500 < (a0.size : Int)) = true := decide_eq_true c8
        have c8b1 : decide (500 < a0.size) = true := decide_eq_true (by omega)
        clear c8
        (first | rw [c8b0] | (simp only [i64_w, i32_w]; rw [c8b0]) | skip)
        have H' := Aside0.mk H
        clear H
        go_wp2
        go_meet
        case rel => exact ⟨_, (true), (by first | rfl | (simp; done) | (simp [*]; done)), H', ⟨by first | omega | exact Nat.le_refl _⟩, ⟨by repeat (first | (with_reducible first | exact HB.out | apply below_alloc | apply pw_below_drewN | apply below_drew1) | exact HB.out)⟩⟩
      · rw [if_neg c8] at H
        have c8b0 : decide (500 < (a0.size : Int)) = false := decide_eq_false c8
        have c8b1 : decide (500 < a0.size) = false := decide_eq_false (by omega)
        clear c8
        (first | rw [c8b0] | (simp only [i64_w, i32_w]; rw [c8b0]) | skip)
        by_cases c9 : (a1.size : Int) > 500
        · rw [if_pos c9] at H
          have c9b0 : decide (500 < (a1.size : Int)) = true := decide_eq_true c9
          have c9b1 : decide (500 < a1.size) = true := decide_eq_true (by omega)
          clear c9
          have H' := Aside0.mk H
          clear H
          go_wp2
          go_meet
          case rel => exact ⟨_, (true), (by first | rfl | (simp; done) | (simp [*]; done)), H', ⟨by first | omega | exact Nat.le_refl _⟩, ⟨by repeat (first | (with_reducible first | exact HB.out | apply below_alloc | apply pw_below_drewN | apply below_drew1) | exact HB.out)⟩⟩
        · rw [if_neg c9] at H
          have c9b0 : decide (500 < (a1.size : Int)) = false := decide_eq_false c9
          have c9b1 : decide (500 < a1.size) = false := decide_eq_false (by omega)
          clear c9
          by_cases c10 : (a2.size : Int) > 500
          · rw [if_pos c10] at H
            have c10b0 : decide (500 < (a2.size : Int)) = true := decide_eq_true c10
            have c10b1 : decide (500 < a2.size) = true := decide_eq_true (by omega)
            clear c10
            have H' := Aside0.mk H
            clear H
            go_wp2
            go_meet
            case rel => exact ⟨_, (true), (by first | rfl | (simp; done) | (simp [*]; done)), H', ⟨by first | omega | exact Nat.le_refl _⟩, ⟨by repeat (first | (with_reducible first | exact HB.out | apply below_alloc | apply pw_below_drewN | apply below_drew1) | exact HB.out)⟩⟩
          · rw [if_neg c10] at H
            have c10b0 : decide (500 < (a2.size : Int)) = false := decide_eq_false c10
            have c10b1 : decide (500 < a2.size) = false := decide_eq_false (by omega)
            clear c10
            replace H := Option.bind_eq_some_iff.mp H
            obtain ⟨t274, A110, H⟩ := H
            replace H : (if t274 = true then ((tcp_Right.f a1).bind fun t275 => (palanquinlaw07_TcpWalks.j0 k a0 a1 a2 (!t275))) else (palanquinlaw07_TcpWalks.j0 k a0 a1 a2 true)) = some r := H
            have A11 := Aside0.mk A110
            clear A110
            by_cases c12 : t274 = true
            · subst c12
              have H1 : ((tcp_Right.f a1).bind fun t275 => (palanquinlaw07_TcpWalks.j0 k a0 a1 a2 (!t275))) = some r := by rw [if_pos rfl] at H; exact H
              clear H
              have H := H1
              clear H1
              replace H := Option.bind_eq_some_iff.mp H
              obtain ⟨t275, A130, H⟩ := H
              replace H : (palanquinlaw07_TcpWalks.j0 k a0 a1 a2 (!t275)) = some r := H
              have A13 := Aside0.mk A130
              clear A130
              have H' := Aside0.mk H
              clear H
              go_wp2_with (first | (go_at_call 65; (with_reducible refine (tcp_Right.calls a0 true _ A11.out).mono ?_); rintro e w14 ⟨rfl, hb⟩; have n0_ := Aside0.mk (below_step (by repeat (first | (with_reducible first | exact HB.out | apply below_alloc | apply pw_below_drewN | apply below_drew1) | exact HB.out)) hb); clear HB; have HB := n0_; clear n0_; (try clear hb); (try clear hb2); (try clear hk); (try clear hi)) | (go_at_call 65; (with_reducible refine (tcp_Right.calls a1 t275 _ A13.out).mono ?_); rintro e w15 ⟨rfl, hb⟩; have n0_ := Aside0.mk (below_step (by repeat (first | (with_reducible first | exact HB.out | apply below_alloc | apply pw_below_drewN | apply below_drew1) | exact HB.out)) hb); clear HB; have HB := n0_; clear n0_; (try clear hb); (try clear hb2); (try clear hk); (try clear hi)))
              go_meet
              case rel => exact ⟨_, (!t275), (by first | rfl | (simp; done) | (simp [*]; done)), H', ⟨by first | omega | exact Nat.le_refl _⟩, ⟨by repeat (first | (with_reducible first | exact HB.out | apply below_alloc | apply pw_below_drewN | apply below_drew1) | exact HB.out)⟩⟩
            · replace c12 := Bool.eq_false_iff.mpr c12
              subst c12
              have H1 : (palanquinlaw07_TcpWalks.j0 k a0 a1 a2 true) = some r := by rw [if_neg (show ¬ (false = true) by decide)] at H; exact H
              clear H
              have H := H1
              clear H1
              have H' := Aside0.mk H
              clear H
              go_wp2_with (first | (go_at_call 65; (with_reducible refine (tcp_Right.calls a0 false _ A11.out).mono ?_); rintro e w16 ⟨rfl, hb⟩; have n0_ := Aside0.mk (below_step (by repeat (first | (with_reducible first | exact HB.out | apply below_alloc | apply pw_below_drewN | apply below_drew1) | exact HB.out)) hb); clear HB; have HB := n0_; clear n0_; (try clear hb); (try clear hb2); (try clear hk); (try clear hi)))
              go_meet
              case rel => exact ⟨_, (true), (by first | rfl | (simp; done) | (simp [*]; done)), H', ⟨by first | omega | exact Nat.le_refl _⟩, ⟨by repeat (first | (with_reducible first | exact HB.out | apply below_alloc | apply pw_below_drewN | apply below_drew1) | exact HB.out)⟩⟩
    case rest =>
      clear HC6
      try clear c1
      try clear p2
      try clear c5
      try clear c6
      try clear c8
      try clear c8b0
      try clear c8b1
      try clear c9
      try clear c9b0
      try clear c9b1
      try clear c10
      try clear c10b0
      try clear c10b1
      try clear c12
      obtain ⟨kq, x48_5, rfl, HA, HJ5, HB⟩ := hcut
      cases kq with
      | zero => exact absurd HA.out (by simp [palanquinlaw07_TcpWalks.j0])
      | succ kj5 =>
        have H := HA.out
        clear HA
        simp only [palanquinlaw07_TcpWalks.j0] at H
        by_cases c17 : x48_5 = true
        · subst c17
          have H1 : (some true) = some r := by rw [if_pos rfl] at H; exact H
          clear H
          have H := H1
          clear H1
          obtain rfl := Option.some.inj H
          go_wp2
          go_ret
          exact ⟨by first | rfl | (simp [errW_none, errW_some] <;> rfl) | (simp [*, errW_none, errW_some] <;> rfl), by repeat (first | (with_reducible first | exact HB.out | apply below_alloc | apply pw_below_drewN | apply below_drew1) | exact HB.out)⟩
        · replace c17 := Bool.eq_false_iff.mpr c17
          subst c17
          have H1 : ((tcp_MSS.f a0).bind fun bt276 => (if 1 + a0.size ≤ 9223372036854775807 then ((tcp_MSS.f ((⟨#[1]⟩ : ByteArray) ++ a0)).bind fun bt279 => ((tcp_Right.f ((⟨#[1]⟩ : ByteArray) ++ a0)).bind fun t282 => (if t282 = true then (if bt279.1 = bt276.1 then (if (bt276.2.2 != bt279.2.2) = true then (palanquinlaw07_TcpWalks.j1 kj5 a0 a1 a2 bt276.1 bt276.2.2 true) else (if bt276.2.2 = true then (palanquinlaw07_TcpWalks.j1 kj5 a0 a1 a2 bt276.1 bt276.2.2 (bt279.2.1 != (wrap64 (bt276.2.1 + 1)))) else (palanquinlaw07_TcpWalks.j1 kj5 a0 a1 a2 bt276.1 bt276.2.2 false))) else (palanquinlaw07_TcpWalks.j1 kj5 a0 a1 a2 bt276.1 bt276.2.2 true)) else (palanquinlaw07_TcpWalks.j1 kj5 a0 a1 a2 bt276.1 bt276.2.2 true)))) else (none))) = some r := by rw [if_neg (show ¬ (false = true) by decide)] at H; exact H
          clear H
          have H := H1
          clear H1
          replace H := Option.bind_eq_some_iff.mp H
          obtain ⟨⟨t276, t277, t278⟩, A180, H⟩ := H
          replace H : (if 1 + a0.size ≤ 9223372036854775807 then ((tcp_MSS.f ((⟨#[1]⟩ : ByteArray) ++ a0)).bind fun bt279 => ((tcp_Right.f ((⟨#[1]⟩ : ByteArray) ++ a0)).bind fun t282 => (if t282 = true then (if bt279.1 = t276 then (if (t278 != bt279.2.2) = true then (palanquinlaw07_TcpWalks.j1 kj5 a0 a1 a2 t276 t278 true) else (if t278 = true then (palanquinlaw07_TcpWalks.j1 kj5 a0 a1 a2 t276 t278 (bt279.2.1 != (wrap64 (t277 + 1)))) else (palanquinlaw07_TcpWalks.j1 kj5 a0 a1 a2 t276 t278 false))) else (palanquinlaw07_TcpWalks.j1 kj5 a0 a1 a2 t276 t278 true)) else (palanquinlaw07_TcpWalks.j1 kj5 a0 a1 a2 t276 t278 true)))) else (none)) = some r := H
          have A18 := Aside0.mk A180
          clear A180
          by_cases c19 : 1 + a0.size ≤ 9223372036854775807
          · rw [if_pos c19] at H
            have c19b0 := eq_true c19
            have c19b1 : decide (1 + a0.size ≤ 9223372036854775807) = true := decide_eq_true c19
            try have c19b2 : (9223372036854775807 < 1 + a0.size) = False := eq_false (Nat.not_lt.2 c19)
            replace H := Option.bind_eq_some_iff.mp H
            obtain ⟨⟨t279, t280, t281⟩, A200, H⟩ := H
            replace H : ((tcp_Right.f ((⟨#[1]⟩ : ByteArray) ++ a0)).bind fun t282 => (if t282 = true then (if t279 = t276 then (if (t278 != t281) = true then (palanquinlaw07_TcpWalks.j1 kj5 a0 a1 a2 t276 t278 true) else (if t278 = true then (palanquinlaw07_TcpWalks.j1 kj5 a0 a1 a2 t276 t278 (t280 != (wrap64 (t277 + 1)))) else (palanquinlaw07_TcpWalks.j1 kj5 a0 a1 a2 t276 t278 false))) else (palanquinlaw07_TcpWalks.j1 kj5 a0 a1 a2 t276 t278 true)) else (palanquinlaw07_TcpWalks.j1 kj5 a0 a1 a2 t276 t278 true))) = some r := H
            have A20 := Aside0.mk A200
            clear A200
            have HC21 := Aside0.mk H
            clear H
            go_upto_region 7 with (first | ((with_reducible refine gate_callee (f := 63) rfl ?_); refine goesL_ (some 51) rfl rfl Try.func63 (by kernel_rfl) rfl #[.string a0] rfl (by (try simp only [List.map_toArray, List.map_cons, List.map_nil]); first | done | rfl | (simp only [List.length_drop, List.length_take]; rfl)) ?_; (with_reducible refine (tcp_MSS.calls a0 t276 t277 t278 _ A18.out).mono ?_); rintro e w22 ⟨rfl, hb⟩; refine ⟨_, rfl, ?_⟩; have n0_ := Aside0.mk (below_step (by repeat (first | (with_reducible first | exact HB.out | apply below_alloc | apply pw_below_drewN | apply below_drew1) | exact HB.out)) hb); clear HB; have HB := n0_; clear n0_; (try clear hb); (try clear hb2); (try clear hk); (try clear hi)) | ((with_reducible refine gate_callee (f := 63) rfl ?_); refine goesL_ (some 58) rfl rfl Try.func63 (by kernel_rfl) rfl #[.string ((⟨#[1]⟩ : ByteArray) ++ a0)] rfl (by (try simp only [List.map_toArray, List.map_cons, List.map_nil]); first | done | rfl | (simp only [List.length_drop, List.length_take]; rfl)) ?_; (with_reducible refine (tcp_MSS.calls ((⟨#[1]⟩ : ByteArray) ++ a0) t279 t280 t281 _ A20.out).mono ?_); rintro e w23 ⟨rfl, hb⟩; refine ⟨_, rfl, ?_⟩; have n0_ := Aside0.mk (below_step (by repeat (first | (with_reducible first | exact HB.out | apply below_alloc | apply pw_below_drewN | apply below_drew1) | exact HB.out)) hb); clear HB; have HB := n0_; clear n0_; (try clear hb); (try clear hb2); (try clear hk); (try clear hi)))
            (try simp only [Act.put, List.setIfInBounds_toArray, List.set_cons_zero, List.set_cons_succ])
            go_cut [84] (fun v84 wc => ∃ (kq : Nat) (x84_20 : Bool), v84 = .bool x84_20 ∧ Aside0 (palanquinlaw07_TcpWalks.j1 kq a0 a1 a2 t276 t278 x84_20 = some r) ∧ Aside0 (kq ≤ kj5) ∧ Aside0 (Below w.heap.size w wc))
            case first =>
              have H := HC21.out
              clear HC21
              replace H := Option.bind_eq_some_iff.mp H
              obtain ⟨t282, A240, H⟩ := H
              replace H : (if t282 = true then (if t279 = t276 then (if (t278 != t281) = true then (palanquinlaw07_TcpWalks.j1 kj5 a0 a1 a2 t276 t278 true) else (if t278 = true then (palanquinlaw07_TcpWalks.j1 kj5 a0 a1 a2 t276 t278 (t280 != (wrap64 (t277 + 1)))) else (palanquinlaw07_TcpWalks.j1 kj5 a0 a1 a2 t276 t278 false))) else (palanquinlaw07_TcpWalks.j1 kj5 a0 a1 a2 t276 t278 true)) else (palanquinlaw07_TcpWalks.j1 kj5 a0 a1 a2 t276 t278 true)) = some r := H
              have A24 := Aside0.mk A240
              clear A240
              by_cases c25 : t282 = true
              · subst c25
                have H1 : (if t279 = t276 then (if (t278 != t281) = true then (palanquinlaw07_TcpWalks.j1 kj5 a0 a1 a2 t276 t278 true) else (if t278 = true then (palanquinlaw07_TcpWalks.j1 kj5 a0 a1 a2 t276 t278 (t280 != (wrap64 (t277 + 1)))) else (palanquinlaw07_TcpWalks.j1 kj5 a0 a1 a2 t276 t278 false))) else (palanquinlaw07_TcpWalks.j1 kj5 a0 a1 a2 t276 t278 true)) = some r := by rw [if_pos rfl] at H; exact H
                clear H
                have H := H1
                clear H1
                by_cases c26 : t279 = t276
                · rw [if_pos c26] at H
                  have c26b0 : (t279 == t276) = true := beq_iff_eq.mpr c26
                  have c26b1 : (t279 != t276) = false := bne_eq_false_iff_eq.mpr c26
                  clear c26
                  (first | rw [c26b0] | (simp only [i64_w, i32_w]; rw [c26b0]) | skip)
                  by_cases c27 : (t278 != t281) = true
                  · rw [if_pos c27] at H
                    have c27b0 : (t278 != t281) = true := c27
                    (try (have c27b1 : decide (t278 = t281) = false := by simpa using c27))
                    (try (have c27b2 : (t278 == t281) = false := by simpa using c27))
                    (try (have c27b3 : ¬ (t278 = t281) := by simpa using c27))
                    clear c27
                    have H' := Aside0.mk H
                    clear H
                    go_wp2_with (first | ((with_reducible refine gate_callee (f := 65) rfl ?_); refine goesL_ (some 64) rfl rfl Try.func65 (by kernel_rfl) rfl #[.string ((⟨#[1]⟩ : ByteArray) ++ a0)] rfl (by (try simp only [List.map_toArray, List.map_cons, List.map_nil]); first | done | rfl | (simp only [List.length_drop, List.length_take]; rfl)) ?_; (with_reducible refine (tcp_Right.calls ((⟨#[1]⟩ : ByteArray) ++ a0) true _ A24.out).mono ?_); rintro e w28 ⟨rfl, hb⟩; refine ⟨_, rfl, ?_⟩; have n0_ := Aside0.mk (below_step (by repeat (first | (with_reducible first | exact HB.out | apply below_alloc | apply pw_below_drewN | apply below_drew1) | exact HB.out)) hb); clear HB; have HB := n0_; clear n0_; (try clear hb); (try clear hb2); (try clear hk); (try clear hi)))
                    go_meet
                    case rel => exact ⟨_, (true), (by first | rfl | (simp; done) | (simp [*]; done)), H', ⟨by have := HJ5.out; first | omega | exact Nat.le_refl _⟩, ⟨by repeat (first | (with_reducible first | exact HB.out | apply below_alloc | apply pw_below_drewN | apply below_drew1) | exact HB.out)⟩⟩
                  · rw [if_neg c27] at H
                    have c27b0 : (t278 != t281) = false := by simpa using c27
                    (try (have c27b1 : decide (t278 = t281) = true := by simpa using c27))
                    (try (have c27b2 : (t278 == t281) = true := by simpa using c27))
                    clear c27
                    by_cases c29 : t278 = true
                    · subst c29
                      have H1 : (palanquinlaw07_TcpWalks.j1 kj5 a0 a1 a2 t276 true (t280 != (wrap64 (t277 + 1)))) = some r := by rw [if_pos rfl] at H; exact H
                      clear H
                      have H := H1
                      clear H1
                      have H' := Aside0.mk H
                      clear H
                      go_wp2_with (first | ((with_reducible refine gate_callee (f := 65) rfl ?_); refine goesL_ (some 64) rfl rfl Try.func65 (by kernel_rfl) rfl #[.string ((⟨#[1]⟩ : ByteArray) ++ a0)] rfl (by (try simp only [List.map_toArray, List.map_cons, List.map_nil]); first | done | rfl | (simp only [List.length_drop, List.length_take]; rfl)) ?_; (with_reducible refine (tcp_Right.calls ((⟨#[1]⟩ : ByteArray) ++ a0) true _ A24.out).mono ?_); rintro e w30 ⟨rfl, hb⟩; refine ⟨_, rfl, ?_⟩; have n0_ := Aside0.mk (below_step (by repeat (first | (with_reducible first | exact HB.out | apply below_alloc | apply pw_below_drewN | apply below_drew1) | exact HB.out)) hb); clear HB; have HB := n0_; clear n0_; (try clear hb); (try clear hb2); (try clear hk); (try clear hi)))
                      go_meet
                      case rel => exact ⟨_, ((t280 != (wrap64 (t277 + 1)))), (by first | rfl | (simp; done) | (simp [*]; done)), H', ⟨by have := HJ5.out; first | omega | exact Nat.le_refl _⟩, ⟨by repeat (first | (with_reducible first | exact HB.out | apply below_alloc | apply pw_below_drewN | apply below_drew1) | exact HB.out)⟩⟩
                    · replace c29 := Bool.eq_false_iff.mpr c29
                      subst c29
                      have H1 : (palanquinlaw07_TcpWalks.j1 kj5 a0 a1 a2 t276 false false) = some r := by rw [if_neg (show ¬ (false = true) by decide)] at H; exact H
                      clear H
                      have H := H1
                      clear H1
                      have H' := Aside0.mk H
                      clear H
                      go_wp2_with (first | ((with_reducible refine gate_callee (f := 65) rfl ?_); refine goesL_ (some 64) rfl rfl Try.func65 (by kernel_rfl) rfl #[.string ((⟨#[1]⟩ : ByteArray) ++ a0)] rfl (by (try simp only [List.map_toArray, List.map_cons, List.map_nil]); first | done | rfl | (simp only [List.length_drop, List.length_take]; rfl)) ?_; (with_reducible refine (tcp_Right.calls ((⟨#[1]⟩ : ByteArray) ++ a0) true _ A24.out).mono ?_); rintro e w31 ⟨rfl, hb⟩; refine ⟨_, rfl, ?_⟩; have n0_ := Aside0.mk (below_step (by repeat (first | (with_reducible first | exact HB.out | apply below_alloc | apply pw_below_drewN | apply below_drew1) | exact HB.out)) hb); clear HB; have HB := n0_; clear n0_; (try clear hb); (try clear hb2); (try clear hk); (try clear hi)))
                      go_meet
                      case rel => exact ⟨_, (false), (by first | rfl | (simp; done) | (simp [*]; done)), H', ⟨by have := HJ5.out; first | omega | exact Nat.le_refl _⟩, ⟨by repeat (first | (with_reducible first | exact HB.out | apply below_alloc | apply pw_below_drewN | apply below_drew1) | exact HB.out)⟩⟩
                · rw [if_neg c26] at H
                  have c26b0 : (t279 == t276) = false := beq_eq_false_iff_ne.mpr c26
                  have c26b1 : (t279 != t276) = true := bne_iff_ne.mpr c26
                  (first | rw [c26b0] | (simp only [i64_w, i32_w]; rw [c26b0]) | skip)
                  have H' := Aside0.mk H
                  clear H
                  go_wp2_with (first | ((with_reducible refine gate_callee (f := 65) rfl ?_); refine goesL_ (some 64) rfl rfl Try.func65 (by kernel_rfl) rfl #[.string ((⟨#[1]⟩ : ByteArray) ++ a0)] rfl (by (try simp only [List.map_toArray, List.map_cons, List.map_nil]); first | done | rfl | (simp only [List.length_drop, List.length_take]; rfl)) ?_; (with_reducible refine (tcp_Right.calls ((⟨#[1]⟩ : ByteArray) ++ a0) true _ A24.out).mono ?_); rintro e w32 ⟨rfl, hb⟩; refine ⟨_, rfl, ?_⟩; have n0_ := Aside0.mk (below_step (by repeat (first | (with_reducible first | exact HB.out | apply below_alloc | apply pw_below_drewN | apply below_drew1) | exact HB.out)) hb); clear HB; have HB := n0_; clear n0_; (try clear hb); (try clear hb2); (try clear hk); (try clear hi)))
                  go_meet
                  case rel => exact ⟨_, (true), (by first | rfl | (simp; done) | (simp [*]; done)), H', ⟨by have := HJ5.out; first | omega | exact Nat.le_refl _⟩, ⟨by repeat (first | (with_reducible first | exact HB.out | apply below_alloc | apply pw_below_drewN | apply below_drew1) | exact HB.out)⟩⟩
              · replace c25 := Bool.eq_false_iff.mpr c25
                subst c25
                have H1 : (palanquinlaw07_TcpWalks.j1 kj5 a0 a1 a2 t276 t278 true) = some r := by rw [if_neg (show ¬ (false = true) by decide)] at H; exact H
                clear H
                have H := H1
                clear H1
                have H' := Aside0.mk H
                clear H
                go_wp2_with (first | ((with_reducible refine gate_callee (f := 65) rfl ?_); refine goesL_ (some 64) rfl rfl Try.func65 (by kernel_rfl) rfl #[.string ((⟨#[1]⟩ : ByteArray) ++ a0)] rfl (by (try simp only [List.map_toArray, List.map_cons, List.map_nil]); first | done | rfl | (simp only [List.length_drop, List.length_take]; rfl)) ?_; (with_reducible refine (tcp_Right.calls ((⟨#[1]⟩ : ByteArray) ++ a0) false _ A24.out).mono ?_); rintro e w33 ⟨rfl, hb⟩; refine ⟨_, rfl, ?_⟩; have n0_ := Aside0.mk (below_step (by repeat (first | (with_reducible first | exact HB.out | apply below_alloc | apply pw_below_drewN | apply below_drew1) | exact HB.out)) hb); clear HB; have HB := n0_; clear n0_; (try clear hb); (try clear hb2); (try clear hk); (try clear hi)))
                go_meet
                case rel => exact ⟨_, (true), (by first | rfl | (simp; done) | (simp [*]; done)), H', ⟨by have := HJ5.out; first | omega | exact Nat.le_refl _⟩, ⟨by repeat (first | (with_reducible first | exact HB.out | apply below_alloc | apply pw_below_drewN | apply below_drew1) | exact HB.out)⟩⟩
            case rest =>
              clear HC21
              try clear c1
              try clear c2
              try clear p2
              try clear c5
              try clear c6
              try clear p6
              try clear c8
              try clear c8b0
              try clear c8b1
              try clear c9
              try clear c9b0
              try clear c9b1
              try clear c10
              try clear c10b0
              try clear c10b1
              try clear c12
              try clear c17
              try clear c19
              try clear c19b0
              try clear c19b1
              try clear c19b2
              try clear c25
              try clear c26
              try clear c26b0
              try clear c26b1
              try clear c27
              try clear c27b0
              try clear c27b1
              try clear c27b2
              try clear c29
              try clear p2
              obtain ⟨kq, x84_20, rfl, HA, HJ20, HB⟩ := hcut
              cases kq with
              | zero => exact absurd HA.out (by simp [palanquinlaw07_TcpWalks.j1])
              | succ kj20 =>
                have H := HA.out
                clear HA
                simp only [palanquinlaw07_TcpWalks.j1] at H
                by_cases c34 : x84_20 = true
                · subst c34
                  have H1 : (some false) = some r := by rw [if_pos rfl] at H; exact H
                  exact absurd ((Option.some.inj H1).trans hrt_.out) (by decide)
                · replace c34 := Bool.eq_false_iff.mpr c34
                  subst c34
                  have H1 : (if a0.size + 1 ≤ 9223372036854775807 then (if (a0 ++ (⟨#[0]⟩ : ByteArray)).size + a2.size ≤ 9223372036854775807 then ((tcp_MSS.f ((a0 ++ (⟨#[0]⟩ : ByteArray)) ++ a2)).bind fun bt283 => ((tcp_Right.f ((a0 ++ (⟨#[0]⟩ : ByteArray)) ++ a2)).bind fun t286 => (if t286 = true then (if (bt283.2.2 != t278) = true then (palanquinlaw07_TcpWalks.j2 kj20 a0 a1 t276 t278 true) else (palanquinlaw07_TcpWalks.j2 kj20 a0 a1 t276 t278 (bt283.1 != t276))) else (palanquinlaw07_TcpWalks.j2 kj20 a0 a1 t276 t278 true)))) else (none)) else (none)) = some r := by rw [if_neg (show ¬ (false = true) by decide)] at H; exact H
                  clear H
                  have H := H1
                  clear H1
                  by_cases c35 : a0.size + 1 ≤ 9223372036854775807
                  · rw [if_pos c35] at H
                    have c35b0 := eq_true c35
                    have c35b1 : decide (a0.size + 1 ≤ 9223372036854775807) = true := decide_eq_true c35
                    try have c35b2 : (9223372036854775807 < a0.size + 1) = False := eq_false (Nat.not_lt.2 c35)
                    by_cases c36 : (a0 ++ (⟨#[0]⟩ : ByteArray)).size + a2.size ≤ 9223372036854775807
                    · rw [if_pos c36] at H
                      have c36b0 := eq_true c36
                      have c36b1 : decide ((a0 ++ (⟨#[0]⟩ : ByteArray)).size + a2.size ≤ 9223372036854775807) = true := decide_eq_true c36
                      try have c36b2 : (9223372036854775807 < (a0 ++ (⟨#[0]⟩ : ByteArray)).size + a2.size) = False := eq_false (Nat.not_lt.2 c36)
                      try have c36b3 : (9223372036854775807 < (a0.size) + 1 + a2.size) = False := eq_false (by have h_ := c36; simp only [ByteArray.size_append] at h_; omega)
                      try have c36b4 : ((a0.size) + 1 + a2.size ≤ 9223372036854775807) = True := eq_true (by have h_ := c36; simp only [ByteArray.size_append] at h_; omega)
                      replace H := Option.bind_eq_some_iff.mp H
                      obtain ⟨⟨t283, t284, t285⟩, A370, H⟩ := H
                      replace H : ((tcp_Right.f ((a0 ++ (⟨#[0]⟩ : ByteArray)) ++ a2)).bind fun t286 => (if t286 = true then (if (t285 != t278) = true then (palanquinlaw07_TcpWalks.j2 kj20 a0 a1 t276 t278 true) else (palanquinlaw07_TcpWalks.j2 kj20 a0 a1 t276 t278 (t283 != t276))) else (palanquinlaw07_TcpWalks.j2 kj20 a0 a1 t276 t278 true))) = some r := H
                      have A37 := Aside0.mk A370
                      clear A370
                      have HC38 := Aside0.mk H
                      clear H
                      go_upto_region 10 with (first | ((with_reducible refine gate_callee (f := 63) rfl ?_); refine goesL_ (some 90) rfl rfl Try.func63 (by kernel_rfl) rfl #[.string ((a0 ++ (⟨#[0]⟩ : ByteArray)) ++ a2)] rfl (by (try simp only [List.map_toArray, List.map_cons, List.map_nil]); first | done | rfl | (simp only [List.length_drop, List.length_take]; rfl)) ?_; (with_reducible refine (tcp_MSS.calls ((a0 ++ (⟨#[0]⟩ : ByteArray)) ++ a2) t283 t284 t285 _ A37.out).mono ?_); rintro e w39 ⟨rfl, hb⟩; refine ⟨_, rfl, ?_⟩; have n0_ := Aside0.mk (below_step (by repeat (first | (with_reducible first | exact HB.out | apply below_alloc | apply pw_below_drewN | apply below_drew1) | exact HB.out)) hb); clear HB; have HB := n0_; clear n0_; (try clear hb); (try clear hb2); (try clear hk); (try clear hi)))
                      (try simp only [Act.put, List.setIfInBounds_toArray, List.set_cons_zero, List.set_cons_succ])
                      go_cut [109] (fun v109 wc => ∃ (kq : Nat) (x109_37 : Bool), v109 = .bool x109_37 ∧ Aside0 (palanquinlaw07_TcpWalks.j2 kq a0 a1 t276 t278 x109_37 = some r) ∧ Aside0 (kq ≤ kj20) ∧ Aside0 (Below w.heap.size w wc))
                      case first =>
                        have H := HC38.out
                        clear HC38
                        replace H := Option.bind_eq_some_iff.mp H
                        obtain ⟨t286, A400, H⟩ := H
                        replace H : (if t286 = true then (if (t285 != t278) = true then (palanquinlaw07_TcpWalks.j2 kj20 a0 a1 t276 t278 true) else (palanquinlaw07_TcpWalks.j2 kj20 a0 a1 t276 t278 (t283 != t276))) else (palanquinlaw07_TcpWalks.j2 kj20 a0 a1 t276 t278 true)) = some r := H
                        have A40 := Aside0.mk A400
                        clear A400
                        by_cases c41 : t286 = true
                        · subst c41
                          have H1 : (if (t285 != t278) = true then (palanquinlaw07_TcpWalks.j2 kj20 a0 a1 t276 t278 true) else (palanquinlaw07_TcpWalks.j2 kj20 a0 a1 t276 t278 (t283 != t276))) = some r := by rw [if_pos rfl] at H; exact H
                          clear H
                          have H := H1
                          clear H1
                          by_cases c42 : (t285 != t278) = true
                          · rw [if_pos c42] at H
                            have c42b0 : (t285 != t278) = true := c42
                            (try (have c42b1 : decide (t285 = t278) = false := by simpa using c42))
                            (try (have c42b2 : (t285 == t278) = false := by simpa using c42))
                            (try (have c42b3 : ¬ (t285 = t278) := by simpa using c42))
                            clear c42
                            (first | rw [c42b0] | (simp only [i64_w, i32_w]; rw [c42b0]) | skip)
                            have H' := Aside0.mk H
                            clear H
                            go_wp2_with (first | ((with_reducible refine gate_callee (f := 65) rfl ?_); refine goesL_ (some 98) rfl rfl Try.func65 (by kernel_rfl) rfl #[.string ((a0 ++ (⟨#[0]⟩ : ByteArray)) ++ a2)] rfl (by (try simp only [List.map_toArray, List.map_cons, List.map_nil]); first | done | rfl | (simp only [List.length_drop, List.length_take]; rfl)) ?_; (with_reducible refine (tcp_Right.calls ((a0 ++ (⟨#[0]⟩ : ByteArray)) ++ a2) true _ A40.out).mono ?_); rintro e w43 ⟨rfl, hb⟩; refine ⟨_, rfl, ?_⟩; have n0_ := Aside0.mk (below_step (by repeat (first | (with_reducible first | exact HB.out | apply below_alloc | apply pw_below_drewN | apply below_drew1) | exact HB.out)) hb); clear HB; have HB := n0_; clear n0_; (try clear hb); (try clear hb2); (try clear hk); (try clear hi)))
                            go_meet
                            case rel => exact ⟨_, (true), (by first | rfl | (simp; done) | (simp [*]; done)), H', ⟨by have := HJ5.out; have := HJ20.out; first | omega | exact Nat.le_refl _⟩, ⟨by repeat (first | (with_reducible first | exact HB.out | apply below_alloc | apply pw_below_drewN | apply below_drew1) | exact HB.out)⟩⟩
                          · rw [if_neg c42] at H
                            have c42b0 : (t285 != t278) = false := by simpa using c42
                            (try (have c42b1 : decide (t285 = t278) = true := by simpa using c42))
                            (try (have c42b2 : (t285 == t278) = true := by simpa using c42))
                            clear c42
                            (first | rw [c42b0] | (simp only [i64_w, i32_w]; rw [c42b0]) | skip)
                            have H' := Aside0.mk H
                            clear H
                            go_wp2_with (first | ((with_reducible refine gate_callee (f := 65) rfl ?_); refine goesL_ (some 98) rfl rfl Try.func65 (by kernel_rfl) rfl #[.string ((a0 ++ (⟨#[0]⟩ : ByteArray)) ++ a2)] rfl (by (try simp only [List.map_toArray, List.map_cons, List.map_nil]); first | done | rfl | (simp only [List.length_drop, List.length_take]; rfl)) ?_; (with_reducible refine (tcp_Right.calls ((a0 ++ (⟨#[0]⟩ : ByteArray)) ++ a2) true _ A40.out).mono ?_); rintro e w44 ⟨rfl, hb⟩; refine ⟨_, rfl, ?_⟩; have n0_ := Aside0.mk (below_step (by repeat (first | (with_reducible first | exact HB.out | apply below_alloc | apply pw_below_drewN | apply below_drew1) | exact HB.out)) hb); clear HB; have HB := n0_; clear n0_; (try clear hb); (try clear hb2); (try clear hk); (try clear hi)))
                            go_meet
                            case rel => exact ⟨_, ((t283 != t276)), (by first | rfl | (simp; done) | (simp [*]; done)), H', ⟨by have := HJ5.out; have := HJ20.out; first | omega | exact Nat.le_refl _⟩, ⟨by repeat (first | (with_reducible first | exact HB.out | apply below_alloc | apply pw_below_drewN | apply below_drew1) | exact HB.out)⟩⟩
                        · replace c41 := Bool.eq_false_iff.mpr c41
                          subst c41
                          have H1 : (palanquinlaw07_TcpWalks.j2 kj20 a0 a1 t276 t278 true) = some r := by rw [if_neg (show ¬ (false = true) by decide)] at H; exact H
                          clear H
                          have H := H1
                          clear H1
                          have H' := Aside0.mk H
                          clear H
                          go_wp2_with (first | ((with_reducible refine gate_callee (f := 65) rfl ?_); refine goesL_ (some 98) rfl rfl Try.func65 (by kernel_rfl) rfl #[.string ((a0 ++ (⟨#[0]⟩ : ByteArray)) ++ a2)] rfl (by (try simp only [List.map_toArray, List.map_cons, List.map_nil]); first | done | rfl | (simp only [List.length_drop, List.length_take]; rfl)) ?_; (with_reducible refine (tcp_Right.calls ((a0 ++ (⟨#[0]⟩ : ByteArray)) ++ a2) false _ A40.out).mono ?_); rintro e w45 ⟨rfl, hb⟩; refine ⟨_, rfl, ?_⟩; have n0_ := Aside0.mk (below_step (by repeat (first | (with_reducible first | exact HB.out | apply below_alloc | apply pw_below_drewN | apply below_drew1) | exact HB.out)) hb); clear HB; have HB := n0_; clear n0_; (try clear hb); (try clear hb2); (try clear hk); (try clear hi)))
                          go_meet
                          case rel => exact ⟨_, (true), (by first | rfl | (simp; done) | (simp [*]; done)), H', ⟨by have := HJ5.out; have := HJ20.out; first | omega | exact Nat.le_refl _⟩, ⟨by repeat (first | (with_reducible first | exact HB.out | apply below_alloc | apply pw_below_drewN | apply below_drew1) | exact HB.out)⟩⟩
                      case rest =>
                        clear HC38
                        try clear c1
                        try clear c2
                        try clear p2
                        try clear c3
                        try clear c4
                        try clear c5
                        try clear c6
                        try clear p6
                        try clear c8
                        try clear c8b0
                        try clear c8b1
                        try clear c9
                        try clear c9b0
                        try clear c9b1
                        try clear c10
                        try clear c10b0
                        try clear c10b1
                        try clear c12
                        try clear c17
                        try clear c19
                        try clear c19b0
                        try clear c19b1
                        try clear c19b2
                        try clear c25
                        try clear c26
                        try clear c26b0
                        try clear c26b1
                        try clear c27
                        try clear c27b0
                        try clear c27b1
                        try clear c27b2
                        try clear c29
                        try clear c34
                        try clear c35
                        try clear c35b0
                        try clear c35b1
                        try clear c35b2
                        try clear c36
                        try clear c36b0
                        try clear c36b1
                        try clear c36b2
                        try clear c41
                        try clear c42
                        try clear c42b0
                        try clear c42b1
                        try clear c42b2
                        try clear p2
                        try clear p6
                        obtain ⟨kq, x109_37, rfl, HA, HJ37, HB⟩ := hcut
                        cases kq with
                        | zero => exact absurd HA.out (by simp [palanquinlaw07_TcpWalks.j2])
                        | succ kj37 =>
                          have H := HA.out
                          clear HA
                          simp only [palanquinlaw07_TcpWalks.j2] at H
                          by_cases c46 : x109_37 = true
                          · subst c46
                            have H1 : (some false) = some r := by rw [if_pos rfl] at H; exact H
                            exact absurd ((Option.some.inj H1).trans hrt_.out) (by decide)
                          · replace c46 := Bool.eq_false_iff.mpr c46
                            subst c46
                            have H1 : (palanquinlaw07_TcpWalks.l0 kj37 a0 a1 t276 t278 false 0) = some r := by rw [if_neg (show ¬ (false = true) by decide)] at H; exact H
                            clear H
                            have H := H1
                            clear H1
                            have H' := Aside0.mk H
                            clear H
                            go_wp2
                            go_loopg [16, 17] kj37 (fun kq v16 v17 w' => ∃ (x16_4 : Bool) (x17_4 : Int), v16 = .bool x16_4 ∧ v17 = .int .i64 x17_4 ∧ Aside0 (palanquinlaw07_TcpWalks.l0 kq a0 a1 t276 t278 x16_4 x17_4 = some r) ∧ Aside0 (kq ≤ kj37) ∧ Aside0 (Below w.heap.size w w'))
                            case atStart => exact ⟨(false), (0), (by first | rfl | (simp; done) | (simp [*]; done)), (by first | rfl | (simp; done) | (simp [*]; done)), H', ⟨Nat.le_refl _⟩, ⟨by repeat (first | (with_reducible first | exact HB.out | apply below_alloc | apply pw_below_drewN | apply below_drew1) | exact HB.out)⟩⟩
                            case round =>
                              clear H'
                              try clear c1
                              try clear c2
                              try clear p2
                              try clear c3
                              try clear c4
                              try clear c5
                              try clear c6
                              try clear p6
                              try clear c8
                              try clear c8b0
                              try clear c8b1
                              try clear c9
                              try clear c9b0
                              try clear c9b1
                              try clear c10
                              try clear c10b0
                              try clear c10b1
                              try clear c12
                              try clear c17
                              try clear c19
                              try clear c19b0
                              try clear c19b1
                              try clear c19b2
                              try clear c25
                              try clear c26
                              try clear c26b0
                              try clear c26b1
                              try clear c27
                              try clear c27b0
                              try clear c27b1
                              try clear c27b2
                              try clear c29
                              try clear c34
                              try clear c35
                              try clear c35b0
                              try clear c35b1
                              try clear c35b2
                              try clear c36
                              try clear c36b0
                              try clear c36b1
                              try clear c36b2
                              try clear c41
                              try clear c42
                              try clear c42b0
                              try clear c42b1
                              try clear c42b2
                              try clear c46
                              try clear p2
                              try clear p6
                              obtain ⟨x16_4, x17_4, rfl, rfl, HA, HK4, HB⟩ := hrel
                              cases gk with
                              | zero => exact absurd HA.out (by simp [palanquinlaw07_TcpWalks.l0])
                              | succ k4 =>
                                have H := HA.out
                                clear HA
                                simp only [palanquinlaw07_TcpWalks.l0] at H
                                by_cases c47 : x17_4 < (a0.size : Int)
                                · rw [if_pos c47] at H
                                  have c47b0 : decide (x17_4 < (a0.size : Int)) = true := decide_eq_true c47
                                  clear c47
                                  by_cases c48 : 0 ≤ x17_4
                                  · rw [if_pos c48] at H
                                    have c48b0 : decide (0 ≤ x17_4) = true := decide_eq_true c48
                                    clear c48
                                    by_cases c50 : (bt a0 x17_4) = 0
                                    · rw [if_pos c50] at H
                                      have c50b0 : ((bt a0 x17_4) == 0) = true := beq_iff_eq.mpr c50
                                      have c50b1 : ((bt a0 x17_4) != 0) = false := bne_eq_false_iff_eq.mpr c50
                                      clear c50
                                      have H' := Aside0.mk H
                                      clear H
                                      have p49 : 0 ≤ (x17_4 : Int) := of_decide_eq_true (by first | (with_reducible assumption) | assumption)
                                      have q49 : x17_4 < (a0.size : Int) := of_decide_eq_true (by first | (with_reducible assumption) | assumption)
                                      have hx49 := bt_at a0 x17_4
                                      replace p49 := eq_true p49
                                      replace q49 := eq_true q49
                                      go_wp2
                                      go_roundg k4
                                      case measure => have := HJ5.out; have := HJ20.out; have := HJ37.out; have := HK4.out; omega
                                      case rel => exact ⟨(true), (wrap64 (x17_4 + 1)), (by first | rfl | (simp; done) | (simp [*]; done)), (by first | rfl | (simp; done) | (simp [*]; done)), H', ⟨by have := HJ5.out; have := HJ20.out; have := HJ37.out; have := HK4.out; omega⟩, ⟨by repeat (first | (with_reducible first | exact HB.out | apply below_alloc | apply pw_below_drewN | apply below_drew1) | exact HB.out)⟩⟩
                                    · rw [if_neg c50] at H
                                      have c50b0 : ((bt a0 x17_4) == 0) = false := beq_eq_false_iff_ne.mpr c50
                                      have c50b1 : ((bt a0 x17_4) != 0) = true := bne_iff_ne.mpr c50
                                      have H' := Aside0.mk H
                                      clear H
                                      have p49 : 0 ≤ (x17_4 : Int) := of_decide_eq_true (by first | (with_reducible assumption) | assumption)
                                      have q49 : x17_4 < (a0.size : Int) := of_decide_eq_true (by first | (with_reducible assumption) | assumption)
                                      have hx49 := bt_at a0 x17_4
                                      replace p49 := eq_true p49
                                      replace q49 := eq_true q49
                                      go_wp2
                                      go_roundg k4
                                      case measure => have := HJ5.out; have := HJ20.out; have := HJ37.out; have := HK4.out; omega
                                      case rel => exact ⟨(x16_4), (wrap64 (x17_4 + 1)), (by first | rfl | (simp; done) | (simp [*]; done)), (by first | rfl | (simp; done) | (simp [*]; done)), H', ⟨by have := HJ5.out; have := HJ20.out; have := HJ37.out; have := HK4.out; omega⟩, ⟨by repeat (first | (with_reducible first | exact HB.out | apply below_alloc | apply pw_below_drewN | apply below_drew1) | exact HB.out)⟩⟩
                                  · rw [if_neg c48] at H
                                    exact absurd H (by simp)
                                · rw [if_neg c47] at H
                                  have c47b0 : decide (x17_4 < (a0.size : Int)) = false := decide_eq_false c47
                                  clear c47
                                  by_cases c51 : x16_4 = true
                                  · subst c51
                                    have H1 : (some true) = some r := by rw [if_pos rfl] at H; exact H
                                    clear H
                                    have H := H1
                                    clear H1
                                    obtain rfl := Option.some.inj H
                                    go_wp2
                                    go_ret
                                    exact ⟨by first | rfl | (simp [errW_none, errW_some] <;> rfl) | (simp [*, errW_none, errW_some] <;> rfl), by repeat (first | (with_reducible first | exact HB.out | apply below_alloc | apply pw_below_drewN | apply below_drew1) | exact HB.out)⟩
                                  · replace c51 := Bool.eq_false_iff.mpr c51
                                    subst c51
                                    have H1 : (if a0.size + a1.size ≤ 9223372036854775807 then ((tcp_MSS.f (a0 ++ a1)).bind fun bt287 => ((tcp_MSS.f a1).bind fun bt290 => (if t278 = true then ((tcp_Right.f (a0 ++ a1)).bind fun t293 => (if t293 = true then (if bt287.1 = t276 then (some (bt287.2.2 == t278)) else (some false)) else (some false))) else ((tcp_Right.f (a0 ++ a1)).bind fun t294 => (if t294 = true then (if bt287.1 = bt290.1 then (some (bt287.2.2 == bt290.2.2)) else (some false)) else (some false)))))) else (none)) = some r := by rw [if_neg (show ¬ (false = true) by decide)] at H; exact H
                                    clear H
                                    have H := H1
                                    clear H1
                                    by_cases c52 : a0.size + a1.size ≤ 9223372036854775807
                                    · rw [if_pos c52] at H
                                      have c52b0 := eq_true c52
                                      have c52b1 : decide (a0.size + a1.size ≤ 9223372036854775807) = true := decide_eq_true c52
                                      try have c52b2 : (9223372036854775807 < a0.size + a1.size) = False := eq_false (Nat.not_lt.2 c52)
                                      replace H := Option.bind_eq_some_iff.mp H
                                      obtain ⟨⟨t287, t288, t289⟩, A530, H⟩ := H
                                      replace H : ((tcp_MSS.f a1).bind fun bt290 => (if t278 = true then ((tcp_Right.f (a0 ++ a1)).bind fun t293 => (if t293 = true then (if t287 = t276 then (some (t289 == t278)) else (some false)) else (some false))) else ((tcp_Right.f (a0 ++ a1)).bind fun t294 => (if t294 = true then (if t287 = bt290.1 then (some (t289 == bt290.2.2)) else (some false)) else (some false))))) = some r := H
                                      have A53 := Aside0.mk A530
                                      clear A530
                                      replace H := Option.bind_eq_some_iff.mp H
                                      obtain ⟨⟨t290, t291, t292⟩, A540, H⟩ := H
                                      replace H : (if t278 = true then ((tcp_Right.f (a0 ++ a1)).bind fun t293 => (if t293 = true then (if t287 = t276 then (some (t289 == t278)) else (some false)) else (some false))) else ((tcp_Right.f (a0 ++ a1)).bind fun t294 => (if t294 = true then (if t287 = t290 then (some (t289 == t292)) else (some false)) else (some false)))) = some r := H
                                      have A54 := Aside0.mk A540
                                      clear A540
                                      by_cases c55 : t278 = true
                                      · subst c55
                                        have H1 : ((tcp_Right.f (a0 ++ a1)).bind fun t293 => (if t293 = true then (if t287 = t276 then (some (t289 == true)) else (some false)) else (some false))) = some r := by rw [if_pos rfl] at H; exact H
                                        clear H
                                        have H := H1
                                        clear H1
                                        replace H := Option.bind_eq_some_iff.mp H
                                        obtain ⟨t293, A560, H⟩ := H
                                        replace H : (if t293 = true then (if t287 = t276 then (some (t289 == true)) else (some false)) else (some false)) = some r := H
                                        have A56 := Aside0.mk A560
                                        clear A560
                                        by_cases c57 : t293 = true
                                        · subst c57
                                          have H1 : (if t287 = t276 then (some (t289 == true)) else (some false)) = some r := by rw [if_pos rfl] at H; exact H
                                          clear H
                                          have H := H1
                                          clear H1
                                          by_cases c58 : t287 = t276
                                          · rw [if_pos c58] at H
                                            have c58b0 : (t287 == t276) = true := beq_iff_eq.mpr c58
                                            have c58b1 : (t287 != t276) = false := bne_eq_false_iff_eq.mpr c58
                                            clear c58
                                            obtain rfl := Option.some.inj H
                                            go_wp2_with (first | ((with_reducible refine gate_callee (f := 63) rfl ?_); refine goesL_ (some 125) rfl rfl Try.func63 (by kernel_rfl) rfl #[.string (a0 ++ a1)] rfl (by (try simp only [List.map_toArray, List.map_cons, List.map_nil]); first | done | rfl | (simp only [List.length_drop, List.length_take]; rfl)) ?_; (with_reducible refine (tcp_MSS.calls (a0 ++ a1) t287 t288 t289 _ A53.out).mono ?_); rintro e w59 ⟨rfl, hb⟩; refine ⟨_, rfl, ?_⟩; have n0_ := Aside0.mk (below_step (by repeat (first | (with_reducible first | exact HB.out | apply below_alloc | apply pw_below_drewN | apply below_drew1) | exact HB.out)) hb); clear HB; have HB := n0_; clear n0_; (try clear hb); (try clear hb2); (try clear hk); (try clear hi)) | ((with_reducible refine gate_callee (f := 63) rfl ?_); refine goesL_ (some 131) rfl rfl Try.func63 (by kernel_rfl) rfl #[.string a1] rfl (by (try simp only [List.map_toArray, List.map_cons, List.map_nil]); first | done | rfl | (simp only [List.length_drop, List.length_take]; rfl)) ?_; (with_reducible refine (tcp_MSS.calls a1 t290 t291 t292 _ A54.out).mono ?_); rintro e w60 ⟨rfl, hb⟩; refine ⟨_, rfl, ?_⟩; have n0_ := Aside0.mk (below_step (by repeat (first | (with_reducible first | exact HB.out | apply below_alloc | apply pw_below_drewN | apply below_drew1) | exact HB.out)) hb); clear HB; have HB := n0_; clear n0_; (try clear hb); (try clear hb2); (try clear hk); (try clear hi)) | ((with_reducible refine gate_callee (f := 65) rfl ?_); refine goesL_ (some 142) rfl rfl Try.func65 (by kernel_rfl) rfl #[.string (a0 ++ a1)] rfl (by (try simp only [List.map_toArray, List.map_cons, List.map_nil]); first | done | rfl | (simp only [List.length_drop, List.length_take]; rfl)) ?_; (with_reducible refine (tcp_Right.calls (a0 ++ a1) true _ A56.out).mono ?_); rintro e w61 ⟨rfl, hb⟩; refine ⟨_, rfl, ?_⟩; have n0_ := Aside0.mk (below_step (by repeat (first | (with_reducible first | exact HB.out | apply below_alloc | apply pw_below_drewN | apply below_drew1) | exact HB.out)) hb); clear HB; have HB := n0_; clear n0_; (try clear hb); (try clear hb2); (try clear hk); (try clear hi)))
                                            go_ret
                                            exact ⟨by first | rfl | (simp [errW_none, errW_some] <;> rfl) | (simp [*, errW_none, errW_some] <;> rfl), by repeat (first | (with_reducible first | exact HB.out | apply below_alloc | apply pw_below_drewN | apply below_drew1) | exact HB.out)⟩
                                          · rw [if_neg c58] at H
                                            exact absurd ((Option.some.inj H).trans hrt_.out) (by decide)
                                        · replace c57 := Bool.eq_false_iff.mpr c57
                                          subst c57
                                          have H1 : (some false) = some r := by rw [if_neg (show ¬ (false = true) by decide)] at H; exact H
                                          exact absurd ((Option.some.inj H1).trans hrt_.out) (by decide)
                                      · replace c55 := Bool.eq_false_iff.mpr c55
                                        subst c55
                                        have H1 : ((tcp_Right.f (a0 ++ a1)).bind fun t294 => (if t294 = true then (if t287 = t290 then (some (t289 == t292)) else (some false)) else (some false))) = some r := by rw [if_neg (show ¬ (false = true) by decide)] at H; exact H
                                        clear H
                                        have H := H1
                                        clear H1
                                        replace H := Option.bind_eq_some_iff.mp H
                                        obtain ⟨t294, A680, H⟩ := H
                                        replace H : (if t294 = true then (if t287 = t290 then (some (t289 == t292)) else (some false)) else (some false)) = some r := H
                                        have A68 := Aside0.mk A680
                                        clear A680
                                        by_cases c69 : t294 = true
                                        · subst c69
                                          have H1 : (if t287 = t290 then (some (t289 == t292)) else (some false)) = some r := by rw [if_pos rfl] at H; exact H
                                          clear H
                                          have H := H1
                                          clear H1
                                          by_cases c70 : t287 = t290
                                          · rw [if_pos c70] at H
                                            have c70b0 : (t287 == t290) = true := beq_iff_eq.mpr c70
                                            have c70b1 : (t287 != t290) = false := bne_eq_false_iff_eq.mpr c70
                                            clear c70
                                            obtain rfl := Option.some.inj H
                                            go_wp2_with (first | ((with_reducible refine gate_callee (f := 63) rfl ?_); refine goesL_ (some 125) rfl rfl Try.func63 (by kernel_rfl) rfl #[.string (a0 ++ a1)] rfl (by (try simp only [List.map_toArray, List.map_cons, List.map_nil]); first | done | rfl | (simp only [List.length_drop, List.length_take]; rfl)) ?_; (with_reducible refine (tcp_MSS.calls (a0 ++ a1) t287 t288 t289 _ A53.out).mono ?_); rintro e w71 ⟨rfl, hb⟩; refine ⟨_, rfl, ?_⟩; have n0_ := Aside0.mk (below_step (by repeat (first | (with_reducible first | exact HB.out | apply below_alloc | apply pw_below_drewN | apply below_drew1) | exact HB.out)) hb); clear HB; have HB := n0_; clear n0_; (try clear hb); (try clear hb2); (try clear hk); (try clear hi)) | ((with_reducible refine gate_callee (f := 63) rfl ?_); refine goesL_ (some 131) rfl rfl Try.func63 (by kernel_rfl) rfl #[.string a1] rfl (by (try simp only [List.map_toArray, List.map_cons, List.map_nil]); first | done | rfl | (simp only [List.length_drop, List.length_take]; rfl)) ?_; (with_reducible refine (tcp_MSS.calls a1 t290 t291 t292 _ A54.out).mono ?_); rintro e w72 ⟨rfl, hb⟩; refine ⟨_, rfl, ?_⟩; have n0_ := Aside0.mk (below_step (by repeat (first | (with_reducible first | exact HB.out | apply below_alloc | apply pw_below_drewN | apply below_drew1) | exact HB.out)) hb); clear HB; have HB := n0_; clear n0_; (try clear hb); (try clear hb2); (try clear hk); (try clear hi)) | ((with_reducible refine gate_callee (f := 65) rfl ?_); refine goesL_ (some 142) rfl rfl Try.func65 (by kernel_rfl) rfl #[.string (a0 ++ a1)] rfl (by (try simp only [List.map_toArray, List.map_cons, List.map_nil]); first | done | rfl | (simp only [List.length_drop, List.length_take]; rfl)) ?_; (with_reducible refine (tcp_Right.calls (a0 ++ a1) true _ A68.out).mono ?_); rintro e w73 ⟨rfl, hb⟩; refine ⟨_, rfl, ?_⟩; have n0_ := Aside0.mk (below_step (by repeat (first | (with_reducible first | exact HB.out | apply below_alloc | apply pw_below_drewN | apply below_drew1) | exact HB.out)) hb); clear HB; have HB := n0_; clear n0_; (try clear hb); (try clear hb2); (try clear hk); (try clear hi)))
                                            go_ret
                                            exact ⟨by first | rfl | (simp [errW_none, errW_some] <;> rfl) | (simp [*, errW_none, errW_some] <;> rfl), by repeat (first | (with_reducible first | exact HB.out | apply below_alloc | apply pw_below_drewN | apply below_drew1) | exact HB.out)⟩
                                          · rw [if_neg c70] at H
                                            exact absurd ((Option.some.inj H).trans hrt_.out) (by decide)
                                        · replace c69 := Bool.eq_false_iff.mpr c69
                                          subst c69
                                          have H1 : (some false) = some r := by rw [if_neg (show ¬ (false = true) by decide)] at H; exact H
                                          exact absurd ((Option.some.inj H1).trans hrt_.out) (by decide)
                                    · rw [if_neg c52] at H
                                      exact absurd H (by simp)
                    · rw [if_neg c36] at H
                      exact absurd H (by simp)
                  · rw [if_neg c35] at H
                    exact absurd H (by simp)
          · rw [if_neg c19] at H
            exact absurd H (by simp)
  · replace c5 := Bool.eq_false_iff.mpr c5
    subst c5
    have H1 : (some false) = some r := by rw [if_neg (show ¬ (false = true) by decide)] at H; exact H
    exact absurd ((Option.some.inj H1).trans hrt_.out) (by decide)
/-- THE ONE PURE STATEMENT of palanquinlaw07_TcpWalks: yours. -/
def palanquinlaw07_TcpWalks.Pure : Prop := ∀ (a0 : ByteArray) (a1 : ByteArray) (a2 : ByteArray), a0.size ≤ 140737488351232 → a1.size ≤ 140737488351232 → a2.size ≤ 140737488351232 → ∃ k, palanquinlaw07_TcpWalks.f k a0 a1 a2 = some true
theorem palanquinlaw07_TcpWalks.walk (P : palanquinlaw07_TcpWalks.Pure) (a0 : ByteArray) (a1 : ByteArray) (a2 : ByteArray) (w : World) (w0 : a0.size ≤ 140737488351232) (w1 : a1.size ≤ 140737488351232) (w2 : a2.size ≤ 140737488351232) :
    Calls Try.prog 12 #[.string a0, .string a1, .string a2] w fun e w' => e = .returned (.bool true) ∧ Below w.heap.size w w' := by
  obtain ⟨k, h⟩ := P a0 a1 a2 w0 w1 w2
  refine (palanquinlaw07_TcpWalks.calls k a0 a1 a2 true w h ⟨rfl⟩).mono ?_
  rintro e w' ⟨rfl, hd⟩
  exact ⟨rfl, hd⟩

end Go.Proofs.Ytejmipoolbodgaa.G
