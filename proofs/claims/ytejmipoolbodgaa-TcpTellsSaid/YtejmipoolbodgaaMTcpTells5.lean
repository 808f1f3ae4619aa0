/- Texts of this session, joined: each is a section. -/
import Derived.Test.YtejmipoolbodgaaMTcpTells1
import Derived.Test.YtejmipoolbodgaaMTcpTells4
set_option linter.unusedVariables false
set_option linter.unusedSimpArgs false
section
namespace Go.Proofs.Ytejmipoolbodgaa.G
open Go.RowKit Go.Proofs.YtejmipoolbodgaaW.PrintWords Go.Proofs.YtejmipoolbodgaaW.PrintLast Go.Proofs.YtejmipoolbodgaaW.PrintMore
attribute [local go_sem] max2_int min2_int max_two min_two max_three min_three max_four min_four   -- for this text's walks alone
set_option linter.unusedVariables false
set_option linter.unusedSimpArgs false

/-! ### palanquinref07_Walk: function 62 -/
mutual
def palanquinref07_Walk.l0 : Nat → ByteArray → List Int → Int → Option (List Int × Bool)
  | 0, _, _, _ => none
  | k + 1, x0, x4, x5 => if x5 < (x0.size : Int) then (if 0 ≤ x5 then (palanquinref07_Walk.j1 k x0 x4 x5 ((bt x0 x5) != 0)) else (none)) else (palanquinref07_Walk.j1 k x0 x4 x5 false)
def palanquinref07_Walk.j1 : Nat → ByteArray → List Int → Int → Bool → Option (List Int × Bool)
  | 0, _, _, _, _ => none
  | k + 1, x0, x4, x5, x16 => if x16 = true then (if x4.length < 17592186044416 then ((some (x4 ++ [x5] : List Int)).bind fun y238 => (if 0 ≤ x5 then (if x5 < (x0.size : Int) then (if (bt x0 x5) = 1 then (palanquinref07_Walk.l0 k x0 y238 (wrap64 (x5 + 1))) else (if (wrap64 ((x0.size : Int) - x5)) < 2 then (some (([] : List Int), false)) else (if 0 ≤ (wrap64 (x5 + 1)) then (if (wrap64 (x5 + 1)) < (x0.size : Int) then (if (wrap64 (bt x0 (wrap64 (x5 + 1)))) < 2 then (some (([] : List Int), false)) else (if (wrap64 (bt x0 (wrap64 (x5 + 1)))) > (wrap64 ((x0.size : Int) - x5)) then (some (([] : List Int), false)) else (palanquinref07_Walk.l0 k x0 y238 (wrap64 (x5 + (wrap64 (bt x0 (wrap64 (x5 + 1))))))))) else (none)) else (none)))) else (none)) else (none))) else (none)) else (some (x4, true))
end
def palanquinref07_Walk.f (k : Nat) (a0 : ByteArray) : Option (List Int × Bool) := palanquinref07_Walk.l0 k a0 ([] : List Int) 0
theorem palanquinref07_Walk.mono_l : ∀ k, (∀ y0 y1 y2, LeO (palanquinref07_Walk.l0 k y0 y1 y2) (palanquinref07_Walk.l0 (k + 1) y0 y1 y2)) ∧ (∀ y0 y1 y2 y3, LeO (palanquinref07_Walk.j1 k y0 y1 y2 y3) (palanquinref07_Walk.j1 (k + 1) y0 y1 y2 y3))
  | 0 => ⟨fun _ _ _ r h => by simp [palanquinref07_Walk.l0] at h, fun _ _ _ _ r h => by simp [palanquinref07_Walk.j1] at h⟩
  | k + 1 => by
    obtain ⟨ih0, ih1⟩ := palanquinref07_Walk.mono_l k
    refine ⟨?_, ?_⟩
    · intro y0 y1 y2
      unfold palanquinref07_Walk.l0
      repeat' first
      | (with_reducible exact ih0 _ _ _)
      | (with_reducible exact ih1 _ _ _ _)
      | (with_reducible exact LeO.refl _)
      | (with_reducible exact LeO.none _)
      | (with_reducible refine LeO.ite ?_ ?_)
      | (with_reducible refine LeO.bind ?_ (fun _ => ?_))
      | exact ih0 _ _ _
      | exact ih1 _ _ _ _
      | exact LeO.none _
      | refine LeO.ite ?_ ?_
      | refine LeO.bind ?_ (fun _ => ?_)
    · intro y0 y1 y2 y3
      unfold palanquinref07_Walk.j1
      repeat' first
      | (with_reducible exact ih0 _ _ _)
      | (with_reducible exact ih1 _ _ _ _)
      | (with_reducible exact LeO.refl _)
      | (with_reducible exact LeO.none _)
      | (with_reducible refine LeO.ite ?_ ?_)
      | (with_reducible refine LeO.bind ?_ (fun _ => ?_))
      | exact ih0 _ _ _
      | exact ih1 _ _ _ _
      | exact LeO.none _
      | refine LeO.ite ?_ ?_
      | refine LeO.bind ?_ (fun _ => ?_)
theorem palanquinref07_Walk.mono : ∀ a0 k, LeO (palanquinref07_Walk.f k a0) (palanquinref07_Walk.f (k + 1) a0) := by
  intro a0 k
  obtain ⟨ih0, ih1⟩ := palanquinref07_Walk.mono_l k
  unfold palanquinref07_Walk.f
  repeat' first
      | (with_reducible exact ih0 _ _ _)
      | (with_reducible exact ih1 _ _ _ _)
      | (with_reducible exact LeO.refl _)
      | (with_reducible exact LeO.none _)
      | (with_reducible refine LeO.ite ?_ ?_)
      | (with_reducible refine LeO.bind ?_ (fun _ => ?_))
      | exact ih0 _ _ _
      | exact ih1 _ _ _ _
      | exact LeO.none _
      | refine LeO.ite ?_ ?_
      | refine LeO.bind ?_ (fun _ => ?_)
set_option maxHeartbeats 8000000 in
set_option maxRecDepth 100000 in
theorem palanquinref07_Walk.calls (k : Nat) (a0 : ByteArray) (r1 : List Int) (r2 : Bool) (w : World) (h : palanquinref07_Walk.f k a0 = some (r1, r2)) :
    Calls Try.prog 62 #[.string a0] w fun e w' => ∃ v0_ : Value, e = .returned (.tuple #[v0_, .bool r2]) ∧ Kd.R (Kd.int .i64) 3 w' w.heap.size (fun _ => True) v0_ r1 ∧ Below w.heap.size w w' := by
  have HB := Aside0.mk (Below.refl w.heap.size w)
  have H : (palanquinref07_Walk.l0 k a0 ([] : List Int) 0) = some (r1, r2) := h
  clear h
  have H' := Aside0.mk H
  clear H
  go_enter Try.func62, Try.ntmps62
  go_wp2
  go_loopg [4, 5] k (fun kq v4 v5 w' => ∃ (x4_1 : List Int) (x5_1 : Int), v5 = .int .i64 x5_1 ∧ Aside0 (palanquinref07_Walk.l0 kq a0 x4_1 x5_1 = some (r1, r2)) ∧ Aside0 (kq ≤ k) ∧ Aside0 (Kd.R (Kd.int .i64) 3 w' w.heap.size (fun _ => True) v4 x4_1) ∧ Aside0 (Below w.heap.size w w'))
  case atStart => exact ⟨(([] : List Int)), (0), (by first | rfl | (simp; done) | (simp [*]; done)), H', ⟨Nat.le_refl _⟩, ⟨by first | exact Kd.R_nil _ _ _ _ _ | exact Kd.N_nil _ _ _ _ _ | exact Kd.V_nil _ _ _ _ _ | exact Kd.Q_nil _ _ _ _ _ | exact Kd.S_nil _ _ _ _ _⟩, ⟨by repeat (first | (with_reducible first | exact HB.out | apply below_alloc | apply pw_below_drewN | apply below_drew1) | exact HB.out)⟩⟩
  case round =>
    clear H'
    obtain ⟨x4_1, x5_1, rfl, HA, HK1, HO_4, HB⟩ := hrel
    cases gk with
    | zero => exact absurd HA.out (by simp [palanquinref07_Walk.l0])
    | succ k1 =>
      have H := HA.out
      clear HA
      simp only [palanquinref07_Walk.l0] at H
      have HC2 := Aside0.mk H
      clear H
      go_upto_region 3 with (fail)
      go_cut [16] (fun v16 wc => ∃ (kq : Nat) (x16_1 : Bool), v16 = .bool x16_1 ∧ Aside0 (palanquinref07_Walk.j1 kq a0 x4_1 x5_1 x16_1 = some (r1, r2)) ∧ Aside0 (kq ≤ k1) ∧ Aside0 (Kd.R (Kd.int .i64) 3 wc w.heap.size (fun _ => True) u4 x4_1) ∧ Aside0 (Below w.heap.size w wc))
      case first =>
        have H := HC2.out
        clear HC2
        by_cases c3 : x5_1 < (a0.size : Int)
        · rw [if_pos c3] at H
          have c3b0 : decide (x5_1 < (a0.size : Int)) = true := decide_eq_true c3
          clear c3
          (first | rw [c3b0] | (simp only [i64_w, i32_w]; rw [c3b0]) | skip)
          by_cases c4 : 0 ≤ x5_1
          · rw [if_pos c4] at H
            have c4b0 : decide (0 ≤ x5_1) = true := decide_eq_true c4
            clear c4
            have H' := Aside0.mk H
            clear H
            have p5 : 0 ≤ (x5_1 : Int) := of_decide_eq_true (by first | (with_reducible assumption) | assumption)
            have q5 : x5_1 < (a0.size : Int) := of_decide_eq_true (by first | (with_reducible assumption) | assumption)
            have hx5 := bt_at a0 x5_1
            replace p5 := eq_true p5
            replace q5 := eq_true q5
            go_wp2
            go_meet
            case rel => exact ⟨_, (((bt a0 x5_1) != 0)), (by first | rfl | (simp; done) | (simp [*]; done)), H', ⟨by have := HK1.out; first | omega | exact Nat.le_refl _⟩, ⟨by (with_reducible repeat (first | apply Kd.R_alloc | apply Kd.R_drewN | apply Kd.R_drew)); exact HO_4.out⟩, ⟨by repeat (first | (with_reducible first | exact HB.out | apply below_alloc | apply pw_below_drewN | apply below_drew1) | exact HB.out)⟩⟩
          · rw [if_neg c4] at H
            exact absurd H (by simp)
        · rw [if_neg c3] at H
          have c3b0 : decide (x5_1 < (a0.size : Int)) = false := decide_eq_false c3
          clear c3
          (first | rw [c3b0] | (simp only [i64_w, i32_w]; rw [c3b0]) | skip)
          have H' := Aside0.mk H
          clear H
          go_wp2
          go_meet
          case rel => exact ⟨_, (false), (by first | rfl | (simp; done) | (simp [*]; done)), H', ⟨by have := HK1.out; first | omega | exact Nat.le_refl _⟩, ⟨by (with_reducible repeat (first | apply Kd.R_alloc | apply Kd.R_drewN | apply Kd.R_drew)); exact HO_4.out⟩, ⟨by repeat (first | (with_reducible first | exact HB.out | apply below_alloc | apply pw_below_drewN | apply below_drew1) | exact HB.out)⟩⟩
      case rest =>
        clear HC2
        try clear p2
        try clear c3
        try clear c3b0
        try clear c4
        try clear c4b0
        try clear p5
        try clear q5
        try clear hx5
        try clear p5
        try clear q5
        obtain ⟨kq, x16_1, rfl, HA, HJ1, HO_4, HB⟩ := hcut
        cases kq with
        | zero => exact absurd HA.out (by simp [palanquinref07_Walk.j1])
        | succ kj1 =>
          have H := HA.out
          clear HA
          simp only [palanquinref07_Walk.j1] at H
          by_cases c6 : x16_1 = true
          · subst c6
            have H1 : (if x4_1.length < 17592186044416 then ((some (x4_1 ++ [x5_1] : List Int)).bind fun y238 => (if 0 ≤ x5_1 then (if x5_1 < (a0.size : Int) then (if (bt a0 x5_1) = 1 then (palanquinref07_Walk.l0 kj1 a0 y238 (wrap64 (x5_1 + 1))) else (if (wrap64 ((a0.size : Int) - x5_1)) < 2 then (some (([] : List Int), false)) else (if 0 ≤ (wrap64 (x5_1 + 1)) then (if (wrap64 (x5_1 + 1)) < (a0.size : Int) then (if (wrap64 (bt a0 (wrap64 (x5_1 + 1)))) < 2 then (some (([] : List Int), false)) else (if (wrap64 (bt a0 (wrap64 (x5_1 + 1)))) > (wrap64 ((a0.size : Int) - x5_1)) then (some (([] : List Int), false)) else (palanquinref07_Walk.l0 kj1 a0 y238 (wrap64 (x5_1 + (wrap64 (bt a0 (wrap64 (x5_1 + 1))))))))) else (none)) else (none)))) else (none)) else (none))) else (none)) = some (r1, r2) := by rw [if_pos rfl] at H; exact H
            clear H
            have H := H1
            clear H1
            by_cases c7 : x4_1.length < 17592186044416
            · rw [if_pos c7] at H
              have LMc7 := Aside0.mk c7
              clear c7
              obtain ⟨y238, hy238⟩ : ∃ y_ : List Int, y_ = (x4_1 ++ [x5_1]) := ⟨_, rfl⟩
              replace H : (if 0 ≤ x5_1 then (if x5_1 < (a0.size : Int) then (if (bt a0 x5_1) = 1 then (palanquinref07_Walk.l0 kj1 a0 y238 (wrap64 (x5_1 + 1))) else (if (wrap64 ((a0.size : Int) - x5_1)) < 2 then (some (([] : List Int), false)) else (if 0 ≤ (wrap64 (x5_1 + 1)) then (if (wrap64 (x5_1 + 1)) < (a0.size : Int) then (if (wrap64 (bt a0 (wrap64 (x5_1 + 1)))) < 2 then (some (([] : List Int), false)) else (if (wrap64 (bt a0 (wrap64 (x5_1 + 1)))) > (wrap64 ((a0.size : Int) - x5_1)) then (some (([] : List Int), false)) else (palanquinref07_Walk.l0 kj1 a0 y238 (wrap64 (x5_1 + (wrap64 (bt a0 (wrap64 (x5_1 + 1))))))))) else (none)) else (none)))) else (none)) else (none)) = some (r1, r2) := by first | (rw [hy238]; with_reducible exact H) | (have H2_ := (Option.bind_some _ _).symm.trans H; rw [hy238]; with_reducible exact H2_) | (have H2_ := (Option.bind_some _ _).symm.trans H; with_reducible exact H2_) | with_reducible exact H | (rw [hy238]; exact H) | exact H
              have Ny238 := Aside0.mk hy238
              clear hy238
              by_cases c8 : 0 ≤ x5_1
              · rw [if_pos c8] at H
                have c8b0 : decide (0 ≤ x5_1) = true := decide_eq_true c8
                clear c8
                by_cases c9 : x5_1 < (a0.size : Int)
                · rw [if_pos c9] at H
                  have c9b0 : decide (x5_1 < (a0.size : Int)) = true := decide_eq_true c9
                  clear c9
                  by_cases c11 : (bt a0 x5_1) = 1
                  · rw [if_pos c11] at H
                    have c11b0 : ((bt a0 x5_1) == 1) = true := beq_iff_eq.mpr c11
                    have c11b1 : ((bt a0 x5_1) != 1) = false := bne_eq_false_iff_eq.mpr c11
                    clear c11
                    have H' := Aside0.mk H
                    clear H
                    go_wp2_with (first | ((with_reducible refine gate_builtin (b := .append) (xs := #[.tmp 17, .tmp 19]) rfl ?_); (try (refine gate_guard (by rfl) ?_; dsimp only)); at_builtin; refine Kd.R_append (Kd.int .i64) (w0 := w) w.heap.size rfl (.tmp 17) (.tmp 19) 57 3 (.int .i64 0) 8 rfl Try.underlying57 info3 rfl (by decide) (by omega) u4 x4_1 x5_1 [.int .i64 x5_1] (fun _ => True) (fun _ => False) rfl rfl ?aP (fun _ hk => hk.elim) ?aF ?aO ?aB ?aS ?aL ?_; (case aP => exact rfl); (case aB => exact (by repeat (first | (with_reducible first | exact HB.out | apply below_alloc | apply pw_below_drewN | apply below_drew1) | exact HB.out))); (case aF => exact (fun _ _ => trivial)); (case aO => exact (by (with_reducible repeat (first | apply Kd.R_alloc | apply Kd.R_drewN | apply Kd.R_drew)); exact HO_4.out)); (case aS => exact (below_size (by repeat (first | (with_reducible first | exact HB.out | apply below_alloc | apply pw_below_drewN | apply below_drew1) | exact HB.out)))); (case aL => have := LMc7.out; omega); intro v239 w12 ho hb hg hat; rw [← Ny238.out] at ho; have n0_ := Aside0.mk (hb); have n1_ := Aside0.mk (ho); clear HB; clear HO_4; have HB := n0_; have HO240 := n1_; clear n0_ n1_; clear ho hb hg hat; have p10 : 0 ≤ (x5_1 : Int) := of_decide_eq_true (by first | (with_reducible assumption) | assumption); have q10 : x5_1 < (a0.size : Int) := of_decide_eq_true (by first | (with_reducible assumption) | assumption); have hx10 := bt_at a0 x5_1; replace p10 := eq_true p10; replace q10 := eq_true q10))
                    go_roundg kj1
                    case measure => have := HK1.out; have := HJ1.out; omega
                    case rel => exact ⟨(y238), (wrap64 (x5_1 + 1)), (by first | rfl | (simp; done) | (simp [*]; done)), H', ⟨by have := HK1.out; have := HJ1.out; omega⟩, ⟨by (with_reducible repeat (first | apply Kd.R_alloc | apply Kd.R_drewN | apply Kd.R_drew)); exact HO240.out⟩, ⟨by repeat (first | (with_reducible first | exact HB.out | apply below_alloc | apply pw_below_drewN | apply below_drew1) | exact HB.out)⟩⟩
                  · rw [if_neg c11] at H
                    have c11b0 : ((bt a0 x5_1) == 1) = false := beq_eq_false_iff_ne.mpr c11
                    have c11b1 : ((bt a0 x5_1) != 1) = true := bne_iff_ne.mpr c11
                    by_cases c13 : (wrap64 ((a0.size : Int) - x5_1)) < 2
                    · rw [if_pos c13] at H
                      have c13b0 : decide ((wrap64 ((a0.size : Int) - x5_1)) < 2) = true := decide_eq_true c13
                      clear c13
                      simp only [Option.some.injEq, Prod.mk.injEq] at H
                      obtain ⟨rfl, rfl⟩ := H
                      go_wp2_with (first | ((with_reducible refine gate_builtin (b := .append) (xs := #[.tmp 17, .tmp 19]) rfl ?_); (try (refine gate_guard (by rfl) ?_; dsimp only)); at_builtin; refine Kd.R_append (Kd.int .i64) (w0 := w) w.heap.size rfl (.tmp 17) (.tmp 19) 57 3 (.int .i64 0) 8 rfl Try.underlying57 info3 rfl (by decide) (by omega) u4 x4_1 x5_1 [.int .i64 x5_1] (fun _ => True) (fun _ => False) rfl rfl ?aP (fun _ hk => hk.elim) ?aF ?aO ?aB ?aS ?aL ?_; (case aP => exact rfl); (case aB => exact (by repeat (first | (with_reducible first | exact HB.out | apply below_alloc | apply pw_below_drewN | apply below_drew1) | exact HB.out))); (case aF => exact (fun _ _ => trivial)); (case aO => exact (by (with_reducible repeat (first | apply Kd.R_alloc | apply Kd.R_drewN | apply Kd.R_drew)); exact HO_4.out)); (case aS => exact (below_size (by repeat (first | (with_reducible first | exact HB.out | apply below_alloc | apply pw_below_drewN | apply below_drew1) | exact HB.out)))); (case aL => have := LMc7.out; omega); intro v239 w14 ho hb hg hat; rw [← Ny238.out] at ho; have n0_ := Aside0.mk (hb); have n1_ := Aside0.mk (ho); clear HB; clear HO_4; have HB := n0_; have HO240 := n1_; clear n0_ n1_; clear ho hb hg hat; have p10 : 0 ≤ (x5_1 : Int) := of_decide_eq_true (by first | (with_reducible assumption) | assumption); have q10 : x5_1 < (a0.size : Int) := of_decide_eq_true (by first | (with_reducible assumption) | assumption); have hx10 := bt_at a0 x5_1; replace p10 := eq_true p10; replace q10 := eq_true q10))
                      go_ret2
                      exact ⟨_, by first | rfl | (simp [errW_none, errW_some] <;> rfl) | (simp [*, errW_none, errW_some] <;> rfl), by first | exact Kd.R_nil _ _ _ _ _ | exact Kd.N_nil _ _ _ _ _ | exact Kd.V_nil _ _ _ _ _ | exact Kd.Q_nil _ _ _ _ _ | exact Kd.S_nil _ _ _ _ _, by repeat (first | (with_reducible first | exact HB.out | apply below_alloc | apply pw_below_drewN | apply below_drew1) | exact HB.out)⟩
                    · rw [if_neg c13] at H
                      have c13b0 : decide ((wrap64 ((a0.size : Int) - x5_1)) < 2) = false := decide_eq_false c13
                      clear c13
                      obtain ⟨ji15, hji15⟩ : ∃ j_ : Int, (wrap64 (x5_1 + 1)) = j_ := ⟨_, rfl⟩
                      replace H : (if 0 ≤ (ji15) then (if (ji15) < (a0.size : Int) then (if (wrap64 (bt a0 (ji15))) < 2 then (some (([] : List Int), false)) else (if (wrap64 (bt a0 (ji15))) > (wrap64 ((a0.size : Int) - x5_1)) then (some (([] : List Int), false)) else (palanquinref07_Walk.l0 kj1 a0 y238 (wrap64 (x5_1 + (wrap64 (bt a0 (ji15)))))))) else (none)) else (none)) = some (r1, r2) := by first | (rw [hji15] at H; exact H) | (simp only [hji15] at H ⊢; exact H)
                      have hji15w : (IntKind.i64.wrap (x5_1 + 1)) = ji15 := (i64_w _).trans hji15
                      by_cases c16 : 0 ≤ (ji15)
                      · rw [if_pos c16] at H
                        have c16b0 : decide (0 ≤ (ji15)) = true := decide_eq_true c16
                        clear c16
                        by_cases c17 : (ji15) < (a0.size : Int)
                        · rw [if_pos c17] at H
                          have c17b0 : decide ((ji15) < (a0.size : Int)) = true := decide_eq_true c17
                          clear c17
                          by_cases c19 : (wrap64 (bt a0 (ji15))) < 2
                          · rw [if_pos c19] at H
                            have c19b0 : decide ((wrap64 (bt a0 (ji15))) < 2) = true := decide_eq_true c19
                            clear c19
                            simp only [Option.some.injEq, Prod.mk.injEq] at H
                            obtain ⟨rfl, rfl⟩ := H
                            go_wp2_with (first | ((with_reducible refine gate_builtin (b := .append) (xs := #[.tmp 17, .tmp 19]) rfl ?_); (try (refine gate_guard (by rfl) ?_; dsimp only)); at_builtin; refine Kd.R_append (Kd.int .i64) (w0 := w) w.heap.size rfl (.tmp 17) (.tmp 19) 57 3 (.int .i64 0) 8 rfl Try.underlying57 info3 rfl (by decide) (by omega) u4 x4_1 x5_1 [.int .i64 x5_1] (fun _ => True) (fun _ => False) rfl rfl ?aP (fun _ hk => hk.elim) ?aF ?aO ?aB ?aS ?aL ?_; (case aP => exact rfl); (case aB => exact (by repeat (first | (with_reducible first | exact HB.out | apply below_alloc | apply pw_below_drewN | apply below_drew1) | exact HB.out))); (case aF => exact (fun _ _ => trivial)); (case aO => exact (by (with_reducible repeat (first | apply Kd.R_alloc | apply Kd.R_drewN | apply Kd.R_drew)); exact HO_4.out)); (case aS => exact (below_size (by repeat (first | (with_reducible first | exact HB.out | apply below_alloc | apply pw_below_drewN | apply below_drew1) | exact HB.out)))); (case aL => have := LMc7.out; omega); intro v239 w20 ho hb hg hat; rw [← Ny238.out] at ho; have n0_ := Aside0.mk (hb); have n1_ := Aside0.mk (ho); clear HB; clear HO_4; have HB := n0_; have HO240 := n1_; clear n0_ n1_; clear ho hb hg hat; have p10 : 0 ≤ (x5_1 : Int) := of_decide_eq_true (by first | (with_reducible assumption) | assumption); have q10 : x5_1 < (a0.size : Int) := of_decide_eq_true (by first | (with_reducible assumption) | assumption); have hx10 := bt_at a0 x5_1; replace p10 := eq_true p10; replace q10 := eq_true q10; have p18 : 0 ≤ ((ji15) : Int) := of_decide_eq_true (by first | (with_reducible assumption) | assumption); have q18 : (ji15) < (a0.size : Int) := of_decide_eq_true (by first | (with_reducible assumption) | assumption); have hx18 := bt_at a0 (ji15); replace p18 := eq_true p18; replace q18 := eq_true q18))
                            go_ret2
                            exact ⟨_, by first | rfl | (simp [errW_none, errW_some] <;> rfl) | (simp only [← hji15]; first | rfl | (simp [errW_none, errW_some] <;> rfl)) | (simp [*, errW_none, errW_some] <;> rfl), by first | exact Kd.R_nil _ _ _ _ _ | exact Kd.N_nil _ _ _ _ _ | exact Kd.V_nil _ _ _ _ _ | exact Kd.Q_nil _ _ _ _ _ | exact Kd.S_nil _ _ _ _ _, by repeat (first | (with_reducible first | exact HB.out | apply below_alloc | apply pw_below_drewN | apply below_drew1) | exact HB.out)⟩
                          · rw [if_neg c19] at H
                            have c19b0 : decide ((wrap64 (bt a0 (ji15))) < 2) = false := decide_eq_false c19
                            clear c19
                            by_cases c21 : (wrap64 (bt a0 (ji15))) > (wrap64 ((a0.size : Int) - x5_1))
                            · rw [if_pos c21] at H
                              have c21b0 : decide ((wrap64 ((a0.size : Int) - x5_1)) < (wrap64 (bt a0 (ji15)))) = true := decide_eq_true c21
                              clear c21
                              simp only [Option.some.injEq, Prod.mk.injEq] at H
                              obtain ⟨rfl, rfl⟩ := H
                              go_wp2_with (first | ((with_reducible refine gate_builtin (b := .append) (xs := #[.tmp 17, .tmp 19]) rfl ?_); (try (refine gate_guard (by rfl) ?_; dsimp only)); at_builtin; refine Kd.R_append (Kd.int .i64) (w0 := w) w.heap.size rfl (.tmp 17) (.tmp 19) 57 3 (.int .i64 0) 8 rfl Try.underlying57 info3 rfl (by decide) (by omega) u4 x4_1 x5_1 [.int .i64 x5_1] (fun _ => True) (fun _ => False) rfl rfl ?aP (fun _ hk => hk.elim) ?aF ?aO ?aB ?aS ?aL ?_; (case aP => exact rfl); (case aB => exact (by repeat (first | (with_reducible first | exact HB.out | apply below_alloc | apply pw_below_drewN | apply below_drew1) | exact HB.out))); (case aF => exact (fun _ _ => trivial)); (case aO => exact (by (with_reducible repeat (first | apply Kd.R_alloc | apply Kd.R_drewN | apply Kd.R_drew)); exact HO_4.out)); (case aS => exact (below_size (by repeat (first | (with_reducible first | exact HB.out | apply below_alloc | apply pw_below_drewN | apply below_drew1) | exact HB.out)))); (case aL => have := LMc7.out; omega); intro v239 w22 ho hb hg hat; rw [← Ny238.out] at ho; have n0_ := Aside0.mk (hb); have n1_ := Aside0.mk (ho); clear HB; clear HO_4; have HB := n0_; have HO240 := n1_; clear n0_ n1_; clear ho hb hg hat; have p10 : 0 ≤ (x5_1 : Int) := of_decide_eq_true (by first | (with_reducible assumption) | assumption); have q10 : x5_1 < (a0.size : Int) := of_decide_eq_true (by first | (with_reducible assumption) | assumption); have hx10 := bt_at a0 x5_1; replace p10 := eq_true p10; replace q10 := eq_true q10; have p18 : 0 ≤ ((ji15) : Int) := of_decide_eq_true (by first | (with_reducible assumption) | assumption); have q18 : (ji15) < (a0.size : Int) := of_decide_eq_true (by first | (with_reducible assumption) | assumption); have hx18 := bt_at a0 (ji15); replace p18 := eq_true p18; replace q18 := eq_true q18))
                              go_ret2
                              exact ⟨_, by first | rfl | (simp [errW_none, errW_some] <;> rfl) | (simp only [← hji15]; first | rfl | (simp [errW_none, errW_some] <;> rfl)) | (simp [*, errW_none, errW_some] <;> rfl), by first | exact Kd.R_nil _ _ _ _ _ | exact Kd.N_nil _ _ _ _ _ | exact Kd.V_nil _ _ _ _ _ | exact Kd.Q_nil _ _ _ _ _ | exact Kd.S_nil _ _ _ _ _, by repeat (first | (with_reducible first | exact HB.out | apply below_alloc | apply pw_below_drewN | apply below_drew1) | exact HB.out)⟩
                            · rw [if_neg c21] at H
                              have c21b0 : decide ((wrap64 ((a0.size : Int) - x5_1)) < (wrap64 (bt a0 (ji15)))) = false := decide_eq_false c21
                              clear c21
                              have H' := Aside0.mk H
                              clear H
                              go_wp2_with (first | ((with_reducible refine gate_builtin (b := .append) (xs := #[.tmp 17, .tmp 19]) rfl ?_); (try (refine gate_guard (by rfl) ?_; dsimp only)); at_builtin; refine Kd.R_append (Kd.int .i64) (w0 := w) w.heap.size rfl (.tmp 17) (.tmp 19) 57 3 (.int .i64 0) 8 rfl Try.underlying57 info3 rfl (by decide) (by omega) u4 x4_1 x5_1 [.int .i64 x5_1] (fun _ => True) (fun _ => False) rfl rfl ?aP (fun _ hk => hk.elim) ?aF ?aO ?aB ?aS ?aL ?_; (case aP => exact rfl); (case aB => exact (by repeat (first | (with_reducible first | exact HB.out | apply below_alloc | apply pw_below_drewN | apply below_drew1) | exact HB.out))); (case aF => exact (fun _ _ => trivial)); (case aO => exact (by (with_reducible repeat (first | apply Kd.R_alloc | apply Kd.R_drewN | apply Kd.R_drew)); exact HO_4.out)); (case aS => exact (below_size (by repeat (first | (with_reducible first | exact HB.out | apply below_alloc | apply pw_below_drewN | apply below_drew1) | exact HB.out)))); (case aL => have := LMc7.out; omega); intro v239 w23 ho hb hg hat; rw [← Ny238.out] at ho; have n0_ := Aside0.mk (hb); have n1_ := Aside0.mk (ho); clear HB; clear HO_4; have HB := n0_; have HO240 := n1_; clear n0_ n1_; clear ho hb hg hat; have p10 : 0 ≤ (x5_1 : Int) := of_decide_eq_true (by first | (with_reducible assumption) | assumption); have q10 : x5_1 < (a0.size : Int) := of_decide_eq_true (by first | (with_reducible assumption) | assumption); have hx10 := bt_at a0 x5_1; replace p10 := eq_true p10; replace q10 := eq_true q10; have p18 : 0 ≤ ((ji15) : Int) := of_decide_eq_true (by first | (with_reducible assumption) | assumption); have q18 : (ji15) < (a0.size : Int) := of_decide_eq_true (by first | (with_reducible assumption) | assumption); have hx18 := bt_at a0 (ji15); replace p18 := eq_true p18; replace q18 := eq_true q18))
                              go_roundg kj1
                              case measure => have := HK1.out; have := HJ1.out; omega
                              case rel => exact ⟨(y238), (wrap64 (x5_1 + (wrap64 (bt a0 (ji15))))), (by first | rfl | (simp; done) | (simp only [← hji15] <;> (first | rfl | simp)) | (simp [*]; done)), H', ⟨by have := HK1.out; have := HJ1.out; omega⟩, ⟨by (with_reducible repeat (first | apply Kd.R_alloc | apply Kd.R_drewN | apply Kd.R_drew)); exact HO240.out⟩, ⟨by repeat (first | (with_reducible first | exact HB.out | apply below_alloc | apply pw_below_drewN | apply below_drew1) | exact HB.out)⟩⟩
                        · rw [if_neg c17] at H
                          exact absurd H (by simp)
                      · rw [if_neg c16] at H
                        exact absurd H (by simp)
                · rw [if_neg c9] at H
                  exact absurd H (by simp)
              · rw [if_neg c8] at H
                exact absurd H (by simp)
            · rw [if_neg c7] at H
              exact absurd H (by simp)
          · replace c6 := Bool.eq_false_iff.mpr c6
            subst c6
            have H1 : (some (x4_1, true)) = some (r1, r2) := by rw [if_neg (show ¬ (false = true) by decide)] at H; exact H
            clear H
            have H := H1
            clear H1
            simp only [Option.some.injEq, Prod.mk.injEq] at H
            obtain ⟨rfl, rfl⟩ := H
            go_wp2
            go_ret2
            exact ⟨_, by first | rfl | (simp [errW_none, errW_some] <;> rfl) | (simp [*, errW_none, errW_some] <;> rfl), by (with_reducible repeat (first | apply Kd.R_alloc | apply Kd.R_drewN | apply Kd.R_drew)); exact HO_4.out, by repeat (first | (with_reducible first | exact HB.out | apply below_alloc | apply pw_below_drewN | apply below_drew1) | exact HB.out)⟩

/-! ### palanquinref07_MSS: function 64 -/
def palanquinref07_MSS.l0 : Nat → ByteArray → List Int → Int → Option (Int × Int × Bool)
  | 0, _, _, _ => none
  | k + 1, x0, x5, x7 => if x7 < (x5.length : Int) then (if 0 ≤ x7 then (if 0 ≤ (rd x5 x7) then (if (rd x5 x7) < (x0.size : Int) then (if (bt x0 (rd x5 x7)) = 2 then (if 0 ≤ (wrap64 ((rd x5 x7) + 1)) then (if (wrap64 ((rd x5 x7) + 1)) < (x0.size : Int) then (if (bt x0 (wrap64 ((rd x5 x7) + 1))) = 4 then (if 0 ≤ (wrap64 ((rd x5 x7) + 2)) then (if (wrap64 ((rd x5 x7) + 2)) < (x0.size : Int) then (if 0 ≤ (wrap64 ((rd x5 x7) + 3)) then (if (wrap64 ((rd x5 x7) + 3)) < (x0.size : Int) then (some (wrap64 ((wrap64 ((wrap64 (bt x0 (wrap64 ((rd x5 x7) + 2)))) * 256)) + (wrap64 (bt x0 (wrap64 ((rd x5 x7) + 3))))), wrap64 ((rd x5 x7) + 2), true)) else (none)) else (none)) else (none)) else (none)) else (palanquinref07_MSS.l0 k x0 x5 (wrap64 (x7 + 1)))) else (none)) else (none)) else (palanquinref07_MSS.l0 k x0 x5 (wrap64 (x7 + 1)))) else (none)) else (none)) else (none)) else (some (0, 0, false))
def palanquinref07_MSS.f (k : Nat) (a0 : ByteArray) : Option (Int × Int × Bool) := (palanquinref07_Walk.f k a0).bind fun bt241 => (palanquinref07_MSS.l0 k a0 bt241.1 0)
theorem palanquinref07_MSS.mono_l : ∀ k, (∀ y0 y1 y2, LeO (palanquinref07_MSS.l0 k y0 y1 y2) (palanquinref07_MSS.l0 (k + 1) y0 y1 y2))
  | 0 => fun _ _ _ r h => by simp [palanquinref07_MSS.l0] at h
  | k + 1 => by
    have ih0 := palanquinref07_MSS.mono_l k
    · intro y0 y1 y2
      unfold palanquinref07_MSS.l0
      repeat' first
      | (with_reducible exact ih0 _ _ _)
      | (with_reducible exact palanquinref07_Walk.mono _ _)
      | (with_reducible exact LeO.refl _)
      | (with_reducible exact LeO.none _)
      | (with_reducible refine LeO.ite ?_ ?_)
      | (with_reducible refine LeO.bind ?_ (fun _ => ?_))
      | exact ih0 _ _ _
      | exact palanquinref07_Walk.mono _ _
      | exact LeO.none _
      | refine LeO.ite ?_ ?_
      | refine LeO.bind ?_ (fun _ => ?_)
theorem palanquinref07_MSS.mono : ∀ a0 k, LeO (palanquinref07_MSS.f k a0) (palanquinref07_MSS.f (k + 1) a0) := by
  intro a0 k
  have ih0 := palanquinref07_MSS.mono_l k
  unfold palanquinref07_MSS.f
  repeat' first
      | (with_reducible exact ih0 _ _ _)
      | (with_reducible exact palanquinref07_Walk.mono _ _)
      | (with_reducible exact LeO.refl _)
      | (with_reducible exact LeO.none _)
      | (with_reducible refine LeO.ite ?_ ?_)
      | (with_reducible refine LeO.bind ?_ (fun _ => ?_))
      | exact ih0 _ _ _
      | exact palanquinref07_Walk.mono _ _
      | exact LeO.none _
      | refine LeO.ite ?_ ?_
      | refine LeO.bind ?_ (fun _ => ?_)
set_option maxHeartbeats 8000000 in
set_option maxRecDepth 100000 in
theorem palanquinref07_MSS.calls (k : Nat) (a0 : ByteArray) (r1 : Int) (r2 : Int) (r3 : Bool) (w : World) (h : palanquinref07_MSS.f k a0 = some (r1, r2, r3)) :
    Calls Try.prog 64 #[.string a0] w fun e w' => e = .returned (.tuple #[.int .i64 r1, .int .i64 r2, .bool r3]) ∧ Below w.heap.size w w' := by
  have HB := Aside0.mk (Below.refl w.heap.size w)
  have H : ((palanquinref07_Walk.f k a0).bind fun bt241 => (palanquinref07_MSS.l0 k a0 bt241.1 0)) = some (r1, r2, r3) := h
  clear h
  replace H := Option.bind_eq_some_iff.mp H
  obtain ⟨⟨t241, t242⟩, A20, H⟩ := H
  replace H : (palanquinref07_MSS.l0 k a0 t241 0) = some (r1, r2, r3) := H
  have A2 := Aside0.mk A20
  clear A20
  have H' := Aside0.mk H
  clear H
  go_enter Try.func64, Try.ntmps64
  go_wp2_with (first | (go_at_call 62; (with_reducible refine (palanquinref07_Walk.calls k a0 t241 t242 _ A2.out).mono ?_); rintro e w3 ⟨v243, rfl, ho0, hb⟩; have n0_ := Aside0.mk (Kd.R_lower ho0 (below_size (by repeat (first | (with_reducible first | exact HB.out | apply below_alloc | apply pw_below_drewN | apply below_drew1) | exact HB.out)))); have n1_ := Aside0.mk (below_step (by repeat (first | (with_reducible first | exact HB.out | apply below_alloc | apply pw_below_drewN | apply below_drew1) | exact HB.out)) hb); clear HB; have HO244 := n0_; have HB := n1_; clear n0_ n1_; (try clear hb); (try clear hb2); (try clear hk); (try clear hi); (try clear ho0)))
  repeat (go_quiet (first | (go_at_call 62; (with_reducible refine (palanquinref07_Walk.calls k a0 t241 t242 _ A2.out).mono ?_); rintro e w3 ⟨v243, rfl, ho0, hb⟩; have n0_ := Aside0.mk (Kd.R_lower ho0 (below_size (by repeat (first | (with_reducible first | exact HB.out | apply below_alloc | apply pw_below_drewN | apply below_drew1) | exact HB.out)))); have n1_ := Aside0.mk (below_step (by repeat (first | (with_reducible first | exact HB.out | apply below_alloc | apply pw_below_drewN | apply below_drew1) | exact HB.out)) hb); clear HB; have HO244 := n0_; have HB := n1_; clear n0_ n1_; (try clear hb); (try clear hb2); (try clear hk); (try clear hi); (try clear ho0))); try go_wp2_with (first | (go_at_call 62; (with_reducible refine (palanquinref07_Walk.calls k a0 t241 t242 _ A2.out).mono ?_); rintro e w3 ⟨v243, rfl, ho0, hb⟩; have n0_ := Aside0.mk (Kd.R_lower ho0 (below_size (by repeat (first | (with_reducible first | exact HB.out | apply below_alloc | apply pw_below_drewN | apply below_drew1) | exact HB.out)))); have n1_ := Aside0.mk (below_step (by repeat (first | (with_reducible first | exact HB.out | apply below_alloc | apply pw_below_drewN | apply below_drew1) | exact HB.out)) hb); clear HB; have HO244 := n0_; have HB := n1_; clear n0_ n1_; (try clear hb); (try clear hb2); (try clear hk); (try clear hi); (try clear ho0))))
  go_loopg [7] k (fun kq v7 w' => ∃ (x7_1 : Int), v7 = .int .i64 x7_1 ∧ Aside0 (palanquinref07_MSS.l0 kq a0 t241 x7_1 = some (r1, r2, r3)) ∧ Aside0 (kq ≤ k) ∧ Aside0 (Kd.R (Kd.int .i64) 3 w' w.heap.size (fun _ => True) v243 t241) ∧ Aside0 (Below w.heap.size w w'))
  case atStart => exact ⟨(0), (by first | rfl | (simp; done) | (simp [*]; done)), H', ⟨Nat.le_refl _⟩, ⟨by (with_reducible repeat (first | apply Kd.R_alloc | apply Kd.R_drewN | apply Kd.R_drew)); exact HO244.out⟩, ⟨by repeat (first | (with_reducible first | exact HB.out | apply below_alloc | apply pw_below_drewN | apply below_drew1) | exact HB.out)⟩⟩
  case round =>
    clear H'
    try clear p2
    obtain ⟨x7_1, rfl, HA, HK1, HO_5, HB⟩ := hrel
    cases gk with
    | zero => exact absurd HA.out (by simp [palanquinref07_MSS.l0])
    | succ k1 =>
      have H := HA.out
      clear HA
      simp only [palanquinref07_MSS.l0] at H
      by_cases c4 : x7_1 < (t241.length : Int)
      · rw [if_pos c4] at H
        have c4b0 : decide (x7_1 < (t241.length : Int)) = true := decide_eq_true c4
        clear c4
        by_cases c5 : 0 ≤ x7_1
        · rw [if_pos c5] at H
          have c5b0 : decide (0 ≤ x7_1) = true := decide_eq_true c5
          clear c5
          by_cases c6 : 0 ≤ (rd t241 x7_1)
          · rw [if_pos c6] at H
            have c6b0 : decide (0 ≤ (rd t241 x7_1)) = true := decide_eq_true c6
            clear c6
            by_cases c7 : (rd t241 x7_1) < (a0.size : Int)
            · rw [if_pos c7] at H
              have c7b0 : decide ((rd t241 x7_1) < (a0.size : Int)) = true := decide_eq_true c7
              clear c7
              by_cases c9 : (bt a0 (rd t241 x7_1)) = 2
              · rw [if_pos c9] at H
                have c9b0 : ((bt a0 (rd t241 x7_1)) == 2) = true := beq_iff_eq.mpr c9
                have c9b1 : ((bt a0 (rd t241 x7_1)) != 2) = false := bne_eq_false_iff_eq.mpr c9
                clear c9
                obtain ⟨ji10, hji10⟩ : ∃ j_ : Int, (wrap64 ((rd t241 x7_1) + 1)) = j_ := ⟨_, rfl⟩
                replace H : (if 0 ≤ (ji10) then (if (ji10) < (a0.size : Int) then (if (bt a0 (ji10)) = 4 then (if 0 ≤ (wrap64 ((rd t241 x7_1) + 2)) then (if (wrap64 ((rd t241 x7_1) + 2)) < (a0.size : Int) then (if 0 ≤ (wrap64 ((rd t241 x7_1) + 3)) then (if (wrap64 ((rd t241 x7_1) + 3)) < (a0.size : Int) then (some (wrap64 ((wrap64 ((wrap64 (bt a0 (wrap64 ((rd t241 x7_1) + 2)))) * 256)) + (wrap64 (bt a0 (wrap64 ((rd t241 x7_1) + 3))))), wrap64 ((rd t241 x7_1) + 2), true)) else (none)) else (none)) else (none)) else (none)) else (palanquinref07_MSS.l0 k1 a0 t241 (wrap64 (x7_1 + 1)))) else (none)) else (none)) = some (r1, r2, r3) := by first | (rw [hji10] at H; exact H) | (simp only [hji10] at H ⊢; exact H)
                have hji10w : (IntKind.i64.wrap ((rd t241 x7_1) + 1)) = ji10 := (i64_w _).trans hji10
                by_cases c11 : 0 ≤ (ji10)
                · rw [if_pos c11] at H
                  have c11b0 : decide (0 ≤ (ji10)) = true := decide_eq_true c11
                  clear c11
                  by_cases c12 : (ji10) < (a0.size : Int)
                  · rw [if_pos c12] at H
                    have c12b0 : decide ((ji10) < (a0.size : Int)) = true := decide_eq_true c12
                    clear c12
                    by_cases c14 : (bt a0 (ji10)) = 4
                    · rw [if_pos c14] at H
                      have c14b0 : ((bt a0 (ji10)) == 4) = true := beq_iff_eq.mpr c14
                      have c14b1 : ((bt a0 (ji10)) != 4) = false := bne_eq_false_iff_eq.mpr c14
                      clear c14
                      obtain ⟨ji15, hji15⟩ : ∃ j_ : Int, (wrap64 ((rd t241 x7_1) + 2)) = j_ := ⟨_, rfl⟩
                      replace H : (if 0 ≤ (ji15) then (if (ji15) < (a0.size : Int) then (if 0 ≤ (wrap64 ((rd t241 x7_1) + 3)) then (if (wrap64 ((rd t241 x7_1) + 3)) < (a0.size : Int) then (some (wrap64 ((wrap64 ((wrap64 (bt a0 (ji15))) * 256)) + (wrap64 (bt a0 (wrap64 ((rd t241 x7_1) + 3))))), ji15, true)) else (none)) else (none)) else (none)) else (none)) = some (r1, r2, r3) := by first | (rw [hji15] at H; exact H) | (simp only [hji15] at H ⊢; exact H)
                      have hji15w : (IntKind.i64.wrap ((rd t241 x7_1) + 2)) = ji15 := (i64_w _).trans hji15
                      by_cases c16 : 0 ≤ (ji15)
                      · rw [if_pos c16] at H
                        have c16b0 : decide (0 ≤ (ji15)) = true := decide_eq_true c16
                        clear c16
                        by_cases c17 : (ji15) < (a0.size : Int)
                        · rw [if_pos c17] at H
                          have c17b0 : decide ((ji15) < (a0.size : Int)) = true := decide_eq_true c17
                          clear c17
                          obtain ⟨ji19, hji19⟩ : ∃ j_ : Int, (wrap64 ((rd t241 x7_1) + 3)) = j_ := ⟨_, rfl⟩
                          replace H : (if 0 ≤ (ji19) then (if (ji19) < (a0.size : Int) then (some (wrap64 ((wrap64 ((wrap64 (bt a0 (ji15))) * 256)) + (wrap64 (bt a0 (ji19)))), ji15, true)) else (none)) else (none)) = some (r1, r2, r3) := by first | (rw [hji19] at H; exact H) | (simp only [hji19] at H ⊢; exact H)
                          have hji19w : (IntKind.i64.wrap ((rd t241 x7_1) + 3)) = ji19 := (i64_w _).trans hji19
                          by_cases c20 : 0 ≤ (ji19)
                          · rw [if_pos c20] at H
                            have c20b0 : decide (0 ≤ (ji19)) = true := decide_eq_true c20
                            clear c20
                            by_cases c21 : (ji19) < (a0.size : Int)
                            · rw [if_pos c21] at H
                              have c21b0 : decide ((ji19) < (a0.size : Int)) = true := decide_eq_true c21
                              clear c21
                              simp only [Option.some.injEq, Prod.mk.injEq] at H
                              obtain ⟨rfl, rfl, rfl⟩ := H
                              obtain ⟨Ao23, co23, eo23⟩ := Kd.R_slice HO_5.out
                              subst eo23
                              have p245 : 0 ≤ (x7_1 : Int) := of_decide_eq_true (by first | (with_reducible assumption) | assumption)
                              have q245 : x7_1 < (t241.length : Int) := of_decide_eq_true (by first | (with_reducible assumption) | assumption)
                              obtain ⟨ad245, e245, hx245_0⟩ := Kd.at_int (Kd.R_reads' HO_5.out).2.2 x7_1 p245 q245
                              cases e245
                              replace p245 := eq_true p245
                              replace q245 := eq_true q245
                              have p8 : 0 ≤ ((rd t241 x7_1) : Int) := of_decide_eq_true (by first | (with_reducible assumption) | assumption)
                              have q8 : (rd t241 x7_1) < (a0.size : Int) := of_decide_eq_true (by first | (with_reducible assumption) | assumption)
                              have hx8 := bt_at a0 (rd t241 x7_1)
                              replace p8 := eq_true p8
                              replace q8 := eq_true q8
                              have p13 : 0 ≤ ((ji10) : Int) := of_decide_eq_true (by first | (with_reducible assumption) | assumption)
                              have q13 : (ji10) < (a0.size : Int) := of_decide_eq_true (by first | (with_reducible assumption) | assumption)
                              have hx13 := bt_at a0 (ji10)
                              replace p13 := eq_true p13
                              replace q13 := eq_true q13
                              have p18 : 0 ≤ ((ji15) : Int) := of_decide_eq_true (by first | (with_reducible assumption) | assumption)
                              have q18 : (ji15) < (a0.size : Int) := of_decide_eq_true (by first | (with_reducible assumption) | assumption)
                              have hx18 := bt_at a0 (ji15)
                              replace p18 := eq_true p18
                              replace q18 := eq_true q18
                              have p22 : 0 ≤ ((ji19) : Int) := of_decide_eq_true (by first | (with_reducible assumption) | assumption)
                              have q22 : (ji19) < (a0.size : Int) := of_decide_eq_true (by first | (with_reducible assumption) | assumption)
                              have hx22 := bt_at a0 (ji19)
                              replace p22 := eq_true p22
                              replace q22 := eq_true q22
                              go_wp2
                              repeat (go_quiet (fail); try go_wp2)
                              go_ret3
                              exact ⟨by first | rfl | (simp [errW_none, errW_some] <;> rfl) | (simp only [← hji10, ← hji15, ← hji19]; first | rfl | (simp [errW_none, errW_some] <;> rfl)) | (simp [*, errW_none, errW_some] <;> rfl), by repeat (first | (with_reducible first | exact HB.out | apply below_alloc | apply pw_below_drewN | apply below_drew1) | exact HB.out)⟩
                            · rw [if_neg c21] at H
                              exact absurd H (by simp)
                          · rw [if_neg c20] at H
                            exact absurd H (by simp)
                        · rw [if_neg c17] at H
                          exact absurd H (by simp)
                      · rw [if_neg c16] at H
                        exact absurd H (by simp)
                    · rw [if_neg c14] at H
                      have c14b0 : ((bt a0 (ji10)) == 4) = false := beq_eq_false_iff_ne.mpr c14
                      have c14b1 : ((bt a0 (ji10)) != 4) = true := bne_iff_ne.mpr c14
                      have H' := Aside0.mk H
                      clear H
                      obtain ⟨Ao24, co24, eo24⟩ := Kd.R_slice HO_5.out
                      subst eo24
                      have p245 : 0 ≤ (x7_1 : Int) := of_decide_eq_true (by first | (with_reducible assumption) | assumption)
                      have q245 : x7_1 < (t241.length : Int) := of_decide_eq_true (by first | (with_reducible assumption) | assumption)
                      obtain ⟨ad245, e245, hx245_0⟩ := Kd.at_int (Kd.R_reads' HO_5.out).2.2 x7_1 p245 q245
                      cases e245
                      replace p245 := eq_true p245
                      replace q245 := eq_true q245
                      have p8 : 0 ≤ ((rd t241 x7_1) : Int) := of_decide_eq_true (by first | (with_reducible assumption) | assumption)
                      have q8 : (rd t241 x7_1) < (a0.size : Int) := of_decide_eq_true (by first | (with_reducible assumption) | assumption)
                      have hx8 := bt_at a0 (rd t241 x7_1)
                      replace p8 := eq_true p8
                      replace q8 := eq_true q8
                      have p13 : 0 ≤ ((ji10) : Int) := of_decide_eq_true (by first | (with_reducible assumption) | assumption)
                      have q13 : (ji10) < (a0.size : Int) := of_decide_eq_true (by first | (with_reducible assumption) | assumption)
                      have hx13 := bt_at a0 (ji10)
                      replace p13 := eq_true p13
                      replace q13 := eq_true q13
                      go_wp2
                      repeat (go_quiet (fail); try go_wp2)
                      go_roundg k1
                      case measure => have := HK1.out; omega
                      case rel => exact ⟨(wrap64 (x7_1 + 1)), (by first | rfl | (simp; done) | (simp [*]; done)), H', ⟨by have := HK1.out; omega⟩, ⟨by (with_reducible repeat (first | apply Kd.R_alloc | apply Kd.R_drewN | apply Kd.R_drew)); exact HO_5.out⟩, ⟨by repeat (first | (with_reducible first | exact HB.out | apply below_alloc | apply pw_below_drewN | apply below_drew1) | exact HB.out)⟩⟩
                  · rw [if_neg c12] at H
                    exact absurd H (by simp)
                · rw [if_neg c11] at H
                  exact absurd H (by simp)
              · rw [if_neg c9] at H
                have c9b0 : ((bt a0 (rd t241 x7_1)) == 2) = false := beq_eq_false_iff_ne.mpr c9
                have c9b1 : ((bt a0 (rd t241 x7_1)) != 2) = true := bne_iff_ne.mpr c9
                have H' := Aside0.mk H
                clear H
                obtain ⟨Ao25, co25, eo25⟩ := Kd.R_slice HO_5.out
                subst eo25
                have p245 : 0 ≤ (x7_1 : Int) := of_decide_eq_true (by first | (with_reducible assumption) | assumption)
                have q245 : x7_1 < (t241.length : Int) := of_decide_eq_true (by first | (with_reducible assumption) | assumption)
                obtain ⟨ad245, e245, hx245_0⟩ := Kd.at_int (Kd.R_reads' HO_5.out).2.2 x7_1 p245 q245
                cases e245
                replace p245 := eq_true p245
                replace q245 := eq_true q245
                have p8 : 0 ≤ ((rd t241 x7_1) : Int) := of_decide_eq_true (by first | (with_reducible assumption) | assumption)
                have q8 : (rd t241 x7_1) < (a0.size : Int) := of_decide_eq_true (by first | (with_reducible assumption) | assumption)
                have hx8 := bt_at a0 (rd t241 x7_1)
                replace p8 := eq_true p8
                replace q8 := eq_true q8
                go_wp2
                repeat (go_quiet (fail); try go_wp2)
                go_roundg k1
                case measure => have := HK1.out; omega
                case rel => exact ⟨(wrap64 (x7_1 + 1)), (by first | rfl | (simp; done) | (simp [*]; done)), H', ⟨by have := HK1.out; omega⟩, ⟨by (with_reducible repeat (first | apply Kd.R_alloc | apply Kd.R_drewN | apply Kd.R_drew)); exact HO_5.out⟩, ⟨by repeat (first | (with_reducible first | exact HB.out | apply below_alloc | apply pw_below_drewN | apply below_drew1) | exact HB.out)⟩⟩
            · rw [if_neg c7] at H
              exact absurd H (by simp)
          · rw [if_neg c6] at H
            exact absurd H (by simp)
        · rw [if_neg c5] at H
          exact absurd H (by simp)
      · rw [if_neg c4] at H
        have c4b0 : decide (x7_1 < (t241.length : Int)) = false := decide_eq_false c4
        clear c4
        simp only [Option.some.injEq, Prod.mk.injEq] at H
        obtain ⟨rfl, rfl, rfl⟩ := H
        obtain ⟨Ao26, co26, eo26⟩ := Kd.R_slice HO_5.out
        subst eo26
        go_wp2
        repeat (go_quiet (fail); try go_wp2)
        go_ret3
        exact ⟨by first | rfl | (simp [errW_none, errW_some] <;> rfl) | (simp [*, errW_none, errW_some] <;> rfl), by repeat (first | (with_reducible first | exact HB.out | apply below_alloc | apply pw_below_drewN | apply below_drew1) | exact HB.out)⟩

/-! ### palanquinref07_in: function 152 -/
def palanquinref07_in.f (a0 : Int) (a1 : Int) (a2 : Int) : Option (Bool) := if a0 ≥ a1 then (some (decide (a0 ≤ a2))) else (some false)
set_option maxHeartbeats 8000000 in
set_option maxRecDepth 100000 in
theorem palanquinref07_in.calls (a0 : Int) (a1 : Int) (a2 : Int) (r : Bool) (w : World) (h : palanquinref07_in.f a0 a1 a2 = some r) :
    Calls Try.prog 152 #[.int .i64 a0, .int .i64 a1, .int .i64 a2] w fun e w' => e = .returned (.bool r) ∧ Drawn0 w w' := by
  have H : (if a0 ≥ a1 then (some (decide (a0 ≤ a2))) else (some false)) = some r := h
  clear h
  by_cases c4 : a0 ≥ a1
  · rw [if_pos c4] at H
    have c4b0 : decide (a1 ≤ a0) = true := decide_eq_true c4
    clear c4
    obtain rfl := Option.some.inj H
    go_enter Try.func152, Try.ntmps152
    go_wp2
    go_ret
    exact ⟨by first | rfl | (simp; done) | (simp [*]; done), by repeat (first | exact Drawn0.refl _ | apply Drawn0.step)⟩
  · rw [if_neg c4] at H
    have c4b0 : decide (a1 ≤ a0) = false := decide_eq_false c4
    clear c4
    obtain rfl := Option.some.inj H
    go_enter Try.func152, Try.ntmps152
    go_wp2
    go_ret
    exact ⟨by first | rfl | (simp; done) | (simp [*]; done), by repeat (first | exact Drawn0.refl _ | apply Drawn0.step)⟩

/-! ### palanquinref07_May: function 110 -/
def palanquinref07_May.f (a0_0 : Int) (a0_1 : Int) (a0_2 : Int) (a0_3 : Int) (a0_4 : Int) (a0_5 : Int) (a0_6 : Int) (a0_7 : ByteArray) (a0_8 : ByteArray) : Option (Bool) := (palanquinref07_in.f a0_0 0 65535).bind fun t596 => (if t596 = true then ((palanquinref07_in.f a0_1 0 65535).bind fun t597 => (if t597 = true then ((palanquinref07_in.f a0_5 0 65535).bind fun t598 => (if t598 = true then ((palanquinref07_in.f a0_6 0 65535).bind fun t599 => (if t599 = true then ((palanquinref07_in.f a0_4 0 255).bind fun t600 => (if t600 = true then (if (a0_7.size : Int) ≤ 40 then (some (((a0_7.size : Int) % 4) == 0)) else (some false)) else (some false))) else (some false))) else (some false))) else (some false))) else (some false))
set_option maxHeartbeats 8000000 in
set_option maxRecDepth 100000 in
theorem palanquinref07_May.calls (a0_0 : Int) (a0_1 : Int) (a0_2 : Int) (a0_3 : Int) (a0_4 : Int) (a0_5 : Int) (a0_6 : Int) (a0_7 : ByteArray) (a0_8 : ByteArray) (r : Bool) (w : World) (h : palanquinref07_May.f a0_0 a0_1 a0_2 a0_3 a0_4 a0_5 a0_6 a0_7 a0_8 = some r) :
    Calls Try.prog 110 #[.agg #[.int .i64 a0_0, .int .i64 a0_1, .int .u32 a0_2, .int .u32 a0_3, .int .i64 a0_4, .int .i64 a0_5, .int .i64 a0_6, .string a0_7, .string a0_8]] w fun e w' => e = .returned (.bool r) ∧ Below w.heap.size w w' := by
  have hu127 := Try.underlying127
  have HB := Aside0.mk (Below.refl w.heap.size w)
  have H : ((palanquinref07_in.f a0_0 0 65535).bind fun t596 => (if t596 = true then ((palanquinref07_in.f a0_1 0 65535).bind fun t597 => (if t597 = true then ((palanquinref07_in.f a0_5 0 65535).bind fun t598 => (if t598 = true then ((palanquinref07_in.f a0_6 0 65535).bind fun t599 => (if t599 = true then ((palanquinref07_in.f a0_4 0 255).bind fun t600 => (if t600 = true then (if (a0_7.size : Int) ≤ 40 then (some (((a0_7.size : Int) % 4) == 0)) else (some false)) else (some false))) else (some false))) else (some false))) else (some false))) else (some false))) = some r := h
  clear h
  replace H := Option.bind_eq_some_iff.mp H
  obtain ⟨t596, A20, H⟩ := H
  replace H : (if t596 = true then ((palanquinref07_in.f a0_1 0 65535).bind fun t597 => (if t597 = true then ((palanquinref07_in.f a0_5 0 65535).bind fun t598 => (if t598 = true then ((palanquinref07_in.f a0_6 0 65535).bind fun t599 => (if t599 = true then ((palanquinref07_in.f a0_4 0 255).bind fun t600 => (if t600 = true then (if (a0_7.size : Int) ≤ 40 then (some (((a0_7.size : Int) % 4) == 0)) else (some false)) else (some false))) else (some false))) else (some false))) else (some false))) else (some false)) = some r := H
  have A2 := Aside0.mk A20
  clear A20
  by_cases c3 : t596 = true
  · subst c3
    have H1 : ((palanquinref07_in.f a0_1 0 65535).bind fun t597 => (if t597 = true then ((palanquinref07_in.f a0_5 0 65535).bind fun t598 => (if t598 = true then ((palanquinref07_in.f a0_6 0 65535).bind fun t599 => (if t599 = true then ((palanquinref07_in.f a0_4 0 255).bind fun t600 => (if t600 = true then (if (a0_7.size : Int) ≤ 40 then (some (((a0_7.size : Int) % 4) == 0)) else (some false)) else (some false))) else (some false))) else (some false))) else (some false))) = some r := by rw [if_pos rfl] at H; exact H
    clear H
    have H := H1
    clear H1
    replace H := Option.bind_eq_some_iff.mp H
    obtain ⟨t597, A40, H⟩ := H
    replace H : (if t597 = true then ((palanquinref07_in.f a0_5 0 65535).bind fun t598 => (if t598 = true then ((palanquinref07_in.f a0_6 0 65535).bind fun t599 => (if t599 = true then ((palanquinref07_in.f a0_4 0 255).bind fun t600 => (if t600 = true then (if (a0_7.size : Int) ≤ 40 then (some (((a0_7.size : Int) % 4) == 0)) else (some false)) else (some false))) else (some false))) else (some false))) else (some false)) = some r := H
    have A4 := Aside0.mk A40
    clear A40
    by_cases c5 : t597 = true
    · subst c5
      have H1 : ((palanquinref07_in.f a0_5 0 65535).bind fun t598 => (if t598 = true then ((palanquinref07_in.f a0_6 0 65535).bind fun t599 => (if t599 = true then ((palanquinref07_in.f a0_4 0 255).bind fun t600 => (if t600 = true then (if (a0_7.size : Int) ≤ 40 then (some (((a0_7.size : Int) % 4) == 0)) else (some false)) else (some false))) else (some false))) else (some false))) = some r := by rw [if_pos rfl] at H; exact H
      clear H
      have H := H1
      clear H1
      replace H := Option.bind_eq_some_iff.mp H
      obtain ⟨t598, A60, H⟩ := H
      replace H : (if t598 = true then ((palanquinref07_in.f a0_6 0 65535).bind fun t599 => (if t599 = true then ((palanquinref07_in.f a0_4 0 255).bind fun t600 => (if t600 = true then (if (a0_7.size : Int) ≤ 40 then (some (((a0_7.size : Int) % 4) == 0)) else (some false)) else (some false))) else (some false))) else (some false)) = some r := H
      have A6 := Aside0.mk A60
      clear A60
      by_cases c7 : t598 = true
      · subst c7
        have H1 : ((palanquinref07_in.f a0_6 0 65535).bind fun t599 => (if t599 = true then ((palanquinref07_in.f a0_4 0 255).bind fun t600 => (if t600 = true then (if (a0_7.size : Int) ≤ 40 then (some (((a0_7.size : Int) % 4) == 0)) else (some false)) else (some false))) else (some false))) = some r := by rw [if_pos rfl] at H; exact H
        clear H
        have H := H1
        clear H1
        replace H := Option.bind_eq_some_iff.mp H
        obtain ⟨t599, A80, H⟩ := H
        replace H : (if t599 = true then ((palanquinref07_in.f a0_4 0 255).bind fun t600 => (if t600 = true then (if (a0_7.size : Int) ≤ 40 then (some (((a0_7.size : Int) % 4) == 0)) else (some false)) else (some false))) else (some false)) = some r := H
        have A8 := Aside0.mk A80
        clear A80
        by_cases c9 : t599 = true
        · subst c9
          have H1 : ((palanquinref07_in.f a0_4 0 255).bind fun t600 => (if t600 = true then (if (a0_7.size : Int) ≤ 40 then (some (((a0_7.size : Int) % 4) == 0)) else (some false)) else (some false))) = some r := by rw [if_pos rfl] at H; exact H
          clear H
          have H := H1
          clear H1
          replace H := Option.bind_eq_some_iff.mp H
          obtain ⟨t600, A100, H⟩ := H
          replace H : (if t600 = true then (if (a0_7.size : Int) ≤ 40 then (some (((a0_7.size : Int) % 4) == 0)) else (some false)) else (some false)) = some r := H
          have A10 := Aside0.mk A100
          clear A100
          by_cases c11 : t600 = true
          · subst c11
            have H1 : (if (a0_7.size : Int) ≤ 40 then (some (((a0_7.size : Int) % 4) == 0)) else (some false)) = some r := by rw [if_pos rfl] at H; exact H
            clear H
            have H := H1
            clear H1
            by_cases c12 : (a0_7.size : Int) ≤ 40
            · rw [if_pos c12] at H
              have c12b0 : decide ((a0_7.size : Int) ≤ 40) = true := decide_eq_true c12
              have c12b1 : decide (a0_7.size ≤ 40) = true := decide_eq_true (by omega)
              clear c12
              obtain rfl := Option.some.inj H
              go_enter Try.func110, Try.ntmps110
              go_wp2_with (first | ((with_reducible refine gate_dst (N := 1) rfl ?_); (try (refine gate_guard (by rfl) ?_; dsimp only)); refine box_event ?hg (N := 1) ?hd (cs := #[.int .i64 a0_0, .int .i64 a0_1, .int .u32 a0_2, .int .u32 a0_3, .int .i64 a0_4, .int .i64 a0_5, .int .i64 a0_6, .string a0_7, .string a0_8]) (t := 127) ?hr ?_; (case hd => rfl); (case hg => rfl); (case hr => first | (go_simp; done) | (go_simp; rfl)); intro gb595 hg w13 hbox hb; have n0_ := Aside0.mk (below_step (by repeat (first | (with_reducible first | exact HB.out | apply below_alloc | apply pw_below_drewN | apply below_drew1) | exact HB.out)) hb); have n1_ := Aside0.mk (hbox); have n2_ := Aside0.mk ((by rw [hg]; exact (below_size (by repeat (first | (with_reducible first | exact HB.out | apply below_alloc | apply pw_below_drewN | apply below_drew1) | exact HB.out))) : w.heap.size ≤ gb595)); have n3_ := Aside0.mk ((by rw [hg]; exact (below_size (by repeat (first | (with_reducible first | exact HB.out | apply below_alloc | apply pw_below_drewN | apply below_drew1) | exact HB.out))) : w.heap.size ≤ gb595)); clear HB; have HB := n0_; have BK595 := n1_; have GW595 := n2_; have GE595 := n3_; clear n0_ n1_ n2_ n3_; clear hb hbox hg; have hcz14_0 : w13.cell? ⟨gb595, 0, none⟩ = some (.int .i64 a0_0) := (blk_cell BK595.out 0).trans rfl; have hcz14_1 : w13.cell? ⟨gb595, 1, none⟩ = some (.int .i64 a0_1) := (blk_cell BK595.out 1).trans rfl; have hcz14_2 : w13.cell? ⟨gb595, 2, none⟩ = some (.int .u32 a0_2) := (blk_cell BK595.out 2).trans rfl; have hcz14_3 : w13.cell? ⟨gb595, 3, none⟩ = some (.int .u32 a0_3) := (blk_cell BK595.out 3).trans rfl; have hcz14_4 : w13.cell? ⟨gb595, 4, none⟩ = some (.int .i64 a0_4) := (blk_cell BK595.out 4).trans rfl; have hcz14_5 : w13.cell? ⟨gb595, 5, none⟩ = some (.int .i64 a0_5) := (blk_cell BK595.out 5).trans rfl; have hcz14_6 : w13.cell? ⟨gb595, 6, none⟩ = some (.int .i64 a0_6) := (blk_cell BK595.out 6).trans rfl; have hcz14_7 : w13.cell? ⟨gb595, 7, none⟩ = some (.string a0_7) := (blk_cell BK595.out 7).trans rfl; have hcz14_8 : w13.cell? ⟨gb595, 8, none⟩ = some (.string a0_8) := (blk_cell BK595.out 8).trans rfl; have hfz14_0 := blk_frozen BK595.out 0; have hfz14_1 := blk_frozen BK595.out 1; have hfz14_2 := blk_frozen BK595.out 2; have hfz14_3 := blk_frozen BK595.out 3; have hfz14_4 := blk_frozen BK595.out 4; have hfz14_5 := blk_frozen BK595.out 5; have hfz14_6 := blk_frozen BK595.out 6; have hfz14_7 := blk_frozen BK595.out 7; have hfz14_8 := blk_frozen BK595.out 8) | ((with_reducible refine gate_callee (f := 152) rfl ?_); refine goesL_ (some 5) rfl rfl Try.func152 (by kernel_rfl) rfl #[.int .i64 a0_0, .int .i64 0, .int .i64 65535] rfl (by (try simp only [List.map_toArray, List.map_cons, List.map_nil]); first | done | rfl | (simp only [List.length_drop, List.length_take]; rfl)) ?_; (with_reducible refine (palanquinref07_in.calls a0_0 0 65535 true _ A2.out).mono ?_); rintro e w' ⟨rfl, ⟨nd, rfl⟩⟩; refine ⟨_, rfl, ?_⟩) | (go_at_call 152; (with_reducible refine (palanquinref07_in.calls a0_1 0 65535 true _ A4.out).mono ?_); rintro e w' ⟨rfl, ⟨nd, rfl⟩⟩) | (go_at_call 152; (with_reducible refine (palanquinref07_in.calls a0_5 0 65535 true _ A6.out).mono ?_); rintro e w' ⟨rfl, ⟨nd, rfl⟩⟩) | (go_at_call 152; (with_reducible refine (palanquinref07_in.calls a0_6 0 65535 true _ A8.out).mono ?_); rintro e w' ⟨rfl, ⟨nd, rfl⟩⟩) | (go_at_call 152; (with_reducible refine (palanquinref07_in.calls a0_4 0 255 true _ A10.out).mono ?_); rintro e w' ⟨rfl, ⟨nd, rfl⟩⟩))
              go_ret
              exact ⟨by first | rfl | (simp [errW_none, errW_some] <;> rfl) | (simp [*, errW_none, errW_some] <;> rfl), by repeat (first | (with_reducible first | exact HB.out | apply below_alloc | apply pw_below_drewN | apply below_drew1 | refine below_set ?_ GE595.out) | exact HB.out)⟩
            · rw [if_neg c12] at H
              have c12b0 : decide ((a0_7.size : Int) ≤ 40) = false := decide_eq_false c12
              have c12b1 : decide (a0_7.size ≤ 40) = false := decide_eq_false (by omega)
              clear c12
              obtain rfl := Option.some.inj H
              go_enter Try.func110, Try.ntmps110
              go_wp2_with (first | ((with_reducible refine gate_dst (N := 1) rfl ?_); (try (refine gate_guard (by rfl) ?_; dsimp only)); refine box_event ?hg (N := 1) ?hd (cs := #[.int .i64 a0_0, .int .i64 a0_1, .int .u32 a0_2, .int .u32 a0_3, .int .i64 a0_4, .int .i64 a0_5, .int .i64 a0_6, .string a0_7, .string a0_8]) (t := 127) ?hr ?_; (case hd => rfl); (case hg => rfl); (case hr => first | (go_simp; done) | (go_simp; rfl)); intro gb595 hg w15 hbox hb; have n0_ := Aside0.mk (below_step (by repeat (first | (with_reducible first | exact HB.out | apply below_alloc | apply pw_below_drewN | apply below_drew1) | exact HB.out)) hb); have n1_ := Aside0.mk (hbox); have n2_ := Aside0.mk ((by rw [hg]; exact (below_size (by repeat (first | (with_reducible first | exact HB.out | apply below_alloc | apply pw_below_drewN | apply below_drew1) | exact HB.out))) : w.heap.size ≤ gb595)); have n3_ := Aside0.mk ((by rw [hg]; exact (below_size (by repeat (first | (with_reducible first | exact HB.out | apply below_alloc | apply pw_below_drewN | apply below_drew1) | exact HB.out))) : w.heap.size ≤ gb595)); clear HB; have HB := n0_; have BK595 := n1_; have GW595 := n2_; have GE595 := n3_; clear n0_ n1_ n2_ n3_; clear hb hbox hg; have hcz16_0 : w15.cell? ⟨gb595, 0, none⟩ = some (.int .i64 a0_0) := (blk_cell BK595.out 0).trans rfl; have hcz16_1 : w15.cell? ⟨gb595, 1, none⟩ = some (.int .i64 a0_1) := (blk_cell BK595.out 1).trans rfl; have hcz16_2 : w15.cell? ⟨gb595, 2, none⟩ = some (.int .u32 a0_2) := (blk_cell BK595.out 2).trans rfl; have hcz16_3 : w15.cell? ⟨gb595, 3, none⟩ = some (.int .u32 a0_3) := (blk_cell BK595.out 3).trans rfl; have hcz16_4 : w15.cell? ⟨gb595, 4, none⟩ = some (.int .i64 a0_4) := (blk_cell BK595.out 4).trans rfl; have hcz16_5 : w15.cell? ⟨gb595, 5, none⟩ = some (.int .i64 a0_5) := (blk_cell BK595.out 5).trans rfl; have hcz16_6 : w15.cell? ⟨gb595, 6, none⟩ = some (.int .i64 a0_6) := (blk_cell BK595.out 6).trans rfl; have hcz16_7 : w15.cell? ⟨gb595, 7, none⟩ = some (.string a0_7) := (blk_cell BK595.out 7).trans rfl; have hcz16_8 : w15.cell? ⟨gb595, 8, none⟩ = some (.string a0_8) := (blk_cell BK595.out 8).trans rfl; have hfz16_0 := blk_frozen BK595.out 0; have hfz16_1 := blk_frozen BK595.out 1; have hfz16_2 := blk_frozen BK595.out 2; have hfz16_3 := blk_frozen BK595.out 3; have hfz16_4 := blk_frozen BK595.out 4; have hfz16_5 := blk_frozen BK595.out 5; have hfz16_6 := blk_frozen BK595.out 6; have hfz16_7 := blk_frozen BK595.out 7; have hfz16_8 := blk_frozen BK595.out 8) | ((with_reducible refine gate_callee (f := 152) rfl ?_); refine goesL_ (some 5) rfl rfl Try.func152 (by kernel_rfl) rfl #[.int .i64 a0_0, .int .i64 0, .int .i64 65535] rfl (by (try simp only [List.map_toArray, List.map_cons, List.map_nil]); first | done | rfl | (simp only [List.length_drop, List.length_take]; rfl)) ?_; (with_reducible refine (palanquinref07_in.calls a0_0 0 65535 true _ A2.out).mono ?_); rintro e w' ⟨rfl, ⟨nd, rfl⟩⟩; refine ⟨_, rfl, ?_⟩) | (go_at_call 152; (with_reducible refine (palanquinref07_in.calls a0_1 0 65535 true _ A4.out).mono ?_); rintro e w' ⟨rfl, ⟨nd, rfl⟩⟩) | (go_at_call 152; (with_reducible refine (palanquinref07_in.calls a0_5 0 65535 true _ A6.out).mono ?_); rintro e w' ⟨rfl, ⟨nd, rfl⟩⟩) | (go_at_call 152; (with_reducible refine (palanquinref07_in.calls a0_6 0 65535 true _ A8.out).mono ?_); rintro e w' ⟨rfl, ⟨nd, rfl⟩⟩) | (go_at_call 152; (with_reducible refine (palanquinref07_in.calls a0_4 0 255 true _ A10.out).mono ?_); rintro e w' ⟨rfl, ⟨nd, rfl⟩⟩))
              go_ret
              exact ⟨by first | rfl | (simp [errW_none, errW_some] <;> rfl) | (simp [*, errW_none, errW_some] <;> rfl), by repeat (first | (with_reducible first | exact HB.out | apply below_alloc | apply pw_below_drewN | apply below_drew1 | refine below_set ?_ GE595.out) | exact HB.out)⟩
          · replace c11 := Bool.eq_false_iff.mpr c11
            subst c11
            have H1 : (some false) = some r := by rw [if_neg (show ¬ (false = true) by decide)] at H; exact H
            clear H
            have H := H1
            clear H1
            obtain rfl := Option.some.inj H
            go_enter Try.func110, Try.ntmps110
            go_wp2_with (first | ((with_reducible refine gate_dst (N := 1) rfl ?_); (try (refine gate_guard (by rfl) ?_; dsimp only)); refine box_event ?hg (N := 1) ?hd (cs := #[.int .i64 a0_0, .int .i64 a0_1, .int .u32 a0_2, .int .u32 a0_3, .int .i64 a0_4, .int .i64 a0_5, .int .i64 a0_6, .string a0_7, .string a0_8]) (t := 127) ?hr ?_; (case hd => rfl); (case hg => rfl); (case hr => first | (go_simp; done) | (go_simp; rfl)); intro gb595 hg w17 hbox hb; have n0_ := Aside0.mk (below_step (by repeat (first | (with_reducible first | exact HB.out | apply below_alloc | apply pw_below_drewN | apply below_drew1) | exact HB.out)) hb); have n1_ := Aside0.mk (hbox); have n2_ := Aside0.mk ((by rw [hg]; exact (below_size (by repeat (first | (with_reducible first | exact HB.out | apply below_alloc | apply pw_below_drewN | apply below_drew1) | exact HB.out))) : w.heap.size ≤ gb595)); have n3_ := Aside0.mk ((by rw [hg]; exact (below_size (by repeat (first | (with_reducible first | exact HB.out | apply below_alloc | apply pw_below_drewN | apply below_drew1) | exact HB.out))) : w.heap.size ≤ gb595)); clear HB; have HB := n0_; have BK595 := n1_; have GW595 := n2_; have GE595 := n3_; clear n0_ n1_ n2_ n3_; clear hb hbox hg; have hcz18_0 : w17.cell? ⟨gb595, 0, none⟩ = some (.int .i64 a0_0) := (blk_cell BK595.out 0).trans rfl; have hcz18_1 : w17.cell? ⟨gb595, 1, none⟩ = some (.int .i64 a0_1) := (blk_cell BK595.out 1).trans rfl; have hcz18_2 : w17.cell? ⟨gb595, 2, none⟩ = some (.int .u32 a0_2) := (blk_cell BK595.out 2).trans rfl; have hcz18_3 : w17.cell? ⟨gb595, 3, none⟩ = some (.int .u32 a0_3) := (blk_cell BK595.out 3).trans rfl; have hcz18_4 : w17.cell? ⟨gb595, 4, none⟩ = some (.int .i64 a0_4) := (blk_cell BK595.out 4).trans rfl; have hcz18_5 : w17.cell? ⟨gb595, 5, none⟩ = some (.int .i64 a0_5) := (blk_cell BK595.out 5).trans rfl; have hcz18_6 : w17.cell? ⟨gb595, 6, none⟩ = some (.int .i64 a0_6) := (blk_cell BK595.out 6).trans rfl; have hcz18_7 : w17.cell? ⟨gb595, 7, none⟩ = some (.string a0_7) := (blk_cell BK595.out 7).trans rfl; have hcz18_8 : w17.cell? ⟨gb595, 8, none⟩ = some (.string a0_8) := (blk_cell BK595.out 8).trans rfl; have hfz18_0 := blk_frozen BK595.out 0; have hfz18_1 := blk_frozen BK595.out 1; have hfz18_2 := blk_frozen BK595.out 2; have hfz18_3 := blk_frozen BK595.out 3; have hfz18_4 := blk_frozen BK595.out 4; have hfz18_5 := blk_frozen BK595.out 5; have hfz18_6 := blk_frozen BK595.out 6; have hfz18_7 := blk_frozen BK595.out 7; have hfz18_8 := blk_frozen BK595.out 8) | ((with_reducible refine gate_callee (f := 152) rfl ?_); refine goesL_ (some 5) rfl rfl Try.func152 (by kernel_rfl) rfl #[.int .i64 a0_0, .int .i64 0, .int .i64 65535] rfl (by (try simp only [List.map_toArray, List.map_cons, List.map_nil]); first | done | rfl | (simp only [List.length_drop, List.length_take]; rfl)) ?_; (with_reducible refine (palanquinref07_in.calls a0_0 0 65535 true _ A2.out).mono ?_); rintro e w' ⟨rfl, ⟨nd, rfl⟩⟩; refine ⟨_, rfl, ?_⟩) | (go_at_call 152; (with_reducible refine (palanquinref07_in.calls a0_1 0 65535 true _ A4.out).mono ?_); rintro e w' ⟨rfl, ⟨nd, rfl⟩⟩) | (go_at_call 152; (with_reducible refine (palanquinref07_in.calls a0_5 0 65535 true _ A6.out).mono ?_); rintro e w' ⟨rfl, ⟨nd, rfl⟩⟩) | (go_at_call 152; (with_reducible refine (palanquinref07_in.calls a0_6 0 65535 true _ A8.out).mono ?_); rintro e w' ⟨rfl, ⟨nd, rfl⟩⟩) | (go_at_call 152; (with_reducible refine (palanquinref07_in.calls a0_4 0 255 false _ A10.out).mono ?_); rintro e w' ⟨rfl, ⟨nd, rfl⟩⟩))
            go_ret
            exact ⟨by first | rfl | (simp [errW_none, errW_some] <;> rfl) | (simp [*, errW_none, errW_some] <;> rfl), by repeat (first | (with_reducible first | exact HB.out | apply below_alloc | apply pw_below_drewN | apply below_drew1 | refine below_set ?_ GE595.out) | exact HB.out)⟩
        · replace c9 := Bool.eq_false_iff.mpr c9
          subst c9
          have H1 : (some false) = some r := by rw [if_neg (show ¬ (false = true) by decide)] at H; exact H
          clear H
          have H := H1
          clear H1
          obtain rfl := Option.some.inj H
          go_enter Try.func110, Try.ntmps110
          go_wp2_with (first | ((with_reducible refine gate_dst (N := 1) rfl ?_); (try (refine gate_guard (by rfl) ?_; dsimp only)); refine box_event ?hg (N := 1) ?hd (cs := #[.int .i64 a0_0, .int .i64 a0_1, .int .u32 a0_2, .int .u32 a0_3, .int .i64 a0_4, .int .i64 a0_5, .int .i64 a0_6, .string a0_7, .string a0_8]) (t := 127) ?hr ?_; (case hd => rfl); (case hg => rfl); (case hr => first | (go_simp; done) | (go_simp; rfl)); intro gb595 hg w19 hbox hb; have n0_ := Aside0.mk (below_step (by repeat (first | (with_reducible first | exact HB.out | apply below_alloc | apply pw_below_drewN | apply below_drew1) | exact HB.out)) hb); have n1_ := Aside0.mk (hbox); have n2_ := Aside0.mk ((by rw [hg]; exact (below_size (by repeat (first | (with_reducible first | exact HB.out | apply below_alloc | apply pw_below_drewN | apply below_drew1) | exact HB.out))) : w.heap.size ≤ gb595)); have n3_ := Aside0.mk ((by rw [hg]; exact (below_size (by repeat (first | (with_reducible first | exact HB.out | apply below_alloc | apply pw_below_drewN | apply below_drew1) | exact HB.out))) : w.heap.size ≤ gb595)); clear HB; have HB := n0_; have BK595 := n1_; have GW595 := n2_; have GE595 := n3_; clear n0_ n1_ n2_ n3_; clear hb hbox hg; have hcz20_0 : w19.cell? ⟨gb595, 0, none⟩ = some (.int .i64 a0_0) := (blk_cell BK595.out 0).trans rfl; have hcz20_1 : w19.cell? ⟨gb595, 1, none⟩ = some (.int .i64 a0_1) := (blk_cell BK595.out 1).trans rfl; have hcz20_2 : w19.cell? ⟨gb595, 2, none⟩ = some (.int .u32 a0_2) := (blk_cell BK595.out 2).trans rfl; have hcz20_3 : w19.cell? ⟨gb595, 3, none⟩ = some (.int .u32 a0_3) := (blk_cell BK595.out 3).trans rfl; have hcz20_4 : w19.cell? ⟨gb595, 4, none⟩ = some (.int .i64 a0_4) := (blk_cell BK595.out 4).trans rfl; have hcz20_5 : w19.cell? ⟨gb595, 5, none⟩ = some (.int .i64 a0_5) := (blk_cell BK595.out 5).trans rfl; have hcz20_6 : w19.cell? ⟨gb595, 6, none⟩ = some (.int .i64 a0_6) := (blk_cell BK595.out 6).trans rfl; have hcz20_7 : w19.cell? ⟨gb595, 7, none⟩ = some (.string a0_7) := (blk_cell BK595.out 7).trans rfl; have hcz20_8 : w19.cell? ⟨gb595, 8, none⟩ = some (.string a0_8) := (blk_cell BK595.out 8).trans rfl; have hfz20_0 := blk_frozen BK595.out 0; have hfz20_1 := blk_frozen BK595.out 1; have hfz20_2 := blk_frozen BK595.out 2; have hfz20_3 := blk_frozen BK595.out 3; have hfz20_4 := blk_frozen BK595.out 4; have hfz20_5 := blk_frozen BK595.out 5; have hfz20_6 := blk_frozen BK595.out 6; have hfz20_7 := blk_frozen BK595.out 7; have hfz20_8 := blk_frozen BK595.out 8) | ((with_reducible refine gate_callee (f := 152) rfl ?_); refine goesL_ (some 5) rfl rfl Try.func152 (by kernel_rfl) rfl #[.int .i64 a0_0, .int .i64 0, .int .i64 65535] rfl (by (try simp only [List.map_toArray, List.map_cons, List.map_nil]); first | done | rfl | (simp only [List.length_drop, List.length_take]; rfl)) ?_; (with_reducible refine (palanquinref07_in.calls a0_0 0 65535 true _ A2.out).mono ?_); rintro e w' ⟨rfl, ⟨nd, rfl⟩⟩; refine ⟨_, rfl, ?_⟩) | (go_at_call 152; (with_reducible refine (palanquinref07_in.calls a0_1 0 65535 true _ A4.out).mono ?_); rintro e w' ⟨rfl, ⟨nd, rfl⟩⟩) | (go_at_call 152; (with_reducible refine (palanquinref07_in.calls a0_5 0 65535 true _ A6.out).mono ?_); rintro e w' ⟨rfl, ⟨nd, rfl⟩⟩) | (go_at_call 152; (with_reducible refine (palanquinref07_in.calls a0_6 0 65535 false _ A8.out).mono ?_); rintro e w' ⟨rfl, ⟨nd, rfl⟩⟩))
          go_ret
          exact ⟨by first | rfl | (simp [errW_none, errW_some] <;> rfl) | (simp [*, errW_none, errW_some] <;> rfl), by repeat (first | (with_reducible first | exact HB.out | apply below_alloc | apply pw_below_drewN | apply below_drew1 | refine below_set ?_ GE595.out) | exact HB.out)⟩
      · replace c7 := Bool.eq_false_iff.mpr c7
        subst c7
        have H1 : (some false) = some r := by rw [if_neg (show ¬ (false = true) by decide)] at H; exact H
        clear H
        have H := H1
        clear H1
        obtain rfl := Option.some.inj H
        go_enter Try.func110, Try.ntmps110
        go_wp2_with (first | ((with_reducible refine gate_dst (N := 1) rfl ?_); (try (refine gate_guard (by rfl) ?_; dsimp only)); refine box_event ?hg (N := 1) ?hd (cs := #[.int .i64 a0_0, .int .i64 a0_1, .int .u32 a0_2, .int .u32 a0_3, .int .i64 a0_4, .int .i64 a0_5, .int .i64 a0_6, .string a0_7, .string a0_8]) (t := 127) ?hr ?_; (case hd => rfl); (case hg => rfl); (case hr => first | (go_simp; done) | (go_simp; rfl)); intro gb595 hg w21 hbox hb; have n0_ := Aside0.mk (below_step (by repeat (first | (with_reducible first | exact HB.out | apply below_alloc | apply pw_below_drewN | apply below_drew1) | exact HB.out)) hb); have n1_ := Aside0.mk (hbox); have n2_ := Aside0.mk ((by rw [hg]; exact (below_size (by repeat (first | (with_reducible first | exact HB.out | apply below_alloc | apply pw_below_drewN | apply below_drew1) | exact HB.out))) : w.heap.size ≤ gb595)); have n3_ := Aside0.mk ((by rw [hg]; exact (below_size (by repeat (first | (with_reducible first | exact HB.out | apply below_alloc | apply pw_below_drewN | apply below_drew1) | exact HB.out))) : w.heap.size ≤ gb595)); clear HB; have HB := n0_; have BK595 := n1_; have GW595 := n2_; have GE595 := n3_; clear n0_ n1_ n2_ n3_; clear hb hbox hg; have hcz22_0 : w21.cell? ⟨gb595, 0, none⟩ = some (.int .i64 a0_0) := (blk_cell BK595.out 0).trans rfl; have hcz22_1 : w21.cell? ⟨gb595, 1, none⟩ = some (.int .i64 a0_1) := (blk_cell BK595.out 1).trans rfl; have hcz22_2 : w21.cell? ⟨gb595, 2, none⟩ = some (.int .u32 a0_2) := (blk_cell BK595.out 2).trans rfl; have hcz22_3 : w21.cell? ⟨gb595, 3, none⟩ = some (.int .u32 a0_3) := (blk_cell BK595.out 3).trans rfl; have hcz22_4 : w21.cell? ⟨gb595, 4, none⟩ = some (.int .i64 a0_4) := (blk_cell BK595.out 4).trans rfl; have hcz22_5 : w21.cell? ⟨gb595, 5, none⟩ = some (.int .i64 a0_5) := (blk_cell BK595.out 5).trans rfl; have hcz22_6 : w21.cell? ⟨gb595, 6, none⟩ = some (.int .i64 a0_6) := (blk_cell BK595.out 6).trans rfl; have hcz22_7 : w21.cell? ⟨gb595, 7, none⟩ = some (.string a0_7) := (blk_cell BK595.out 7).trans rfl; have hcz22_8 : w21.cell? ⟨gb595, 8, none⟩ = some (.string a0_8) := (blk_cell BK595.out 8).trans rfl; have hfz22_0 := blk_frozen BK595.out 0; have hfz22_1 := blk_frozen BK595.out 1; have hfz22_2 := blk_frozen BK595.out 2; have hfz22_3 := blk_frozen BK595.out 3; have hfz22_4 := blk_frozen BK595.out 4; have hfz22_5 := blk_frozen BK595.out 5; have hfz22_6 := blk_frozen BK595.out 6; have hfz22_7 := blk_frozen BK595.out 7; have hfz22_8 := blk_frozen BK595.out 8) | ((with_reducible refine gate_callee (f := 152) rfl ?_); refine goesL_ (some 5) rfl rfl Try.func152 (by kernel_rfl) rfl #[.int .i64 a0_0, .int .i64 0, .int .i64 65535] rfl (by (try simp only [List.map_toArray, List.map_cons, List.map_nil]); first | done | rfl | (simp only [List.length_drop, List.length_take]; rfl)) ?_; (with_reducible refine (palanquinref07_in.calls a0_0 0 65535 true _ A2.out).mono ?_); rintro e w' ⟨rfl, ⟨nd, rfl⟩⟩; refine ⟨_, rfl, ?_⟩) | (go_at_call 152; (with_reducible refine (palanquinref07_in.calls a0_1 0 65535 true _ A4.out).mono ?_); rintro e w' ⟨rfl, ⟨nd, rfl⟩⟩) | (go_at_call 152; (with_reducible refine (palanquinref07_in.calls a0_5 0 65535 false _ A6.out).mono ?_); rintro e w' ⟨rfl, ⟨nd, rfl⟩⟩))
        go_ret
        exact ⟨by first | rfl | (simp [errW_none, errW_some] <;> rfl) | (simp [*, errW_none, errW_some] <;> rfl), by repeat (first | (with_reducible first | exact HB.out | apply below_alloc | apply pw_below_drewN | apply below_drew1 | refine below_set ?_ GE595.out) | exact HB.out)⟩
    · replace c5 := Bool.eq_false_iff.mpr c5
      subst c5
      have H1 : (some false) = some r := by rw [if_neg (show ¬ (false = true) by decide)] at H; exact H
      clear H
      have H := H1
      clear H1
      obtain rfl := Option.some.inj H
      go_enter Try.func110, Try.ntmps110
      go_wp2_with (first | ((with_reducible refine gate_dst (N := 1) rfl ?_); (try (refine gate_guard (by rfl) ?_; dsimp only)); refine box_event ?hg (N := 1) ?hd (cs := #[.int .i64 a0_0, .int .i64 a0_1, .int .u32 a0_2, .int .u32 a0_3, .int .i64 a0_4, .int .i64 a0_5, .int .i64 a0_6, .string a0_7, .string a0_8]) (t := 127) ?hr ?_; (case hd => rfl); (case hg => rfl); (case hr => first | (go_simp; done) | (go_simp; rfl)); intro gb595 hg w23 hbox hb; have n0_ := Aside0.mk (below_step (by repeat (first | (with_reducible first | exact HB.out | apply below_alloc | apply pw_below_drewN | apply below_drew1) | exact HB.out)) hb); have n1_ := Aside0.mk (hbox); have n2_ := Aside0.mk ((by rw [hg]; exact (below_size (by repeat (first | (with_reducible first | exact HB.out | apply below_alloc | apply pw_below_drewN | apply below_drew1) | exact HB.out))) : w.heap.size ≤ gb595)); have n3_ := Aside0.mk ((by rw [hg]; exact (below_size (by repeat (first | (with_reducible first | exact HB.out | apply below_alloc | apply pw_below_drewN | apply below_drew1) | exact HB.out))) : w.heap.size ≤ gb595)); clear HB; have HB := n0_; have BK595 := n1_; have GW595 := n2_; have GE595 := n3_; clear n0_ n1_ n2_ n3_; clear hb hbox hg; have hcz24_0 : w23.cell? ⟨gb595, 0, none⟩ = some (.int .i64 a0_0) := (blk_cell BK595.out 0).trans rfl; have hcz24_1 : w23.cell? ⟨gb595, 1, none⟩ = some (.int .i64 a0_1) := (blk_cell BK595.out 1).trans rfl; have hcz24_2 : w23.cell? ⟨gb595, 2, none⟩ = some (.int .u32 a0_2) := (blk_cell BK595.out 2).trans rfl; have hcz24_3 : w23.cell? ⟨gb595, 3, none⟩ = some (.int .u32 a0_3) := (blk_cell BK595.out 3).trans rfl; have hcz24_4 : w23.cell? ⟨gb595, 4, none⟩ = some (.int .i64 a0_4) := (blk_cell BK595.out 4).trans rfl; have hcz24_5 : w23.cell? ⟨gb595, 5, none⟩ = some (.int .i64 a0_5) := (blk_cell BK595.out 5).trans rfl; have hcz24_6 : w23.cell? ⟨gb595, 6, none⟩ = some (.int .i64 a0_6) := (blk_cell BK595.out 6).trans rfl; have hcz24_7 : w23.cell? ⟨gb595, 7, none⟩ = some (.string a0_7) := (blk_cell BK595.out 7).trans rfl; have hcz24_8 : w23.cell? ⟨gb595, 8, none⟩ = some (.string a0_8) := (blk_cell BK595.out 8).trans rfl; have hfz24_0 := blk_frozen BK595.out 0; have hfz24_1 := blk_frozen BK595.out 1; have hfz24_2 := blk_frozen BK595.out 2; have hfz24_3 := blk_frozen BK595.out 3; have hfz24_4 := blk_frozen BK595.out 4; have hfz24_5 := blk_frozen BK595.out 5; have hfz24_6 := blk_frozen BK595.out 6; have hfz24_7 := blk_frozen BK595.out 7; have hfz24_8 := blk_frozen BK595.out 8) | ((with_reducible refine gate_callee (f := 152) rfl ?_); refine goesL_ (some 5) rfl rfl Try.func152 (by kernel_rfl) rfl #[.int .i64 a0_0, .int .i64 0, .int .i64 65535] rfl (by (try simp only [List.map_toArray, List.map_cons, List.map_nil]); first | done | rfl | (simp only [List.length_drop, List.length_take]; rfl)) ?_; (with_reducible refine (palanquinref07_in.calls a0_0 0 65535 true _ A2.out).mono ?_); rintro e w' ⟨rfl, ⟨nd, rfl⟩⟩; refine ⟨_, rfl, ?_⟩) | (go_at_call 152; (with_reducible refine (palanquinref07_in.calls a0_1 0 65535 false _ A4.out).mono ?_); rintro e w' ⟨rfl, ⟨nd, rfl⟩⟩))
      go_ret
      exact ⟨by first | rfl | (simp [errW_none, errW_some] <;> rfl) | (simp [*, errW_none, errW_some] <;> rfl), by repeat (first | (with_reducible first | exact HB.out | apply below_alloc | apply pw_below_drewN | apply below_drew1 | refine below_set ?_ GE595.out) | exact HB.out)⟩
  · replace c3 := Bool.eq_false_iff.mpr c3
    subst c3
    have H1 : (some false) = some r := by rw [if_neg (show ¬ (false = true) by decide)] at H; exact H
    clear H
    have H := H1
    clear H1
    obtain rfl := Option.some.inj H
    go_enter Try.func110, Try.ntmps110
    go_wp2_with (first | ((with_reducible refine gate_dst (N := 1) rfl ?_); (try (refine gate_guard (by rfl) ?_; dsimp only)); refine box_event ?hg (N := 1) ?hd (cs := #[.int .i64 a0_0, .int .i64 a0_1, .int .u32 a0_2, .int .u32 a0_3, .int .i64 a0_4, .int .i64 a0_5, .int .i64 a0_6, .string a0_7, .string a0_8]) (t := 127) ?hr ?_; (case hd => rfl); (case hg => rfl); (case hr => first | (go_simp; done) | (go_simp; rfl)); intro gb595 hg w25 hbox hb; have n0_ := Aside0.mk (below_step (by repeat (first | (with_reducible first | exact HB.out | apply below_alloc | apply pw_below_drewN | apply below_drew1) | exact HB.out)) hb); have n1_ := Aside0.mk (hbox); have n2_ := Aside0.mk ((by rw [hg]; exact (below_size (by repeat (first | (with_reducible first | exact HB.out | apply below_alloc | apply pw_below_drewN | apply below_drew1) | exact HB.out))) : w.heap.size ≤ gb595)); have n3_ := Aside0.mk ((by rw [hg]; exact (below_size (by repeat (first | (with_reducible first | exact HB.out | apply below_alloc | apply pw_below_drewN | apply below_drew1) | exact HB.out))) : w.heap.size ≤ gb595)); clear HB; have HB := n0_; have BK595 := n1_; have GW595 := n2_; have GE595 := n3_; clear n0_ n1_ n2_ n3_; clear hb hbox hg; have hcz26_0 : w25.cell? ⟨gb595, 0, none⟩ = some (.int .i64 a0_0) := (blk_cell BK595.out 0).trans rfl; have hcz26_1 : w25.cell? ⟨gb595, 1, none⟩ = some (.int .i64 a0_1) := (blk_cell BK595.out 1).trans rfl; have hcz26_2 : w25.cell? ⟨gb595, 2, none⟩ = some (.int .u32 a0_2) := (blk_cell BK595.out 2).trans rfl; have hcz26_3 : w25.cell? ⟨gb595, 3, none⟩ = some (.int .u32 a0_3) := (blk_cell BK595.out 3).trans rfl; have hcz26_4 : w25.cell? ⟨gb595, 4, none⟩ = some (.int .i64 a0_4) := (blk_cell BK595.out 4).trans rfl; have hcz26_5 : w25.cell? ⟨gb595, 5, none⟩ = some (.int .i64 a0_5) := (blk_cell BK595.out 5).trans rfl; have hcz26_6 : w25.cell? ⟨gb595, 6, none⟩ = some (.int .i64 a0_6) := (blk_cell BK595.out 6).trans rfl; have hcz26_7 : w25.cell? ⟨gb595, 7, none⟩ = some (.string a0_7) := (blk_cell BK595.out 7).trans rfl; have hcz26_8 : w25.cell? ⟨gb595, 8, none⟩ = some (.string a0_8) := (blk_cell BK595.out 8).trans rfl; have hfz26_0 := blk_frozen BK595.out 0; have hfz26_1 := blk_frozen BK595.out 1; have hfz26_2 := blk_frozen BK595.out 2; have hfz26_3 := blk_frozen BK595.out 3; have hfz26_4 := blk_frozen BK595.out 4; have hfz26_5 := blk_frozen BK595.out 5; have hfz26_6 := blk_frozen BK595.out 6; have hfz26_7 := blk_frozen BK595.out 7; have hfz26_8 := blk_frozen BK595.out 8) | ((with_reducible refine gate_callee (f := 152) rfl ?_); refine goesL_ (some 5) rfl rfl Try.func152 (by kernel_rfl) rfl #[.int .i64 a0_0, .int .i64 0, .int .i64 65535] rfl (by (try simp only [List.map_toArray, List.map_cons, List.map_nil]); first | done | rfl | (simp only [List.length_drop, List.length_take]; rfl)) ?_; (with_reducible refine (palanquinref07_in.calls a0_0 0 65535 false _ A2.out).mono ?_); rintro e w' ⟨rfl, ⟨nd, rfl⟩⟩; refine ⟨_, rfl, ?_⟩))
    go_ret
    exact ⟨by first | rfl | (simp [errW_none, errW_some] <;> rfl) | (simp [*, errW_none, errW_some] <;> rfl), by repeat (first | (with_reducible first | exact HB.out | apply below_alloc | apply pw_below_drewN | apply below_drew1 | refine below_set ?_ GE595.out) | exact HB.out)⟩

/-! ### palanquinref07_num: function 153 -/
def palanquinref07_num.f (k : Nat) (a0 : Int) (a1 : Int) : Option (ByteArray) := (palanquinref01_Bytes.f k (IntKind.u64.wrap (a0)) a1).bind fun t601 => (some t601)
theorem palanquinref07_num.mono : ∀ a0 a1 k, LeO (palanquinref07_num.f k a0 a1) (palanquinref07_num.f (k + 1) a0 a1) := by
  intro a0 a1 k
  unfold palanquinref07_num.f
  repeat' first
      | (with_reducible exact palanquinref01_Bytes.mono _ _ _)
      | (with_reducible exact LeO.refl _)
      | (with_reducible exact LeO.none _)
      | (with_reducible refine LeO.ite ?_ ?_)
      | (with_reducible refine LeO.bind ?_ (fun _ => ?_))
      | exact palanquinref01_Bytes.mono _ _ _
      | exact LeO.none _
      | refine LeO.ite ?_ ?_
      | refine LeO.bind ?_ (fun _ => ?_)
set_option maxHeartbeats 8000000 in
set_option maxRecDepth 100000 in
theorem palanquinref07_num.calls (k : Nat) (a0 : Int) (a1 : Int) (r : ByteArray) (w : World) (h : palanquinref07_num.f k a0 a1 = some r) :
    Calls Try.prog 153 #[.int .i64 a0, .int .i64 a1] w fun e w' => e = .returned (.string r) ∧ Below w.heap.size w w' := by
  have HB := Aside0.mk (Below.refl w.heap.size w)
  have H : ((palanquinref01_Bytes.f k (IntKind.u64.wrap (a0)) a1).bind fun t601 => (some t601)) = some r := h
  clear h
  replace H := Option.bind_eq_some_iff.mp H
  obtain ⟨t601, A30, H⟩ := H
  replace H : (some t601) = some r := H
  have A3 := Aside0.mk A30
  clear A30
  obtain rfl := Option.some.inj H
  go_enter Try.func153, Try.ntmps153
  go_wp2_with (first | ((with_reducible refine gate_callee (f := 124) rfl ?_); refine goesL_ (some 8) rfl rfl Try.func124 (by kernel_rfl) rfl #[.int .u64 (IntKind.u64.wrap (a0)), .int .i64 a1] rfl (by (try simp only [List.map_toArray, List.map_cons, List.map_nil]); first | done | rfl | (simp only [List.length_drop, List.length_take]; rfl)) ?_; (with_reducible refine (palanquinref01_Bytes.calls k (IntKind.u64.wrap (a0)) a1 t601 _ A3.out).mono ?_); rintro e w4 ⟨rfl, hb⟩; refine ⟨_, rfl, ?_⟩; have n0_ := Aside0.mk (below_step (by repeat (first | (with_reducible first | exact HB.out | apply below_alloc | apply pw_below_drewN | apply below_drew1) | exact HB.out)) hb); clear HB; have HB := n0_; clear n0_; (try clear hb); (try clear hb2); (try clear hk); (try clear hi)))
  go_ret
  exact ⟨by first | rfl | (simp [errW_none, errW_some] <;> rfl) | (simp [*, errW_none, errW_some] <;> rfl), by repeat (first | (with_reducible first | exact HB.out | apply below_alloc | apply pw_below_drewN | apply below_drew1) | exact HB.out)⟩

end Go.Proofs.Ytejmipoolbodgaa.G
end
