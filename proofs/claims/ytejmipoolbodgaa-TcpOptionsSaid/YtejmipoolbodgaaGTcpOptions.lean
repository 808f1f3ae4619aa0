-- Laid by a program of this session (wip/gen/gprint.py) over the translation's print. Lean checks it.
import Derived.Test.YtejmipoolbodgaaG0
import Derived.Test.YtejmipoolbodgaaGlaw07
import Derived.Test.YtejmipoolbodgaaGref07
import Derived.Test.YtejmipoolbodgaaHTcpM
import Derived.Test.YtejmipoolbodgaaHTcpN
namespace Go.Proofs.Ytejmipoolbodgaa.G
open Go.RowKit Go.Proofs.YtejmipoolbodgaaW.PrintWords Go.Proofs.YtejmipoolbodgaaW.PrintLast Go.Proofs.YtejmipoolbodgaaW.PrintMore
attribute [local go_sem] max2_int min2_int max_two min_two max_three min_three max_four min_four   -- for this text's walks alone
set_option linter.unusedVariables false
set_option linter.unusedSimpArgs false

/-! ### palanquinlaw07_TcpOptions: function 10 -/
def palanquinlaw07_TcpOptions.f (k : Nat) (a0 : ByteArray) : Option (Bool) := (palanquinlaw07_awake.f).bind fun t246 => (if t246 = true then (if (a0.size : Int) > 1000 then (some true) else ((palanquinref07_Walk.f k a0).bind fun bt247 => ((tcp_MSS.f a0).bind fun bt251 => ((palanquinref07_MSS.f k a0).bind fun bt254 => ((tcp_Right.f a0).bind fun t257 => (if (t257 == bt247.2) = true then (if bt251.1 = bt254.1 then (if bt251.2.1 = bt254.2.1 then (some (bt251.2.2 == bt254.2.2)) else (some false)) else (some false)) else (some false))))))) else (some false))
theorem palanquinlaw07_TcpOptions.mono : ∀ a0 k, LeO (palanquinlaw07_TcpOptions.f k a0) (palanquinlaw07_TcpOptions.f (k + 1) a0) := by
  intro a0 k
  unfold palanquinlaw07_TcpOptions.f
  repeat' first
      | (with_reducible exact palanquinref07_MSS.mono _ _)
      | (with_reducible exact palanquinref07_Walk.mono _ _)
      | (with_reducible exact LeO.refl _)
      | (with_reducible exact LeO.none _)
      | (with_reducible refine LeO.ite ?_ ?_)
      | (with_reducible refine LeO.bind ?_ (fun _ => ?_))
      | exact palanquinref07_MSS.mono _ _
      | exact palanquinref07_Walk.mono _ _
      | exact LeO.none _
      | refine LeO.ite ?_ ?_
      | refine LeO.bind ?_ (fun _ => ?_)
set_option maxHeartbeats 8000000 in
set_option maxRecDepth 100000 in
theorem palanquinlaw07_TcpOptions.calls (k : Nat) (a0 : ByteArray) (r : Bool) (w : World) (h : palanquinlaw07_TcpOptions.f k a0 = some r) (hrt_ : Aside0 (r = true)) :
    Calls Try.prog 10 #[.string a0] w fun e w' => e = .returned (.bool r) ∧ Below w.heap.size w w' := by
  have HB := Aside0.mk (Below.refl w.heap.size w)
  have H : ((palanquinlaw07_awake.f).bind fun t246 => (if t246 = true then (if (a0.size : Int) > 1000 then (some true) else ((palanquinref07_Walk.f k a0).bind fun bt247 => ((tcp_MSS.f a0).bind fun bt251 => ((palanquinref07_MSS.f k a0).bind fun bt254 => ((tcp_Right.f a0).bind fun t257 => (if (t257 == bt247.2) = true then (if bt251.1 = bt254.1 then (if bt251.2.1 = bt254.2.1 then (some (bt251.2.2 == bt254.2.2)) else (some false)) else (some false)) else (some false))))))) else (some false))) = some r := h
  clear h
  replace H := Option.bind_eq_some_iff.mp H
  obtain ⟨t246, A20, H⟩ := H
  replace H : (if t246 = true then (if (a0.size : Int) > 1000 then (some true) else ((palanquinref07_Walk.f k a0).bind fun bt247 => ((tcp_MSS.f a0).bind fun bt251 => ((palanquinref07_MSS.f k a0).bind fun bt254 => ((tcp_Right.f a0).bind fun t257 => (if (t257 == bt247.2) = true then (if bt251.1 = bt254.1 then (if bt251.2.1 = bt254.2.1 then (some (bt251.2.2 == bt254.2.2)) else (some false)) else (some false)) else (some false))))))) else (some false)) = some r := H
  have A2 := Aside0.mk A20
  clear A20
  by_cases c3 : t246 = true
  · subst c3
    have H1 : (if (a0.size : Int) > 1000 then (some true) else ((palanquinref07_Walk.f k a0).bind fun bt247 => ((tcp_MSS.f a0).bind fun bt251 => ((palanquinref07_MSS.f k a0).bind fun bt254 => ((tcp_Right.f a0).bind fun t257 => (if (t257 == bt247.2) = true then (if bt251.1 = bt254.1 then (if bt251.2.1 = bt254.2.1 then (some (bt251.2.2 == bt254.2.2)) else (some false)) else (some false)) else (some false))))))) = some r := by rw [if_pos rfl] at H; exact H
    clear H
    have H := H1
    clear H1
    by_cases c4 : (a0.size : Int) > 1000
    · rw [if_pos c4] at H
      have c4b0 : decide (1000 < (a0.size : Int)) = true := decide_eq_true c4
      have c4b1 : decide (1000 < a0.size) = true := decide_eq_true (by omega)
      clear c4
      obtain rfl := Option.some.inj H
      go_enter Try.func10, Try.ntmps10
      go_wp2_with (first | ((with_reducible refine gate_callee (f := 61) rfl ?_); refine goesL_ (some 11) rfl rfl Try.func61 (by kernel_rfl) rfl #[] rfl (by (try simp only [List.map_toArray, List.map_cons, List.map_nil]); first | done | rfl | (simp only [List.length_drop, List.length_take]; rfl)) ?_; (with_reducible refine (palanquinlaw07_awake.calls  true _ A2.out).mono ?_); rintro e w5 ⟨rfl, hb⟩; refine ⟨_, rfl, ?_⟩; have n0_ := Aside0.mk (below_step (by repeat (first | (with_reducible first | exact HB.out | apply below_alloc | apply pw_below_drewN | apply below_drew1) | exact HB.out)) hb); clear HB; have HB := n0_; clear n0_; (try clear hb); (try clear hb2); (try clear hk); (try clear hi)))
      go_ret
      exact ⟨by first | rfl | (simp [errW_none, errW_some] <;> rfl) | (simp [*, errW_none, errW_some] <;> rfl), by repeat (first | (with_reducible first | exact HB.out | apply below_alloc | apply pw_below_drewN | apply below_drew1) | exact HB.out)⟩
    · rw [if_neg c4] at H
      have c4b0 : decide (1000 < (a0.size : Int)) = false := decide_eq_false c4
      have c4b1 : decide (1000 < a0.size) = false := decide_eq_false (by omega)
      clear c4
      replace H := Option.bind_eq_some_iff.mp H
      obtain ⟨⟨t247, t248⟩, A60, H⟩ := H
      replace H : ((tcp_MSS.f a0).bind fun bt251 => ((palanquinref07_MSS.f k a0).bind fun bt254 => ((tcp_Right.f a0).bind fun t257 => (if (t257 == t248) = true then (if bt251.1 = bt254.1 then (if bt251.2.1 = bt254.2.1 then (some (bt251.2.2 == bt254.2.2)) else (some false)) else (some false)) else (some false))))) = some r := H
      have A6 := Aside0.mk A60
      clear A60
      replace H := Option.bind_eq_some_iff.mp H
      obtain ⟨⟨t251, t252, t253⟩, A70, H⟩ := H
      replace H : ((palanquinref07_MSS.f k a0).bind fun bt254 => ((tcp_Right.f a0).bind fun t257 => (if (t257 == t248) = true then (if t251 = bt254.1 then (if t252 = bt254.2.1 then (some (t253 == bt254.2.2)) else (some false)) else (some false)) else (some false)))) = some r := H
      have A7 := Aside0.mk A70
      clear A70
      replace H := Option.bind_eq_some_iff.mp H
      obtain ⟨⟨t254, t255, t256⟩, A80, H⟩ := H
      replace H : ((tcp_Right.f a0).bind fun t257 => (if (t257 == t248) = true then (if t251 = t254 then (if t252 = t255 then (some (t253 == t256)) else (some false)) else (some false)) else (some false))) = some r := H
      have A8 := Aside0.mk A80
      clear A80
      replace H := Option.bind_eq_some_iff.mp H
      obtain ⟨t257, A90, H⟩ := H
      replace H : (if (t257 == t248) = true then (if t251 = t254 then (if t252 = t255 then (some (t253 == t256)) else (some false)) else (some false)) else (some false)) = some r := H
      have A9 := Aside0.mk A90
      clear A90
      by_cases c10 : (t257 == t248) = true
      · rw [if_pos c10] at H
        have c10b0 : (t257 == t248) = true := c10
        (try (have c10b1 : decide (t257 = t248) = true := by simpa using c10))
        (try (have c10b2 : (t257 == t248) = true := by simpa using c10))
        clear c10
        by_cases c11 : t251 = t254
        · rw [if_pos c11] at H
          have c11b0 : (t251 == t254) = true := beq_iff_eq.mpr c11
          have c11b1 : (t251 != t254) = false := bne_eq_false_iff_eq.mpr c11
          clear c11
          by_cases c12 : t252 = t255
          · rw [if_pos c12] at H
            have c12b0 : (t252 == t255) = true := beq_iff_eq.mpr c12
            have c12b1 : (t252 != t255) = false := bne_eq_false_iff_eq.mpr c12
            clear c12
            obtain rfl := Option.some.inj H
            go_enter Try.func10, Try.ntmps10
            go_wp2_with (first | ((with_reducible refine gate_callee (f := 61) rfl ?_); refine goesL_ (some 11) rfl rfl Try.func61 (by kernel_rfl) rfl #[] rfl (by (try simp only [List.map_toArray, List.map_cons, List.map_nil]); first | done | rfl | (simp only [List.length_drop, List.length_take]; rfl)) ?_; (with_reducible refine (palanquinlaw07_awake.calls  true _ A2.out).mono ?_); rintro e w13 ⟨rfl, hb⟩; refine ⟨_, rfl, ?_⟩; have n0_ := Aside0.mk (below_step (by repeat (first | (with_reducible first | exact HB.out | apply below_alloc | apply pw_below_drewN | apply below_drew1) | exact HB.out)) hb); clear HB; have HB := n0_; clear n0_; (try clear hb); (try clear hb2); (try clear hk); (try clear hi)) | ((with_reducible refine gate_callee (f := 62) rfl ?_); refine goesL_ (some 18) rfl rfl Try.func62 (by kernel_rfl) rfl #[.string a0] rfl (by (try simp only [List.map_toArray, List.map_cons, List.map_nil]); first | done | rfl | (simp only [List.length_drop, List.length_take]; rfl)) ?_; (with_reducible refine (palanquinref07_Walk.calls k a0 t247 t248 _ A6.out).mono ?_); rintro e w14 ⟨v249, rfl, ho0, hb⟩; refine ⟨_, rfl, ?_⟩; have n0_ := Aside0.mk (Kd.R_lower ho0 (below_size (by repeat (first | (with_reducible first | exact HB.out | apply below_alloc | apply pw_below_drewN | apply below_drew1) | exact HB.out)))); have n1_ := Aside0.mk (below_step (by repeat (first | (with_reducible first | exact HB.out | apply below_alloc | apply pw_below_drewN | apply below_drew1) | exact HB.out)) hb); clear HB; have HO250 := n0_; have HB := n1_; clear n0_ n1_; (try clear hb); (try clear hb2); (try clear hk); (try clear hi); (try clear ho0)) | ((with_reducible refine gate_callee (f := 63) rfl ?_); refine goesL_ (some 23) rfl rfl Try.func63 (by kernel_rfl) rfl #[.string a0] rfl (by (try simp only [List.map_toArray, List.map_cons, List.map_nil]); first | done | rfl | (simp only [List.length_drop, List.length_take]; rfl)) ?_; (with_reducible refine (tcp_MSS.calls a0 t251 t252 t253 _ A7.out).mono ?_); rintro e w15 ⟨rfl, hb⟩; refine ⟨_, rfl, ?_⟩; have n0_ := Aside0.mk (Kd.R_below (by (with_reducible repeat (first | apply Kd.R_alloc | apply Kd.R_drewN | apply Kd.R_drew)); exact HO250.out) hb); have n1_ := Aside0.mk (below_step (by repeat (first | (with_reducible first | exact HB.out | apply below_alloc | apply pw_below_drewN | apply below_drew1) | exact HB.out)) hb); clear HO250; clear HB; have HO250 := n0_; have HB := n1_; clear n0_ n1_; (try clear hb); (try clear hb2); (try clear hk); (try clear hi)) | ((with_reducible refine gate_callee (f := 64) rfl ?_); refine goesL_ (some 29) rfl rfl Try.func64 (by kernel_rfl) rfl #[.string a0] rfl (by (try simp only [List.map_toArray, List.map_cons, List.map_nil]); first | done | rfl | (simp only [List.length_drop, List.length_take]; rfl)) ?_; (with_reducible refine (palanquinref07_MSS.calls k a0 t254 t255 t256 _ A8.out).mono ?_); rintro e w16 ⟨rfl, hb⟩; refine ⟨_, rfl, ?_⟩; have n0_ := Aside0.mk (Kd.R_below (by (with_reducible repeat (first | apply Kd.R_alloc | apply Kd.R_drewN | apply Kd.R_drew)); exact HO250.out) hb); have n1_ := Aside0.mk (below_step (by repeat (first | (with_reducible first | exact HB.out | apply below_alloc | apply pw_below_drewN | apply below_drew1) | exact HB.out)) hb); clear HO250; clear HB; have HO250 := n0_; have HB := n1_; clear n0_ n1_; (try clear hb); (try clear hb2); (try clear hk); (try clear hi)) | ((with_reducible refine gate_callee (f := 65) rfl ?_); refine goesL_ (some 34) rfl rfl Try.func65 (by kernel_rfl) rfl #[.string a0] rfl (by (try simp only [List.map_toArray, List.map_cons, List.map_nil]); first | done | rfl | (simp only [List.length_drop, List.length_take]; rfl)) ?_; (with_reducible refine (tcp_Right.calls a0 t257 _ A9.out).mono ?_); rintro e w17 ⟨rfl, hb⟩; refine ⟨_, rfl, ?_⟩; have n0_ := Aside0.mk (Kd.R_below (by (with_reducible repeat (first | apply Kd.R_alloc | apply Kd.R_drewN | apply Kd.R_drew)); exact HO250.out) hb); have n1_ := Aside0.mk (below_step (by repeat (first | (with_reducible first | exact HB.out | apply below_alloc | apply pw_below_drewN | apply below_drew1) | exact HB.out)) hb); clear HO250; clear HB; have HO250 := n0_; have HB := n1_; clear n0_ n1_; (try clear hb); (try clear hb2); (try clear hk); (try clear hi)))
            go_ret
            exact ⟨by first | rfl | (simp [errW_none, errW_some] <;> rfl) | (simp [*, errW_none, errW_some] <;> rfl), by repeat (first | (with_reducible first | exact HB.out | apply below_alloc | apply pw_below_drewN | apply below_drew1) | exact HB.out)⟩
          · rw [if_neg c12] at H
            exact absurd ((Option.some.inj H).trans hrt_.out) (by decide)
        · rw [if_neg c11] at H
          exact absurd ((Option.some.inj H).trans hrt_.out) (by decide)
      · rw [if_neg c10] at H
        exact absurd ((Option.some.inj H).trans hrt_.out) (by decide)
  · replace c3 := Bool.eq_false_iff.mpr c3
    subst c3
    have H1 : (some false) = some r := by rw [if_neg (show ¬ (false = true) by decide)] at H; exact H
    exact absurd ((Option.some.inj H1).trans hrt_.out) (by decide)
/-- THE ONE PURE STATEMENT of palanquinlaw07_TcpOptions: yours. -/
def palanquinlaw07_TcpOptions.Pure : Prop := ∀ (a0 : ByteArray), a0.size ≤ 140737488351232 → ∃ k, palanquinlaw07_TcpOptions.f k a0 = some true
theorem palanquinlaw07_TcpOptions.walk (P : palanquinlaw07_TcpOptions.Pure) (a0 : ByteArray) (w : World) (w0 : a0.size ≤ 140737488351232) :
    Calls Try.prog 10 #[.string a0] w fun e w' => e = .returned (.bool true) ∧ Below w.heap.size w w' := by
  obtain ⟨k, h⟩ := P a0 w0
  refine (palanquinlaw07_TcpOptions.calls k a0 true w h ⟨rfl⟩).mono ?_
  rintro e w' ⟨rfl, hd⟩
  exact ⟨rfl, hd⟩

end Go.Proofs.Ytejmipoolbodgaa.G
