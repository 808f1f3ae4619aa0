-- Laid by a program of this session (wip/gen/gprint.py) over the translation's print. Lean checks it.
import Derived.Test.YtejmipoolbodgaaG0
import Derived.Test.YtejmipoolbodgaaGlaw02
import Derived.Test.YtejmipoolbodgaaGsum
import Derived.Test.YtejmipoolbodgaaGref02
import Derived.Test.YtejmipoolbodgaaHSum
namespace Go.Proofs.Ytejmipoolbodgaa.G
open Go.RowKit Go.Proofs.YtejmipoolbodgaaW.PrintWords Go.Proofs.YtejmipoolbodgaaW.PrintLast Go.Proofs.YtejmipoolbodgaaW.PrintMore
attribute [local go_sem] max2_int min2_int max_two min_two max_three min_three max_four min_four   -- for this text's walks alone
set_option linter.unusedVariables false
set_option linter.unusedSimpArgs false

/-! ### palanquinlaw02_SumTells: function 6 -/
def palanquinlaw02_SumTells.j0 : Nat → List ByteArray → Int → Int → Int → ByteArray → ByteArray → ByteArray → Bool → Option (Bool)
  | 0, _, _, _, _, _, _, _, _ => none
  | k + 1, x0, x1, x2, x3, x4, x5, x13, x33 => if x33 = true then (some true) else ((sum_Sum.f x0).bind fun t210 => ((palanquinref02_Sum.f k x13).bind fun t211 => (if t210 = t211 then ((sum_Right.f x0).bind fun t212 => ((palanquinref02_Sum.f k x13).bind fun t213 => (if (t212 == (t213 == 0)) = true then ((sum_Update.f x1 x2 x3).bind fun t214 => ((palanquinref02_Update.f k x1 x2 x3).bind fun t215 => (if t214 = t215 then ((sum_Pseudo.f x4 x5 x1 x2).bind fun t216 => ((palanquinref02_Pseudo.f k x4 x5 x1 x2).bind fun t217 => (some (t216.toList == t217.toList)))) else (some false)))) else (some false)))) else (some false))))
def palanquinlaw02_SumTells.f (k : Nat) (l0 : List ByteArray) (a1 : Int) (a2 : Int) (a3 : Int) (a4 : ByteArray) (a5 : ByteArray) : Option (Bool) := (palanquinlaw02_awake.f).bind fun t207 => (if t207 = true then ((palanquinlaw02_join.f k l0).bind fun bt208 => (if bt208.2 = true then (if (a4.size : Int) > 300 then (palanquinlaw02_SumTells.j0 k l0 a1 a2 a3 a4 a5 bt208.1 true) else (palanquinlaw02_SumTells.j0 k l0 a1 a2 a3 a4 a5 bt208.1 (decide ((a5.size : Int) > 300)))) else (palanquinlaw02_SumTells.j0 k l0 a1 a2 a3 a4 a5 bt208.1 true))) else (some false))
theorem palanquinlaw02_SumTells.mono_l : ∀ k, (∀ y0 y1 y2 y3 y4 y5 y6 y7, LeO (palanquinlaw02_SumTells.j0 k y0 y1 y2 y3 y4 y5 y6 y7) (palanquinlaw02_SumTells.j0 (k + 1) y0 y1 y2 y3 y4 y5 y6 y7))
  | 0 => fun _ _ _ _ _ _ _ _ r h => by simp [palanquinlaw02_SumTells.j0] at h
  | k + 1 => by
    have ih0 := palanquinlaw02_SumTells.mono_l k
    · intro y0 y1 y2 y3 y4 y5 y6 y7
      unfold palanquinlaw02_SumTells.j0
      repeat' first
      | (with_reducible exact ih0 _ _ _ _ _ _ _ _)
      | (with_reducible exact palanquinlaw02_join.mono _ _)
      | (with_reducible exact palanquinref02_Pseudo.mono _ _ _ _ _)
      | (with_reducible exact palanquinref02_Sum.mono _ _)
      | (with_reducible exact palanquinref02_Update.mono _ _ _ _)
      | (with_reducible exact LeO.refl _)
      | (with_reducible exact LeO.none _)
      | (with_reducible refine LeO.ite ?_ ?_)
      | (with_reducible refine LeO.bind ?_ (fun _ => ?_))
      | exact ih0 _ _ _ _ _ _ _ _
      | exact palanquinlaw02_join.mono _ _
      | exact palanquinref02_Pseudo.mono _ _ _ _ _
      | exact palanquinref02_Sum.mono _ _
      | exact palanquinref02_Update.mono _ _ _ _
      | exact LeO.none _
      | refine LeO.ite ?_ ?_
      | refine LeO.bind ?_ (fun _ => ?_)
theorem palanquinlaw02_SumTells.mono : ∀ a0 a1 a2 a3 a4 a5 k, LeO (palanquinlaw02_SumTells.f k a0 a1 a2 a3 a4 a5) (palanquinlaw02_SumTells.f (k + 1) a0 a1 a2 a3 a4 a5) := by
  intro a0 a1 a2 a3 a4 a5 k
  have ih0 := palanquinlaw02_SumTells.mono_l k
  unfold palanquinlaw02_SumTells.f
  repeat' first
      | (with_reducible exact ih0 _ _ _ _ _ _ _ _)
      | (with_reducible exact palanquinlaw02_join.mono _ _)
      | (with_reducible exact palanquinref02_Pseudo.mono _ _ _ _ _)
      | (with_reducible exact palanquinref02_Sum.mono _ _)
      | (with_reducible exact palanquinref02_Update.mono _ _ _ _)
      | (with_reducible exact LeO.refl _)
      | (with_reducible exact LeO.none _)
      | (with_reducible refine LeO.ite ?_ ?_)
      | (with_reducible refine LeO.bind ?_ (fun _ => ?_))
      | exact ih0 _ _ _ _ _ _ _ _
      | exact palanquinlaw02_join.mono _ _
      | exact palanquinref02_Pseudo.mono _ _ _ _ _
      | exact palanquinref02_Sum.mono _ _
      | exact palanquinref02_Update.mono _ _ _ _
      | exact LeO.none _
      | refine LeO.ite ?_ ?_
      | refine LeO.bind ?_ (fun _ => ?_)
set_option maxHeartbeats 8000000 in
set_option maxRecDepth 100000 in
theorem palanquinlaw02_SumTells.calls (k : Nat) (A0 : Option Addr) (c0 : Nat) (l0 : List ByteArray) (a1 : Int) (a2 : Int) (a3 : Int) (a4 : ByteArray) (a5 : ByteArray) (r : Bool) (w : World) (hr0 : Kd.C Kd.string w A0 l0.length l0) (hc0 : l0.length ≤ c0) (h : palanquinlaw02_SumTells.f k l0 a1 a2 a3 a4 a5 = some r) :
    Calls Try.prog 6 #[.slice A0 l0.length c0, .int .i64 a1, .int .i64 a2, .int .i64 a3, .string a4, .string a5] w fun e w' => e = .returned (.bool r) ∧ Below w.heap.size w w' := by
  have HR0 := Aside0.mk hr0
  have HC0 := Aside0.mk hc0
  clear hr0 hc0
  have HB := Aside0.mk (Below.refl w.heap.size w)
  have H : ((palanquinlaw02_awake.f).bind fun t207 => (if t207 = true then ((palanquinlaw02_join.f k l0).bind fun bt208 => (if bt208.2 = true then (if (a4.size : Int) > 300 then (palanquinlaw02_SumTells.j0 k l0 a1 a2 a3 a4 a5 bt208.1 true) else (palanquinlaw02_SumTells.j0 k l0 a1 a2 a3 a4 a5 bt208.1 (decide ((a5.size : Int) > 300)))) else (palanquinlaw02_SumTells.j0 k l0 a1 a2 a3 a4 a5 bt208.1 true))) else (some false))) = some r := h
  clear h
  replace H := Option.bind_eq_some_iff.mp H
  obtain ⟨t207, A70, H⟩ := H
  replace H : (if t207 = true then ((palanquinlaw02_join.f k l0).bind fun bt208 => (if bt208.2 = true then (if (a4.size : Int) > 300 then (palanquinlaw02_SumTells.j0 k l0 a1 a2 a3 a4 a5 bt208.1 true) else (palanquinlaw02_SumTells.j0 k l0 a1 a2 a3 a4 a5 bt208.1 (decide ((a5.size : Int) > 300)))) else (palanquinlaw02_SumTells.j0 k l0 a1 a2 a3 a4 a5 bt208.1 true))) else (some false)) = some r := H
  have A7 := Aside0.mk A70
  clear A70
  by_cases c8 : t207 = true
  · subst c8
    have H1 : ((palanquinlaw02_join.f k l0).bind fun bt208 => (if bt208.2 = true then (if (a4.size : Int) > 300 then (palanquinlaw02_SumTells.j0 k l0 a1 a2 a3 a4 a5 bt208.1 true) else (palanquinlaw02_SumTells.j0 k l0 a1 a2 a3 a4 a5 bt208.1 (decide ((a5.size : Int) > 300)))) else (palanquinlaw02_SumTells.j0 k l0 a1 a2 a3 a4 a5 bt208.1 true))) = some r := by rw [if_pos rfl] at H; exact H
    clear H
    have H := H1
    clear H1
    replace H := Option.bind_eq_some_iff.mp H
    obtain ⟨⟨t208, t209⟩, A90, H⟩ := H
    replace H : (if t209 = true then (if (a4.size : Int) > 300 then (palanquinlaw02_SumTells.j0 k l0 a1 a2 a3 a4 a5 t208 true) else (palanquinlaw02_SumTells.j0 k l0 a1 a2 a3 a4 a5 t208 (decide ((a5.size : Int) > 300)))) else (palanquinlaw02_SumTells.j0 k l0 a1 a2 a3 a4 a5 t208 true)) = some r := H
    have A9 := Aside0.mk A90
    clear A90
    have HC10 := Aside0.mk H
    clear H
    go_enter Try.func6, Try.ntmps6
    go_upto_region 4 with (first | ((with_reducible refine gate_callee (f := 36) rfl ?_); refine goesL_ (some 15) rfl rfl Try.func36 (by kernel_rfl) rfl #[] rfl (by (try simp only [List.map_toArray, List.map_cons, List.map_nil]); first | done | rfl | (simp only [List.length_drop, List.length_take]; rfl)) ?_; (with_reducible refine (palanquinlaw02_awake.calls  true _ A7.out).mono ?_); rintro e w11 ⟨rfl, hb⟩; refine ⟨_, rfl, ?_⟩; have n0_ := Aside0.mk (below_step (by repeat (first | (with_reducible first | exact HB.out | apply below_alloc | apply pw_below_drewN | apply below_drew1) | exact HB.out)) hb); clear HB; have HB := n0_; clear n0_; (try clear hb); (try clear hb2); (try clear hk); (try clear hi)) | ((with_reducible refine gate_callee (f := 40) rfl ?_); refine goesL_ (some 19) rfl rfl Try.func40 (by kernel_rfl) rfl #[.slice A0 l0.length c0] rfl (by (try simp only [List.map_toArray, List.map_cons, List.map_nil]); first | done | rfl | (simp only [List.length_drop, List.length_take]; rfl)) ?_; (with_reducible refine (palanquinlaw02_join.calls k _ _ l0 t208 t209 _ ?side1 ?side2 A9.out).mono ?_); (case side1 => repeat (first | exact (Kd.C_below HR0.out HB.out) | (with_reducible refine Kd.C_alloc ?_ _) | (with_reducible refine Kd.C_drewN ?_ _) | (with_reducible refine Kd.C_drew ?_))); (case side2 => exact HC0.out); rintro e w' ⟨rfl, ⟨nd, rfl⟩⟩; refine ⟨_, rfl, ?_⟩))
    (try simp only [Act.put, List.setIfInBounds_toArray, List.set_cons_zero, List.set_cons_succ])
    go_cut [33] (fun v33 wc => ∃ (kq : Nat) (x33_9 : Bool), v33 = .bool x33_9 ∧ Aside0 (palanquinlaw02_SumTells.j0 kq l0 a1 a2 a3 a4 a5 t208 x33_9 = some r) ∧ Aside0 (kq ≤ k) ∧ Aside0 (Below w.heap.size w wc))
    case first =>
      have H := HC10.out
      clear HC10
      by_cases c12 : t209 = true
      · subst c12
        have H1 : (if (a4.size : Int) > 300 then (palanquinlaw02_SumTells.j0 k l0 a1 a2 a3 a4 a5 t208 true) else (palanquinlaw02_SumTells.j0 k l0 a1 a2 a3 a4 a5 t208 (decide ((a5.size : Int) > 300)))) = some r := by rw [if_pos rfl] at H; exact H
        clear H
        have H := H1
        clear H1
        by_cases c13 : (a4.size : Int) > 300
        · rw [if_pos c13] at H
          have c13b0 : decide (300 < (a4.size : Int)) = true := decide_eq_true c13
          have c13b1 : decide (300 < a4.size) = true := decide_eq_true (by omega)
          clear c13
          (first | rw [c13b0] | (simp only [i64_w, i32_w]; rw [c13b0]) | skip)
          have H' := Aside0.mk H
          clear H
          go_wp2
          go_meet
          case rel => exact ⟨_, (true), (by first | rfl | (simp; done) | (simp [*]; done)), H', ⟨by first | omega | exact Nat.le_refl _⟩, ⟨by repeat (first | (with_reducible first | exact HB.out | apply below_alloc | apply pw_below_drewN | apply below_drew1) | exact HB.out)⟩⟩
        · rw [if_neg c13] at H
          have c13b0 : decide (300 < (a4.size : Int)) = false := decide_eq_false c13
          have c13b1 : decide (300 < a4.size) = false := decide_eq_false (by omega)
          clear c13
          (first | rw [c13b0] | (simp only [i64_w, i32_w]; rw [c13b0]) | skip)
          have H' := Aside0.mk H
          clear H
          go_wp2
          go_meet
          case rel => exact ⟨_, (decide ((a5.size : Int) > 300)), (by first | rfl | (simp; done) | (simp [*]; done)), H', ⟨by first | omega | exact Nat.le_refl _⟩, ⟨by repeat (first | (with_reducible first | exact HB.out | apply below_alloc | apply pw_below_drewN | apply below_drew1) | exact HB.out)⟩⟩
      · replace c12 := Bool.eq_false_iff.mpr c12
        subst c12
        have H1 : (palanquinlaw02_SumTells.j0 k l0 a1 a2 a3 a4 a5 t208 true) = some r := by rw [if_neg (show ¬ (false = true) by decide)] at H; exact H
        clear H
        have H := H1
        clear H1
        have H' := Aside0.mk H
        clear H
        go_wp2
        go_meet
        case rel => exact ⟨_, (true), (by first | rfl | (simp; done) | (simp [*]; done)), H', ⟨by first | omega | exact Nat.le_refl _⟩, ⟨by repeat (first | (with_reducible first | exact HB.out | apply below_alloc | apply pw_below_drewN | apply below_drew1) | exact HB.out)⟩⟩
    case rest =>
      clear HC10
      try clear c1
      try clear p2
      try clear c3
      try clear c4
      try clear c6
      try clear c8
      try clear c12
      try clear c13
      try clear c13b0
      try clear c13b1
      obtain ⟨kq, x33_9, rfl, HA, HJ9, HB⟩ := hcut
      cases kq with
      | zero => exact absurd HA.out (by simp [palanquinlaw02_SumTells.j0])
      | succ kj9 =>
        have H := HA.out
        clear HA
        simp only [palanquinlaw02_SumTells.j0] at H
        by_cases c14 : x33_9 = true
        · subst c14
          have H1 : (some true) = some r := by rw [if_pos rfl] at H; exact H
          clear H
          have H := H1
          clear H1
          obtain rfl := Option.some.inj H
          go_wp2
          go_ret
          exact ⟨by first | rfl | (simp [errW_none, errW_some] <;> rfl) | (simp [*, errW_none, errW_some] <;> rfl), by repeat (first | (with_reducible first | exact HB.out | apply below_alloc | apply pw_below_drewN | apply below_drew1) | exact HB.out)⟩
        · replace c14 := Bool.eq_false_iff.mpr c14
          subst c14
          have H1 : ((sum_Sum.f l0).bind fun t210 => ((palanquinref02_Sum.f kj9 t208).bind fun t211 => (if t210 = t211 then ((sum_Right.f l0).bind fun t212 => ((palanquinref02_Sum.f kj9 t208).bind fun t213 => (if (t212 == (t213 == 0)) = true then ((sum_Update.f a1 a2 a3).bind fun t214 => ((palanquinref02_Update.f kj9 a1 a2 a3).bind fun t215 => (if t214 = t215 then ((sum_Pseudo.f a4 a5 a1 a2).bind fun t216 => ((palanquinref02_Pseudo.f kj9 a4 a5 a1 a2).bind fun t217 => (some (t216.toList == t217.toList)))) else (some false)))) else (some false)))) else (some false)))) = some r := by rw [if_neg (show ¬ (false = true) by decide)] at H; exact H
          clear H
          have H := H1
          clear H1
          replace H := Option.bind_eq_some_iff.mp H
          obtain ⟨t210, A150, H⟩ := H
          replace H : ((palanquinref02_Sum.f kj9 t208).bind fun t211 => (if t210 = t211 then ((sum_Right.f l0).bind fun t212 => ((palanquinref02_Sum.f kj9 t208).bind fun t213 => (if (t212 == (t213 == 0)) = true then ((sum_Update.f a1 a2 a3).bind fun t214 => ((palanquinref02_Update.f kj9 a1 a2 a3).bind fun t215 => (if t214 = t215 then ((sum_Pseudo.f a4 a5 a1 a2).bind fun t216 => ((palanquinref02_Pseudo.f kj9 a4 a5 a1 a2).bind fun t217 => (some (t216.toList == t217.toList)))) else (some false)))) else (some false)))) else (some false))) = some r := H
          have A15 := Aside0.mk A150
          clear A150
          replace H := Option.bind_eq_some_iff.mp H
          obtain ⟨t211, A160, H⟩ := H
          replace H : (if t210 = t211 then ((sum_Right.f l0).bind fun t212 => ((palanquinref02_Sum.f kj9 t208).bind fun t213 => (if (t212 == (t213 == 0)) = true then ((sum_Update.f a1 a2 a3).bind fun t214 => ((palanquinref02_Update.f kj9 a1 a2 a3).bind fun t215 => (if t214 = t215 then ((sum_Pseudo.f a4 a5 a1 a2).bind fun t216 => ((palanquinref02_Pseudo.f kj9 a4 a5 a1 a2).bind fun t217 => (some (t216.toList == t217.toList)))) else (some false)))) else (some false)))) else (some false)) = some r := H
          have A16 := Aside0.mk A160
          clear A160
          by_cases c17 : t210 = t211
          · rw [if_pos c17] at H
            have c17b0 : (t210 == t211) = true := beq_iff_eq.mpr c17
            have c17b1 : (t210 != t211) = false := bne_eq_false_iff_eq.mpr c17
            clear c17
            replace H := Option.bind_eq_some_iff.mp H
            obtain ⟨t212, A180, H⟩ := H
            replace H : ((palanquinref02_Sum.f kj9 t208).bind fun t213 => (if (t212 == (t213 == 0)) = true then ((sum_Update.f a1 a2 a3).bind fun t214 => ((palanquinref02_Update.f kj9 a1 a2 a3).bind fun t215 => (if t214 = t215 then ((sum_Pseudo.f a4 a5 a1 a2).bind fun t216 => ((palanquinref02_Pseudo.f kj9 a4 a5 a1 a2).bind fun t217 => (some (t216.toList == t217.toList)))) else (some false)))) else (some false))) = some r := H
            have A18 := Aside0.mk A180
            clear A180
            replace H := Option.bind_eq_some_iff.mp H
            obtain ⟨t213, A190, H⟩ := H
            replace H : (if (t212 == (t213 == 0)) = true then ((sum_Update.f a1 a2 a3).bind fun t214 => ((palanquinref02_Update.f kj9 a1 a2 a3).bind fun t215 => (if t214 = t215 then ((sum_Pseudo.f a4 a5 a1 a2).bind fun t216 => ((palanquinref02_Pseudo.f kj9 a4 a5 a1 a2).bind fun t217 => (some (t216.toList == t217.toList)))) else (some false)))) else (some false)) = some r := H
            have A19 := Aside0.mk A190
            clear A190
            by_cases c20 : (t212 == (t213 == 0)) = true
            · rw [if_pos c20] at H
              have c20b0 : (t212 == (t213 == 0)) = true := c20
              (try (have c20b1 : decide (t212 = (t213 == 0)) = true := by simpa using c20))
              (try (have c20b2 : (t212 == (t213 == 0)) = true := by simpa using c20))
              clear c20
              replace H := Option.bind_eq_some_iff.mp H
              obtain ⟨t214, A210, H⟩ := H
              replace H : ((palanquinref02_Update.f kj9 a1 a2 a3).bind fun t215 => (if t214 = t215 then ((sum_Pseudo.f a4 a5 a1 a2).bind fun t216 => ((palanquinref02_Pseudo.f kj9 a4 a5 a1 a2).bind fun t217 => (some (t216.toList == t217.toList)))) else (some false))) = some r := H
              have A21 := Aside0.mk A210
              clear A210
              replace H := Option.bind_eq_some_iff.mp H
              obtain ⟨t215, A220, H⟩ := H
              replace H : (if t214 = t215 then ((sum_Pseudo.f a4 a5 a1 a2).bind fun t216 => ((palanquinref02_Pseudo.f kj9 a4 a5 a1 a2).bind fun t217 => (some (t216.toList == t217.toList)))) else (some false)) = some r := H
              have A22 := Aside0.mk A220
              clear A220
              by_cases c23 : t214 = t215
              · rw [if_pos c23] at H
                have c23b0 : (t214 == t215) = true := beq_iff_eq.mpr c23
                have c23b1 : (t214 != t215) = false := bne_eq_false_iff_eq.mpr c23
                clear c23
                replace H := Option.bind_eq_some_iff.mp H
                obtain ⟨t216, A240, H⟩ := H
                replace H : ((palanquinref02_Pseudo.f kj9 a4 a5 a1 a2).bind fun t217 => (some (t216.toList == t217.toList))) = some r := H
                have A24 := Aside0.mk A240
                clear A240
                replace H := Option.bind_eq_some_iff.mp H
                obtain ⟨t217, A250, H⟩ := H
                replace H : (some (t216.toList == t217.toList)) = some r := H
                have A25 := Aside0.mk A250
                clear A250
                obtain rfl := Option.some.inj H
                go_wp2_with (first | ((with_reducible refine gate_callee (f := 37) rfl ?_); refine goesL_ (some 35) rfl rfl Try.func37 (by kernel_rfl) rfl #[.slice A0 l0.length c0] rfl (by (try simp only [List.map_toArray, List.map_cons, List.map_nil]); first | done | rfl | (simp only [List.length_drop, List.length_take]; rfl)) ?_; (with_reducible refine (sum_Sum.calls _ _ l0 t210 _ ?side1 ?side2 A15.out).mono ?_); (case side1 => repeat (first | exact (Kd.C_below HR0.out HB.out) | (with_reducible refine Kd.C_alloc ?_ _) | (with_reducible refine Kd.C_drewN ?_ _) | (with_reducible refine Kd.C_drew ?_))); (case side2 => exact HC0.out); rintro e w26 ⟨rfl, hb⟩; refine ⟨_, rfl, ?_⟩; have n0_ := Aside0.mk (below_step (by repeat (first | (with_reducible first | exact HB.out | apply below_alloc | apply pw_below_drewN | apply below_drew1) | exact HB.out)) hb); clear HB; have HB := n0_; clear n0_; (try clear hb); (try clear hb2); (try clear hk); (try clear hi)) | ((with_reducible refine gate_callee (f := 41) rfl ?_); refine goesL_ (some 37) rfl rfl Try.func41 (by kernel_rfl) rfl #[.string t208] rfl (by (try simp only [List.map_toArray, List.map_cons, List.map_nil]); first | done | rfl | (simp only [List.length_drop, List.length_take]; rfl)) ?_; (with_reducible refine (palanquinref02_Sum.calls kj9 t208 t211 _ A16.out).mono ?_); rintro e w27 ⟨rfl, hb⟩; refine ⟨_, rfl, ?_⟩; have n0_ := Aside0.mk (below_step (by repeat (first | (with_reducible first | exact HB.out | apply below_alloc | apply pw_below_drewN | apply below_drew1) | exact HB.out)) hb); clear HB; have HB := n0_; clear n0_; (try clear hb); (try clear hb2); (try clear hk); (try clear hi)) | (go_at_call 38; (with_reducible refine (sum_Right.calls _ _ l0 t212 _ ?side1 ?side2 A18.out).mono ?_); (case side1 => repeat (first | exact (Kd.C_below HR0.out HB.out) | (with_reducible refine Kd.C_alloc ?_ _) | (with_reducible refine Kd.C_drewN ?_ _) | (with_reducible refine Kd.C_drew ?_))); (case side2 => exact HC0.out); rintro e w28 ⟨rfl, hb⟩; have n0_ := Aside0.mk (below_step (by repeat (first | (with_reducible first | exact HB.out | apply below_alloc | apply pw_below_drewN | apply below_drew1) | exact HB.out)) hb); clear HB; have HB := n0_; clear n0_; (try clear hb); (try clear hb2); (try clear hk); (try clear hi)) | (go_at_call 41; (with_reducible refine (palanquinref02_Sum.calls kj9 t208 t213 _ A19.out).mono ?_); rintro e w29 ⟨rfl, hb⟩; have n0_ := Aside0.mk (below_step (by repeat (first | (with_reducible first | exact HB.out | apply below_alloc | apply pw_below_drewN | apply below_drew1) | exact HB.out)) hb); clear HB; have HB := n0_; clear n0_; (try clear hb); (try clear hb2); (try clear hk); (try clear hi)) | (go_at_call 39; (with_reducible refine (sum_Update.calls a1 a2 a3 t214 _ A21.out).mono ?_); rintro e w30 ⟨rfl, hb⟩; have n0_ := Aside0.mk (below_step (by repeat (first | (with_reducible first | exact HB.out | apply below_alloc | apply pw_below_drewN | apply below_drew1) | exact HB.out)) hb); clear HB; have HB := n0_; clear n0_; (try clear hb); (try clear hb2); (try clear hk); (try clear hi)) | (go_at_call 42; (with_reducible refine (palanquinref02_Update.calls kj9 a1 a2 a3 t215 _ A22.out).mono ?_); rintro e w' ⟨rfl, ⟨nd, rfl⟩⟩) | (go_at_call 43; (with_reducible refine (sum_Pseudo.calls a4 a5 a1 a2 t216 _ A24.out).mono ?_); rintro e w31 ⟨rfl, hb⟩; have n0_ := Aside0.mk (below_step (by repeat (first | (with_reducible first | exact HB.out | apply below_alloc | apply pw_below_drewN | apply below_drew1) | exact HB.out)) hb); clear HB; have HB := n0_; clear n0_; (try clear hb); (try clear hb2); (try clear hk); (try clear hi)) | (go_at_call 44; (with_reducible refine (palanquinref02_Pseudo.calls kj9 a4 a5 a1 a2 t217 _ A25.out).mono ?_); rintro e w32 ⟨rfl, hb⟩; have n0_ := Aside0.mk (below_step (by repeat (first | (with_reducible first | exact HB.out | apply below_alloc | apply pw_below_drewN | apply below_drew1) | exact HB.out)) hb); clear HB; have HB := n0_; clear n0_; (try clear hb); (try clear hb2); (try clear hk); (try clear hi)))
                go_ret
                exact ⟨by first | rfl | (simp [errW_none, errW_some] <;> rfl) | (simp [*, errW_none, errW_some] <;> rfl), by repeat (first | (with_reducible first | exact HB.out | apply below_alloc | apply pw_below_drewN | apply below_drew1) | exact HB.out)⟩
              · rw [if_neg c23] at H
                have c23b0 : (t214 == t215) = false := beq_eq_false_iff_ne.mpr c23
                have c23b1 : (t214 != t215) = true := bne_iff_ne.mpr c23
                obtain rfl := Option.some.inj H
                go_wp2_with (first | ((with_reducible refine gate_callee (f := 37) rfl ?_); refine goesL_ (some 35) rfl rfl Try.func37 (by kernel_rfl) rfl #[.slice A0 l0.length c0] rfl (by (try simp only [List.map_toArray, List.map_cons, List.map_nil]); first | done | rfl | (simp only [List.length_drop, List.length_take]; rfl)) ?_; (with_reducible refine (sum_Sum.calls _ _ l0 t210 _ ?side1 ?side2 A15.out).mono ?_); (case side1 => repeat (first | exact (Kd.C_below HR0.out HB.out) | (with_reducible refine Kd.C_alloc ?_ _) | (with_reducible refine Kd.C_drewN ?_ _) | (with_reducible refine Kd.C_drew ?_))); (case side2 => exact HC0.out); rintro e w33 ⟨rfl, hb⟩; refine ⟨_, rfl, ?_⟩; have n0_ := Aside0.mk (below_step (by repeat (first | (with_reducible first | exact HB.out | apply below_alloc | apply pw_below_drewN | apply below_drew1) | exact HB.out)) hb); clear HB; have HB := n0_; clear n0_; (try clear hb); (try clear hb2); (try clear hk); (try clear hi)) | ((with_reducible refine gate_callee (f := 41) rfl ?_); refine goesL_ (some 37) rfl rfl Try.func41 (by kernel_rfl) rfl #[.string t208] rfl (by (try simp only [List.map_toArray, List.map_cons, List.map_nil]); first | done | rfl | (simp only [List.length_drop, List.length_take]; rfl)) ?_; (with_reducible refine (palanquinref02_Sum.calls kj9 t208 t211 _ A16.out).mono ?_); rintro e w34 ⟨rfl, hb⟩; refine ⟨_, rfl, ?_⟩; have n0_ := Aside0.mk (below_step (by repeat (first | (with_reducible first | exact HB.out | apply below_alloc | apply pw_below_drewN | apply below_drew1) | exact HB.out)) hb); clear HB; have HB := n0_; clear n0_; (try clear hb); (try clear hb2); (try clear hk); (try clear hi)) | (go_at_call 38; (with_reducible refine (sum_Right.calls _ _ l0 t212 _ ?side1 ?side2 A18.out).mono ?_); (case side1 => repeat (first | exact (Kd.C_below HR0.out HB.out) | (with_reducible refine Kd.C_alloc ?_ _) | (with_reducible refine Kd.C_drewN ?_ _) | (with_reducible refine Kd.C_drew ?_))); (case side2 => exact HC0.out); rintro e w35 ⟨rfl, hb⟩; have n0_ := Aside0.mk (below_step (by repeat (first | (with_reducible first | exact HB.out | apply below_alloc | apply pw_below_drewN | apply below_drew1) | exact HB.out)) hb); clear HB; have HB := n0_; clear n0_; (try clear hb); (try clear hb2); (try clear hk); (try clear hi)) | (go_at_call 41; (with_reducible refine (palanquinref02_Sum.calls kj9 t208 t213 _ A19.out).mono ?_); rintro e w36 ⟨rfl, hb⟩; have n0_ := Aside0.mk (below_step (by repeat (first | (with_reducible first | exact HB.out | apply below_alloc | apply pw_below_drewN | apply below_drew1) | exact HB.out)) hb); clear HB; have HB := n0_; clear n0_; (try clear hb); (try clear hb2); (try clear hk); (try clear hi)) | (go_at_call 39; (with_reducible refine (sum_Update.calls a1 a2 a3 t214 _ A21.out).mono ?_); rintro e w37 ⟨rfl, hb⟩; have n0_ := Aside0.mk (below_step (by repeat (first | (with_reducible first | exact HB.out | apply below_alloc | apply pw_below_drewN | apply below_drew1) | exact HB.out)) hb); clear HB; have HB := n0_; clear n0_; (try clear hb); (try clear hb2); (try clear hk); (try clear hi)) | (go_at_call 42; (with_reducible refine (palanquinref02_Update.calls kj9 a1 a2 a3 t215 _ A22.out).mono ?_); rintro e w' ⟨rfl, ⟨nd, rfl⟩⟩))
                go_ret
                exact ⟨by first | rfl | (simp [errW_none, errW_some] <;> rfl) | (simp [*, errW_none, errW_some] <;> rfl), by repeat (first | (with_reducible first | exact HB.out | apply below_alloc | apply pw_below_drewN | apply below_drew1) | exact HB.out)⟩
            · rw [if_neg c20] at H
              have c20b0 : (t212 == (t213 == 0)) = false := by simpa using c20
              (try (have c20b1 : decide (t212 = (t213 == 0)) = false := by simpa using c20))
              (try (have c20b2 : (t212 == (t213 == 0)) = false := by simpa using c20))
              (try (have c20b3 : ¬ (t212 = (t213 == 0)) := by simpa using c20))
              clear c20
              obtain rfl := Option.some.inj H
              go_wp2_with (first | ((with_reducible refine gate_callee (f := 37) rfl ?_); refine goesL_ (some 35) rfl rfl Try.func37 (by kernel_rfl) rfl #[.slice A0 l0.length c0] rfl (by (try simp only [List.map_toArray, List.map_cons, List.map_nil]); first | done | rfl | (simp only [List.length_drop, List.length_take]; rfl)) ?_; (with_reducible refine (sum_Sum.calls _ _ l0 t210 _ ?side1 ?side2 A15.out).mono ?_); (case side1 => repeat (first | exact (Kd.C_below HR0.out HB.out) | (with_reducible refine Kd.C_alloc ?_ _) | (with_reducible refine Kd.C_drewN ?_ _) | (with_reducible refine Kd.C_drew ?_))); (case side2 => exact HC0.out); rintro e w38 ⟨rfl, hb⟩; refine ⟨_, rfl, ?_⟩; have n0_ := Aside0.mk (below_step (by repeat (first | (with_reducible first | exact HB.out | apply below_alloc | apply pw_below_drewN | apply below_drew1) | exact HB.out)) hb); clear HB; have HB := n0_; clear n0_; (try clear hb); (try clear hb2); (try clear hk); (try clear hi)) | ((with_reducible refine gate_callee (f := 41) rfl ?_); refine goesL_ (some 37) rfl rfl Try.func41 (by kernel_rfl) rfl #[.string t208] rfl (by (try simp only [List.map_toArray, List.map_cons, List.map_nil]); first | done | rfl | (simp only [List.length_drop, List.length_take]; rfl)) ?_; (with_reducible refine (palanquinref02_Sum.calls kj9 t208 t211 _ A16.out).mono ?_); rintro e w39 ⟨rfl, hb⟩; refine ⟨_, rfl, ?_⟩; have n0_ := Aside0.mk (below_step (by repeat (first | (with_reducible first | exact HB.out | apply below_alloc | apply pw_below_drewN | apply below_drew1) | exact HB.out)) hb); clear HB; have HB := n0_; clear n0_; (try clear hb); (try clear hb2); (try clear hk); (try clear hi)) | (go_at_call 38; (with_reducible refine (sum_Right.calls _ _ l0 t212 _ ?side1 ?side2 A18.out).mono ?_); (case side1 => repeat (first | exact (Kd.C_below HR0.out HB.out) | (with_reducible refine Kd.C_alloc ?_ _) | (with_reducible refine Kd.C_drewN ?_ _) | (with_reducible refine Kd.C_drew ?_))); (case side2 => exact HC0.out); rintro e w40 ⟨rfl, hb⟩; have n0_ := Aside0.mk (below_step (by repeat (first | (with_reducible first | exact HB.out | apply below_alloc | apply pw_below_drewN | apply below_drew1) | exact HB.out)) hb); clear HB; have HB := n0_; clear n0_; (try clear hb); (try clear hb2); (try clear hk); (try clear hi)) | (go_at_call 41; (with_reducible refine (palanquinref02_Sum.calls kj9 t208 t213 _ A19.out).mono ?_); rintro e w41 ⟨rfl, hb⟩; have n0_ := Aside0.mk (below_step (by repeat (first | (with_reducible first | exact HB.out | apply below_alloc | apply pw_below_drewN | apply below_drew1) | exact HB.out)) hb); clear HB; have HB := n0_; clear n0_; (try clear hb); (try clear hb2); (try clear hk); (try clear hi)))
              go_ret
              exact ⟨by first | rfl | (simp [errW_none, errW_some] <;> rfl) | (simp [*, errW_none, errW_some] <;> rfl), by repeat (first | (with_reducible first | exact HB.out | apply below_alloc | apply pw_below_drewN | apply below_drew1) | exact HB.out)⟩
          · rw [if_neg c17] at H
            have c17b0 : (t210 == t211) = false := beq_eq_false_iff_ne.mpr c17
            have c17b1 : (t210 != t211) = true := bne_iff_ne.mpr c17
            obtain rfl := Option.some.inj H
            go_wp2_with (first | ((with_reducible refine gate_callee (f := 37) rfl ?_); refine goesL_ (some 35) rfl rfl Try.func37 (by kernel_rfl) rfl #[.slice A0 l0.length c0] rfl (by (try simp only [List.map_toArray, List.map_cons, List.map_nil]); first | done | rfl | (simp only [List.length_drop, List.length_take]; rfl)) ?_; (with_reducible refine (sum_Sum.calls _ _ l0 t210 _ ?side1 ?side2 A15.out).mono ?_); (case side1 => repeat (first | exact (Kd.C_below HR0.out HB.out) | (with_reducible refine Kd.C_alloc ?_ _) | (with_reducible refine Kd.C_drewN ?_ _) | (with_reducible refine Kd.C_drew ?_))); (case side2 => exact HC0.out); rintro e w42 ⟨rfl, hb⟩; refine ⟨_, rfl, ?_⟩; have n0_ := Aside0.mk (below_step (by repeat (first | (with_reducible first | exact HB.out | apply below_alloc | apply pw_below_drewN | apply below_drew1) | exact HB.out)) hb); clear HB; have HB := n0_; clear n0_; (try clear hb); (try clear hb2); (try clear hk); (try clear hi)) | ((with_reducible refine gate_callee (f := 41) rfl ?_); refine goesL_ (some 37) rfl rfl Try.func41 (by kernel_rfl) rfl #[.string t208] rfl (by (try simp only [List.map_toArray, List.map_cons, List.map_nil]); first | done | rfl | (simp only [List.length_drop, List.length_take]; rfl)) ?_; (with_reducible refine (palanquinref02_Sum.calls kj9 t208 t211 _ A16.out).mono ?_); rintro e w43 ⟨rfl, hb⟩; refine ⟨_, rfl, ?_⟩; have n0_ := Aside0.mk (below_step (by repeat (first | (with_reducible first | exact HB.out | apply below_alloc | apply pw_below_drewN | apply below_drew1) | exact HB.out)) hb); clear HB; have HB := n0_; clear n0_; (try clear hb); (try clear hb2); (try clear hk); (try clear hi)))
            go_ret
            exact ⟨by first | rfl | (simp [errW_none, errW_some] <;> rfl) | (simp [*, errW_none, errW_some] <;> rfl), by repeat (first | (with_reducible first | exact HB.out | apply below_alloc | apply pw_below_drewN | apply below_drew1) | exact HB.out)⟩
  · replace c8 := Bool.eq_false_iff.mpr c8
    subst c8
    have H1 : (some false) = some r := by rw [if_neg (show ¬ (false = true) by decide)] at H; exact H
    clear H
    have H := H1
    clear H1
    obtain rfl := Option.some.inj H
    go_enter Try.func6, Try.ntmps6
    go_wp2_with (first | ((with_reducible refine gate_callee (f := 36) rfl ?_); refine goesL_ (some 15) rfl rfl Try.func36 (by kernel_rfl) rfl #[] rfl (by (try simp only [List.map_toArray, List.map_cons, List.map_nil]); first | done | rfl | (simp only [List.length_drop, List.length_take]; rfl)) ?_; (with_reducible refine (palanquinlaw02_awake.calls  false _ A7.out).mono ?_); rintro e w44 ⟨rfl, hb⟩; refine ⟨_, rfl, ?_⟩; have n0_ := Aside0.mk (below_step (by repeat (first | (with_reducible first | exact HB.out | apply below_alloc | apply pw_below_drewN | apply below_drew1) | exact HB.out)) hb); clear HB; have HB := n0_; clear n0_; (try clear hb); (try clear hb2); (try clear hk); (try clear hi)))
    go_ret
    exact ⟨by first | rfl | (simp [errW_none, errW_some] <;> rfl) | (simp [*, errW_none, errW_some] <;> rfl), by repeat (first | (with_reducible first | exact HB.out | apply below_alloc | apply pw_below_drewN | apply below_drew1) | exact HB.out)⟩

end Go.Proofs.Ytejmipoolbodgaa.G
