/- Texts of this session, joined: each is a section. -/
import Derived.Test.YtcmalglippmocaaMFlob1
import Derived.Test.YtcmalglippmocaaMFlob7
import Derived.Test.YtcmalglippmocaaMFlob8
import Derived.Test.YtcmalglippmocaaMFlob4
set_option linter.unusedVariables false
set_option linter.unusedSimpArgs false
section
namespace Go.Proofs.Ytcmalglippmocaa.G
open Go.RowKit Go.Proofs.YtcmalglippmocaaW.PrintWords Go.Proofs.YtcmalglippmocaaW.PrintLast Go.Proofs.YtcmalglippmocaaW.PrintMore
attribute [local go_sem] max2_int min2_int max_two min_two max_three min_three max_four min_four   -- for this text's walks alone
set_option linter.unusedVariables false
set_option linter.unusedSimpArgs false

def palanquinlaw10_ClampLimits.j0 : Nat → ByteArray → Int → Int → Bool → Option (Bool)
 | 0, _, _, _, _ => none
 | k + 1, x0, x1, x2, x67 => if x67 = true then (some false) else ((clamp_Clamp.f x0 (wrap64 (x1))).bind fun t445 => ((clamp_Clamp.f t445 (wrap64 (x2))).bind fun t446 => ((clamp_Clamp.f x0 (wrap64 (mn x1 x2))).bind fun t447 => (some (t446.toList == t447.toList)))))
def palanquinlaw10_ClampLimits.f (k : Nat) (a0 : ByteArray) (a1 : Int) (a2 : Int) (a3 : Int) (a4 : Int) : Option (Bool) := (palanquinlaw10_awake.f k).bind fun t441 => (if t441 = true then (if (a0.size : Int) > 5000 then (some true) else ((clamp_Limit.f (wrap64 (a3)) (wrap64 (a4)) false).bind fun t442 => ((clamp_Limit.f (wrap64 (a3)) (wrap64 (a4)) true).bind fun t443 => ((clamp_Limit.f (wrap64 (a3)) (wrap64 ((wrap64 (a4)) + 1)) false).bind fun t444 => (if t442 < 0 then (palanquinlaw10_ClampLimits.j0 k a0 a1 a2 true) else (if t443 = (mx 0 (wrap64 ((wrap64 ((wrap64 (a3)) - (wrap64 (a4)))) - 60))) then (if t444 = (mx 0 (wrap64 (t442 - 1))) then (if t442 = 0 then (palanquinlaw10_ClampLimits.j0 k a0 a1 a2 (t444 != 0)) else (palanquinlaw10_ClampLimits.j0 k a0 a1 a2 false)) else (if t442 > 0 then (palanquinlaw10_ClampLimits.j0 k a0 a1 a2 true) else (if t442 = 0 then (palanquinlaw10_ClampLimits.j0 k a0 a1 a2 (t444 != 0)) else (palanquinlaw10_ClampLimits.j0 k a0 a1 a2 false)))) else (palanquinlaw10_ClampLimits.j0 k a0 a1 a2 true))))))) else (some false))
theorem palanquinlaw10_ClampLimits.j0_no : ∀ k y0 y1 y2 r, palanquinlaw10_ClampLimits.j0 k y0 y1 y2 true = some r → Aside0 (r = true) → False
 | 0, _, _, _, _ => fun h _ => by simp [palanquinlaw10_ClampLimits.j0] at h
 | k + 1, _, _, _, _ => fun h hr => by rw [palanquinlaw10_ClampLimits.j0, if_pos rfl] at h; exact absurd ((Option.some.inj h).trans hr.out) (by decide)
set_option maxHeartbeats 8000000 in
set_option maxRecDepth 100000 in
theorem palanquinlaw10_ClampLimits.calls (k : Nat) (a0 : ByteArray) (a1 : Int) (a2 : Int) (a3 : Int) (a4 : Int) (r : Bool) (w : World) (h : palanquinlaw10_ClampLimits.f k a0 a1 a2 a3 a4 = some r) (hrt_ : Aside0 (r = true)) :
  Calls Try.prog 9 #[.string a0, .int .u16 a1, .int .u16 a2, .int .u16 a3, .int .u16 a4] w fun e w' => e = .returned (.bool r) ∧ Below w.heap.size w w' := by
 have HB := mA (Below.refl w.heap.size w)
 have H : ((palanquinlaw10_awake.f k).bind fun t441 => (if t441 = true then (if (a0.size : Int) > 5000 then (some true) else ((clamp_Limit.f (wrap64 (a3)) (wrap64 (a4)) false).bind fun t442 => ((clamp_Limit.f (wrap64 (a3)) (wrap64 (a4)) true).bind fun t443 => ((clamp_Limit.f (wrap64 (a3)) (wrap64 ((wrap64 (a4)) + 1)) false).bind fun t444 => (if t442 < 0 then (palanquinlaw10_ClampLimits.j0 k a0 a1 a2 true) else (if t443 = (mx 0 (wrap64 ((wrap64 ((wrap64 (a3)) - (wrap64 (a4)))) - 60))) then (if t444 = (mx 0 (wrap64 (t442 - 1))) then (if t442 = 0 then (palanquinlaw10_ClampLimits.j0 k a0 a1 a2 (t444 != 0)) else (palanquinlaw10_ClampLimits.j0 k a0 a1 a2 false)) else (if t442 > 0 then (palanquinlaw10_ClampLimits.j0 k a0 a1 a2 true) else (if t442 = 0 then (palanquinlaw10_ClampLimits.j0 k a0 a1 a2 (t444 != 0)) else (palanquinlaw10_ClampLimits.j0 k a0 a1 a2 false)))) else (palanquinlaw10_ClampLimits.j0 k a0 a1 a2 true))))))) else (some false))) = some r := h
 clear h
 replace H := Option.bind_eq_some_iff.mp H
 obtain ⟨t441, A60, H⟩ := H
 replace H : (if t441 = true then (if (a0.size : Int) > 5000 then (some true) else ((clamp_Limit.f (wrap64 (a3)) (wrap64 (a4)) false).bind fun t442 => ((clamp_Limit.f (wrap64 (a3)) (wrap64 (a4)) true).bind fun t443 => ((clamp_Limit.f (wrap64 (a3)) (wrap64 ((wrap64 (a4)) + 1)) false).bind fun t444 => (if t442 < 0 then (palanquinlaw10_ClampLimits.j0 k a0 a1 a2 true) else (if t443 = (mx 0 (wrap64 ((wrap64 ((wrap64 (a3)) - (wrap64 (a4)))) - 60))) then (if t444 = (mx 0 (wrap64 (t442 - 1))) then (if t442 = 0 then (palanquinlaw10_ClampLimits.j0 k a0 a1 a2 (t444 != 0)) else (palanquinlaw10_ClampLimits.j0 k a0 a1 a2 false)) else (if t442 > 0 then (palanquinlaw10_ClampLimits.j0 k a0 a1 a2 true) else (if t442 = 0 then (palanquinlaw10_ClampLimits.j0 k a0 a1 a2 (t444 != 0)) else (palanquinlaw10_ClampLimits.j0 k a0 a1 a2 false)))) else (palanquinlaw10_ClampLimits.j0 k a0 a1 a2 true))))))) else (some false)) = some r := H
 have A6 := mA A60
 clear A60
 by_cases c7 : t441 = true
 ·subst c7
  have H1 : (if (a0.size : Int) > 5000 then (some true) else ((clamp_Limit.f (wrap64 (a3)) (wrap64 (a4)) false).bind fun t442 => ((clamp_Limit.f (wrap64 (a3)) (wrap64 (a4)) true).bind fun t443 => ((clamp_Limit.f (wrap64 (a3)) (wrap64 ((wrap64 (a4)) + 1)) false).bind fun t444 => (if t442 < 0 then (palanquinlaw10_ClampLimits.j0 k a0 a1 a2 true) else (if t443 = (mx 0 (wrap64 ((wrap64 ((wrap64 (a3)) - (wrap64 (a4)))) - 60))) then (if t444 = (mx 0 (wrap64 (t442 - 1))) then (if t442 = 0 then (palanquinlaw10_ClampLimits.j0 k a0 a1 a2 (t444 != 0)) else (palanquinlaw10_ClampLimits.j0 k a0 a1 a2 false)) else (if t442 > 0 then (palanquinlaw10_ClampLimits.j0 k a0 a1 a2 true) else (if t442 = 0 then (palanquinlaw10_ClampLimits.j0 k a0 a1 a2 (t444 != 0)) else (palanquinlaw10_ClampLimits.j0 k a0 a1 a2 false)))) else (palanquinlaw10_ClampLimits.j0 k a0 a1 a2 true))))))) = some r := by rw [if_pos rfl] at H; exact H
  clear H
  have H := H1
  clear H1
  by_cases c8 : (a0.size : Int) > 5000
  ·rw [if_pos c8] at H
   have c8b0 : decide (5000 < (a0.size : Int)) = true := decide_eq_true c8
   have c8b1 : decide (5000 < a0.size) = true := decide_eq_true (by omega)
   clear c8
   obtain rfl := Option.some.inj H
   go_enter Try.func9, Try.ntmps9
   go_wp2_with (first | ((with_reducible refine gate_callee (f := 13) rfl ?_); refine goesL_ (some 15) rfl rfl Try.func13 (by kernel_rfl) rfl #[] rfl (by (try simp only [List.map_toArray, List.map_cons, List.map_nil]); first | done | rfl | (simp only [List.length_drop, List.length_take]; rfl)) ?_; (with_reducible refine (palanquinlaw10_awake.calls k  true _ A6.out).mono ?_); rintro e w9 ⟨rfl, hb⟩; refine ⟨_, rfl, ?_⟩; have n0_ := mA (bP (by repeat (first | (with_reducible first | exact HB.out | apply bA | apply bN | apply bD) | exact HB.out)) hb); clear HB; have HB := n0_; clear n0_; (try clear hb); (try clear hb2); (try clear hk); (try clear hi)))
   go_ret
   exact ⟨by first | rfl | (simp [errW_none, errW_some] <;> rfl) | (simp [*, errW_none, errW_some] <;> rfl), by repeat (first | (with_reducible first | exact HB.out | apply bA | apply bN | apply bD) | exact HB.out)⟩
  ·rw [if_neg c8] at H
   have c8b0 : decide (5000 < (a0.size : Int)) = false := decide_eq_false c8
   have c8b1 : decide (5000 < a0.size) = false := decide_eq_false (by omega)
   clear c8
   replace H := Option.bind_eq_some_iff.mp H
   obtain ⟨t442, A100, H⟩ := H
   replace H : ((clamp_Limit.f (wrap64 (a3)) (wrap64 (a4)) true).bind fun t443 => ((clamp_Limit.f (wrap64 (a3)) (wrap64 ((wrap64 (a4)) + 1)) false).bind fun t444 => (if t442 < 0 then (palanquinlaw10_ClampLimits.j0 k a0 a1 a2 true) else (if t443 = (mx 0 (wrap64 ((wrap64 ((wrap64 (a3)) - (wrap64 (a4)))) - 60))) then (if t444 = (mx 0 (wrap64 (t442 - 1))) then (if t442 = 0 then (palanquinlaw10_ClampLimits.j0 k a0 a1 a2 (t444 != 0)) else (palanquinlaw10_ClampLimits.j0 k a0 a1 a2 false)) else (if t442 > 0 then (palanquinlaw10_ClampLimits.j0 k a0 a1 a2 true) else (if t442 = 0 then (palanquinlaw10_ClampLimits.j0 k a0 a1 a2 (t444 != 0)) else (palanquinlaw10_ClampLimits.j0 k a0 a1 a2 false)))) else (palanquinlaw10_ClampLimits.j0 k a0 a1 a2 true))))) = some r := H
   have A10 := mA A100
   clear A100
   replace H := Option.bind_eq_some_iff.mp H
   obtain ⟨t443, A110, H⟩ := H
   replace H : ((clamp_Limit.f (wrap64 (a3)) (wrap64 ((wrap64 (a4)) + 1)) false).bind fun t444 => (if t442 < 0 then (palanquinlaw10_ClampLimits.j0 k a0 a1 a2 true) else (if t443 = (mx 0 (wrap64 ((wrap64 ((wrap64 (a3)) - (wrap64 (a4)))) - 60))) then (if t444 = (mx 0 (wrap64 (t442 - 1))) then (if t442 = 0 then (palanquinlaw10_ClampLimits.j0 k a0 a1 a2 (t444 != 0)) else (palanquinlaw10_ClampLimits.j0 k a0 a1 a2 false)) else (if t442 > 0 then (palanquinlaw10_ClampLimits.j0 k a0 a1 a2 true) else (if t442 = 0 then (palanquinlaw10_ClampLimits.j0 k a0 a1 a2 (t444 != 0)) else (palanquinlaw10_ClampLimits.j0 k a0 a1 a2 false)))) else (palanquinlaw10_ClampLimits.j0 k a0 a1 a2 true)))) = some r := H
   have A11 := mA A110
   clear A110
   replace H := Option.bind_eq_some_iff.mp H
   obtain ⟨t444, A120, H⟩ := H
   replace H : (if t442 < 0 then (palanquinlaw10_ClampLimits.j0 k a0 a1 a2 true) else (if t443 = (mx 0 (wrap64 ((wrap64 ((wrap64 (a3)) - (wrap64 (a4)))) - 60))) then (if t444 = (mx 0 (wrap64 (t442 - 1))) then (if t442 = 0 then (palanquinlaw10_ClampLimits.j0 k a0 a1 a2 (t444 != 0)) else (palanquinlaw10_ClampLimits.j0 k a0 a1 a2 false)) else (if t442 > 0 then (palanquinlaw10_ClampLimits.j0 k a0 a1 a2 true) else (if t442 = 0 then (palanquinlaw10_ClampLimits.j0 k a0 a1 a2 (t444 != 0)) else (palanquinlaw10_ClampLimits.j0 k a0 a1 a2 false)))) else (palanquinlaw10_ClampLimits.j0 k a0 a1 a2 true))) = some r := H
   have A12 := mA A120
   clear A120
   have HC13 := mA H
   clear H
   go_enter Try.func9, Try.ntmps9
   go_upto_region 7 with (first | ((with_reducible refine gate_callee (f := 13) rfl ?_); refine goesL_ (some 15) rfl rfl Try.func13 (by kernel_rfl) rfl #[] rfl (by (try simp only [List.map_toArray, List.map_cons, List.map_nil]); first | done | rfl | (simp only [List.length_drop, List.length_take]; rfl)) ?_; (with_reducible refine (palanquinlaw10_awake.calls k  true _ A6.out).mono ?_); rintro e w14 ⟨rfl, hb⟩; refine ⟨_, rfl, ?_⟩; have n0_ := mA (bP (by repeat (first | (with_reducible first | exact HB.out | apply bA | apply bN | apply bD) | exact HB.out)) hb); clear HB; have HB := n0_; clear n0_; (try clear hb); (try clear hb2); (try clear hk); (try clear hi)) | ((with_reducible refine gate_callee (f := 21) rfl ?_); refine goesL_ (some 24) rfl rfl Try.func21 (by kernel_rfl) rfl #[.int .i64 (wrap64 (a3)), .int .i64 (wrap64 (a4)), .bool false] rfl (by (try simp only [List.map_toArray, List.map_cons, List.map_nil]); first | done | rfl | (simp only [List.length_drop, List.length_take]; rfl)) ?_; (with_reducible refine (clamp_Limit.calls (wrap64 (a3)) (wrap64 (a4)) false t442 _ A10.out).mono ?_); rintro e w15 ⟨rfl, hb⟩; refine ⟨_, rfl, ?_⟩; have n0_ := mA (bP (by repeat (first | (with_reducible first | exact HB.out | apply bA | apply bN | apply bD) | exact HB.out)) hb); clear HB; have HB := n0_; clear n0_; (try clear hb); (try clear hb2); (try clear hk); (try clear hi)) | ((with_reducible refine gate_callee (f := 21) rfl ?_); refine goesL_ (some 29) rfl rfl Try.func21 (by kernel_rfl) rfl #[.int .i64 (wrap64 (a3)), .int .i64 (wrap64 (a4)), .bool true] rfl (by (try simp only [List.map_toArray, List.map_cons, List.map_nil]); first | done | rfl | (simp only [List.length_drop, List.length_take]; rfl)) ?_; (with_reducible refine (clamp_Limit.calls (wrap64 (a3)) (wrap64 (a4)) true t443 _ A11.out).mono ?_); rintro e w16 ⟨rfl, hb⟩; refine ⟨_, rfl, ?_⟩; have n0_ := mA (bP (by repeat (first | (with_reducible first | exact HB.out | apply bA | apply bN | apply bD) | exact HB.out)) hb); clear HB; have HB := n0_; clear n0_; (try clear hb); (try clear hb2); (try clear hk); (try clear hi)) | ((with_reducible refine gate_callee (f := 21) rfl ?_); refine goesL_ (some 35) rfl rfl Try.func21 (by kernel_rfl) rfl #[.int .i64 (wrap64 (a3)), .int .i64 (wrap64 ((wrap64 (a4)) + 1)), .bool false] rfl (by (try simp only [List.map_toArray, List.map_cons, List.map_nil]); first | done | rfl | (simp only [List.length_drop, List.length_take]; rfl)) ?_; (with_reducible refine (clamp_Limit.calls (wrap64 (a3)) (wrap64 ((wrap64 (a4)) + 1)) false t444 _ A12.out).mono ?_); rintro e w17 ⟨rfl, hb⟩; refine ⟨_, rfl, ?_⟩; have n0_ := mA (bP (by repeat (first | (with_reducible first | exact HB.out | apply bA | apply bN | apply bD) | exact HB.out)) hb); clear HB; have HB := n0_; clear n0_; (try clear hb); (try clear hb2); (try clear hk); (try clear hi)))
   (try simp only [Act.put, List.setIfInBounds_toArray, List.set_cons_zero, List.set_cons_succ])
   go_cut [67] (fun v67 wc => ∃ (kq : Nat) (x67_12 : Bool), v67 = .bool x67_12 ∧ Aside0 (palanquinlaw10_ClampLimits.j0 kq a0 a1 a2 x67_12 = some r) ∧ Aside0 (kq ≤ k) ∧ Aside0 (Below w.heap.size w wc))
   case first =>
    have H := HC13.out
    clear HC13
    by_cases c18 : t442 < 0
    ·rw [if_pos c18] at H
     exact (palanquinlaw10_ClampLimits.j0_no _ _ _ _ _ H hrt_).elim
    ·rw [if_neg c18] at H
     have c18b0 : decide (t442 < 0) = false := decide_eq_false c18
     clear c18
     (first | rw [c18b0] | (simp only [i64_w, i32_w]; rw [c18b0]) | skip)
     obtain ⟨ji19, hji19⟩ : ∃ j_ : Int, (mx 0 (wrap64 ((wrap64 ((wrap64 (a3)) - (wrap64 (a4)))) - 60))) = j_ := ⟨_, rfl⟩
     replace H : (if t443 = (ji19) then (if t444 = (mx 0 (wrap64 (t442 - 1))) then (if t442 = 0 then (palanquinlaw10_ClampLimits.j0 k a0 a1 a2 (t444 != 0)) else (palanquinlaw10_ClampLimits.j0 k a0 a1 a2 false)) else (if t442 > 0 then (palanquinlaw10_ClampLimits.j0 k a0 a1 a2 true) else (if t442 = 0 then (palanquinlaw10_ClampLimits.j0 k a0 a1 a2 (t444 != 0)) else (palanquinlaw10_ClampLimits.j0 k a0 a1 a2 false)))) else (palanquinlaw10_ClampLimits.j0 k a0 a1 a2 true)) = some r := by first | (rw [hji19] at H; exact H) | (simp only [hji19] at H ⊢; exact H)
     (try (have hji19l : 0 ≤ ji19 := by (rw [← hji19]; unfold mx; (repeat' split) <;> omega)))
     (try (have hji19m : 0 ≤ ji19 := by omega))
     have hji19_ : (if 0 < (wrap64 ((wrap64 ((wrap64 (a3)) - (wrap64 (a4)))) - 60)) then (wrap64 ((wrap64 ((wrap64 (a3)) - (wrap64 (a4)))) - 60)) else 0) = ji19 := hji19
     by_cases c20 : t443 = (ji19)
     ·rw [if_pos c20] at H
      have c20b0 : (t443 == (ji19)) = true := beq_iff_eq.mpr c20
      have c20b1 : (t443 != (ji19)) = false := bne_eq_false_iff_eq.mpr c20
      clear c20
      obtain ⟨ji21, hji21⟩ : ∃ j_ : Int, (mx 0 (wrap64 (t442 - 1))) = j_ := ⟨_, rfl⟩
      replace H : (if t444 = (ji21) then (if t442 = 0 then (palanquinlaw10_ClampLimits.j0 k a0 a1 a2 (t444 != 0)) else (palanquinlaw10_ClampLimits.j0 k a0 a1 a2 false)) else (if t442 > 0 then (palanquinlaw10_ClampLimits.j0 k a0 a1 a2 true) else (if t442 = 0 then (palanquinlaw10_ClampLimits.j0 k a0 a1 a2 (t444 != 0)) else (palanquinlaw10_ClampLimits.j0 k a0 a1 a2 false)))) = some r := by first | (rw [hji21] at H; exact H) | (simp only [hji21] at H ⊢; exact H)
      (try (have hji21l : 0 ≤ ji21 := by (rw [← hji21]; unfold mx; (repeat' split) <;> omega)))
      (try (have hji21m : 0 ≤ ji21 := by omega))
      have hji21_ : (if 0 < (wrap64 (t442 - 1)) then (wrap64 (t442 - 1)) else 0) = ji21 := hji21
      by_cases c22 : t444 = (ji21)
      ·rw [if_pos c22] at H
       have c22b0 : (t444 == (ji21)) = true := beq_iff_eq.mpr c22
       have c22b1 : (t444 != (ji21)) = false := bne_eq_false_iff_eq.mpr c22
       clear c22
       by_cases c23 : t442 = 0
       ·rw [if_pos c23] at H
        have c23b0 : (t442 == 0) = true := beq_iff_eq.mpr c23
        have c23b1 : (t442 != 0) = false := bne_eq_false_iff_eq.mpr c23
        clear c23
        have H' := mA H
        clear H
        go_wp2
        go_meet
        case rel => exact ⟨_, ((t444 != 0)), (by first | rfl | (simp; done) | (simp [*]; done)), H', ⟨by first | omega | exact Nat.le_refl _⟩, ⟨by repeat (first | (with_reducible first | exact HB.out | apply bA | apply bN | apply bD) | exact HB.out)⟩⟩
       ·rw [if_neg c23] at H
        have c23b0 : (t442 == 0) = false := beq_eq_false_iff_ne.mpr c23
        have c23b1 : (t442 != 0) = true := bne_iff_ne.mpr c23
        have H' := mA H
        clear H
        go_wp2
        go_meet
        case rel => exact ⟨_, (false), (by first | rfl | (simp; done) | (simp [*]; done)), H', ⟨by first | omega | exact Nat.le_refl _⟩, ⟨by repeat (first | (with_reducible first | exact HB.out | apply bA | apply bN | apply bD) | exact HB.out)⟩⟩
      ·rw [if_neg c22] at H
       have c22b0 : (t444 == (ji21)) = false := beq_eq_false_iff_ne.mpr c22
       have c22b1 : (t444 != (ji21)) = true := bne_iff_ne.mpr c22
       by_cases c24 : t442 > 0
       ·rw [if_pos c24] at H
        exact (palanquinlaw10_ClampLimits.j0_no _ _ _ _ _ H hrt_).elim
       ·rw [if_neg c24] at H
        have c24b0 : decide (0 < t442) = false := decide_eq_false c24
        clear c24
        by_cases c25 : t442 = 0
        ·rw [if_pos c25] at H
         have c25b0 : (t442 == 0) = true := beq_iff_eq.mpr c25
         have c25b1 : (t442 != 0) = false := bne_eq_false_iff_eq.mpr c25
         clear c25
         have H' := mA H
         clear H
         go_wp2
         go_meet
         case rel => exact ⟨_, ((t444 != 0)), (by first | rfl | (simp; done) | (simp [*]; done)), H', ⟨by first | omega | exact Nat.le_refl _⟩, ⟨by repeat (first | (with_reducible first | exact HB.out | apply bA | apply bN | apply bD) | exact HB.out)⟩⟩
        ·rw [if_neg c25] at H
         have c25b0 : (t442 == 0) = false := beq_eq_false_iff_ne.mpr c25
         have c25b1 : (t442 != 0) = true := bne_iff_ne.mpr c25
         have H' := mA H
         clear H
         go_wp2
         go_meet
         case rel => exact ⟨_, (false), (by first | rfl | (simp; done) | (simp [*]; done)), H', ⟨by first | omega | exact Nat.le_refl _⟩, ⟨by repeat (first | (with_reducible first | exact HB.out | apply bA | apply bN | apply bD) | exact HB.out)⟩⟩
     ·rw [if_neg c20] at H
      exact (palanquinlaw10_ClampLimits.j0_no _ _ _ _ _ H hrt_).elim
   case rest =>
    clear HC13
    try clear c1
    try clear c2
    try clear p2
    try clear p6
    try clear c7
    try clear c8
    try clear c8b0
    try clear c8b1
    try clear c9
    try clear c13
    try clear c18
    try clear c18b0
    try clear c20
    try clear c20b0
    try clear c20b1
    try clear c21
    try clear c22
    try clear c22b0
    try clear c22b1
    try clear c23
    try clear c23b0
    try clear c23b1
    try clear c24
    try clear c24b0
    try clear c25
    try clear c25b0
    try clear c25b1
    obtain ⟨kq, x67_12, rfl, HA, HJ12, HB⟩ := hcut
    cases kq with
    | zero => exact absurd HA.out (by simp [palanquinlaw10_ClampLimits.j0])
    | succ kj12 =>
     have H := HA.out
     clear HA
     simp only [palanquinlaw10_ClampLimits.j0] at H
     by_cases c26 : x67_12 = true
     ·subst c26
      have H1 : (some false) = some r := by rw [if_pos rfl] at H; exact H
      exact absurd ((Option.some.inj H1).trans hrt_.out) (by decide)
     ·replace c26 := Bool.eq_false_iff.mpr c26
      subst c26
      have H1 : ((clamp_Clamp.f a0 (wrap64 (a1))).bind fun t445 => ((clamp_Clamp.f t445 (wrap64 (a2))).bind fun t446 => ((clamp_Clamp.f a0 (wrap64 (mn a1 a2))).bind fun t447 => (some (t446.toList == t447.toList))))) = some r := by rw [if_neg (show ¬ (false = true) by decide)] at H; exact H
      clear H
      have H := H1
      clear H1
      replace H := Option.bind_eq_some_iff.mp H
      obtain ⟨t445, A270, H⟩ := H
      replace H : ((clamp_Clamp.f t445 (wrap64 (a2))).bind fun t446 => ((clamp_Clamp.f a0 (wrap64 (mn a1 a2))).bind fun t447 => (some (t446.toList == t447.toList)))) = some r := H
      have A27 := mA A270
      clear A270
      replace H := Option.bind_eq_some_iff.mp H
      obtain ⟨t446, A280, H⟩ := H
      replace H : ((clamp_Clamp.f a0 (wrap64 (mn a1 a2))).bind fun t447 => (some (t446.toList == t447.toList))) = some r := H
      have A28 := mA A280
      clear A280
      obtain ⟨ji29, hji29⟩ : ∃ j_ : Int, (mn a1 a2) = j_ := ⟨_, rfl⟩
      replace H : ((clamp_Clamp.f a0 (wrap64 (ji29))).bind fun t447 => (some (t446.toList == t447.toList))) = some r := by first | (rw [hji29] at H; exact H) | (simp only [hji29] at H ⊢; exact H)
      (try rw [hji29] at A27)
      (try rw [hji29] at A28)
      have hji29_ : (if a2 < a1 then a2 else a1) = ji29 := hji29
      replace H := Option.bind_eq_some_iff.mp H
      obtain ⟨t447, A300, H⟩ := H
      replace H : (some (t446.toList == t447.toList)) = some r := H
      have A30 := mA A300
      clear A300
      obtain rfl := Option.some.inj H
      go_wp2_with (first | ((with_reducible refine gate_callee (f := 14) rfl ?_); refine goesL_ (some 71) rfl rfl Try.func14 (by kernel_rfl) rfl #[.string a0, .int .i64 (wrap64 (a1))] rfl (by (try simp only [List.map_toArray, List.map_cons, List.map_nil]); first | done | rfl | (simp only [List.length_drop, List.length_take]; rfl)) ?_; (with_reducible refine (clamp_Clamp.calls a0 (wrap64 (a1)) t445 _ A27.out).mono ?_); rintro e w31 ⟨rfl, hb⟩; refine ⟨_, rfl, ?_⟩; have n0_ := mA (bP (by repeat (first | (with_reducible first | exact HB.out | apply bA | apply bN | apply bD) | exact HB.out)) hb); clear HB; have HB := n0_; clear n0_; (try clear hb); (try clear hb2); (try clear hk); (try clear hi)) | ((with_reducible refine gate_callee (f := 14) rfl ?_); refine goesL_ (some 74) rfl rfl Try.func14 (by kernel_rfl) rfl #[.string t445, .int .i64 (wrap64 (a2))] rfl (by (try simp only [List.map_toArray, List.map_cons, List.map_nil]); first | done | rfl | (simp only [List.length_drop, List.length_take]; rfl)) ?_; (with_reducible refine (clamp_Clamp.calls t445 (wrap64 (a2)) t446 _ A28.out).mono ?_); rintro e w32 ⟨rfl, hb⟩; refine ⟨_, rfl, ?_⟩; have n0_ := mA (bP (by repeat (first | (with_reducible first | exact HB.out | apply bA | apply bN | apply bD) | exact HB.out)) hb); clear HB; have HB := n0_; clear n0_; (try clear hb); (try clear hb2); (try clear hk); (try clear hi)) | ((with_reducible refine gate_callee (f := 14) rfl ?_); refine goesL_ (some 81) rfl rfl Try.func14 (by kernel_rfl) rfl #[.string a0, .int .i64 (wrap64 (ji29))] rfl (by (try simp only [List.map_toArray, List.map_cons, List.map_nil]); first | done | (simp only [hji29]; rfl) | rfl | (simp only [List.length_drop, List.length_take]; rfl)) ?_; (with_reducible refine (clamp_Clamp.calls a0 (wrap64 (ji29)) t447 _ A30.out).mono ?_); rintro e w33 ⟨rfl, hb⟩; refine ⟨_, rfl, ?_⟩; have n0_ := mA (bP (by repeat (first | (with_reducible first | exact HB.out | apply bA | apply bN | apply bD) | exact HB.out)) hb); clear HB; have HB := n0_; clear n0_; (try clear hb); (try clear hb2); (try clear hk); (try clear hi)))
      go_ret
      exact ⟨by first | rfl | (simp [errW_none, errW_some] <;> rfl) | (simp only [← hji29]; first | rfl | (simp [errW_none, errW_some] <;> rfl)) | (simp [*, errW_none, errW_some] <;> rfl), by repeat (first | (with_reducible first | exact HB.out | apply bA | apply bN | apply bD) | exact HB.out)⟩
 ·replace c7 := Bool.eq_false_iff.mpr c7
  subst c7
  have H1 : (some false) = some r := by rw [if_neg (show ¬ (false = true) by decide)] at H; exact H
  exact absurd ((Option.some.inj H1).trans hrt_.out) (by decide)
/-- THE ONE PURE STATEMENT of palanquinlaw10_ClampLimits: yours. -/
def palanquinlaw10_ClampLimits.Pure : Prop := ∀ (a0 : ByteArray) (a1 : Int) (a2 : Int) (a3 : Int) (a4 : Int), a0.size ≤ 140737488351232 → (Lit.int .u16 a1).wf = true → (Lit.int .u16 a2).wf = true → (Lit.int .u16 a3).wf = true → (Lit.int .u16 a4).wf = true → ∃ k, palanquinlaw10_ClampLimits.f k a0 a1 a2 a3 a4 = some true
theorem palanquinlaw10_ClampLimits.walk (P : palanquinlaw10_ClampLimits.Pure) (a0 : ByteArray) (a1 : Int) (a2 : Int) (a3 : Int) (a4 : Int) (w : World) (w0 : a0.size ≤ 140737488351232) (w1 : (Lit.int .u16 a1).wf = true) (w2 : (Lit.int .u16 a2).wf = true) (w3 : (Lit.int .u16 a3).wf = true) (w4 : (Lit.int .u16 a4).wf = true) :
  Calls Try.prog 9 #[.string a0, .int .u16 a1, .int .u16 a2, .int .u16 a3, .int .u16 a4] w fun e w' => e = .returned (.bool true) ∧ Below w.heap.size w w' := by
 obtain ⟨k, h⟩ := P a0 a1 a2 a3 a4 w0 w1 w2 w3 w4
 refine (palanquinlaw10_ClampLimits.calls k a0 a1 a2 a3 a4 true w h ⟨rfl⟩).mono ?_
 rintro e w' ⟨rfl, hd⟩
 exact ⟨rfl, hd⟩

end Go.Proofs.Ytcmalglippmocaa.G
end

section
/- Plain facts: where a packet's MSS stands. -/
namespace Go.Proofs.Ytcmalglippmocaa.Pure
open Go.RowKit Go.Proofs.YtcmalglippmocaaW.PrintWords Go.Proofs.YtcmalglippmocaaW.PrintLast Go.Proofs.Ytcmalglippmocaa.G Go.Proofs.Ytcmalglippmocaa.Pal
open FG F2 FS FT
set_option linter.unusedVariables false
namespace CL
theorem awake10 : palanquinlaw10_awake.f 80000 = some true := by decide +kernel
theorem and2u (x : Int) (h0 : 0 ≤ x) (h1 : x < 256) : Go.bits .and .u8 x 2 = x / 2 % 2 * 2 := by
  have h : ∀ b : Fin 256, Go.bits .and .u8 (b.val : Int) 2 = ((b.val / 2 % 2 * 2 : Nat) : Int) := by decide +kernel
  obtain ⟨n, rfl⟩ := Int.eq_ofNat_of_zero_le h0
  have := h ⟨n, by omega⟩
  dsimp only at this
  rw [this]; omega
theorem and2i (x : Int) (h0 : 0 ≤ x) (h1 : x < 256) : Go.bits .and .i64 x 2 = x / 2 % 2 * 2 := by
  have h : ∀ b : Fin 256, Go.bits .and .i64 (b.val : Int) 2 = ((b.val / 2 % 2 * 2 : Nat) : Int) := by decide +kernel
  obtain ⟨n, rfl⟩ := Int.eq_ofNat_of_zero_le h0
  have := h ⟨n, by omega⟩
  dsimp only at this
  rw [this]; omega
theorem wrap_hd (y : Int) {n : Nat} (h : (n : Int) = y % 16 * 4) (_ : True) : wrap64 (wrap64 (y % 16) * 4) = (n : Int) := by unfold wrap64; omega
theorem wrap_hq (n q : Nat) (hn : n ≤ 60) (hq : q ≤ 1000000) : wrap64 (wrap64 ((n : Int) + 20) + (q : Int)) = ((n + 20 + q : Nat) : Int) := by unfold wrap64; omega
/-- What find answers of a segment s behind n bytes of header. -/
def findR (n : Nat) (s : ByteArray) : Int × Int × Bool :=
  match mssOf (bl (s.extract 20 (ht s))) with
  | none => (0, 0, false)
  | some (m, q) => if be (bl (s.extract 13 14)) / 2 % 2 = 0 then (0, 0, false) else (((n + 20 + q : Nat) : Int), (m : Int), true)
theorem mssOf_lt {l : List UInt8} {m q : Nat} (h : mssOf l = some (m, q)) : q + 2 ≤ l.length ∧ m ≤ 65535 := by
  obtain ⟨L1, L2, j, _, rfl, hj, _, _, hn, _⟩ := mssOf_some h
  have b2 := UInt8.toNat_lt (l.getD (j + 2) 0)
  have b3 := UInt8.toNat_lt (l.getD (j + 3) 0)
  omega
theorem find_not {p : ByteArray} {a d e x : Int} {b c : ByteArray} (h : flow_Get.f p = some (a, b, c, d, e, x)) (hx : x ≠ 0 ∨ a ≠ 6) (k : Nat) : clamp_find.f (k + 1) p = some (0, 0, false) := by
  unfold clamp_find.f
  rw [h, Option.bind_some]
  dsimp +instances only
  by_cases h0 : x = 0
  · have ha : a ≠ 6 := by rcases hx with hx | hx
                          · exact absurd h0 hx
                          · exact hx
    rw [if_pos h0, show (a != 6) = true by simp [ha], clamp_find.j0, if_pos rfl]
  · rw [if_neg h0, clamp_find.j0, if_pos rfl]
theorem head_is {p b : ByteArray} {n : Nat} (hp : 0 < p.size) (h : (b.size = 4 ∧ bt p 0 / 16 = 4 ∧ (n : Int) = bt p 0 % 16 * 4) ∨ (b.size = 16 ∧ bt p 0 / 16 = 6 ∧ n = 40)) : clamp_head.f p = some (n : Int) := by
  unfold clamp_head.f
  have hr := bt_range p 0 hp
  rw [show ((0 : Nat) : Int) = 0 from rfl] at hr
  rw [if_pos (by omega)]
  rcases h with ⟨_, h1, h2⟩ | ⟨_, h1, h2⟩
  · rw [if_neg (by omega), FT.and15 _ hr.1 hr.2, wrap_hd _ h2 trivial]
  · rw [if_pos h1, h2]; rfl
theorem find_seg {p : ByteArray} {d e : Int} {b c : ByteArray} {n : Nat} (hs : p.size ≤ 1000000) (h : flow_Get.f p = some (6, b, c, d, e, 0)) (hn : n ≤ p.size) (hp : 0 < p.size)
    (hh : (b.size = 4 ∧ bt p 0 / 16 = 4 ∧ (n : Int) = bt p 0 % 16 * 4) ∨ (b.size = 16 ∧ bt p 0 / 16 = 6 ∧ n = 40)) (ht0 : tcpErr (p.extract n p.size) = 0) (k : Nat) :
    clamp_find.f (k + 1) p = some (findR n (p.extract n p.size)) := by
  have hz : (p.extract n p.size).size = p.size - n := by rw [ByteArray.size_extract]; omega
  obtain ⟨g1, g2, _, _⟩ := errT_zero ht0
  have hn40 : n ≤ 60 := by
    have hr := bt_range p 0 hp
    rw [show ((0 : Nat) : Int) = 0 from rfl] at hr
    rcases hh with ⟨_, _, h2⟩ | ⟨_, _, h2⟩ <;> omega
  unfold clamp_find.f
  rw [h, Option.bind_some]
  dsimp +instances only
  rw [if_pos rfl, show ((6 : Int) != 6) = false by decide, clamp_find.j0, if_neg (by decide), head_is hp hh, Option.bind_some, if_pos (by omega), if_pos (by omega), Int.toNat_natCast, getT_is (by omega), if_pos ht0, Option.bind_some]
  dsimp +instances only
  clear ht0
  generalize hsg : p.extract n p.size = s at *
  clear hsg
  have hb : be (bl (s.extract 13 14)) < 256 := by
    have := be_lt_of (bl (s.extract 13 14)) 1 (by rw [bl_length, ByteArray.size_extract]; omega)
    omega
  rw [mss_is _ (by rw [ByteArray.size_extract]; omega), Option.bind_some]
  unfold findR
  cases hm : mssOf (bl (s.extract 20 (ht s))) with
  | none => rfl
  | some r =>
    obtain ⟨m, q⟩ := r
    have hq := (mssOf_lt hm).1
    rw [bl_length, ByteArray.size_extract] at hq
    have hq2 : q ≤ 1000000 := by clear hm; omega
    rw [show mssR (some (m, q)) = ((m : Int), (q : Int), true) from rfl]
    dsimp +instances only
    rw [if_pos rfl, and2i _ (by omega) (by omega)]
    by_cases hf : be (bl (s.extract 13 14)) / 2 % 2 = 0
    · rw [if_pos (by omega), if_pos hf]
    · rw [if_neg (by omega), if_neg hf]
      rw [wrap_hq n q hn40 hq2]
theorem clamp_same {p : ByteArray} {i m : Int} (h : clamp_find.f 1 p = some (i, m, false)) (l : Int) : clamp_Clamp.f p l = some p := by
  unfold clamp_Clamp.f
  rw [h, Option.bind_some, if_pos (.inl rfl)]
theorem MSS_is {p : ByteArray} {i m : Int} {b : Bool} {k : Nat} (h : clamp_find.f k p = some (i, m, b)) : clamp_MSS.f k p = some (m, b) := by
  unfold clamp_MSS.f
  rw [h, Option.bind_some]
end CL
end Go.Proofs.Ytcmalglippmocaa.Pure
end

section
/- Plain facts: a packet with another MSS in it, sealed. -/
namespace Go.Proofs.Ytcmalglippmocaa.Pure
open Go.RowKit Go.Proofs.YtcmalglippmocaaW.PrintWords Go.Proofs.YtcmalglippmocaaW.PrintLast Go.Proofs.Ytcmalglippmocaa.G Go.Proofs.Ytcmalglippmocaa.Pal
open FG F2 FS FT
set_option linter.unusedVariables false
namespace CL
theorem getD_take {l : List UInt8} {j q : Nat} (h : j < q) : (l.take q).getD j 0 = l.getD j 0 := by simp [List.getD_eq_getElem?_getD, h]
theorem getD_drop (l : List UInt8) (q k : Nat) : (l.drop q).getD k 0 = l.getD (q + k) 0 := by simp [List.getD_eq_getElem?_getD, List.getElem?_drop]
theorem getD_over {l : List UInt8} {j : Nat} (h : l.length ≤ j) : l.getD j 0 = 0 := by simp [List.getD_eq_getElem?_getD, h]
theorem cut_getD (s : ByteArray) (n m k : Nat) : (bl (s.extract n m)).getD k 0 = if n + k < m then (bl s).getD (n + k) 0 else 0 := by
  rw [cut_bl, getD_drop]
  by_cases h : n + k < m
  · rw [if_pos h, getD_take h]
  · rw [if_neg h, getD_over (by rw [List.length_take]; omega)]
theorem getD_at {l : List UInt8} {i : Nat} (h : i < l.length) : l.getD i 0 = l[i] := by simp [List.getD_eq_getElem?_getD, h]
theorem ext_getD {x y : ByteArray} (hz : x.size = y.size) (h : ∀ k, (bl x).getD k 0 = (bl y).getD k 0) : x = y := by
  apply bl_inj
  apply List.ext_getElem (by rw [bl_length, bl_length, hz])
  intro i h1 h2
  have := h i
  rw [getD_at h1, getD_at h2] at this
  exact this
theorem putAt_getD {s : ByteArray} {q : Nat} (c : Nat) {j : Nat} (h : q + 2 ≤ s.size) (hj : j < q ∨ q + 2 ≤ j) : (bl (putAt s q c)).getD j 0 = (bl s).getD j 0 := by
  rcases hj with h1 | h2
  · rw [← getD_take (l := bl (putAt s q c)) h1, take_putAt s q c h, getD_take h1]
  · obtain ⟨k, rfl⟩ := Nat.exists_eq_add_of_le h2
    rw [← getD_drop, drop_putAt s q c h, getD_drop]
theorem putAt_in {s : ByteArray} {q c : Nat} {j : Nat} (h : q + 2 ≤ s.size) (hj : j < 2) : (bl (putAt s q c)).getD (q + j) 0 = (nb 2 c).getD j 0 := by
  have hl : ((bl s).take q).length = q := by rw [List.length_take, bl_length]; omega
  rw [← getD_drop, bl_putAt, List.append_assoc, List.drop_left' hl, List.getD_eq_getElem?_getD, List.getElem?_append_left (by rw [nb_length]; exact hj), ← List.getD_eq_getElem?_getD]
theorem putAt_comm {s : ByteArray} {q r c d : Nat} (h : q + 2 ≤ r) (hr : r + 2 ≤ s.size) : putAt (putAt s q c) r d = putAt (putAt s r d) q c := by
  have z1 := putAt_size s q c (by omega)
  have z2 := putAt_size s r d hr
  refine ext_getD ((putAt_size _ _ _ (by omega)).trans (z1.trans (z2.symm.trans (putAt_size _ _ _ (by omega)).symm))) fun k => ?_
  by_cases h1 : k < q ∨ q + 2 ≤ k
  · rw [putAt_getD (s := putAt s r d) c (by omega) h1]
    by_cases h2 : k < r ∨ r + 2 ≤ k
    · rw [putAt_getD (s := putAt s q c) d (by omega) h2, putAt_getD c (by omega) h1, putAt_getD d hr h2]
    · obtain ⟨j, rfl⟩ := Nat.exists_eq_add_of_le (show r ≤ k by omega)
      rw [putAt_in (by omega) (by omega), putAt_in hr (by omega)]
  · obtain ⟨j, rfl⟩ := Nat.exists_eq_add_of_le (show q ≤ k by omega)
    rw [putAt_in (s := putAt s r d) (by omega) (by omega), putAt_getD (s := putAt s q c) d (by omega) (.inl (by omega)), putAt_in (by omega) (by omega)]
theorem putAt_two {s : ByteArray} {q c : Nat} (h : q + 2 ≤ s.size) (hc : c ≤ 65535) : ((bl (putAt s q c)).getD q 0).toNat * 256 + ((bl (putAt s q c)).getD (q + 1) 0).toNat = c := by
  have hz := putAt_size s q c h
  have e := be_two (putAt s q c) q (by omega)
  rw [mid_putAt s q c h, be_nb] at e
  rw [getD_at (l := bl (putAt s q c)) (i := q) (by rw [bl_length]; omega), getD_at (l := bl (putAt s q c)) (i := q + 1) (by rw [bl_length]; omega)]
  omega
theorem ext_putAt {s : ByteArray} {q : Nat} (c : Nat) {x y : Nat} (h : q + 2 ≤ s.size) (hy : y ≤ q) : (putAt s q c).extract x y = s.extract x y := by
  apply bl_inj
  have e := congrArg (List.take y) (take_putAt s q c h)
  rw [List.take_take, List.take_take, Nat.min_eq_left hy] at e
  rw [cut_bl, cut_bl, e]
theorem ahead_of {l : List UInt8} {L1 L2 : List (Nat × Nat)} {q : Nat} (hW : W l 0 = some (L1 ++ (q, 4) :: L2)) : W (l.take q) 0 = some L1 ∧ ∀ p ∈ L1, p.1 + p.2 ≤ q ∧ 1 ≤ p.2 := by
  have h := W_take l L2 q 4 0 L1 hW
  refine ⟨h, fun p hp => ?_⟩
  have hm := W_mem 0 L1 h p hp
  rw [List.length_take] at hm
  omega
theorem is_like {l l' : List UInt8} {p : Nat × Nat} (h : l'.getD p.1 0 = l.getD p.1 0) : isMSS l' p = isMSS l p := by unfold isMSS; rw [h]
theorem put_both {l l' : List UInt8} {L1 L2 : List (Nat × Nat)} {q : Nat} (hW : W l 0 = some (L1 ++ (q, 4) :: L2)) (hl : l'.length = l.length) (hag : ∀ j, j < q + 2 ∨ q + 4 ≤ j → l'.getD j 0 = l.getD j 0) (h2 : l.getD q 0 = 2) (hno : ∀ p ∈ L1, isMSS l p = false) :
    rightO l' = true ∧ mssOf l' = some (mssAt l' (q, 4)) := by
  have h := W_put l l' hl q hag 0 _ hW (by simp)
  obtain ⟨_, hb⟩ := ahead_of hW
  refine ⟨rightO_of h, ?_⟩
  rw [mssOf_of h, List.find?_append, List.find?_eq_none.mpr (fun p hp => by
    rw [is_like (hag p.1 (by have := hb p hp; omega)), hno p hp]; decide), List.find?_cons, show isMSS l' (q, 4) = true by rw [is_like (hag q (by omega))]; unfold isMSS; rw [h2]; rfl]
  rfl
/-- The segment with another MSS and another sum. -/
def sq (s : ByteArray) (a L c : Nat) : ByteArray := putAt (putAt s (20 + a) L) 16 c
theorem sq_size {s : ByteArray} {a : Nat} (L c : Nat) (h : 22 + a ≤ s.size) : (sq s a L c).size = s.size := by
  unfold sq; rw [putAt_size _ _ _ (by rw [putAt_size _ _ _ (by omega)]; omega), putAt_size _ _ _ (by omega)]
theorem sq_low {s : ByteArray} {a : Nat} (L c : Nat) {x y : Nat} (h : 22 + a ≤ s.size) (hy : y ≤ 16) : (sq s a L c).extract x y = s.extract x y := by
  unfold sq; rw [ext_putAt c (by rw [putAt_size _ _ _ (by omega)]; omega) hy, ext_putAt L (by omega) (by omega)]
theorem sq_getD {s : ByteArray} {a : Nat} (L c : Nat) {k : Nat} (h : 22 + a ≤ s.size) (h1 : k < 16 ∨ 18 ≤ k) (h2 : k < 20 + a ∨ 22 + a ≤ k) : (bl (sq s a L c)).getD k 0 = (bl s).getD k 0 := by
  unfold sq; rw [putAt_getD c (by rw [putAt_size _ _ _ (by omega)]; omega) h1, putAt_getD L (by omega) (by omega)]
theorem sq_ht {s : ByteArray} {a : Nat} (L c : Nat) (h : 22 + a ≤ s.size) : ht (sq s a L c) = ht s := by unfold ht; rw [sq_low L c h (by decide)]
theorem mss_room {s : ByteArray} {m a : Nat} (hm : mssOf (bl (s.extract 20 (ht s))) = some (m, a)) : 2 ≤ a ∧ m ≤ 65535 ∧ 22 + a ≤ ht s ∧ 22 + a ≤ s.size := by
  obtain ⟨_, _, q, _, rfl, hq, _⟩ := mssOf_some hm
  have := (mssOf_lt hm).2
  rw [bl_length, ByteArray.size_extract] at hq
  omega
theorem sq_right {s : ByteArray} {m a L : Nat} (c : Nat) (h0 : tcpErr s = 0) (hm : mssOf (bl (s.extract 20 (ht s))) = some (m, a)) (hL : L ≤ 65535) :
    tcpErr (sq s a L c) = 0 ∧ mssOf (bl ((sq s a L c).extract 20 (ht (sq s a L c)))) = some (L, a) := by
  obtain ⟨r1, r2, r3, r4⟩ := mss_room hm
  obtain ⟨g1, ⟨g2, g3⟩, g4, _⟩ := errT_zero h0
  clear h0
  have hz := sq_size (s := s) (a := a) L c r4
  have hh := sq_ht (s := s) (a := a) L c r4
  have hlow : (sq s a L c).extract 12 13 = s.extract 12 13 := sq_low L c r4 (by decide)
  obtain ⟨L1, L2, q, hW, rfl, hq, h2, h4, hn, hno⟩ := mssOf_some hm
  have hlen : (bl ((sq s (q + 2) L c).extract 20 (ht s))).length = (bl (s.extract 20 (ht s))).length := by
    rw [bl_length, bl_length, ByteArray.size_extract, ByteArray.size_extract, hz]
  obtain ⟨p1, p2⟩ := put_both hW hlen (fun j hj => by
    rw [cut_getD, cut_getD]
    by_cases hk : 20 + j < ht s
    · rw [if_pos hk, if_pos hk, sq_getD L c r4 (by omega) (by omega)]
    · rw [if_neg hk, if_neg hk]) h2 hno
  refine ⟨?_, ?_⟩
  · unfold tcpErr
    rw [hz, hh, hlow, if_neg (by omega), if_pos ⟨g2, g3⟩, if_pos g4, if_pos p1]
  · rw [hh, p2]
    unfold mssAt
    dsimp only
    rw [cut_getD, cut_getD, if_pos (by omega), if_pos (by omega)]
    have e : ∀ k, 18 ≤ k → (bl (sq s (q + 2) L c)).getD k 0 = (bl (putAt s (20 + (q + 2)) L)).getD k 0 := fun k hk => by
      unfold sq; rw [putAt_getD c (by rw [putAt_size _ _ _ (by omega)]; omega) (.inr hk)]
    rw [e _ (by omega), e _ (by omega), show 20 + (q + 3) = 20 + (q + 2) + 1 by omega, putAt_two (by omega) hL]
/-- A valid packet that opens a TCP, and has an MSS. -/
structure Seg (p b c : ByteArray) (d e : Int) (n m a : Nat) : Prop where
  n20 : 20 ≤ n
  np : n ≤ p.size
  small : p.size ≤ 5000
  bc : b.size = c.size
  hh : (b.size = 4 ∧ bt p 0 / 16 = 4 ∧ (n : Int) = bt p 0 % 16 * 4) ∨ (b.size = 16 ∧ bt p 0 / 16 = 6 ∧ n = 40)
  err : tcpErr (p.extract n p.size) = 0
  mss : mssOf (bl ((p.extract n p.size).extract 20 (ht (p.extract n p.size)))) = some (m, a)
  flag : be (bl ((p.extract n p.size).extract 13 14)) / 2 % 2 ≠ 0
  port1 : d = ((be (bl ((p.extract n p.size).extract 0 2)) : Nat) : Int)
  port2 : e = ((be (bl ((p.extract n p.size).extract 2 4)) : Nat) : Int)
  flow : flow_Get.f p = some (6, b, c, d, e, 0)
  all : ∀ q : ByteArray, q.size = p.size → (∀ i j, j ≤ n → q.extract i j = p.extract i j) → flow_Get.f q = flow_fin 6 b c (q.extract n q.size) false (decide (b.size = 4))
theorem Seg.find {p b c : ByteArray} {d e : Int} {n m a : Nat} (h : Seg p b c d e n m a) (k : Nat) : clamp_find.f (k + 1) p = some (((n + 20 + a : Nat) : Int), (m : Int), true) := by
  have hn := h.n20
  have hs := h.small
  have hp := h.np
  rw [find_seg (by omega) h.flow h.np (by omega) h.hh h.err k]
  unfold findR
  rw [h.mss]
  dsimp +instances only
  rw [if_neg h.flag]
theorem Seg.room {p b c : ByteArray} {d e : Int} {n m a : Nat} (h : Seg p b c d e n m a) : 2 ≤ a ∧ m ≤ 65535 ∧ 22 + a ≤ (p.extract n p.size).size ∧ n + 22 + a ≤ p.size := by
  obtain ⟨h1, h2, _, h4⟩ := mss_room h.mss
  have := h4
  have hp := h.np
  rw [ByteArray.size_extract] at this
  omega
theorem seg_of {p b c : ByteArray} {d e : Int} (hs : p.size ≤ 5000) (hf : flow_Get.f p = some (6, b, c, d, e, 0)) : (∀ k, clamp_find.f (k + 1) p = some (0, 0, false)) ∨ ∃ n m a, Seg p b c d e n m a := by
  obtain ⟨n, hn20, hnp, hbc, hh, _, ⟨p3, hp3, hok⟩, hall⟩ := flow_valid (by omega) hf
  have ht0 := ports6 hp3 (by rw [ByteArray.size_extract]; omega)
  have hfi := fun k => find_seg (by omega) hf hnp (by omega) hh ht0 k
  unfold findR at hfi
  cases hm : mssOf (bl ((p.extract n p.size).extract 20 (ht (p.extract n p.size)))) with
  | none => rw [hm] at hfi; exact .inl hfi
  | some r =>
    obtain ⟨m, a⟩ := r
    rw [hm] at hfi
    dsimp +instances only at hfi
    by_cases hb : be (bl ((p.extract n p.size).extract 13 14)) / 2 % 2 = 0
    · simp only [if_pos hb] at hfi; exact .inl hfi
    · refine .inr ⟨n, m, a, hn20, hnp, hs, hbc, hh, ht0, hm, hb, ?_, ?_, hf, hall⟩
      all_goals
        unfold flow_ports.f at hp3
        rw [if_pos rfl, getT_is (by rw [ByteArray.size_extract]; omega), if_pos ht0, Option.bind_some] at hp3
        have := Option.some.inj hp3
        simp only [Prod.mk.injEq] at this
      · exact this.1.symm
      · exact this.2.1.symm
/-- The packet with another MSS, sealed. -/
def pq (p b c : ByteArray) (n a L : Nat) : ByteArray := p.extract 0 n ++ sq (p.extract n p.size) a L (sumAt (psB b c 6 ((p.extract n p.size).size : Nat)) (putAt (p.extract n p.size) (20 + a) L) 16)
theorem app_front {x y : ByteArray} {n : Nat} (h : x.size = n) {i j : Nat} (hj : j ≤ n) : (x ++ y).extract i j = x.extract i j := by
  apply bl_inj
  rw [cut_bl, cut_bl, bl_append, List.take_append_of_le_length (by rw [bl_length]; omega)]
theorem app_back {x y : ByteArray} {n : Nat} (h : x.size = n) : (x ++ y).extract n (x ++ y).size = y := by
  apply bl_inj
  rw [ext_back, bl_append, List.drop_left' (by rw [bl_length]; exact h)]
theorem front_front (p : ByteArray) {n i j : Nat} (hj : j ≤ n) : (p.extract 0 n).extract i j = p.extract i j := by
  apply bl_inj
  rw [cut_bl, ext_front, cut_bl, List.take_take, Nat.min_eq_left hj]
theorem pq_facts {p b c : ByteArray} {d e : Int} {n m a : Nat} (h : Seg p b c d e n m a) (L : Nat) : (pq p b c n a L).size = p.size ∧ (∀ i j, j ≤ n → (pq p b c n a L).extract i j = p.extract i j) ∧
    (pq p b c n a L).extract n (pq p b c n a L).size = sq (p.extract n p.size) a L (sumAt (psB b c 6 ((p.extract n p.size).size : Nat)) (putAt (p.extract n p.size) (20 + a) L) 16) := by
  have hp := h.np
  obtain ⟨_, _, hr, _⟩ := h.room
  have hz : (p.extract 0 n).size = n := by rw [ByteArray.size_extract]; omega
  have hz2 : (p.extract n p.size).size = p.size - n := by rw [ByteArray.size_extract]; omega
  refine ⟨?_, fun i j hj => ?_, app_back hz⟩
  · unfold pq
    rw [ByteArray.size_append, hz, sq_size _ _ hr, hz2]; omega
  · unfold pq
    rw [app_front hz hj, front_front p hj]
theorem Seg.put {p b c : ByteArray} {d e : Int} {n m a : Nat} (h : Seg p b c d e n m a) {L : Nat} (hL : L ≤ 65535) : Seg (pq p b c n a L) b c d e n L a := by
  obtain ⟨f1, f2, f3⟩ := pq_facts h L
  obtain ⟨r1, r2, r3, r4⟩ := h.room
  have hn20 := h.n20
  have hs := h.small
  have hp := h.np
  have hbt : bt (pq p b c n a L) 0 = bt p 0 := by
    rw [show (0 : Int) = ((0 : Nat) : Int) from rfl, bt_one _ 0 (by omega), bt_one _ 0 (by omega), f2 _ _ (by omega)]
  generalize hC : sumAt (psB b c 6 ((p.extract n p.size).size : Nat)) (putAt (p.extract n p.size) (20 + a) L) 16 = C at f3
  obtain ⟨q1, q2⟩ := sq_right C h.err h.mss hL
  have e1 : (sq (p.extract n p.size) a L C).extract 13 14 = (p.extract n p.size).extract 13 14 := sq_low L C r3 (by decide)
  have e2 : (sq (p.extract n p.size) a L C).extract 0 2 = (p.extract n p.size).extract 0 2 := sq_low L C r3 (by decide)
  have e3 : (sq (p.extract n p.size) a L C).extract 2 4 = (p.extract n p.size).extract 2 4 := sq_low L C r3 (by decide)
  have hall : ∀ q : ByteArray, q.size = (pq p b c n a L).size → (∀ i j, j ≤ n → q.extract i j = (pq p b c n a L).extract i j) → flow_Get.f q = flow_fin 6 b c (q.extract n q.size) false (decide (b.size = 4)) :=
    fun q h1 h2 => h.all q (by omega) (fun i j hj => by rw [h2 i j hj, f2 i j hj])
  have hflow : flow_Get.f (pq p b c n a L) = some (6, b, c, d, e, 0) := by
    have hb16 : b.size ≤ 16 ∧ (b.size + c.size) % 2 = 0 := by
      have := h.bc
      rcases h.hh with ⟨h1, _, _⟩ | ⟨h1, _, _⟩ <;> omega
    have hsz : (p.extract n p.size).size ≤ 5000 := by rw [ByteArray.size_extract]; omega
    have hbc := h.bc
    rw [hall _ rfl (fun _ _ _ => rfl), f3]
    have hpt : flow_ports.f 6 (sq (p.extract n p.size) a L C) = some (d, e, ((be (bl ((sq (p.extract n p.size) a L C).extract 16 18)) : Nat) : Int), 0) := by
      unfold flow_ports.f
      rw [if_pos rfl, getT_is (by rw [sq_size _ _ r3]; omega), if_pos q1, Option.bind_some]
      dsimp +instances only
      rw [e2, e3, h.port1, h.port2]
    rw [fin_some _ (.inl rfl) hpt (by omega) (by omega) (by rw [sq_size _ _ r3]; omega), if_pos]
    unfold okR
    rw [if_neg (fun hx => absurd hx.1 (by decide)), sq_size _ _ r3]
    have hsr := sealed_right (ps := psB b c 6 ((p.extract n p.size).size : Nat)) (s := putAt (p.extract n p.size) (20 + a) L) (q := 16) (p := 6) (psB_even b c 6 _ hb16.2) (by decide) (by rw [putAt_size _ _ _ (by omega)]; omega)
    rw [sealC_6, hC] at hsr
    exact decide_eq_true hsr
  refine ⟨hn20, by omega, by omega, h.bc, by rw [hbt]; exact h.hh, by rw [f3]; exact q1, by rw [f3]; exact q2, by rw [f3, e1]; exact h.flag, by rw [f3, e2]; exact h.port1, by rw [f3, e3]; exact h.port2, hflow, hall⟩
theorem pq_pq {p b c : ByteArray} {d e : Int} {n m a : Nat} (h : Seg p b c d e n m a) (L M : Nat) : pq (pq p b c n a L) b c n a M = pq p b c n a M := by
  obtain ⟨f1, f2, f3⟩ := pq_facts h L
  obtain ⟨r1, r2, r3, r4⟩ := h.room
  have hz1 : ∀ (s : ByteArray) (C : Nat), 22 + a ≤ s.size → putAt (sq s a L C) (20 + a) M = putAt (putAt s (20 + a) M) 16 C := fun s C hs => by
    unfold sq
    rw [putAt_comm (q := 16) (by omega) (by rw [putAt_size _ _ _ (by omega)]; omega), putAt_twice _ _ _ _ (by omega)]
  generalize hp : pq p b c n a L = q at f1 f2 f3
  unfold pq
  rw [f3, f2 0 n (Nat.le_refl _), sq_size _ _ r3, hz1 _ _ r3]
  rw [sumAt_put _ _ _ _ (by rw [putAt_size _ _ _ (by omega)]; omega)]
  congr 1
  show putAt (putAt (sq (p.extract n p.size) a L _) (20 + a) M) 16 _ = putAt (putAt (p.extract n p.size) (20 + a) M) 16 _
  rw [hz1 _ _ r3, putAt_twice _ _ _ _ (by rw [putAt_size _ _ _ (by omega)]; omega)]
theorem lim_range (l : Int) : 0 ≤ clampLim l ∧ clampLim l ≤ 65535 := by
  unfold clampLim mx mn; split <;> split <;> omega
theorem bl_numB (c : Nat) (h : c ≤ 65535) : bl (numB (c : Int)) = nb 2 c := by
  unfold numB
  rw [u64n_of (by omega) (by omega), Int.toNat_natCast]
  simp [bl]
theorem cutW_num (s : ByteArray) (i c : Nat) (h : c ≤ 65535) : cutW s i (numB (c : Int)) = putAt s i c := by
  apply bl_inj
  unfold cutW
  rw [bl_append, bl_append, ext_front, ext_back, bl_putAt, bl_numB c h]
theorem cutW_zero (s : ByteArray) (i : Nat) : cutW s i ⟨#[0, 0]⟩ = putAt s i 0 := by
  apply bl_inj
  unfold cutW
  rw [bl_append, bl_append, ext_front, ext_back, bl_putAt]
  rfl
theorem cut_mid {p : ByteArray} {n j : Nat} (L : Nat) (h : n + j + 2 ≤ p.size) : (putAt p (n + j) L).extract n (putAt p (n + j) L).size = putAt (p.extract n p.size) j L := by
  have hz : (p.extract n p.size).size = p.size - n := by rw [ByteArray.size_extract]; omega
  refine ext_getD (by rw [ByteArray.size_extract, putAt_size _ _ _ h, putAt_size _ _ _ (by omega), hz]; omega) fun k => ?_
  rw [ext_back, getD_drop]
  by_cases h1 : k < j ∨ j + 2 ≤ k
  · rw [putAt_getD L h (by omega), putAt_getD L (by omega) h1, ext_back, getD_drop]
  · obtain ⟨i, rfl⟩ := Nat.exists_eq_add_of_le (show j ≤ k by omega)
    rw [show n + (j + i) = n + j + i by omega, putAt_in h (by omega), putAt_in (by omega) (by omega)]
theorem Seg.clamp {p b c : ByteArray} {d e : Int} {n m a : Nat} (h : Seg p b c d e n m a) (l : Int) : clamp_Clamp.f p l = some (if (m : Int) ≤ clampLim l then p else pq p b c n a (clampLim l).toNat) := by
  obtain ⟨r1, r2, r3, r4⟩ := h.room
  have hn20 := h.n20
  have hs := h.small
  have hp := h.np
  have hl := lim_range l
  unfold clamp_Clamp.f
  rw [h.find 0, Option.bind_some]
  dsimp +instances only
  by_cases hm : (m : Int) ≤ clampLim l
  · rw [if_pos (.inr hm), if_pos hm]
  · rw [if_neg (fun hx => hx.elim (fun hx => absurd hx (by decide)) hm), if_neg hm, head_is (by omega) h.hh, Option.bind_some, h.flow, Option.bind_some]
    dsimp +instances only
    rw [if_pos (by omega), Int.toNat_natCast, Int.toNat_natCast]
    obtain ⟨L, hL⟩ := Int.eq_ofNat_of_zero_le hl.1
    have hb16 : b.size ≤ 16 ∧ c.size ≤ 16 := by
      have := h.bc
      rcases h.hh with ⟨h1, _, _⟩ | ⟨h1, _, _⟩ <;> omega
    have hseg : clampSeg p (n + 20 + a) n l = putAt (p.extract n p.size) (20 + a) L := by
      unfold clampSeg
      rw [hL, cutW_num _ _ _ (by omega), show n + 20 + a = n + (20 + a) by omega, cut_mid L (by omega)]
    have hsz : (p.extract n p.size).size ≤ 5000 := by rw [ByteArray.size_extract]; omega
    have hz := putAt_size (p.extract n p.size) (20 + a) L (by omega)
    have hps := psB_size b c 6 ((p.extract n p.size).size : Nat)
    have hps2 := (psT_size (b.size == 16) 6 ((p.extract n p.size).size : Nat)).2
    unfold clamp_fin
    rw [hseg, hz, pseudo_some b c (by omega) (by omega), Option.bind_some, cutW_zero, sum_is _ (by rw [cat_cons, cat_cons, cat_nil, List.append_nil, List.length_append, bl_length, bl_length, putAt_size _ _ _ (by omega)]; omega), Option.bind_some, cat_cons, cat_cons, cat_nil, List.append_nil, cutW_num _ _ _ (csum_bound _), hL, Int.toNat_natCast]
    rfl
end CL
end Go.Proofs.Ytcmalglippmocaa.Pure
end

section
/- The plain law of ClampLimits: clamped twice is clamped to the least; what a limit is. -/
namespace Go.Proofs.Ytcmalglippmocaa.Pure
open Go.RowKit Go.Proofs.YtcmalglippmocaaW.PrintWords Go.Proofs.YtcmalglippmocaaW.PrintLast Go.Proofs.Ytcmalglippmocaa.G Go.Proofs.Ytcmalglippmocaa.Pal
open FG F2 FS FT CL
set_option linter.unusedVariables false
namespace CL
theorem lim16 {x : Int} (h0 : 0 ≤ x) (h1 : x ≤ 65535) : clampLim x = x := by unfold clampLim mx mn; split <;> split <;> omega
/-- Any bytes: no MSS to be clamped, or one. -/
theorem any_of {p : ByteArray} (hs : p.size ≤ 5000) : (∀ k, clamp_find.f (k + 1) p = some (0, 0, false)) ∨ ∃ b c d e n m a, Seg p b c d e n m a := by
  obtain ⟨⟨a, b, c, d, e, x⟩, hf⟩ : ∃ f, flow_Get.f p = some f := flow_some p (by omega)
  by_cases hx : x ≠ 0 ∨ a ≠ 6
  · exact .inl fun k => find_not hf hx k
  · obtain ⟨rfl, rfl⟩ : x = 0 ∧ a = 6 := by omega
    rcases seg_of hs hf with h | ⟨n, m, a, h⟩
    · exact .inl h
    · exact .inr ⟨b, c, d, e, n, m, a, h⟩
theorem twice {p : ByteArray} (hs : p.size ≤ 5000) {x y : Int} (hx : 0 ≤ x ∧ x ≤ 65535) (hy : 0 ≤ y ∧ y ≤ 65535) : ∃ q r, clamp_Clamp.f p x = some q ∧ clamp_Clamp.f q y = some r ∧ clamp_Clamp.f p (mn x y) = some r := by
  have hm : 0 ≤ mn x y ∧ mn x y ≤ 65535 ∧ ((x ≤ y ∧ mn x y = x) ∨ (y ≤ x ∧ mn x y = y)) := by unfold mn; split <;> omega
  rcases any_of hs with h | ⟨b, c, d, e, n, m, a, h⟩
  · exact ⟨p, p, clamp_same (h 0) _, clamp_same (h 0) _, clamp_same (h 0) _⟩
  · have e1 := h.clamp x
    have e3 := h.clamp (mn x y)
    rw [lim16 hx.1 hx.2] at e1
    rw [lim16 hm.1 hm.2.1] at e3
    by_cases h1 : (m : Int) ≤ x
    · rw [if_pos h1] at e1
      have e2 := h.clamp y
      rw [lim16 hy.1 hy.2] at e2
      refine ⟨p, _, e1, e2, ?_⟩
      rw [e3]
      rcases hm.2.2 with ⟨h2, h3⟩ | ⟨h2, h3⟩
      · rw [h3, if_pos h1, if_pos (by omega)]
      · rw [h3]
    · rw [if_neg h1] at e1
      have hq := h.put (L := x.toNat) (by omega)
      have e2 := hq.clamp y
      rw [lim16 hy.1 hy.2] at e2
      refine ⟨_, _, e1, e2, ?_⟩
      rw [e3]
      rcases hm.2.2 with ⟨h2, h3⟩ | ⟨h2, h3⟩
      · rw [h3, if_neg h1, if_pos (by omega)]
      · rw [h3, if_neg (by omega), pq_pq h]
        by_cases h4 : ((x.toNat : Nat) : Int) ≤ y
        · rw [if_pos h4, show y = x by omega]
        · rw [if_neg h4]
end CL
theorem ClampLimits (a0 : ByteArray) (a1 a2 a3 a4 : Int) (_ : a0.size ≤ 140737488351232) (w1 : (Lit.int .u16 a1).wf = true) (w2 : (Lit.int .u16 a2).wf = true) (w3 : (Lit.int .u16 a3).wf = true) (w4 : (Lit.int .u16 a4).wf = true) : ∃ k, palanquinlaw10_ClampLimits.f k a0 a1 a2 a3 a4 = some true := by
  have h1 : 0 ≤ a1 ∧ a1 ≤ 65535 := by simp [Lit.wf] at w1; exact w1
  have h2 : 0 ≤ a2 ∧ a2 ≤ 65535 := by simp [Lit.wf] at w2; exact w2
  have h3 : 0 ≤ a3 ∧ a3 ≤ 65535 := by simp [Lit.wf] at w3; exact w3
  have h4 : 0 ≤ a4 ∧ a4 ≤ 65535 := by simp [Lit.wf] at w4; exact w4
  have wr : ∀ x : Int, 0 ≤ x ∧ x ≤ 65535 → wrap64 x = x := fun x hx => by unfold wrap64; omega
  refine ⟨80000, ?_⟩
  unfold palanquinlaw10_ClampLimits.f
  rw [awake10, Option.bind_some, if_pos rfl]
  by_cases hz : (a0.size : Int) > 5000
  · rw [if_pos hz]
  rw [if_neg hz]
  have hm : 0 ≤ mn a1 a2 ∧ mn a1 a2 ≤ 65535 := by unfold mn; split <;> omega
  have tail : palanquinlaw10_ClampLimits.j0 80000 a0 a1 a2 false = some true := by
    obtain ⟨q, r, e1, e2, e3⟩ := twice (p := a0) (by omega) h1 h2
    rw [palanquinlaw10_ClampLimits.j0, if_neg (by decide), wr _ h1, wr _ h2, wr _ hm, e1, Option.bind_some, e2, Option.bind_some, e3, Option.bind_some, beq_self_eq_true]
  have hv : ∀ v : Bool, palanquinlaw10_ClampLimits.j0 80000 a0 a1 a2 v = some (!v) := fun v => by
    cases v with
    | false => exact tail
    | true => rw [palanquinlaw10_ClampLimits.j0, if_pos rfl]; rfl
  unfold clamp_Limit.f
  rw [if_neg (by decide), if_pos rfl, if_neg (by decide), Option.bind_some, Option.bind_some, Option.bind_some]
  have f1 : mx 0 (mn (wrap64 (wrap64 (wrap64 a3 - wrap64 a4) - 40)) 65535) = mx 0 (a3 - a4 - 40) := by
    rw [wr _ h3, wr _ h4]; unfold mx mn wrap64; repeat' split
    all_goals omega
  have f2 : mx 0 (mn (wrap64 (wrap64 (wrap64 (wrap64 a3 - wrap64 a4) - 40) - 20)) 65535) = mx 0 (a3 - a4 - 60) := by
    rw [wr _ h3, wr _ h4]; unfold mx mn wrap64; repeat' split
    all_goals omega
  have f3 : mx 0 (mn (wrap64 (wrap64 (wrap64 a3 - wrap64 (wrap64 a4 + 1)) - 40)) 65535) = mx 0 (a3 - a4 - 41) := by
    rw [wr _ h3, wr _ h4]; unfold mx mn wrap64; repeat' split
    all_goals omega
  have f4 : mx 0 (wrap64 (wrap64 (wrap64 a3 - wrap64 a4) - 60)) = mx 0 (a3 - a4 - 60) := by
    rw [wr _ h3, wr _ h4]; unfold mx wrap64; repeat' split
    all_goals omega
  rw [f1, f2, f3, f4]
  obtain ⟨u, hu⟩ : ∃ u, u = mx 0 (a3 - a4 - 40) := ⟨_, rfl⟩
  have hu0 : 0 ≤ u ∧ u ≤ 65535 := by rw [hu]; unfold mx; split <;> omega
  have g : mx 0 (wrap64 (u - 1)) = mx 0 (a3 - a4 - 41) := by
    rw [hu]; unfold mx wrap64; repeat' split
    all_goals omega
  rw [← hu, g, if_neg (by omega), if_pos rfl, if_pos rfl]
  by_cases h0 : u = 0
  · rw [if_pos h0, hv]
    have : mx 0 (a3 - a4 - 41) = 0 := by rw [hu] at h0; unfold mx at h0 ⊢; split at h0 <;> split <;> omega
    rw [this]; rfl
  · rw [if_neg h0, hv]; rfl
end Go.Proofs.Ytcmalglippmocaa.Pure
end
