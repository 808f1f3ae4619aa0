-- Laid by a program of this session (wip/gen/gprint.py) over the translation's print. Lean checks it.
import Derived.Test.YtejmipoolbodgaaG0
import Derived.Test.YtejmipoolbodgaaGEq1
namespace Go.Proofs.Ytejmipoolbodgaa.G
open Go.RowKit Go.Proofs.YtejmipoolbodgaaW.PrintWords Go.Proofs.YtejmipoolbodgaaW.PrintLast Go.Proofs.YtejmipoolbodgaaW.PrintMore
attribute [local go_sem] max2_int min2_int max_two min_two max_three min_three max_four min_four   -- for this text's walks alone
set_option linter.unusedVariables false
set_option linter.unusedSimpArgs false

attribute [local go_sem high] eqA90
/-! ### palanquinlaw01_few: function 56 -/
def palanquinlaw01_few.l0 : Nat → List (S87) → Int → Int → Option (Bool)
  | 0, _, _, _ => none
  | k + 1, x0, x3, x4 => if x4 < (x0.length : Int) then (if 0 ≤ x4 then (if (wrap64 (x3 + (((rd_T87 x0 x4).f3).size : Int))) > 5000 then (some false) else (if x4 > 100 then (some false) else (palanquinlaw01_few.l0 k x0 (wrap64 (x3 + (((rd_T87 x0 x4).f3).size : Int))) (wrap64 (x4 + 1))))) else (none)) else (some true)
def palanquinlaw01_few.f (k : Nat) (l0 : List (S87)) : Option (Bool) := palanquinlaw01_few.l0 k l0 0 0
theorem palanquinlaw01_few.mono_l : ∀ k, (∀ y0 y1 y2, LeO (palanquinlaw01_few.l0 k y0 y1 y2) (palanquinlaw01_few.l0 (k + 1) y0 y1 y2))
  | 0 => fun _ _ _ r h => by simp [palanquinlaw01_few.l0] at h
  | k + 1 => by
    have ih0 := palanquinlaw01_few.mono_l k
    · intro y0 y1 y2
      unfold palanquinlaw01_few.l0
      repeat' first
      | (with_reducible exact ih0 _ _ _)
      | (with_reducible exact LeO.refl _)
      | (with_reducible exact LeO.none _)
      | (with_reducible refine LeO.ite ?_ ?_)
      | (with_reducible refine LeO.bind ?_ (fun _ => ?_))
      | exact ih0 _ _ _
      | exact LeO.none _
      | refine LeO.ite ?_ ?_
      | refine LeO.bind ?_ (fun _ => ?_)
theorem palanquinlaw01_few.mono : ∀ a0 k, LeO (palanquinlaw01_few.f k a0) (palanquinlaw01_few.f (k + 1) a0) := by
  intro a0 k
  have ih0 := palanquinlaw01_few.mono_l k
  unfold palanquinlaw01_few.f
  repeat' first
      | (with_reducible exact ih0 _ _ _)
      | (with_reducible exact LeO.refl _)
      | (with_reducible exact LeO.none _)
      | (with_reducible refine LeO.ite ?_ ?_)
      | (with_reducible refine LeO.bind ?_ (fun _ => ?_))
      | exact ih0 _ _ _
      | exact LeO.none _
      | refine LeO.ite ?_ ?_
      | refine LeO.bind ?_ (fun _ => ?_)
set_option maxHeartbeats 8000000 in
set_option maxRecDepth 100000 in
theorem palanquinlaw01_few.calls (k : Nat) (A0 : Option Addr) (c0 : Nat) (l0 : List (S87)) (r : Bool) (w : World) (hr0 : Kd.C k87 w A0 l0.length l0) (hc0 : l0.length ≤ c0) (h : palanquinlaw01_few.f k l0 = some r) :
    Calls Try.prog 56 #[.slice A0 l0.length c0] w fun e w' => e = .returned (.bool r) ∧ Drawn0 w w' := by
  have HR0 := Aside0.mk hr0
  have HC0 := Aside0.mk hc0
  clear hr0 hc0
  have H : (palanquinlaw01_few.l0 k l0 0 0) = some r := h
  clear h
  have H' := Aside0.mk H
  clear H
  go_enter Try.func56, Try.ntmps56
  go_wp2
  go_loopg [3, 4] k (fun kq v3 v4 w' => ∃ (x3_1 : Int) (x4_1 : Int), v3 = .int .i64 x3_1 ∧ v4 = .int .i64 x4_1 ∧ Aside0 (palanquinlaw01_few.l0 kq l0 x3_1 x4_1 = some r) ∧ Aside0 (kq ≤ k) ∧ Drawn0 w w')
  case atStart => exact ⟨(0), (0), (by first | rfl | (simp; done) | (simp [*]; done)), (by first | rfl | (simp; done) | (simp [*]; done)), H', ⟨Nat.le_refl _⟩, by repeat (first | exact Drawn0.refl _ | apply Drawn0.step)⟩
  case round =>
    clear H'
    obtain ⟨x3_1, x4_1, rfl, rfl, HA, HK1, ⟨m1, rfl⟩⟩ := hrel
    cases gk with
    | zero => exact absurd HA.out (by simp [palanquinlaw01_few.l0])
    | succ k1 =>
      have H := HA.out
      clear HA
      simp only [palanquinlaw01_few.l0] at H
      by_cases c2 : x4_1 < (l0.length : Int)
      · rw [if_pos c2] at H
        have c2b0 : decide (x4_1 < (l0.length : Int)) = true := decide_eq_true c2
        clear c2
        by_cases c3 : 0 ≤ x4_1
        · rw [if_pos c3] at H
          have c3b0 : decide (0 ≤ x4_1) = true := decide_eq_true c3
          clear c3
          by_cases c4 : (wrap64 (x3_1 + (((rd_T87 l0 x4_1).f3).size : Int))) > 5000
          · rw [if_pos c4] at H
            have c4b0 : decide (5000 < (wrap64 (x3_1 + (((rd_T87 l0 x4_1).f3).size : Int)))) = true := decide_eq_true c4
            clear c4
            obtain rfl := Option.some.inj H
            have p202 : 0 ≤ (x4_1 : Int) := of_decide_eq_true (by first | (with_reducible assumption) | assumption)
            have q202 : x4_1 < (l0.length : Int) := of_decide_eq_true (by first | (with_reducible assumption) | assumption)
            obtain ⟨ad202, e202, hx202_0, hx202_1, hx202_2, hx202_3⟩ := at_T87 HR0.out x4_1 p202 q202
            cases e202
            replace p202 := eq_true p202
            replace q202 := eq_true q202
            go_wp2
            go_ret
            exact ⟨by first | rfl | (simp; done) | (simp [*]; done), by repeat (first | exact Drawn0.refl _ | apply Drawn0.step)⟩
          · rw [if_neg c4] at H
            have c4b0 : decide (5000 < (wrap64 (x3_1 + (((rd_T87 l0 x4_1).f3).size : Int)))) = false := decide_eq_false c4
            clear c4
            by_cases c5 : x4_1 > 100
            · rw [if_pos c5] at H
              have c5b0 : decide (100 < x4_1) = true := decide_eq_true c5
              clear c5
              obtain rfl := Option.some.inj H
              have p202 : 0 ≤ (x4_1 : Int) := of_decide_eq_true (by first | (with_reducible assumption) | assumption)
              have q202 : x4_1 < (l0.length : Int) := of_decide_eq_true (by first | (with_reducible assumption) | assumption)
              obtain ⟨ad202, e202, hx202_0, hx202_1, hx202_2, hx202_3⟩ := at_T87 HR0.out x4_1 p202 q202
              cases e202
              replace p202 := eq_true p202
              replace q202 := eq_true q202
              go_wp2
              go_ret
              exact ⟨by first | rfl | (simp; done) | (simp [*]; done), by repeat (first | exact Drawn0.refl _ | apply Drawn0.step)⟩
            · rw [if_neg c5] at H
              have c5b0 : decide (100 < x4_1) = false := decide_eq_false c5
              clear c5
              have H' := Aside0.mk H
              clear H
              have p202 : 0 ≤ (x4_1 : Int) := of_decide_eq_true (by first | (with_reducible assumption) | assumption)
              have q202 : x4_1 < (l0.length : Int) := of_decide_eq_true (by first | (with_reducible assumption) | assumption)
              obtain ⟨ad202, e202, hx202_0, hx202_1, hx202_2, hx202_3⟩ := at_T87 HR0.out x4_1 p202 q202
              cases e202
              replace p202 := eq_true p202
              replace q202 := eq_true q202
              go_wp2
              go_roundg k1
              case measure => have := HK1.out; omega
              case rel => exact ⟨(wrap64 (x3_1 + (((rd_T87 l0 x4_1).f3).size : Int))), (wrap64 (x4_1 + 1)), (by first | rfl | (simp; done) | (simp [*]; done)), (by first | rfl | (simp; done) | (simp [*]; done)), H', ⟨by have := HK1.out; omega⟩, by repeat (first | exact Drawn0.refl _ | apply Drawn0.step)⟩
        · rw [if_neg c3] at H
          exact absurd H (by simp)
      · rw [if_neg c2] at H
        have c2b0 : decide (x4_1 < (l0.length : Int)) = false := decide_eq_false c2
        clear c2
        obtain rfl := Option.some.inj H
        go_wp2
        go_ret
        exact ⟨by first | rfl | (simp; done) | (simp [*]; done), by repeat (first | exact Drawn0.refl _ | apply Drawn0.step)⟩

/-! ### palanquinlaw01_stops: function 57 -/
def palanquinlaw01_stops.l0 : Nat → List (S87) → Int → Option (Bool)
  | 0, _, _ => none
  | k + 1, x0, x3 => if x3 < (x0.length : Int) then (if 0 ≤ x3 then (if ((rd_T87 x0 x3).f0) < 0 then (if ((rd_T87 x0 x3).f1) = 0 then (some true) else (palanquinlaw01_stops.l0 k x0 (wrap64 (x3 + 1)))) else (if ((rd_T87 x0 x3).f0) > 5 then (if ((rd_T87 x0 x3).f1) = 0 then (some true) else (palanquinlaw01_stops.l0 k x0 (wrap64 (x3 + 1)))) else (palanquinlaw01_stops.l0 k x0 (wrap64 (x3 + 1))))) else (none)) else (some false)
def palanquinlaw01_stops.f (k : Nat) (l0 : List (S87)) : Option (Bool) := palanquinlaw01_stops.l0 k l0 0
theorem palanquinlaw01_stops.mono_l : ∀ k, (∀ y0 y1, LeO (palanquinlaw01_stops.l0 k y0 y1) (palanquinlaw01_stops.l0 (k + 1) y0 y1))
  | 0 => fun _ _ r h => by simp [palanquinlaw01_stops.l0] at h
  | k + 1 => by
    have ih0 := palanquinlaw01_stops.mono_l k
    · intro y0 y1
      unfold palanquinlaw01_stops.l0
      repeat' first
      | (with_reducible exact ih0 _ _)
      | (with_reducible exact LeO.refl _)
      | (with_reducible exact LeO.none _)
      | (with_reducible refine LeO.ite ?_ ?_)
      | (with_reducible refine LeO.bind ?_ (fun _ => ?_))
      | exact ih0 _ _
      | exact LeO.none _
      | refine LeO.ite ?_ ?_
      | refine LeO.bind ?_ (fun _ => ?_)
theorem palanquinlaw01_stops.mono : ∀ a0 k, LeO (palanquinlaw01_stops.f k a0) (palanquinlaw01_stops.f (k + 1) a0) := by
  intro a0 k
  have ih0 := palanquinlaw01_stops.mono_l k
  unfold palanquinlaw01_stops.f
  repeat' first
      | (with_reducible exact ih0 _ _)
      | (with_reducible exact LeO.refl _)
      | (with_reducible exact LeO.none _)
      | (with_reducible refine LeO.ite ?_ ?_)
      | (with_reducible refine LeO.bind ?_ (fun _ => ?_))
      | exact ih0 _ _
      | exact LeO.none _
      | refine LeO.ite ?_ ?_
      | refine LeO.bind ?_ (fun _ => ?_)
set_option maxHeartbeats 8000000 in
set_option maxRecDepth 100000 in
theorem palanquinlaw01_stops.calls (k : Nat) (A0 : Option Addr) (c0 : Nat) (l0 : List (S87)) (r : Bool) (w : World) (hr0 : Kd.C k87 w A0 l0.length l0) (hc0 : l0.length ≤ c0) (h : palanquinlaw01_stops.f k l0 = some r) :
    Calls Try.prog 57 #[.slice A0 l0.length c0] w fun e w' => e = .returned (.bool r) ∧ Drawn0 w w' := by
  have HR0 := Aside0.mk hr0
  have HC0 := Aside0.mk hc0
  clear hr0 hc0
  have H : (palanquinlaw01_stops.l0 k l0 0) = some r := h
  clear h
  have H' := Aside0.mk H
  clear H
  go_enter Try.func57, Try.ntmps57
  go_wp2
  go_loopg [3] k (fun kq v3 w' => ∃ (x3_1 : Int), v3 = .int .i64 x3_1 ∧ Aside0 (palanquinlaw01_stops.l0 kq l0 x3_1 = some r) ∧ Aside0 (kq ≤ k) ∧ Drawn0 w w')
  case atStart => exact ⟨(0), (by first | rfl | (simp; done) | (simp [*]; done)), H', ⟨Nat.le_refl _⟩, by repeat (first | exact Drawn0.refl _ | apply Drawn0.step)⟩
  case round =>
    clear H'
    obtain ⟨x3_1, rfl, HA, HK1, ⟨m1, rfl⟩⟩ := hrel
    cases gk with
    | zero => exact absurd HA.out (by simp [palanquinlaw01_stops.l0])
    | succ k1 =>
      have H := HA.out
      clear HA
      simp only [palanquinlaw01_stops.l0] at H
      by_cases c2 : x3_1 < (l0.length : Int)
      · rw [if_pos c2] at H
        have c2b0 : decide (x3_1 < (l0.length : Int)) = true := decide_eq_true c2
        clear c2
        by_cases c3 : 0 ≤ x3_1
        · rw [if_pos c3] at H
          have c3b0 : decide (0 ≤ x3_1) = true := decide_eq_true c3
          clear c3
          by_cases c4 : ((rd_T87 l0 x3_1).f0) < 0
          · rw [if_pos c4] at H
            have c4b0 : decide (((rd_T87 l0 x3_1).f0) < 0) = true := decide_eq_true c4
            clear c4
            by_cases c5 : ((rd_T87 l0 x3_1).f1) = 0
            · rw [if_pos c5] at H
              have c5b0 : (((rd_T87 l0 x3_1).f1) == 0) = true := beq_iff_eq.mpr c5
              have c5b1 : (((rd_T87 l0 x3_1).f1) != 0) = false := bne_eq_false_iff_eq.mpr c5
              clear c5
              obtain rfl := Option.some.inj H
              have p203 : 0 ≤ (x3_1 : Int) := of_decide_eq_true (by first | (with_reducible assumption) | assumption)
              have q203 : x3_1 < (l0.length : Int) := of_decide_eq_true (by first | (with_reducible assumption) | assumption)
              obtain ⟨ad203, e203, hx203_0, hx203_1, hx203_2, hx203_3⟩ := at_T87 HR0.out x3_1 p203 q203
              cases e203
              replace p203 := eq_true p203
              replace q203 := eq_true q203
              have p204 : 0 ≤ (x3_1 : Int) := of_decide_eq_true (by first | (with_reducible assumption) | assumption)
              have q204 : x3_1 < (l0.length : Int) := of_decide_eq_true (by first | (with_reducible assumption) | assumption)
              obtain ⟨ad204, e204, hx204_0, hx204_1, hx204_2, hx204_3⟩ := at_T87 HR0.out x3_1 p204 q204
              obtain rfl : ad203 = ad204 := (by injection e204)
              replace p204 := eq_true p204
              replace q204 := eq_true q204
              go_wp2
              go_ret
              exact ⟨by first | rfl | (simp; done) | (simp [*]; done), by repeat (first | exact Drawn0.refl _ | apply Drawn0.step)⟩
            · rw [if_neg c5] at H
              have c5b0 : (((rd_T87 l0 x3_1).f1) == 0) = false := beq_eq_false_iff_ne.mpr c5
              have c5b1 : (((rd_T87 l0 x3_1).f1) != 0) = true := bne_iff_ne.mpr c5
              have H' := Aside0.mk H
              clear H
              have p203 : 0 ≤ (x3_1 : Int) := of_decide_eq_true (by first | (with_reducible assumption) | assumption)
              have q203 : x3_1 < (l0.length : Int) := of_decide_eq_true (by first | (with_reducible assumption) | assumption)
              obtain ⟨ad203, e203, hx203_0, hx203_1, hx203_2, hx203_3⟩ := at_T87 HR0.out x3_1 p203 q203
              cases e203
              replace p203 := eq_true p203
              replace q203 := eq_true q203
              have p204 : 0 ≤ (x3_1 : Int) := of_decide_eq_true (by first | (with_reducible assumption) | assumption)
              have q204 : x3_1 < (l0.length : Int) := of_decide_eq_true (by first | (with_reducible assumption) | assumption)
              obtain ⟨ad204, e204, hx204_0, hx204_1, hx204_2, hx204_3⟩ := at_T87 HR0.out x3_1 p204 q204
              obtain rfl : ad203 = ad204 := (by injection e204)
              replace p204 := eq_true p204
              replace q204 := eq_true q204
              go_wp2
              go_roundg k1
              case measure => have := HK1.out; omega
              case rel => exact ⟨(wrap64 (x3_1 + 1)), (by first | rfl | (simp; done) | (simp [*]; done)), H', ⟨by have := HK1.out; omega⟩, by repeat (first | exact Drawn0.refl _ | apply Drawn0.step)⟩
          · rw [if_neg c4] at H
            have c4b0 : decide (((rd_T87 l0 x3_1).f0) < 0) = false := decide_eq_false c4
            clear c4
            by_cases c6 : ((rd_T87 l0 x3_1).f0) > 5
            · rw [if_pos c6] at H
              have c6b0 : decide (5 < ((rd_T87 l0 x3_1).f0)) = true := decide_eq_true c6
              clear c6
              by_cases c7 : ((rd_T87 l0 x3_1).f1) = 0
              · rw [if_pos c7] at H
                have c7b0 : (((rd_T87 l0 x3_1).f1) == 0) = true := beq_iff_eq.mpr c7
                have c7b1 : (((rd_T87 l0 x3_1).f1) != 0) = false := bne_eq_false_iff_eq.mpr c7
                clear c7
                obtain rfl := Option.some.inj H
                have p203 : 0 ≤ (x3_1 : Int) := of_decide_eq_true (by first | (with_reducible assumption) | assumption)
                have q203 : x3_1 < (l0.length : Int) := of_decide_eq_true (by first | (with_reducible assumption) | assumption)
                obtain ⟨ad203, e203, hx203_0, hx203_1, hx203_2, hx203_3⟩ := at_T87 HR0.out x3_1 p203 q203
                cases e203
                replace p203 := eq_true p203
                replace q203 := eq_true q203
                have p205 : 0 ≤ (x3_1 : Int) := of_decide_eq_true (by first | (with_reducible assumption) | assumption)
                have q205 : x3_1 < (l0.length : Int) := of_decide_eq_true (by first | (with_reducible assumption) | assumption)
                obtain ⟨ad205, e205, hx205_0, hx205_1, hx205_2, hx205_3⟩ := at_T87 HR0.out x3_1 p205 q205
                obtain rfl : ad203 = ad205 := (by injection e205)
                replace p205 := eq_true p205
                replace q205 := eq_true q205
                have p206 : 0 ≤ (x3_1 : Int) := of_decide_eq_true (by first | (with_reducible assumption) | assumption)
                have q206 : x3_1 < (l0.length : Int) := of_decide_eq_true (by first | (with_reducible assumption) | assumption)
                obtain ⟨ad206, e206, hx206_0, hx206_1, hx206_2, hx206_3⟩ := at_T87 HR0.out x3_1 p206 q206
                obtain rfl : ad203 = ad206 := (by injection e206)
                replace p206 := eq_true p206
                replace q206 := eq_true q206
                go_wp2
                go_ret
                exact ⟨by first | rfl | (simp; done) | (simp [*]; done), by repeat (first | exact Drawn0.refl _ | apply Drawn0.step)⟩
              · rw [if_neg c7] at H
                have c7b0 : (((rd_T87 l0 x3_1).f1) == 0) = false := beq_eq_false_iff_ne.mpr c7
                have c7b1 : (((rd_T87 l0 x3_1).f1) != 0) = true := bne_iff_ne.mpr c7
                have H' := Aside0.mk H
                clear H
                have p203 : 0 ≤ (x3_1 : Int) := of_decide_eq_true (by first | (with_reducible assumption) | assumption)
                have q203 : x3_1 < (l0.length : Int) := of_decide_eq_true (by first | (with_reducible assumption) | assumption)
                obtain ⟨ad203, e203, hx203_0, hx203_1, hx203_2, hx203_3⟩ := at_T87 HR0.out x3_1 p203 q203
                cases e203
                replace p203 := eq_true p203
                replace q203 := eq_true q203
                have p205 : 0 ≤ (x3_1 : Int) := of_decide_eq_true (by first | (with_reducible assumption) | assumption)
                have q205 : x3_1 < (l0.length : Int) := of_decide_eq_true (by first | (with_reducible assumption) | assumption)
                obtain ⟨ad205, e205, hx205_0, hx205_1, hx205_2, hx205_3⟩ := at_T87 HR0.out x3_1 p205 q205
                obtain rfl : ad203 = ad205 := (by injection e205)
                replace p205 := eq_true p205
                replace q205 := eq_true q205
                have p206 : 0 ≤ (x3_1 : Int) := of_decide_eq_true (by first | (with_reducible assumption) | assumption)
                have q206 : x3_1 < (l0.length : Int) := of_decide_eq_true (by first | (with_reducible assumption) | assumption)
                obtain ⟨ad206, e206, hx206_0, hx206_1, hx206_2, hx206_3⟩ := at_T87 HR0.out x3_1 p206 q206
                obtain rfl : ad203 = ad206 := (by injection e206)
                replace p206 := eq_true p206
                replace q206 := eq_true q206
                go_wp2
                go_roundg k1
                case measure => have := HK1.out; omega
                case rel => exact ⟨(wrap64 (x3_1 + 1)), (by first | rfl | (simp; done) | (simp [*]; done)), H', ⟨by have := HK1.out; omega⟩, by repeat (first | exact Drawn0.refl _ | apply Drawn0.step)⟩
            · rw [if_neg c6] at H
              have c6b0 : decide (5 < ((rd_T87 l0 x3_1).f0)) = false := decide_eq_false c6
              clear c6
              have H' := Aside0.mk H
              clear H
              have p203 : 0 ≤ (x3_1 : Int) := of_decide_eq_true (by first | (with_reducible assumption) | assumption)
              have q203 : x3_1 < (l0.length : Int) := of_decide_eq_true (by first | (with_reducible assumption) | assumption)
              obtain ⟨ad203, e203, hx203_0, hx203_1, hx203_2, hx203_3⟩ := at_T87 HR0.out x3_1 p203 q203
              cases e203
              replace p203 := eq_true p203
              replace q203 := eq_true q203
              have p205 : 0 ≤ (x3_1 : Int) := of_decide_eq_true (by first | (with_reducible assumption) | assumption)
              have q205 : x3_1 < (l0.length : Int) := of_decide_eq_true (by first | (with_reducible assumption) | assumption)
              obtain ⟨ad205, e205, hx205_0, hx205_1, hx205_2, hx205_3⟩ := at_T87 HR0.out x3_1 p205 q205
              obtain rfl : ad203 = ad205 := (by injection e205)
              replace p205 := eq_true p205
              replace q205 := eq_true q205
              go_wp2
              go_roundg k1
              case measure => have := HK1.out; omega
              case rel => exact ⟨(wrap64 (x3_1 + 1)), (by first | rfl | (simp; done) | (simp [*]; done)), H', ⟨by have := HK1.out; omega⟩, by repeat (first | exact Drawn0.refl _ | apply Drawn0.step)⟩
        · rw [if_neg c3] at H
          exact absurd H (by simp)
      · rw [if_neg c2] at H
        have c2b0 : decide (x3_1 < (l0.length : Int)) = false := decide_eq_false c2
        clear c2
        obtain rfl := Option.some.inj H
        go_wp2
        go_ret
        exact ⟨by first | rfl | (simp; done) | (simp [*]; done), by repeat (first | exact Drawn0.refl _ | apply Drawn0.step)⟩

/-! ### palanquinlaw01_answers: function 60 -/
def palanquinlaw01_answers.l0 : Nat → List (S90) → List (S90) → Int → Option (Bool)
  | 0, _, _, _ => none
  | k + 1, x0, x1, x5 => if x5 < (x0.length : Int) then (if 0 ≤ x5 then (if x5 < (x1.length : Int) then (if (!(((rd_T90 x0 x5).f0) == ((rd_T90 x1 x5).f0)) || (!((((rd_T90 x0 x5).f1).toList) == (((rd_T90 x1 x5).f1).toList)) || (!(((rd_T90 x0 x5).f2) == ((rd_T90 x1 x5).f2)) || (!(((rd_T90 x0 x5).f3) == ((rd_T90 x1 x5).f3)))))) = true then (some false) else (palanquinlaw01_answers.l0 k x0 x1 (wrap64 (x5 + 1)))) else (none)) else (none)) else (some true)
def palanquinlaw01_answers.f (k : Nat) (l0 : List (S90)) (l1 : List (S90)) : Option (Bool) := if (l0.length : Int) = (l1.length : Int) then (palanquinlaw01_answers.l0 k l0 l1 0) else (some false)
theorem palanquinlaw01_answers.mono_l : ∀ k, (∀ y0 y1 y2, LeO (palanquinlaw01_answers.l0 k y0 y1 y2) (palanquinlaw01_answers.l0 (k + 1) y0 y1 y2))
  | 0 => fun _ _ _ r h => by simp [palanquinlaw01_answers.l0] at h
  | k + 1 => by
    have ih0 := palanquinlaw01_answers.mono_l k
    · intro y0 y1 y2
      unfold palanquinlaw01_answers.l0
      repeat' first
      | (with_reducible exact ih0 _ _ _)
      | (with_reducible exact LeO.refl _)
      | (with_reducible exact LeO.none _)
      | (with_reducible refine LeO.ite ?_ ?_)
      | (with_reducible refine LeO.bind ?_ (fun _ => ?_))
      | exact ih0 _ _ _
      | exact LeO.none _
      | refine LeO.ite ?_ ?_
      | refine LeO.bind ?_ (fun _ => ?_)
theorem palanquinlaw01_answers.mono : ∀ a0 a1 k, LeO (palanquinlaw01_answers.f k a0 a1) (palanquinlaw01_answers.f (k + 1) a0 a1) := by
  intro a0 a1 k
  have ih0 := palanquinlaw01_answers.mono_l k
  unfold palanquinlaw01_answers.f
  repeat' first
      | (with_reducible exact ih0 _ _ _)
      | (with_reducible exact LeO.refl _)
      | (with_reducible exact LeO.none _)
      | (with_reducible refine LeO.ite ?_ ?_)
      | (with_reducible refine LeO.bind ?_ (fun _ => ?_))
      | exact ih0 _ _ _
      | exact LeO.none _
      | refine LeO.ite ?_ ?_
      | refine LeO.bind ?_ (fun _ => ?_)
set_option maxHeartbeats 8000000 in
set_option maxRecDepth 100000 in
theorem palanquinlaw01_answers.calls (k : Nat) (A0 : Option Addr) (c0 : Nat) (l0 : List (S90)) (A1 : Option Addr) (c1 : Nat) (l1 : List (S90)) (r : Bool) (w : World) (hr0 : Kd.C k90 w A0 l0.length l0) (hc0 : l0.length ≤ c0) (hr1 : Kd.C k90 w A1 l1.length l1) (hc1 : l1.length ≤ c1) (h : palanquinlaw01_answers.f k l0 l1 = some r) :
    Calls Try.prog 60 #[.slice A0 l0.length c0, .slice A1 l1.length c1] w fun e w' => e = .returned (.bool r) ∧ Drawn0 w w' := by
  have hu90 := Try.underlying90
  have HR0 := Aside0.mk hr0
  have HC0 := Aside0.mk hc0
  clear hr0 hc0
  have HR1 := Aside0.mk hr1
  have HC1 := Aside0.mk hc1
  clear hr1 hc1
  have H : (if (l0.length : Int) = (l1.length : Int) then (palanquinlaw01_answers.l0 k l0 l1 0) else (some false)) = some r := h
  clear h
  by_cases c3 : (l0.length : Int) = (l1.length : Int)
  · rw [if_pos c3] at H
    have c3b0 : ((l0.length : Int) == (l1.length : Int)) = true := beq_iff_eq.mpr c3
    have c3b1 : ((l0.length : Int) != (l1.length : Int)) = false := bne_eq_false_iff_eq.mpr c3
    have c3b2 : (l0.length == l1.length) = true := by first | simpa using c3 | (simp at c3 ⊢; omega)
    clear c3
    have H' := Aside0.mk H
    clear H
    go_enter Try.func60, Try.ntmps60
    go_wp2
    repeat (go_quiet (fail); try go_wp2)
    go_loopg [5] k (fun kq v5 w' => ∃ (x5_1 : Int), v5 = .int .i64 x5_1 ∧ Aside0 (palanquinlaw01_answers.l0 kq l0 l1 x5_1 = some r) ∧ Aside0 (kq ≤ k) ∧ Drawn0 w w')
    case atStart => exact ⟨(0), (by first | rfl | (simp; done) | (simp [*]; done)), H', ⟨Nat.le_refl _⟩, by repeat (first | exact Drawn0.refl _ | apply Drawn0.step)⟩
    case round =>
      clear H'
      try clear c1
      try clear p2
      try clear c3
      try clear c3b0
      try clear c3b1
      try clear c3b2
      obtain ⟨x5_1, rfl, HA, HK1, ⟨m1, rfl⟩⟩ := hrel
      cases gk with
      | zero => exact absurd HA.out (by simp [palanquinlaw01_answers.l0])
      | succ k1 =>
        have H := HA.out
        clear HA
        simp only [palanquinlaw01_answers.l0] at H
        by_cases c4 : x5_1 < (l0.length : Int)
        · rw [if_pos c4] at H
          have c4b0 : decide (x5_1 < (l0.length : Int)) = true := decide_eq_true c4
          clear c4
          by_cases c5 : 0 ≤ x5_1
          · rw [if_pos c5] at H
            have c5b0 : decide (0 ≤ x5_1) = true := decide_eq_true c5
            clear c5
            by_cases c6 : x5_1 < (l1.length : Int)
            · rw [if_pos c6] at H
              have c6b0 : decide (x5_1 < (l1.length : Int)) = true := decide_eq_true c6
              clear c6
              by_cases c7 : (!(((rd_T90 l0 x5_1).f0) == ((rd_T90 l1 x5_1).f0)) || (!((((rd_T90 l0 x5_1).f1).toList) == (((rd_T90 l1 x5_1).f1).toList)) || (!(((rd_T90 l0 x5_1).f2) == ((rd_T90 l1 x5_1).f2)) || (!(((rd_T90 l0 x5_1).f3) == ((rd_T90 l1 x5_1).f3)))))) = true
              · rw [if_pos c7] at H
                have c7b0 : (!(((rd_T90 l0 x5_1).f0) == ((rd_T90 l1 x5_1).f0)) || (!((((rd_T90 l0 x5_1).f1).toList) == (((rd_T90 l1 x5_1).f1).toList)) || (!(((rd_T90 l0 x5_1).f2) == ((rd_T90 l1 x5_1).f2)) || (!(((rd_T90 l0 x5_1).f3) == ((rd_T90 l1 x5_1).f3)))))) = true := c7
                clear c7
                obtain rfl := Option.some.inj H
                have p221 : 0 ≤ (x5_1 : Int) := of_decide_eq_true (by first | (with_reducible assumption) | assumption)
                have q221 : x5_1 < (l0.length : Int) := of_decide_eq_true (by first | (with_reducible assumption) | assumption)
                obtain ⟨ad221, e221, hx221_0, hx221_1, hx221_2, hx221_3⟩ := at_T90 HR0.out x5_1 p221 q221
                cases e221
                replace p221 := eq_true p221
                replace q221 := eq_true q221
                have p222 : 0 ≤ (x5_1 : Int) := of_decide_eq_true (by first | (with_reducible assumption) | assumption)
                have q222 : x5_1 < (l1.length : Int) := of_decide_eq_true (by first | (with_reducible assumption) | assumption)
                obtain ⟨ad222, e222, hx222_0, hx222_1, hx222_2, hx222_3⟩ := at_T90 HR1.out x5_1 p222 q222
                cases e222
                replace p222 := eq_true p222
                replace q222 := eq_true q222
                go_wp2
                repeat (go_quiet (fail); try go_wp2)
                go_ret
                exact ⟨by first | rfl | (simp; done) | (simp [*]; done), by repeat (first | exact Drawn0.refl _ | apply Drawn0.step)⟩
              · rw [if_neg c7] at H
                have c7b0 : (!(((rd_T90 l0 x5_1).f0) == ((rd_T90 l1 x5_1).f0)) || (!((((rd_T90 l0 x5_1).f1).toList) == (((rd_T90 l1 x5_1).f1).toList)) || (!(((rd_T90 l0 x5_1).f2) == ((rd_T90 l1 x5_1).f2)) || (!(((rd_T90 l0 x5_1).f3) == ((rd_T90 l1 x5_1).f3)))))) = false := by simpa using c7
                clear c7
                have H' := Aside0.mk H
                clear H
                have p221 : 0 ≤ (x5_1 : Int) := of_decide_eq_true (by first | (with_reducible assumption) | assumption)
                have q221 : x5_1 < (l0.length : Int) := of_decide_eq_true (by first | (with_reducible assumption) | assumption)
                obtain ⟨ad221, e221, hx221_0, hx221_1, hx221_2, hx221_3⟩ := at_T90 HR0.out x5_1 p221 q221
                cases e221
                replace p221 := eq_true p221
                replace q221 := eq_true q221
                have p222 : 0 ≤ (x5_1 : Int) := of_decide_eq_true (by first | (with_reducible assumption) | assumption)
                have q222 : x5_1 < (l1.length : Int) := of_decide_eq_true (by first | (with_reducible assumption) | assumption)
                obtain ⟨ad222, e222, hx222_0, hx222_1, hx222_2, hx222_3⟩ := at_T90 HR1.out x5_1 p222 q222
                cases e222
                replace p222 := eq_true p222
                replace q222 := eq_true q222
                go_wp2
                repeat (go_quiet (fail); try go_wp2)
                go_roundg k1
                case measure => have := HK1.out; omega
                case rel => exact ⟨(wrap64 (x5_1 + 1)), (by first | rfl | (simp; done) | (simp [*]; done)), H', ⟨by have := HK1.out; omega⟩, by repeat (first | exact Drawn0.refl _ | apply Drawn0.step)⟩
            · rw [if_neg c6] at H
              exact absurd H (by simp)
          · rw [if_neg c5] at H
            exact absurd H (by simp)
        · rw [if_neg c4] at H
          have c4b0 : decide (x5_1 < (l0.length : Int)) = false := decide_eq_false c4
          clear c4
          obtain rfl := Option.some.inj H
          go_wp2
          repeat (go_quiet (fail); try go_wp2)
          go_ret
          exact ⟨by first | rfl | (simp; done) | (simp [*]; done), by repeat (first | exact Drawn0.refl _ | apply Drawn0.step)⟩
  · rw [if_neg c3] at H
    have c3b0 : ((l0.length : Int) == (l1.length : Int)) = false := beq_eq_false_iff_ne.mpr c3
    have c3b1 : ((l0.length : Int) != (l1.length : Int)) = true := bne_iff_ne.mpr c3
    have c3b2 : (l0.length == l1.length) = false := by first | simpa using c3 | (simp at c3 ⊢; omega)
    obtain rfl := Option.some.inj H
    go_enter Try.func60, Try.ntmps60
    go_wp2
    repeat (go_quiet (fail); try go_wp2)
    go_ret
    exact ⟨by first | rfl | (simp; done) | (simp [*]; done), by repeat (first | exact Drawn0.refl _ | apply Drawn0.step)⟩

end Go.Proofs.Ytejmipoolbodgaa.G
