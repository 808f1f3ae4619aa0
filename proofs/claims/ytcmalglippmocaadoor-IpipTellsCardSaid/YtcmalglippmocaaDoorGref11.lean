-- Laid by a program of this session (wip/gen/gprint.py) over the translation's print. Lean checks it.
import Derived.Test.YtcmalglippmocaaDoorG0
namespace Go.Proofs.YtcmalglippmocaaDoor.G
open Go.RowKit Go.Proofs.YtcmalglippmocaaDoorW.PrintWords Go.Proofs.YtcmalglippmocaaDoorW.PrintLast Go.Proofs.YtcmalglippmocaaDoorW.PrintMore
attribute [local go_sem] max2_int min2_int max_two min_two max_three min_three max_four min_four   -- for this text's walks alone
set_option linter.unusedVariables false
set_option linter.unusedSimpArgs false

/-! ### palanquinref11_Proto: function 25 -/
def palanquinref11_Proto.f (a0 : ByteArray) : Option (Int × Int) := if a0.toList = ([] : List UInt8) then (some (0, 2)) else (if 0 < (a0.size : Int) then (if ((Int.tdiv (bt a0 0) 16) % 256) = 4 then (some (4, 0)) else (if ((Int.tdiv (bt a0 0) 16) % 256) = 6 then (some (41, 0)) else (some (0, 3)))) else (none))
set_option maxHeartbeats 8000000 in
set_option maxRecDepth 100000 in
theorem palanquinref11_Proto.calls (a0 : ByteArray) (r1 : Int) (r2 : Int) (w : World) (h : palanquinref11_Proto.f a0 = some (r1, r2)) :
    Calls Tryd.prog 25 #[.string a0] w fun e w' => e = .returned (.tuple #[.int .i64 r1, .int .i64 r2]) ∧ Drawn0 w w' := by
  have H : (if a0.toList = ([] : List UInt8) then (some (0, 2)) else (if 0 < (a0.size : Int) then (if ((Int.tdiv (bt a0 0) 16) % 256) = 4 then (some (4, 0)) else (if ((Int.tdiv (bt a0 0) 16) % 256) = 6 then (some (41, 0)) else (some (0, 3)))) else (none))) = some (r1, r2) := h
  clear h
  by_cases c2 : a0.toList = ([] : List UInt8)
  · rw [if_pos c2] at H
    have c2b0 : (a0.toList == ([] : List UInt8)) = true := beq_iff_eq.mpr c2
    have c2b1 : (a0.toList != ([] : List UInt8)) = false := bne_eq_false_iff_eq.mpr c2
    clear c2
    simp only [Option.some.injEq, Prod.mk.injEq] at H
    obtain ⟨rfl, rfl⟩ := H
    go_enter Tryd.func25, Tryd.ntmps25
    go_wp2
    go_ret2
    exact ⟨by first | rfl | (simp; done) | (simp [*]; done), by repeat (first | exact Drawn0.refl _ | apply Drawn0.step)⟩
  · rw [if_neg c2] at H
    have c2b0 : (a0.toList == ([] : List UInt8)) = false := beq_eq_false_iff_ne.mpr c2
    have c2b1 : (a0.toList != ([] : List UInt8)) = true := bne_iff_ne.mpr c2
    by_cases c3 : 0 < (a0.size : Int)
    · rw [if_pos c3] at H
      have c3b0 : decide (0 < (a0.size : Int)) = true := decide_eq_true c3
      have c3b1 : decide (0 < a0.size) = true := decide_eq_true (by omega)
      clear c3
      by_cases c5 : ((Int.tdiv (bt a0 0) 16) % 256) = 4
      · rw [if_pos c5] at H
        have c5b0 : (((Int.tdiv (bt a0 0) 16) % 256) == 4) = true := beq_iff_eq.mpr c5
        have c5b1 : (((Int.tdiv (bt a0 0) 16) % 256) != 4) = false := bne_eq_false_iff_eq.mpr c5
        clear c5
        simp only [Option.some.injEq, Prod.mk.injEq] at H
        obtain ⟨rfl, rfl⟩ := H
        have p4 : 0 ≤ (0 : Int) := (by omega)
        have q4 : 0 < a0.size := (by have : (0 : Int) < (a0.size : Int) := of_decide_eq_true (by first | (with_reducible assumption) | assumption); omega)
        have hx4 : ∀ h : 0 < a0.size, ((a0[0]'h).toNat : Int) = bt a0 0 := bt_at a0 0
        clear p4
        have qi4 : (0 < (a0.size : Int)) = True := eq_true (of_decide_eq_true (by first | (with_reducible assumption) | assumption))
        replace q4 := eq_true q4
        go_enter Tryd.func25, Tryd.ntmps25
        go_wp2
        go_ret2
        exact ⟨by first | rfl | (simp; done) | (simp [*]; done), by repeat (first | exact Drawn0.refl _ | apply Drawn0.step)⟩
      · rw [if_neg c5] at H
        have c5b0 : (((Int.tdiv (bt a0 0) 16) % 256) == 4) = false := beq_eq_false_iff_ne.mpr c5
        have c5b1 : (((Int.tdiv (bt a0 0) 16) % 256) != 4) = true := bne_iff_ne.mpr c5
        by_cases c6 : ((Int.tdiv (bt a0 0) 16) % 256) = 6
        · rw [if_pos c6] at H
          have c6b0 : (((Int.tdiv (bt a0 0) 16) % 256) == 6) = true := beq_iff_eq.mpr c6
          have c6b1 : (((Int.tdiv (bt a0 0) 16) % 256) != 6) = false := bne_eq_false_iff_eq.mpr c6
          clear c6
          simp only [Option.some.injEq, Prod.mk.injEq] at H
          obtain ⟨rfl, rfl⟩ := H
          have p4 : 0 ≤ (0 : Int) := (by omega)
          have q4 : 0 < a0.size := (by have : (0 : Int) < (a0.size : Int) := of_decide_eq_true (by first | (with_reducible assumption) | assumption); omega)
          have hx4 : ∀ h : 0 < a0.size, ((a0[0]'h).toNat : Int) = bt a0 0 := bt_at a0 0
          clear p4
          have qi4 : (0 < (a0.size : Int)) = True := eq_true (of_decide_eq_true (by first | (with_reducible assumption) | assumption))
          replace q4 := eq_true q4
          go_enter Tryd.func25, Tryd.ntmps25
          go_wp2
          go_ret2
          exact ⟨by first | rfl | (simp; done) | (simp [*]; done), by repeat (first | exact Drawn0.refl _ | apply Drawn0.step)⟩
        · rw [if_neg c6] at H
          have c6b0 : (((Int.tdiv (bt a0 0) 16) % 256) == 6) = false := beq_eq_false_iff_ne.mpr c6
          have c6b1 : (((Int.tdiv (bt a0 0) 16) % 256) != 6) = true := bne_iff_ne.mpr c6
          simp only [Option.some.injEq, Prod.mk.injEq] at H
          obtain ⟨rfl, rfl⟩ := H
          have p4 : 0 ≤ (0 : Int) := (by omega)
          have q4 : 0 < a0.size := (by have : (0 : Int) < (a0.size : Int) := of_decide_eq_true (by first | (with_reducible assumption) | assumption); omega)
          have hx4 : ∀ h : 0 < a0.size, ((a0[0]'h).toNat : Int) = bt a0 0 := bt_at a0 0
          clear p4
          have qi4 : (0 < (a0.size : Int)) = True := eq_true (of_decide_eq_true (by first | (with_reducible assumption) | assumption))
          replace q4 := eq_true q4
          go_enter Tryd.func25, Tryd.ntmps25
          go_wp2
          go_ret2
          exact ⟨by first | rfl | (simp; done) | (simp [*]; done), by repeat (first | exact Drawn0.refl _ | apply Drawn0.step)⟩
    · rw [if_neg c3] at H
      exact absurd H (by simp)

/-! ### palanquinref11_Kind: function 26 -/
def palanquinref11_Kind.f (a0 : ByteArray) : Option (Int × Int) := (palanquinref11_Proto.f a0).bind fun bt139 => (if bt139.1 = 4 then (some (2048, 0)) else (if bt139.1 = 41 then (some (34525, 0)) else (some (0, bt139.2))))
set_option maxHeartbeats 8000000 in
set_option maxRecDepth 100000 in
theorem palanquinref11_Kind.calls (a0 : ByteArray) (r1 : Int) (r2 : Int) (w : World) (h : palanquinref11_Kind.f a0 = some (r1, r2)) :
    Calls Tryd.prog 26 #[.string a0] w fun e w' => e = .returned (.tuple #[.int .i64 r1, .int .i64 r2]) ∧ Drawn0 w w' := by
  have H : ((palanquinref11_Proto.f a0).bind fun bt139 => (if bt139.1 = 4 then (some (2048, 0)) else (if bt139.1 = 41 then (some (34525, 0)) else (some (0, bt139.2))))) = some (r1, r2) := h
  clear h
  replace H := Option.bind_eq_some_iff.mp H
  obtain ⟨⟨t139, t140⟩, A20, H⟩ := H
  replace H : (if t139 = 4 then (some (2048, 0)) else (if t139 = 41 then (some (34525, 0)) else (some (0, t140)))) = some (r1, r2) := H
  have A2 := Aside0.mk A20
  clear A20
  by_cases c3 : t139 = 4
  · rw [if_pos c3] at H
    have c3b0 : (t139 == 4) = true := beq_iff_eq.mpr c3
    have c3b1 : (t139 != 4) = false := bne_eq_false_iff_eq.mpr c3
    clear c3
    simp only [Option.some.injEq, Prod.mk.injEq] at H
    obtain ⟨rfl, rfl⟩ := H
    go_enter Tryd.func26, Tryd.ntmps26
    go_wp2_with (first | ((with_reducible refine gate_callee (f := 25) rfl ?_); refine goesL_ (some 8) rfl rfl Tryd.func25 (by kernel_rfl) rfl #[.string a0] rfl (by (try simp only [List.map_toArray, List.map_cons, List.map_nil]); first | done | rfl | (simp only [List.length_drop, List.length_take]; rfl)) ?_; (with_reducible refine (palanquinref11_Proto.calls a0 t139 t140 _ A2.out).mono ?_); rintro e w' ⟨rfl, ⟨nd, rfl⟩⟩; refine ⟨_, rfl, ?_⟩))
    go_ret2
    exact ⟨by first | rfl | (simp; done) | (simp [*]; done), by repeat (first | exact Drawn0.refl _ | apply Drawn0.step)⟩
  · rw [if_neg c3] at H
    have c3b0 : (t139 == 4) = false := beq_eq_false_iff_ne.mpr c3
    have c3b1 : (t139 != 4) = true := bne_iff_ne.mpr c3
    by_cases c4 : t139 = 41
    · rw [if_pos c4] at H
      have c4b0 : (t139 == 41) = true := beq_iff_eq.mpr c4
      have c4b1 : (t139 != 41) = false := bne_eq_false_iff_eq.mpr c4
      clear c4
      simp only [Option.some.injEq, Prod.mk.injEq] at H
      obtain ⟨rfl, rfl⟩ := H
      go_enter Tryd.func26, Tryd.ntmps26
      go_wp2_with (first | ((with_reducible refine gate_callee (f := 25) rfl ?_); refine goesL_ (some 8) rfl rfl Tryd.func25 (by kernel_rfl) rfl #[.string a0] rfl (by (try simp only [List.map_toArray, List.map_cons, List.map_nil]); first | done | rfl | (simp only [List.length_drop, List.length_take]; rfl)) ?_; (with_reducible refine (palanquinref11_Proto.calls a0 t139 t140 _ A2.out).mono ?_); rintro e w' ⟨rfl, ⟨nd, rfl⟩⟩; refine ⟨_, rfl, ?_⟩))
      go_ret2
      exact ⟨by first | rfl | (simp; done) | (simp [*]; done), by repeat (first | exact Drawn0.refl _ | apply Drawn0.step)⟩
    · rw [if_neg c4] at H
      have c4b0 : (t139 == 41) = false := beq_eq_false_iff_ne.mpr c4
      have c4b1 : (t139 != 41) = true := bne_iff_ne.mpr c4
      simp only [Option.some.injEq, Prod.mk.injEq] at H
      obtain ⟨rfl, rfl⟩ := H
      go_enter Tryd.func26, Tryd.ntmps26
      go_wp2_with (first | ((with_reducible refine gate_callee (f := 25) rfl ?_); refine goesL_ (some 8) rfl rfl Tryd.func25 (by kernel_rfl) rfl #[.string a0] rfl (by (try simp only [List.map_toArray, List.map_cons, List.map_nil]); first | done | rfl | (simp only [List.length_drop, List.length_take]; rfl)) ?_; (with_reducible refine (palanquinref11_Proto.calls a0 t139 t140 _ A2.out).mono ?_); rintro e w' ⟨rfl, ⟨nd, rfl⟩⟩; refine ⟨_, rfl, ?_⟩))
      go_ret2
      exact ⟨by first | rfl | (simp; done) | (simp [*]; done), by repeat (first | exact Drawn0.refl _ | apply Drawn0.step)⟩

/-! ### palanquinref11_Get: function 27 -/
def palanquinref11_Get.j0 : Nat → Int → ByteArray → Bool → Option (ByteArray × Int)
  | 0, _, _, _ => none
  | k + 1, x0, x1, x13 => if x13 = true then (some ((⟨#[]⟩ : ByteArray), 6)) else ((palanquinref11_Proto.f x1).bind fun bt141 => (if bt141.2 = 0 then (if bt141.1 = x0 then (some (x1, 0)) else (some ((⟨#[]⟩ : ByteArray), 3))) else (some ((⟨#[]⟩ : ByteArray), bt141.2))))
def palanquinref11_Get.f (k : Nat) (a0 : Int) (a1 : ByteArray) : Option (ByteArray × Int) := if a0 = 4 then (palanquinref11_Get.j0 k a0 a1 false) else (palanquinref11_Get.j0 k a0 a1 (a0 != 41))
theorem palanquinref11_Get.mono_l : ∀ k, (∀ y0 y1 y2, LeO (palanquinref11_Get.j0 k y0 y1 y2) (palanquinref11_Get.j0 (k + 1) y0 y1 y2))
  | 0 => fun _ _ _ r h => by simp [palanquinref11_Get.j0] at h
  | k + 1 => by
    have ih0 := palanquinref11_Get.mono_l k
    · intro y0 y1 y2
      unfold palanquinref11_Get.j0
      repeat' first
      | (with_reducible exact ih0 _ _ _)
      | (with_reducible exact LeO.refl _)
      | (with_reducible exact LeO.none _)
      | (with_reducible refine LeO.ite ?_ ?_)
      | (with_reducible refine LeO.bind ?_ (fun _ => ?_))
      | exact ih0 _ _ _
      | exact LeO.none _
      | refine LeO.ite ?_ ?_
      | refine LeO.bind ?_ (fun _ => ?_)
theorem palanquinref11_Get.mono : ∀ a0 a1 k, LeO (palanquinref11_Get.f k a0 a1) (palanquinref11_Get.f (k + 1) a0 a1) := by
  intro a0 a1 k
  have ih0 := palanquinref11_Get.mono_l k
  unfold palanquinref11_Get.f
  repeat' first
      | (with_reducible exact ih0 _ _ _)
      | (with_reducible exact LeO.refl _)
      | (with_reducible exact LeO.none _)
      | (with_reducible refine LeO.ite ?_ ?_)
      | (with_reducible refine LeO.bind ?_ (fun _ => ?_))
      | exact ih0 _ _ _
      | exact LeO.none _
      | refine LeO.ite ?_ ?_
      | refine LeO.bind ?_ (fun _ => ?_)
set_option maxHeartbeats 8000000 in
set_option maxRecDepth 100000 in
theorem palanquinref11_Get.calls (k : Nat) (a0 : Int) (a1 : ByteArray) (r1 : ByteArray) (r2 : Int) (w : World) (h : palanquinref11_Get.f k a0 a1 = some (r1, r2)) :
    Calls Tryd.prog 27 #[.int .i64 a0, .string a1] w fun e w' => e = .returned (.tuple #[.string r1, .int .i64 r2]) ∧ Drawn0 w w' := by
  have H : (if a0 = 4 then (palanquinref11_Get.j0 k a0 a1 false) else (palanquinref11_Get.j0 k a0 a1 (a0 != 41))) = some (r1, r2) := h
  clear h
  have HC3 := Aside0.mk H
  clear H
  go_enter Tryd.func27, Tryd.ntmps27
  go_upto_region 1 with (fail)
  go_cut [13] (fun v13 wc => ∃ (kq : Nat) (x13_2 : Bool), v13 = .bool x13_2 ∧ Aside0 (palanquinref11_Get.j0 kq a0 a1 x13_2 = some (r1, r2)) ∧ Aside0 (kq ≤ k) ∧ Drawn0 w wc)
  case first =>
    have H := HC3.out
    clear HC3
    by_cases c4 : a0 = 4
    · rw [if_pos c4] at H
      have c4b0 : (a0 == 4) = true := beq_iff_eq.mpr c4
      have c4b1 : (a0 != 4) = false := bne_eq_false_iff_eq.mpr c4
      clear c4
      (first | rw [c4b0] | (simp only [i64_w, i32_w]; rw [c4b0]) | skip)
      have H' := Aside0.mk H
      clear H
      go_wp2
      go_meet
      case rel => exact ⟨_, (false), (by first | rfl | (simp; done) | (simp [*]; done)), H', ⟨by first | omega | exact Nat.le_refl _⟩, by repeat (first | exact Drawn0.refl _ | apply Drawn0.step)⟩
    · rw [if_neg c4] at H
      have c4b0 : (a0 == 4) = false := beq_eq_false_iff_ne.mpr c4
      have c4b1 : (a0 != 4) = true := bne_iff_ne.mpr c4
      (first | rw [c4b0] | (simp only [i64_w, i32_w]; rw [c4b0]) | skip)
      have H' := Aside0.mk H
      clear H
      go_wp2
      go_meet
      case rel => exact ⟨_, ((a0 != 41)), (by first | rfl | (simp; done) | (simp [*]; done)), H', ⟨by first | omega | exact Nat.le_refl _⟩, by repeat (first | exact Drawn0.refl _ | apply Drawn0.step)⟩
  case rest =>
    clear HC3
    try clear c2
    try clear p2
    try clear c4
    try clear c4b0
    try clear c4b1
    obtain ⟨kq, x13_2, rfl, HA, HJ2, ⟨mc2, rfl⟩⟩ := hcut
    cases kq with
    | zero => exact absurd HA.out (by simp [palanquinref11_Get.j0])
    | succ kj2 =>
      have H := HA.out
      clear HA
      simp only [palanquinref11_Get.j0] at H
      by_cases c5 : x13_2 = true
      · subst c5
        have H1 : (some ((⟨#[]⟩ : ByteArray), 6)) = some (r1, r2) := by rw [if_pos rfl] at H; exact H
        clear H
        have H := H1
        clear H1
        simp only [Option.some.injEq, Prod.mk.injEq] at H
        obtain ⟨rfl, rfl⟩ := H
        go_wp2
        go_ret2
        exact ⟨by first | rfl | (simp; done) | (simp [*]; done), by repeat (first | exact Drawn0.refl _ | apply Drawn0.step)⟩
      · replace c5 := Bool.eq_false_iff.mpr c5
        subst c5
        have H1 : ((palanquinref11_Proto.f a1).bind fun bt141 => (if bt141.2 = 0 then (if bt141.1 = a0 then (some (a1, 0)) else (some ((⟨#[]⟩ : ByteArray), 3))) else (some ((⟨#[]⟩ : ByteArray), bt141.2)))) = some (r1, r2) := by rw [if_neg (show ¬ (false = true) by decide)] at H; exact H
        clear H
        have H := H1
        clear H1
        replace H := Option.bind_eq_some_iff.mp H
        obtain ⟨⟨t141, t142⟩, A60, H⟩ := H
        replace H : (if t142 = 0 then (if t141 = a0 then (some (a1, 0)) else (some ((⟨#[]⟩ : ByteArray), 3))) else (some ((⟨#[]⟩ : ByteArray), t142))) = some (r1, r2) := H
        have A6 := Aside0.mk A60
        clear A60
        by_cases c7 : t142 = 0
        · rw [if_pos c7] at H
          have c7b0 : (t142 == 0) = true := beq_iff_eq.mpr c7
          have c7b1 : (t142 != 0) = false := bne_eq_false_iff_eq.mpr c7
          clear c7
          by_cases c8 : t141 = a0
          · rw [if_pos c8] at H
            have c8b0 : (t141 == a0) = true := beq_iff_eq.mpr c8
            have c8b1 : (t141 != a0) = false := bne_eq_false_iff_eq.mpr c8
            clear c8
            simp only [Option.some.injEq, Prod.mk.injEq] at H
            obtain ⟨rfl, rfl⟩ := H
            go_wp2_with (first | ((with_reducible refine gate_callee (f := 25) rfl ?_); refine goesL_ (some 16) rfl rfl Tryd.func25 (by kernel_rfl) rfl #[.string a1] rfl (by (try simp only [List.map_toArray, List.map_cons, List.map_nil]); first | done | rfl | (simp only [List.length_drop, List.length_take]; rfl)) ?_; (with_reducible refine (palanquinref11_Proto.calls a1 t141 t142 _ A6.out).mono ?_); rintro e w' ⟨rfl, ⟨nd, rfl⟩⟩; refine ⟨_, rfl, ?_⟩))
            go_ret2
            exact ⟨by first | rfl | (simp; done) | (simp [*]; done), by repeat (first | exact Drawn0.refl _ | apply Drawn0.step)⟩
          · rw [if_neg c8] at H
            have c8b0 : (t141 == a0) = false := beq_eq_false_iff_ne.mpr c8
            have c8b1 : (t141 != a0) = true := bne_iff_ne.mpr c8
            simp only [Option.some.injEq, Prod.mk.injEq] at H
            obtain ⟨rfl, rfl⟩ := H
            go_wp2_with (first | ((with_reducible refine gate_callee (f := 25) rfl ?_); refine goesL_ (some 16) rfl rfl Tryd.func25 (by kernel_rfl) rfl #[.string a1] rfl (by (try simp only [List.map_toArray, List.map_cons, List.map_nil]); first | done | rfl | (simp only [List.length_drop, List.length_take]; rfl)) ?_; (with_reducible refine (palanquinref11_Proto.calls a1 t141 t142 _ A6.out).mono ?_); rintro e w' ⟨rfl, ⟨nd, rfl⟩⟩; refine ⟨_, rfl, ?_⟩))
            go_ret2
            exact ⟨by first | rfl | (simp; done) | (simp [*]; done), by repeat (first | exact Drawn0.refl _ | apply Drawn0.step)⟩
        · rw [if_neg c7] at H
          have c7b0 : (t142 == 0) = false := beq_eq_false_iff_ne.mpr c7
          have c7b1 : (t142 != 0) = true := bne_iff_ne.mpr c7
          simp only [Option.some.injEq, Prod.mk.injEq] at H
          obtain ⟨rfl, rfl⟩ := H
          go_wp2_with (first | ((with_reducible refine gate_callee (f := 25) rfl ?_); refine goesL_ (some 16) rfl rfl Tryd.func25 (by kernel_rfl) rfl #[.string a1] rfl (by (try simp only [List.map_toArray, List.map_cons, List.map_nil]); first | done | rfl | (simp only [List.length_drop, List.length_take]; rfl)) ?_; (with_reducible refine (palanquinref11_Proto.calls a1 t141 t142 _ A6.out).mono ?_); rintro e w' ⟨rfl, ⟨nd, rfl⟩⟩; refine ⟨_, rfl, ?_⟩))
          go_ret2
          exact ⟨by first | rfl | (simp; done) | (simp [*]; done), by repeat (first | exact Drawn0.refl _ | apply Drawn0.step)⟩

end Go.Proofs.YtcmalglippmocaaDoor.G
