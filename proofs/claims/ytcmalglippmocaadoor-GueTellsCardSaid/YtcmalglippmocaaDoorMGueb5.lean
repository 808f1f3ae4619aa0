/- Texts of this session, joined: each is a section. -/
import Derived.Test.YtcmalglippmocaaDoorMGueb1
import Derived.Test.YtcmalglippmocaaDoorMGueb3
set_option linter.unusedVariables false
set_option linter.unusedSimpArgs false
section
namespace Go.Proofs.YtcmalglippmocaaDoor.G
open Go.RowKit Go.Proofs.YtcmalglippmocaaDoorW.PrintWords Go.Proofs.YtcmalglippmocaaDoorW.PrintLast Go.Proofs.YtcmalglippmocaaDoorW.PrintMore
attribute [local go_sem] max2_int min2_int max_two min_two max_three min_three max_four min_four   -- for this text's walks alone
set_option linter.unusedVariables false
set_option linter.unusedSimpArgs false

/-! ### palanquinref11_Proto: function 25 -/
def palanquinref11_Proto.f (a0 : ByteArray) : Option (Int × Int) := if a0.toList = ([] : List UInt8) then (some (0, 2)) else (if 0 < (a0.size : Int) then (if ((Int.tdiv (bt a0 0) 16) % 256) = 4 then (some (4, 0)) else (if ((Int.tdiv (bt a0 0) 16) % 256) = 6 then (some (41, 0)) else (some (0, 3)))) else (none))
set_option maxHeartbeats 8000000 in
set_option maxRecDepth 100000 in
theorem palanquinref11_Proto.calls (a0 : ByteArray) (r1 : Int) (r2 : Int) (w : World) (h : palanquinref11_Proto.f a0 = some (r1, r2)) :
    Calls Tryd.prog 25 #[.string a0] w fun e w' => e = .returned (.tuple #[.int .i64 r1, .int .i64 r2]) ∧ Drawn0 w w' := by
  have H : (if a0.toList = ([] : List UInt8) then (some (0, 2)) else (if 0 < (a0.size : Int) then (if ((Int.tdiv (bt a0 0) 16) % 256) = 4 then (some (4, 0)) else (if ((Int.tdiv (bt a0 0) 16) % 256) = 6 then (some (41, 0)) else (some (0, 3)))) else (none))) = some (r1, r2) := h
  clear h
  by_cases c2 : a0.toList = ([] : List UInt8)
  · rw [if_pos c2] at H
    have c2b0 : (a0.toList == ([] : List UInt8)) = true := beq_iff_eq.mpr c2
    have c2b1 : (a0.toList != ([] : List UInt8)) = false := bne_eq_false_iff_eq.mpr c2
    clear c2
    simp only [Option.some.injEq, Prod.mk.injEq] at H
    obtain ⟨rfl, rfl⟩ := H
    go_enter Tryd.func25, Tryd.ntmps25
    go_wp2
    go_ret2
    exact ⟨by first | rfl | (simp; done) | (simp [*]; done), by repeat (first | exact Drawn0.refl _ | apply Drawn0.step)⟩
  · rw [if_neg c2] at H
    have c2b0 : (a0.toList == ([] : List UInt8)) = false := beq_eq_false_iff_ne.mpr c2
    have c2b1 : (a0.toList != ([] : List UInt8)) = true := bne_iff_ne.mpr c2
    by_cases c3 : 0 < (a0.size : Int)
    · rw [if_pos c3] at H
      have c3b0 : decide (0 < (a0.size : Int)) = true := decide_eq_true c3
      have c3b1 : decide (0 < a0.size) = true := decide_eq_true (by omega)
      clear c3
      by_cases c5 : ((Int.tdiv (bt a0 0) 16) % 256) = 4
      · rw [if_pos c5] at H
        have c5b0 : (((Int.tdiv (bt a0 0) 16) % 256) == 4) = true := beq_iff_eq.mpr c5
        have c5b1 : (((Int.tdiv (bt a0 0) 16) % 256) != 4) = false := bne_eq_false_iff_eq.mpr c5
        clear c5
        simp only [Option.some.injEq, Prod.mk.injEq] at H
        obtain ⟨rfl, rfl⟩ := H
        have p4 : 0 ≤ (0 : Int) := (by omega)
        have q4 : 0 < a0.size := (by have : (0 : Int) < (a0.size : Int) := of_decide_eq_true (by first | (with_reducible assumption) | assumption); omega)
        have hx4 : ∀ h : 0 < a0.size, ((a0[0]'h).toNat : Int) = bt a0 0 := bt_at a0 0
        clear p4
        have qi4 : (0 < (a0.size : Int)) = True := eq_true (of_decide_eq_true (by first | (with_reducible assumption) | assumption))
        replace q4 := eq_true q4
        go_enter Tryd.func25, Tryd.ntmps25
        go_wp2
        go_ret2
        exact ⟨by first | rfl | (simp; done) | (simp [*]; done), by repeat (first | exact Drawn0.refl _ | apply Drawn0.step)⟩
      · rw [if_neg c5] at H
        have c5b0 : (((Int.tdiv (bt a0 0) 16) % 256) == 4) = false := beq_eq_false_iff_ne.mpr c5
        have c5b1 : (((Int.tdiv (bt a0 0) 16) % 256) != 4) = true := bne_iff_ne.mpr c5
        by_cases c6 : ((Int.tdiv (bt a0 0) 16) % 256) = 6
        · rw [if_pos c6] at H
          have c6b0 : (((Int.tdiv (bt a0 0) 16) % 256) == 6) = true := beq_iff_eq.mpr c6
          have c6b1 : (((Int.tdiv (bt a0 0) 16) % 256) != 6) = false := bne_eq_false_iff_eq.mpr c6
          clear c6
          simp only [Option.some.injEq, Prod.mk.injEq] at H
          obtain ⟨rfl, rfl⟩ := H
          have p4 : 0 ≤ (0 : Int) := (by omega)
          have q4 : 0 < a0.size := (by have : (0 : Int) < (a0.size : Int) := of_decide_eq_true (by first | (with_reducible assumption) | assumption); omega)
          have hx4 : ∀ h : 0 < a0.size, ((a0[0]'h).toNat : Int) = bt a0 0 := bt_at a0 0
          clear p4
          have qi4 : (0 < (a0.size : Int)) = True := eq_true (of_decide_eq_true (by first | (with_reducible assumption) | assumption))
          replace q4 := eq_true q4
          go_enter Tryd.func25, Tryd.ntmps25
          go_wp2
          go_ret2
          exact ⟨by first | rfl | (simp; done) | (simp [*]; done), by repeat (first | exact Drawn0.refl _ | apply Drawn0.step)⟩
        · rw [if_neg c6] at H
          have c6b0 : (((Int.tdiv (bt a0 0) 16) % 256) == 6) = false := beq_eq_false_iff_ne.mpr c6
          have c6b1 : (((Int.tdiv (bt a0 0) 16) % 256) != 6) = true := bne_iff_ne.mpr c6
          simp only [Option.some.injEq, Prod.mk.injEq] at H
          obtain ⟨rfl, rfl⟩ := H
          have p4 : 0 ≤ (0 : Int) := (by omega)
          have q4 : 0 < a0.size := (by have : (0 : Int) < (a0.size : Int) := of_decide_eq_true (by first | (with_reducible assumption) | assumption); omega)
          have hx4 : ∀ h : 0 < a0.size, ((a0[0]'h).toNat : Int) = bt a0 0 := bt_at a0 0
          clear p4
          have qi4 : (0 < (a0.size : Int)) = True := eq_true (of_decide_eq_true (by first | (with_reducible assumption) | assumption))
          replace q4 := eq_true q4
          go_enter Tryd.func25, Tryd.ntmps25
          go_wp2
          go_ret2
          exact ⟨by first | rfl | (simp; done) | (simp [*]; done), by repeat (first | exact Drawn0.refl _ | apply Drawn0.step)⟩
    · rw [if_neg c3] at H
      exact absurd H (by simp)

/-! ### palanquinref11_Kind: function 26 -/
def palanquinref11_Kind.f (a0 : ByteArray) : Option (Int × Int) := (palanquinref11_Proto.f a0).bind fun bt139 => (if bt139.1 = 4 then (some (2048, 0)) else (if bt139.1 = 41 then (some (34525, 0)) else (some (0, bt139.2))))
set_option maxHeartbeats 8000000 in
set_option maxRecDepth 100000 in
theorem palanquinref11_Kind.calls (a0 : ByteArray) (r1 : Int) (r2 : Int) (w : World) (h : palanquinref11_Kind.f a0 = some (r1, r2)) :
    Calls Tryd.prog 26 #[.string a0] w fun e w' => e = .returned (.tuple #[.int .i64 r1, .int .i64 r2]) ∧ Drawn0 w w' := by
  have H : ((palanquinref11_Proto.f a0).bind fun bt139 => (if bt139.1 = 4 then (some (2048, 0)) else (if bt139.1 = 41 then (some (34525, 0)) else (some (0, bt139.2))))) = some (r1, r2) := h
  clear h
  replace H := Option.bind_eq_some_iff.mp H
  obtain ⟨⟨t139, t140⟩, A20, H⟩ := H
  replace H : (if t139 = 4 then (some (2048, 0)) else (if t139 = 41 then (some (34525, 0)) else (some (0, t140)))) = some (r1, r2) := H
  have A2 := Aside0.mk A20
  clear A20
  by_cases c3 : t139 = 4
  · rw [if_pos c3] at H
    have c3b0 : (t139 == 4) = true := beq_iff_eq.mpr c3
    have c3b1 : (t139 != 4) = false := bne_eq_false_iff_eq.mpr c3
    clear c3
    simp only [Option.some.injEq, Prod.mk.injEq] at H
    obtain ⟨rfl, rfl⟩ := H
    go_enter Tryd.func26, Tryd.ntmps26
    go_wp2_with (first | ((with_reducible refine gate_callee (f := 25) rfl ?_); refine goesL_ (some 8) rfl rfl Tryd.func25 (by kernel_rfl) rfl #[.string a0] rfl (by (try simp only [List.map_toArray, List.map_cons, List.map_nil]); first | done | rfl | (simp only [List.length_drop, List.length_take]; rfl)) ?_; (with_reducible refine (palanquinref11_Proto.calls a0 t139 t140 _ A2.out).mono ?_); rintro e w' ⟨rfl, ⟨nd, rfl⟩⟩; refine ⟨_, rfl, ?_⟩))
    go_ret2
    exact ⟨by first | rfl | (simp; done) | (simp [*]; done), by repeat (first | exact Drawn0.refl _ | apply Drawn0.step)⟩
  · rw [if_neg c3] at H
    have c3b0 : (t139 == 4) = false := beq_eq_false_iff_ne.mpr c3
    have c3b1 : (t139 != 4) = true := bne_iff_ne.mpr c3
    by_cases c4 : t139 = 41
    · rw [if_pos c4] at H
      have c4b0 : (t139 == 41) = true := beq_iff_eq.mpr c4
      have c4b1 : (t139 != 41) = false := bne_eq_false_iff_eq.mpr c4
      clear c4
      simp only [Option.some.injEq, Prod.mk.injEq] at H
      obtain ⟨rfl, rfl⟩ := H
      go_enter Tryd.func26, Tryd.ntmps26
      go_wp2_with (first | ((with_reducible refine gate_callee (f := 25) rfl ?_); refine goesL_ (some 8) rfl rfl Tryd.func25 (by kernel_rfl) rfl #[.string a0] rfl (by (try simp only [List.map_toArray, List.map_cons, List.map_nil]); first | done | rfl | (simp only [List.length_drop, List.length_take]; rfl)) ?_; (with_reducible refine (palanquinref11_Proto.calls a0 t139 t140 _ A2.out).mono ?_); rintro e w' ⟨rfl, ⟨nd, rfl⟩⟩; refine ⟨_, rfl, ?_⟩))
      go_ret2
      exact ⟨by first | rfl | (simp; done) | (simp [*]; done), by repeat (first | exact Drawn0.refl _ | apply Drawn0.step)⟩
    · rw [if_neg c4] at H
      have c4b0 : (t139 == 41) = false := beq_eq_false_iff_ne.mpr c4
      have c4b1 : (t139 != 41) = true := bne_iff_ne.mpr c4
      simp only [Option.some.injEq, Prod.mk.injEq] at H
      obtain ⟨rfl, rfl⟩ := H
      go_enter Tryd.func26, Tryd.ntmps26
      go_wp2_with (first | ((with_reducible refine gate_callee (f := 25) rfl ?_); refine goesL_ (some 8) rfl rfl Tryd.func25 (by kernel_rfl) rfl #[.string a0] rfl (by (try simp only [List.map_toArray, List.map_cons, List.map_nil]); first | done | rfl | (simp only [List.length_drop, List.length_take]; rfl)) ?_; (with_reducible refine (palanquinref11_Proto.calls a0 t139 t140 _ A2.out).mono ?_); rintro e w' ⟨rfl, ⟨nd, rfl⟩⟩; refine ⟨_, rfl, ?_⟩))
      go_ret2
      exact ⟨by first | rfl | (simp; done) | (simp [*]; done), by repeat (first | exact Drawn0.refl _ | apply Drawn0.step)⟩

/-! ### palanquinref11_Get: function 27 -/
def palanquinref11_Get.j0 : Nat → Int → ByteArray → Bool → Option (ByteArray × Int)
  | 0, _, _, _ => none
  | k + 1, x0, x1, x13 => if x13 = true then (some ((⟨#[]⟩ : ByteArray), 6)) else ((palanquinref11_Proto.f x1).bind fun bt141 => (if bt141.2 = 0 then (if bt141.1 = x0 then (some (x1, 0)) else (some ((⟨#[]⟩ : ByteArray), 3))) else (some ((⟨#[]⟩ : ByteArray), bt141.2))))
def palanquinref11_Get.f (k : Nat) (a0 : Int) (a1 : ByteArray) : Option (ByteArray × Int) := if a0 = 4 then (palanquinref11_Get.j0 k a0 a1 false) else (palanquinref11_Get.j0 k a0 a1 (a0 != 41))
theorem palanquinref11_Get.mono_l : ∀ k, (∀ y0 y1 y2, LeO (palanquinref11_Get.j0 k y0 y1 y2) (palanquinref11_Get.j0 (k + 1) y0 y1 y2))
  | 0 => fun _ _ _ r h => by simp [palanquinref11_Get.j0] at h
  | k + 1 => by
    have ih0 := palanquinref11_Get.mono_l k
    · intro y0 y1 y2
      unfold palanquinref11_Get.j0
      repeat' first
      | (with_reducible exact ih0 _ _ _)
      | (with_reducible exact LeO.refl _)
      | (with_reducible exact LeO.none _)
      | (with_reducible refine LeO.ite ?_ ?_)
      | (with_reducible refine LeO.bind ?_ (fun _ => ?_))
      | exact ih0 _ _ _
      | exact LeO.none _
      | refine LeO.ite ?_ ?_
      | refine LeO.bind ?_ (fun _ => ?_)
theorem palanquinref11_Get.mono : ∀ a0 a1 k, LeO (palanquinref11_Get.f k a0 a1) (palanquinref11_Get.f (k + 1) a0 a1) := by
  intro a0 a1 k
  have ih0 := palanquinref11_Get.mono_l k
  unfold palanquinref11_Get.f
  repeat' first
      | (with_reducible exact ih0 _ _ _)
      | (with_reducible exact LeO.refl _)
      | (with_reducible exact LeO.none _)
      | (with_reducible refine LeO.ite ?_ ?_)
      | (with_reducible refine LeO.bind ?_ (fun _ => ?_))
      | exact ih0 _ _ _
      | exact LeO.none _
      | refine LeO.ite ?_ ?_
      | refine LeO.bind ?_ (fun _ => ?_)
set_option maxHeartbeats 8000000 in
set_option maxRecDepth 100000 in
theorem palanquinref11_Get.calls (k : Nat) (a0 : Int) (a1 : ByteArray) (r1 : ByteArray) (r2 : Int) (w : World) (h : palanquinref11_Get.f k a0 a1 = some (r1, r2)) :
    Calls Tryd.prog 27 #[.int .i64 a0, .string a1] w fun e w' => e = .returned (.tuple #[.string r1, .int .i64 r2]) ∧ Drawn0 w w' := by
  have H : (if a0 = 4 then (palanquinref11_Get.j0 k a0 a1 false) else (palanquinref11_Get.j0 k a0 a1 (a0 != 41))) = some (r1, r2) := h
  clear h
  have HC3 := Aside0.mk H
  clear H
  go_enter Tryd.func27, Tryd.ntmps27
  go_upto_region 1 with (fail)
  go_cut [13] (fun v13 wc => ∃ (kq : Nat) (x13_2 : Bool), v13 = .bool x13_2 ∧ Aside0 (palanquinref11_Get.j0 kq a0 a1 x13_2 = some (r1, r2)) ∧ Aside0 (kq ≤ k) ∧ Drawn0 w wc)
  case first =>
    have H := HC3.out
    clear HC3
    by_cases c4 : a0 = 4
    · rw [if_pos c4] at H
      have c4b0 : (a0 == 4) = true := beq_iff_eq.mpr c4
      have c4b1 : (a0 != 4) = false := bne_eq_false_iff_eq.mpr c4
      clear c4
      (first | rw [c4b0] | (simp only [i64_w, i32_w]; rw [c4b0]) | skip)
      have H' := Aside0.mk H
      clear H
      go_wp2
      go_meet
      case rel => exact ⟨_, (false), (by first | rfl | (simp; done) | (simp [*]; done)), H', ⟨by first | omega | exact Nat.le_refl _⟩, by repeat (first | exact Drawn0.refl _ | apply Drawn0.step)⟩
    · rw [if_neg c4] at H
      have c4b0 : (a0 == 4) = false := beq_eq_false_iff_ne.mpr c4
      have c4b1 : (a0 != 4) = true := bne_iff_ne.mpr c4
      (first | rw [c4b0] | (simp only [i64_w, i32_w]; rw [c4b0]) | skip)
      have H' := Aside0.mk H
      clear H
      go_wp2
      go_meet
      case rel => exact ⟨_, ((a0 != 41)), (by first | rfl | (simp; done) | (simp [*]; done)), H', ⟨by first | omega | exact Nat.le_refl _⟩, by repeat (first | exact Drawn0.refl _ | apply Drawn0.step)⟩
  case rest =>
    clear HC3
    try clear c2
    try clear p2
    try clear c4
    try clear c4b0
    try clear c4b1
    obtain ⟨kq, x13_2, rfl, HA, HJ2, ⟨mc2, rfl⟩⟩ := hcut
    cases kq with
    | zero => exact absurd HA.out (by simp [palanquinref11_Get.j0])
    | succ kj2 =>
      have H := HA.out
      clear HA
      simp only [palanquinref11_Get.j0] at H
      by_cases c5 : x13_2 = true
      · subst c5
        have H1 : (some ((⟨#[]⟩ : ByteArray), 6)) = some (r1, r2) := by rw [if_pos rfl] at H; exact H
        clear H
        have H := H1
        clear H1
        simp only [Option.some.injEq, Prod.mk.injEq] at H
        obtain ⟨rfl, rfl⟩ := H
        go_wp2
        go_ret2
        exact ⟨by first | rfl | (simp; done) | (simp [*]; done), by repeat (first | exact Drawn0.refl _ | apply Drawn0.step)⟩
      · replace c5 := Bool.eq_false_iff.mpr c5
        subst c5
        have H1 : ((palanquinref11_Proto.f a1).bind fun bt141 => (if bt141.2 = 0 then (if bt141.1 = a0 then (some (a1, 0)) else (some ((⟨#[]⟩ : ByteArray), 3))) else (some ((⟨#[]⟩ : ByteArray), bt141.2)))) = some (r1, r2) := by rw [if_neg (show ¬ (false = true) by decide)] at H; exact H
        clear H
        have H := H1
        clear H1
        replace H := Option.bind_eq_some_iff.mp H
        obtain ⟨⟨t141, t142⟩, A60, H⟩ := H
        replace H : (if t142 = 0 then (if t141 = a0 then (some (a1, 0)) else (some ((⟨#[]⟩ : ByteArray), 3))) else (some ((⟨#[]⟩ : ByteArray), t142))) = some (r1, r2) := H
        have A6 := Aside0.mk A60
        clear A60
        by_cases c7 : t142 = 0
        · rw [if_pos c7] at H
          have c7b0 : (t142 == 0) = true := beq_iff_eq.mpr c7
          have c7b1 : (t142 != 0) = false := bne_eq_false_iff_eq.mpr c7
          clear c7
          by_cases c8 : t141 = a0
          · rw [if_pos c8] at H
            have c8b0 : (t141 == a0) = true := beq_iff_eq.mpr c8
            have c8b1 : (t141 != a0) = false := bne_eq_false_iff_eq.mpr c8
            clear c8
            simp only [Option.some.injEq, Prod.mk.injEq] at H
            obtain ⟨rfl, rfl⟩ := H
            go_wp2_with (first | ((with_reducible refine gate_callee (f := 25) rfl ?_); refine goesL_ (some 16) rfl rfl Tryd.func25 (by kernel_rfl) rfl #[.string a1] rfl (by (try simp only [List.map_toArray, List.map_cons, List.map_nil]); first | done | rfl | (simp only [List.length_drop, List.length_take]; rfl)) ?_; (with_reducible refine (palanquinref11_Proto.calls a1 t141 t142 _ A6.out).mono ?_); rintro e w' ⟨rfl, ⟨nd, rfl⟩⟩; refine ⟨_, rfl, ?_⟩))
            go_ret2
            exact ⟨by first | rfl | (simp; done) | (simp [*]; done), by repeat (first | exact Drawn0.refl _ | apply Drawn0.step)⟩
          · rw [if_neg c8] at H
            have c8b0 : (t141 == a0) = false := beq_eq_false_iff_ne.mpr c8
            have c8b1 : (t141 != a0) = true := bne_iff_ne.mpr c8
            simp only [Option.some.injEq, Prod.mk.injEq] at H
            obtain ⟨rfl, rfl⟩ := H
            go_wp2_with (first | ((with_reducible refine gate_callee (f := 25) rfl ?_); refine goesL_ (some 16) rfl rfl Tryd.func25 (by kernel_rfl) rfl #[.string a1] rfl (by (try simp only [List.map_toArray, List.map_cons, List.map_nil]); first | done | rfl | (simp only [List.length_drop, List.length_take]; rfl)) ?_; (with_reducible refine (palanquinref11_Proto.calls a1 t141 t142 _ A6.out).mono ?_); rintro e w' ⟨rfl, ⟨nd, rfl⟩⟩; refine ⟨_, rfl, ?_⟩))
            go_ret2
            exact ⟨by first | rfl | (simp; done) | (simp [*]; done), by repeat (first | exact Drawn0.refl _ | apply Drawn0.step)⟩
        · rw [if_neg c7] at H
          have c7b0 : (t142 == 0) = false := beq_eq_false_iff_ne.mpr c7
          have c7b1 : (t142 != 0) = true := bne_iff_ne.mpr c7
          simp only [Option.some.injEq, Prod.mk.injEq] at H
          obtain ⟨rfl, rfl⟩ := H
          go_wp2_with (first | ((with_reducible refine gate_callee (f := 25) rfl ?_); refine goesL_ (some 16) rfl rfl Tryd.func25 (by kernel_rfl) rfl #[.string a1] rfl (by (try simp only [List.map_toArray, List.map_cons, List.map_nil]); first | done | rfl | (simp only [List.length_drop, List.length_take]; rfl)) ?_; (with_reducible refine (palanquinref11_Proto.calls a1 t141 t142 _ A6.out).mono ?_); rintro e w' ⟨rfl, ⟨nd, rfl⟩⟩; refine ⟨_, rfl, ?_⟩))
          go_ret2
          exact ⟨by first | rfl | (simp; done) | (simp [*]; done), by repeat (first | exact Drawn0.refl _ | apply Drawn0.step)⟩

end Go.Proofs.YtcmalglippmocaaDoor.G
end

section
namespace Go.Proofs.YtcmalglippmocaaDoor.G
open Go.RowKit Go.Proofs.YtcmalglippmocaaDoorW.PrintWords Go.Proofs.YtcmalglippmocaaDoorW.PrintLast Go.Proofs.YtcmalglippmocaaDoorW.PrintMore
attribute [local go_sem] max2_int min2_int max_two min_two max_three min_three max_four min_four   -- for this text's walks alone
set_option linter.unusedVariables false
set_option linter.unusedSimpArgs false

/-! ### palanquinlaw11_awake: function 20 -/
def palanquinlaw11_awake.f  : Option (Bool) := (ipip_Proto.f (⟨#[69]⟩ : ByteArray)).bind fun bt106 => ((ipip_Proto.f (⟨#[96]⟩ : ByteArray)).bind fun bt108 => (if bt106.1 = 4 then (if bt106.2 = 0 then (if bt108.1 = 41 then (some (bt108.2 == 0)) else (some false)) else (some false)) else (some false)))
set_option maxHeartbeats 8000000 in
set_option maxRecDepth 100000 in
theorem palanquinlaw11_awake.calls  (r : Bool) (w : World) (h : palanquinlaw11_awake.f  = some r) (hgV_ : GV w) :
    Calls Tryd.prog 20 #[] w fun e w' => e = .returned (.bool r) ∧ Below w.heap.size w w' := by
  have HgV_ := Aside0.mk hgV_
  clear hgV_
  have HB := Aside0.mk (Below.refl w.heap.size w)
  have H : ((ipip_Proto.f (⟨#[69]⟩ : ByteArray)).bind fun bt106 => ((ipip_Proto.f (⟨#[96]⟩ : ByteArray)).bind fun bt108 => (if bt106.1 = 4 then (if bt106.2 = 0 then (if bt108.1 = 41 then (some (bt108.2 == 0)) else (some false)) else (some false)) else (some false)))) = some r := h
  clear h
  replace H := Option.bind_eq_some_iff.mp H
  obtain ⟨⟨t106, t107⟩, A10, H⟩ := H
  replace H : ((ipip_Proto.f (⟨#[96]⟩ : ByteArray)).bind fun bt108 => (if t106 = 4 then (if t107 = 0 then (if bt108.1 = 41 then (some (bt108.2 == 0)) else (some false)) else (some false)) else (some false))) = some r := H
  have A1 := Aside0.mk A10
  clear A10
  replace H := Option.bind_eq_some_iff.mp H
  obtain ⟨⟨t108, t109⟩, A20, H⟩ := H
  replace H : (if t106 = 4 then (if t107 = 0 then (if t108 = 41 then (some (t109 == 0)) else (some false)) else (some false)) else (some false)) = some r := H
  have A2 := Aside0.mk A20
  clear A20
  by_cases c3 : t106 = 4
  · rw [if_pos c3] at H
    have c3b0 : (t106 == 4) = true := beq_iff_eq.mpr c3
    have c3b1 : (t106 != 4) = false := bne_eq_false_iff_eq.mpr c3
    clear c3
    by_cases c4 : t107 = 0
    · rw [if_pos c4] at H
      have c4b0 : (t107 == 0) = true := beq_iff_eq.mpr c4
      have c4b1 : (t107 != 0) = false := bne_eq_false_iff_eq.mpr c4
      clear c4
      by_cases c5 : t108 = 41
      · rw [if_pos c5] at H
        have c5b0 : (t108 == 41) = true := beq_iff_eq.mpr c5
        have c5b1 : (t108 != 41) = false := bne_eq_false_iff_eq.mpr c5
        clear c5
        obtain rfl := Option.some.inj H
        go_enter Tryd.func20, Tryd.ntmps20
        go_wp2_with (first | ((with_reducible refine gate_callee (f := 21) rfl ?_); refine goesL_ (some 6) rfl rfl Tryd.func21 (by kernel_rfl) rfl #[.string (⟨#[69]⟩ : ByteArray)] rfl (by (try simp only [List.map_toArray, List.map_cons, List.map_nil]); first | done | rfl | (simp only [List.length_drop, List.length_take]; rfl)) ?_; (with_reducible refine (ipip_Proto.calls (⟨#[69]⟩ : ByteArray) t106 t107 _ A1.out (GV.below HgV_.out (by repeat (first | (with_reducible first | exact HB.out | apply below_alloc | apply pw_below_drewN | apply below_drew1) | exact HB.out)))).mono ?_); rintro e w6 ⟨rfl, hb⟩; refine ⟨_, rfl, ?_⟩; have n0_ := Aside0.mk (below_step (by repeat (first | (with_reducible first | exact HB.out | apply below_alloc | apply pw_below_drewN | apply below_drew1) | exact HB.out)) hb); clear HB; have HB := n0_; clear n0_; (try clear hb); (try clear hb2); (try clear hk); (try clear hi)) | ((with_reducible refine gate_callee (f := 21) rfl ?_); refine goesL_ (some 10) rfl rfl Tryd.func21 (by kernel_rfl) rfl #[.string (⟨#[96]⟩ : ByteArray)] rfl (by (try simp only [List.map_toArray, List.map_cons, List.map_nil]); first | done | rfl | (simp only [List.length_drop, List.length_take]; rfl)) ?_; (with_reducible refine (ipip_Proto.calls (⟨#[96]⟩ : ByteArray) t108 t109 _ A2.out (GV.below HgV_.out (by repeat (first | (with_reducible first | exact HB.out | apply below_alloc | apply pw_below_drewN | apply below_drew1) | exact HB.out)))).mono ?_); rintro e w7 ⟨rfl, hb⟩; refine ⟨_, rfl, ?_⟩; have n0_ := Aside0.mk (below_step (by repeat (first | (with_reducible first | exact HB.out | apply below_alloc | apply pw_below_drewN | apply below_drew1) | exact HB.out)) hb); clear HB; have HB := n0_; clear n0_; (try clear hb); (try clear hb2); (try clear hk); (try clear hi)))
        go_ret
        exact ⟨by first | rfl | (simp [errW_none, errW_some] <;> rfl) | (simp [*, errW_none, errW_some] <;> rfl), by repeat (first | (with_reducible first | exact HB.out | apply below_alloc | apply pw_below_drewN | apply below_drew1) | exact HB.out)⟩
      · rw [if_neg c5] at H
        have c5b0 : (t108 == 41) = false := beq_eq_false_iff_ne.mpr c5
        have c5b1 : (t108 != 41) = true := bne_iff_ne.mpr c5
        obtain rfl := Option.some.inj H
        go_enter Tryd.func20, Tryd.ntmps20
        go_wp2_with (first | ((with_reducible refine gate_callee (f := 21) rfl ?_); refine goesL_ (some 6) rfl rfl Tryd.func21 (by kernel_rfl) rfl #[.string (⟨#[69]⟩ : ByteArray)] rfl (by (try simp only [List.map_toArray, List.map_cons, List.map_nil]); first | done | rfl | (simp only [List.length_drop, List.length_take]; rfl)) ?_; (with_reducible refine (ipip_Proto.calls (⟨#[69]⟩ : ByteArray) t106 t107 _ A1.out (GV.below HgV_.out (by repeat (first | (with_reducible first | exact HB.out | apply below_alloc | apply pw_below_drewN | apply below_drew1) | exact HB.out)))).mono ?_); rintro e w8 ⟨rfl, hb⟩; refine ⟨_, rfl, ?_⟩; have n0_ := Aside0.mk (below_step (by repeat (first | (with_reducible first | exact HB.out | apply below_alloc | apply pw_below_drewN | apply below_drew1) | exact HB.out)) hb); clear HB; have HB := n0_; clear n0_; (try clear hb); (try clear hb2); (try clear hk); (try clear hi)) | ((with_reducible refine gate_callee (f := 21) rfl ?_); refine goesL_ (some 10) rfl rfl Tryd.func21 (by kernel_rfl) rfl #[.string (⟨#[96]⟩ : ByteArray)] rfl (by (try simp only [List.map_toArray, List.map_cons, List.map_nil]); first | done | rfl | (simp only [List.length_drop, List.length_take]; rfl)) ?_; (with_reducible refine (ipip_Proto.calls (⟨#[96]⟩ : ByteArray) t108 t109 _ A2.out (GV.below HgV_.out (by repeat (first | (with_reducible first | exact HB.out | apply below_alloc | apply pw_below_drewN | apply below_drew1) | exact HB.out)))).mono ?_); rintro e w9 ⟨rfl, hb⟩; refine ⟨_, rfl, ?_⟩; have n0_ := Aside0.mk (below_step (by repeat (first | (with_reducible first | exact HB.out | apply below_alloc | apply pw_below_drewN | apply below_drew1) | exact HB.out)) hb); clear HB; have HB := n0_; clear n0_; (try clear hb); (try clear hb2); (try clear hk); (try clear hi)))
        go_ret
        exact ⟨by first | rfl | (simp [errW_none, errW_some] <;> rfl) | (simp [*, errW_none, errW_some] <;> rfl), by repeat (first | (with_reducible first | exact HB.out | apply below_alloc | apply pw_below_drewN | apply below_drew1) | exact HB.out)⟩
    · rw [if_neg c4] at H
      have c4b0 : (t107 == 0) = false := beq_eq_false_iff_ne.mpr c4
      have c4b1 : (t107 != 0) = true := bne_iff_ne.mpr c4
      obtain rfl := Option.some.inj H
      go_enter Tryd.func20, Tryd.ntmps20
      go_wp2_with (first | ((with_reducible refine gate_callee (f := 21) rfl ?_); refine goesL_ (some 6) rfl rfl Tryd.func21 (by kernel_rfl) rfl #[.string (⟨#[69]⟩ : ByteArray)] rfl (by (try simp only [List.map_toArray, List.map_cons, List.map_nil]); first | done | rfl | (simp only [List.length_drop, List.length_take]; rfl)) ?_; (with_reducible refine (ipip_Proto.calls (⟨#[69]⟩ : ByteArray) t106 t107 _ A1.out (GV.below HgV_.out (by repeat (first | (with_reducible first | exact HB.out | apply below_alloc | apply pw_below_drewN | apply below_drew1) | exact HB.out)))).mono ?_); rintro e w10 ⟨rfl, hb⟩; refine ⟨_, rfl, ?_⟩; have n0_ := Aside0.mk (below_step (by repeat (first | (with_reducible first | exact HB.out | apply below_alloc | apply pw_below_drewN | apply below_drew1) | exact HB.out)) hb); clear HB; have HB := n0_; clear n0_; (try clear hb); (try clear hb2); (try clear hk); (try clear hi)) | ((with_reducible refine gate_callee (f := 21) rfl ?_); refine goesL_ (some 10) rfl rfl Tryd.func21 (by kernel_rfl) rfl #[.string (⟨#[96]⟩ : ByteArray)] rfl (by (try simp only [List.map_toArray, List.map_cons, List.map_nil]); first | done | rfl | (simp only [List.length_drop, List.length_take]; rfl)) ?_; (with_reducible refine (ipip_Proto.calls (⟨#[96]⟩ : ByteArray) t108 t109 _ A2.out (GV.below HgV_.out (by repeat (first | (with_reducible first | exact HB.out | apply below_alloc | apply pw_below_drewN | apply below_drew1) | exact HB.out)))).mono ?_); rintro e w11 ⟨rfl, hb⟩; refine ⟨_, rfl, ?_⟩; have n0_ := Aside0.mk (below_step (by repeat (first | (with_reducible first | exact HB.out | apply below_alloc | apply pw_below_drewN | apply below_drew1) | exact HB.out)) hb); clear HB; have HB := n0_; clear n0_; (try clear hb); (try clear hb2); (try clear hk); (try clear hi)))
      go_ret
      exact ⟨by first | rfl | (simp [errW_none, errW_some] <;> rfl) | (simp [*, errW_none, errW_some] <;> rfl), by repeat (first | (with_reducible first | exact HB.out | apply below_alloc | apply pw_below_drewN | apply below_drew1) | exact HB.out)⟩
  · rw [if_neg c3] at H
    have c3b0 : (t106 == 4) = false := beq_eq_false_iff_ne.mpr c3
    have c3b1 : (t106 != 4) = true := bne_iff_ne.mpr c3
    obtain rfl := Option.some.inj H
    go_enter Tryd.func20, Tryd.ntmps20
    go_wp2_with (first | ((with_reducible refine gate_callee (f := 21) rfl ?_); refine goesL_ (some 6) rfl rfl Tryd.func21 (by kernel_rfl) rfl #[.string (⟨#[69]⟩ : ByteArray)] rfl (by (try simp only [List.map_toArray, List.map_cons, List.map_nil]); first | done | rfl | (simp only [List.length_drop, List.length_take]; rfl)) ?_; (with_reducible refine (ipip_Proto.calls (⟨#[69]⟩ : ByteArray) t106 t107 _ A1.out (GV.below HgV_.out (by repeat (first | (with_reducible first | exact HB.out | apply below_alloc | apply pw_below_drewN | apply below_drew1) | exact HB.out)))).mono ?_); rintro e w12 ⟨rfl, hb⟩; refine ⟨_, rfl, ?_⟩; have n0_ := Aside0.mk (below_step (by repeat (first | (with_reducible first | exact HB.out | apply below_alloc | apply pw_below_drewN | apply below_drew1) | exact HB.out)) hb); clear HB; have HB := n0_; clear n0_; (try clear hb); (try clear hb2); (try clear hk); (try clear hi)) | ((with_reducible refine gate_callee (f := 21) rfl ?_); refine goesL_ (some 10) rfl rfl Tryd.func21 (by kernel_rfl) rfl #[.string (⟨#[96]⟩ : ByteArray)] rfl (by (try simp only [List.map_toArray, List.map_cons, List.map_nil]); first | done | rfl | (simp only [List.length_drop, List.length_take]; rfl)) ?_; (with_reducible refine (ipip_Proto.calls (⟨#[96]⟩ : ByteArray) t108 t109 _ A2.out (GV.below HgV_.out (by repeat (first | (with_reducible first | exact HB.out | apply below_alloc | apply pw_below_drewN | apply below_drew1) | exact HB.out)))).mono ?_); rintro e w13 ⟨rfl, hb⟩; refine ⟨_, rfl, ?_⟩; have n0_ := Aside0.mk (below_step (by repeat (first | (with_reducible first | exact HB.out | apply below_alloc | apply pw_below_drewN | apply below_drew1) | exact HB.out)) hb); clear HB; have HB := n0_; clear n0_; (try clear hb); (try clear hb2); (try clear hk); (try clear hi)))
    go_ret
    exact ⟨by first | rfl | (simp [errW_none, errW_some] <;> rfl) | (simp [*, errW_none, errW_some] <;> rfl), by repeat (first | (with_reducible first | exact HB.out | apply below_alloc | apply pw_below_drewN | apply below_drew1) | exact HB.out)⟩

end Go.Proofs.YtcmalglippmocaaDoor.G
end

section
/- Plain facts of ipip's functions: what a packet is told to be; the document's answer is that. -/
namespace Go.Proofs.YtcmalglippmocaaDoor.Pure
open Go.RowKit Go.Proofs.YtcmalglippmocaaDoorW.PrintWords Go.Proofs.YtcmalglippmocaaDoorW.PrintLast Go.Proofs.YtcmalglippmocaaDoor.G Go.Proofs.YtcmalglippmocaaDoor.Pal
set_option linter.unusedVariables false
theorem toList_nil (s : ByteArray) : s.toList = ([] : List UInt8) ↔ s.size = 0 := by
  have e := bl_length s
  have h : s.toList = bl s := ByteArray.toList_eq s
  rw [h, ← e]
  exact List.length_eq_zero_iff.symm
theorem ver_cases (s : ByteArray) : (s.size = 0 ∧ verOf s = (0, 0, 0, 2)) ∨ (s.size ≠ 0 ∧ bt s 0 / 16 = 4 ∧ verOf s = (4, 4, 2048, 0)) ∨ (s.size ≠ 0 ∧ bt s 0 / 16 = 6 ∧ verOf s = (6, 41, 34525, 0)) ∨ (s.size ≠ 0 ∧ bt s 0 / 16 ≠ 4 ∧ bt s 0 / 16 ≠ 6 ∧ verOf s = (0, 0, 0, 3)) := by
  unfold verOf
  by_cases h0 : s.size = 0
  · left; exact ⟨h0, if_pos h0⟩
  right
  rw [if_neg h0]
  by_cases h4 : bt s 0 / 16 = 4
  · left; exact ⟨h0, h4, if_pos h4⟩
  right
  rw [if_neg h4]
  by_cases h6 : bt s 0 / 16 = 6
  · left; exact ⟨h0, h6, if_pos h6⟩
  right
  exact ⟨h0, h4, h6, if_neg h6⟩
theorem proto_is (s : ByteArray) : ipip_Proto.f s = some ((verOf s).2.1, (verOf s).2.2.2) := rfl
theorem kind_is (s : ByteArray) : ipip_Kind.f s = some ((verOf s).2.2.1, (verOf s).2.2.2) := rfl
theorem put_is (s : ByteArray) : ipip_Put.f s = some (if (verOf s).2.2.2 = 0 then ((verOf s).2.1, s, 0) else (0, ⟨#[]⟩, (verOf s).2.2.2)) := by
  unfold ipip_Put.f
  rw [proto_is, Option.bind_some]
  split <;> rfl
theorem nib_div (s : ByteArray) : (Int.tdiv (bt s 0) 16) % 256 = bt s 0 / 16 := by
  have h := bt_range s 0
  rw [Int.tdiv_eq_ediv_of_nonneg h.1]
  omega
theorem refProto_is (s : ByteArray) : palanquinref11_Proto.f s = some ((verOf s).2.1, (verOf s).2.2.2) := by
  unfold palanquinref11_Proto.f verOf
  rw [nib_div]
  by_cases h0 : s.size = 0
  · rw [if_pos ((toList_nil s).2 h0), if_pos h0]
  · rw [if_neg (fun h => h0 ((toList_nil s).1 h)), if_pos (by omega), if_neg h0]
    split
    · rfl
    · split <;> rfl
theorem refKind_is (s : ByteArray) : palanquinref11_Kind.f s = some ((verOf s).2.2.1, (verOf s).2.2.2) := by
  unfold palanquinref11_Kind.f
  rw [refProto_is, Option.bind_some]
  rcases ver_cases s with ⟨_, h⟩ | ⟨_, _, h⟩ | ⟨_, _, h⟩ | ⟨_, _, _, h⟩ <;> rw [h] <;> rfl
theorem refGet_is (k : Nat) (p : Int) (s : ByteArray) : palanquinref11_Get.f (k + 1) p s = ipip_Get.f p s := by
  have hp := refProto_is s
  unfold palanquinref11_Get.f ipip_Get.f
  generalize verOf s = v at hp ⊢
  obtain ⟨b, q, kk, e⟩ := v
  by_cases h4 : p = 4 <;> by_cases h41 : p = 41 <;> by_cases he : e = 0 <;> by_cases hq : q = p <;> first | (simp [palanquinref11_Get.j0, hp, h4, h41, he, hq]; done) | (subst h4; simp [palanquinref11_Get.j0, hp, he, hq]; done) | (subst h41; simp [palanquinref11_Get.j0, hp, he, hq]; done) | (simp [palanquinref11_Get.j0, hp, h4, h41, he, hq]; omega)
theorem get_own {s : ByteArray} (h : (verOf s).2.2.2 = 0) : ipip_Get.f (verOf s).2.1 s = some (s, 0) := by
  unfold ipip_Get.f
  have hp : ¬ ((verOf s).2.1 ≠ 4 ∧ (verOf s).2.1 ≠ 41) := by
    rcases ver_cases s with ⟨_, e⟩ | ⟨_, _, e⟩ | ⟨_, _, e⟩ | ⟨_, _, _, e⟩ <;> rw [e] at h ⊢ <;> simp at h ⊢
  rw [if_neg hp, if_neg (by simpa using h), if_neg (by simp)]
theorem get_other {s : ByteArray} {p : Int} (h : (verOf s).2.2.2 = 0) (hp : p ≠ (verOf s).2.1) : ∃ e, ipip_Get.f p s = some (⟨#[]⟩, e) ∧ e ≠ 0 := by
  unfold ipip_Get.f
  by_cases h0 : p ≠ 4 ∧ p ≠ 41
  · exact ⟨6, by rw [if_pos h0], by decide⟩
  · exact ⟨3, by rw [if_neg h0, if_neg (by simpa using h), if_pos (fun e => hp e.symm)], by decide⟩
theorem awake11 : palanquinlaw11_awake.f = some true := by decide +kernel
theorem empty11 : (⟨#[]⟩ : ByteArray).toList = [] := by decide +kernel
end Go.Proofs.YtcmalglippmocaaDoor.Pure
end

section
/- Plain theory: a text with its own checksum inside it, at an even place. No program in it. -/
namespace Go.Proofs.YtcmalglippmocaaDoor.Pal
theorem nb2_is (c : Nat) : nb 2 c = [UInt8.ofNat (c / 256), UInt8.ofNat c] := rfl
theorem nb2_tot (c : Nat) (h : c ≤ 65535) : tot false (nb 2 c) = c := by
  rw [nb2_is]
  simp only [tot, UInt8.toNat_ofNat']
  omega
theorem nb2_odd (c : Nat) : odd (nb 2 c) = false := by unfold odd; rw [nb_length]; rfl
theorem tot_mid (A B : List UInt8) (c : Nat) (hA : odd A = false) (hc : c ≤ 65535) : tot false (A ++ nb 2 c ++ B) = tot false (A ++ nb 2 0 ++ B) + c := by
  have e : ∀ d, odd (A ++ nb 2 d) = false := fun d => by
    unfold odd at hA ⊢
    rw [List.length_append, nb_length]
    simp only [beq_eq_false_iff_ne] at hA ⊢
    omega
  have t : ∀ d, tot false (A ++ nb 2 d ++ B) = tot false A + tot false (nb 2 d) + tot false B := fun d => by
    rw [tot_append, tot_append, e d, hA]
    rfl
  rw [t, t, nb2_tot c hc, nb2_tot 0 (by decide)]
  omega
theorem csum_bound (l : List UInt8) : csum l ≤ 65535 := by unfold csum; omega
/-- With its checksum in its place it sums to 0. -/
theorem inSealed (A B : List UInt8) (hA : odd A = false) : csum (A ++ nb 2 (csum (A ++ nb 2 0 ++ B)) ++ B) = 0 := by
  unfold csum at *
  rw [tot_mid A B _ hA (by omega)]
  generalize tot false (A ++ nb 2 0 ++ B) = t
  unfold fold16
  split <;> split <;> omega
/-- What stands there, and makes it sum to 0, is its checksum, but where it is FFFF. -/
theorem outSealed (A B : List UInt8) (c : Nat) (hA : odd A = false) (hc : c < 65535) (h : csum (A ++ nb 2 c ++ B) = 0) : csum (A ++ nb 2 0 ++ B) = c := by
  unfold csum at *
  rw [tot_mid A B c hA (by omega)] at h
  generalize tot false (A ++ nb 2 0 ++ B) = t at h ⊢
  unfold fold16 at *
  split at h
  · omega
  · split
    · omega
    · omega
end Go.Proofs.YtcmalglippmocaaDoor.Pal
end

section
/- Plain theory: a text with one bit turned. No program in it. -/
namespace Go.Proofs.YtcmalglippmocaaDoor.Pal
def flipByte (b : UInt8) (k : Nat) : UInt8 := UInt8.ofNat (b.toNat ^^^ 2 ^ (k % 8))
/-- One bit turned: bit i stands in byte i / 8, and is its bit i % 8. -/
def flip (l : List UInt8) (i : Nat) : List UInt8 := l.set (i / 8) (flipByte (l.getD (i / 8) 0) i)
theorem flip_length (l : List UInt8) (i : Nat) : (flip l i).length = l.length := by simp [flip]
theorem flip_fin : ∀ b : Fin 256, ∀ k : Fin 8, (b.val ^^^ 2 ^ k.val) < 256 ∧ ((b.val ^^^ 2 ^ k.val) = b.val + 2 ^ k.val ∨ b.val = (b.val ^^^ 2 ^ k.val) + 2 ^ k.val) ∧ 1 ≤ 2 ^ k.val ∧ 2 ^ k.val ≤ 128 := by decide +kernel
theorem flipByte_is (b : UInt8) (k : Nat) : ∃ d, 1 ≤ d ∧ d ≤ 128 ∧ d = 2 ^ (k % 8) ∧ ((flipByte b k).toNat = b.toNat + d ∨ b.toNat = (flipByte b k).toNat + d) := by
  have h := flip_fin ⟨b.toNat, b.toNat_lt⟩ ⟨k % 8, Nat.mod_lt _ (by decide)⟩
  dsimp only at h
  have e : (flipByte b k).toNat = b.toNat ^^^ 2 ^ (k % 8) := by
    unfold flipByte
    simp only [UInt8.toNat_ofNat']
    exact Nat.mod_eq_of_lt h.1
  rw [e]
  exact ⟨2 ^ (k % 8), h.2.2.1, h.2.2.2, rfl, h.2.1⟩
theorem flipByte_ne (b : UInt8) (k : Nat) : flipByte b k ≠ b := fun h => by
  obtain ⟨d, h1, _, _, h2⟩ := flipByte_is b k
  rw [h] at h2; omega
theorem tot_set (b : UInt8) : ∀ (l : List UInt8) (j : Nat) (o : Bool), j < l.length → ∃ w, (w = 1 ∨ w = 256) ∧ tot o (l.set j b) + w * (l.getD j 0).toNat = tot o l + w * b.toNat
  | [], _, _, h => absurd h (by simp)
  | x :: l, 0, false, _ => ⟨256, .inr rfl, by simp [tot]; omega⟩
  | x :: l, 0, true, _ => ⟨1, .inl rfl, by simp [tot]; omega⟩
  | x :: l, j + 1, false, h => by
    obtain ⟨w, h1, h2⟩ := tot_set b l j true (by simpa using h)
    exact ⟨w, h1, by simp only [List.set_cons_succ, tot, List.getD_cons_succ]; omega⟩
  | x :: l, j + 1, true, h => by
    obtain ⟨w, h1, h2⟩ := tot_set b l j false (by simpa using h)
    exact ⟨w, h1, by simp only [List.set_cons_succ, tot, List.getD_cons_succ]; omega⟩
theorem flip_tot (l : List UInt8) (i : Nat) (h : i / 8 < l.length) (o : Bool) : ∃ D, 1 ≤ D ∧ D ≤ 32768 ∧ (tot o (flip l i) = tot o l + D ∨ tot o l = tot o (flip l i) + D) := by
  obtain ⟨w, hw, h1⟩ := tot_set (flipByte (l.getD (i / 8) 0) i) l (i / 8) o h
  obtain ⟨d, d1, d2, _, h2⟩ := flipByte_is (l.getD (i / 8) 0) i
  unfold flip
  rcases hw with rfl | rfl
  · exact ⟨d, d1, by omega, by omega⟩
  · exact ⟨256 * d, by omega, by omega, by omega⟩
/-- A text that is right isn't with one bit turned. -/
theorem flip_wrong (l : List UInt8) (i : Nat) (h : i / 8 < l.length) (h0 : csum l = 0) : csum (flip l i) ≠ 0 := by
  obtain ⟨D, d1, d2, h1⟩ := flip_tot l i h false
  unfold csum fold16 at *
  split at h0
  · omega
  · split
    · omega
    · omega
theorem cut_bl (s : ByteArray) (n m : Nat) : bl (s.extract n m) = ((bl s).take m).drop n := by simp [bl, ByteArray.data_extract, List.drop_take]
theorem take_bl (s : ByteArray) : (bl s).take s.size = bl s := List.take_of_length_le (by rw [bl_length]; exact Nat.le_refl _)
theorem flip_bits_fin : ∀ b : Fin 256, ∀ k : Fin 8, Go.bits .xor .u8 (b.val : Int) (2 ^ k.val % 256) = ((b.val ^^^ 2 ^ k.val : Nat) : Int) := by decide +kernel
theorem flip_bits (b : UInt8) (i : Nat) : Go.bits .xor .u8 (b.toNat : Int) (2 ^ (i % 8) % 256) = ((flipByte b i).toNat : Int) := by
  have h := flip_bits_fin ⟨b.toNat, b.toNat_lt⟩ ⟨i % 8, Nat.mod_lt _ (by decide)⟩
  have h2 := flip_fin ⟨b.toNat, b.toNat_lt⟩ ⟨i % 8, Nat.mod_lt _ (by decide)⟩
  dsimp only at h h2
  rw [h]
  unfold flipByte
  simp only [UInt8.toNat_ofNat']
  rw [Nat.mod_eq_of_lt h2.1]
/-- A text's bytes in memory, one of them turned: what stands there then. -/
theorem flip_cells {w : World} {b : Nat} {l : List UInt8} (h : ∀ j, j < l.length → w.cell? ⟨b, j, none⟩ = some (.int .u8 (l.getD j 0).toNat)) (i : Nat) (hi : i / 8 < l.length) :
    ∀ j (hj : j < (flip l i).length), (w.setCell ⟨b, i / 8, none⟩ (.int .u8 ((flipByte (l.getD (i / 8) 0) i).toNat : Int))).cell? ((⟨b, 0, none⟩ : Addr).add j) = some (.int .u8 ((flip l i)[j].toNat : Int)) := fun j hj => by
  have e : (⟨b, 0, none⟩ : Addr).add j = ⟨b, j, none⟩ := by cases j <;> simp [Addr.add]
  have hj' : j < l.length := by rw [flip_length] at hj; exact hj
  rw [e]
  by_cases c : j = i / 8
  · subst c
    rw [World.cell?_setCell_same' _ _ _ (by rw [h _ hj']; rfl)]
    simp [flip]
  · rw [World.cell?_setCell_other w ⟨b, i / 8, none⟩ ⟨b, j, none⟩ _ (by intro h; injection h with h1 h2; exact c h2.symm), h j hj']
    simp [flip, List.getElem_set, c, Ne.symm c, List.getD_eq_getElem?_getD, List.getElem?_eq_getElem hj']
end Go.Proofs.YtcmalglippmocaaDoor.Pal
end

section
/- Plain theory: a text with its checksum inside it, 0 spelled FFFF; a bit turned in a part of a text. No program in it. -/
namespace Go.Proofs.YtcmalglippmocaaDoor.Pal
def seal17 (t : Nat) : Nat := if t = 0 then 65535 else t
theorem seal17_le {t : Nat} (h : t ≤ 65535) : 1 ≤ seal17 t ∧ seal17 t ≤ 65535 := by unfold seal17; split <;> omega
theorem seal17_fold (t : Nat) : 65535 - fold16 (t + seal17 (65535 - fold16 t)) = 0 := by
  unfold fold16 seal17
  by_cases h : t = 0
  · subst h; rfl
  · rw [if_neg h]
    have := Nat.mod_lt (t - 1) (show 0 < 65535 by decide)
    by_cases h2 : 65535 - ((t - 1) % 65535 + 1) = 0
    · rw [if_pos h2, if_neg (by omega)]; omega
    · rw [if_neg h2, if_neg (by omega)]; omega
theorem inSealed17 (A B : List UInt8) (hA : odd A = false) : csum (A ++ nb 2 (seal17 (csum (A ++ nb 2 0 ++ B))) ++ B) = 0 := by
  have e := tot_mid A B _ hA (seal17_le (csum_bound (A ++ nb 2 0 ++ B))).2
  unfold csum at *
  rw [e]
  exact seal17_fold _
/-- What is put back where it stands: a sealed text, sealed again, stays. -/
theorem sealed17_again (A B : List UInt8) (c : Nat) (hA : odd A = false) (hc : 1 ≤ c ∧ c ≤ 65535) (h : csum (A ++ nb 2 c ++ B) = 0) : seal17 (csum (A ++ nb 2 0 ++ B)) = c := by
  have e := tot_mid A B c hA hc.2
  unfold csum at *
  rw [e] at h
  generalize tot false (A ++ nb 2 0 ++ B) = t at *
  unfold seal17 fold16 at *
  split at h
  · omega
  · split
    · split at * <;> omega
    · split at * <;> omega
theorem flipByte_add (x : UInt8) (n i : Nat) : flipByte x (8 * n + i) = flipByte x i := by
  unfold flipByte
  rw [show (8 * n + i) % 8 = i % 8 by omega]
theorem flip_right (A l : List UInt8) (i : Nat) : flip (A ++ l) (8 * A.length + i) = A ++ flip l i := by
  unfold flip
  rw [flipByte_add, show (8 * A.length + i) / 8 = A.length + i / 8 by omega, List.set_append_right _ _ (by omega)]
  simp [List.getD_eq_getElem?_getD, List.getElem?_append_right]
theorem flip_left (l B : List UInt8) (i : Nat) (h : i / 8 < l.length) : flip (l ++ B) i = flip l i ++ B := by
  unfold flip
  rw [List.set_append_left _ _ h]
  simp [List.getD_eq_getElem?_getD, List.getElem?_append_left h]
end Go.Proofs.YtcmalglippmocaaDoor.Pal
end

section
namespace Go.Proofs.YtcmalglippmocaaDoor.G
open Go.RowKit Go.Proofs.YtcmalglippmocaaDoorW.PrintWords Go.Proofs.YtcmalglippmocaaDoorW.PrintLast Go.Proofs.YtcmalglippmocaaDoorW.PrintMore
attribute [local go_sem] max2_int min2_int max_two min_two max_three min_three max_four min_four   -- for this text's walks alone
set_option linter.unusedVariables false
set_option linter.unusedSimpArgs false

/-! ### palanquinref01_Bytes: function 61 -/
def palanquinref01_Bytes.l0 : Nat → Int → Int → ByteArray → Int → Option (ByteArray)
  | 0, _, _, _, _ => none
  | k + 1, x0, x1, x5, x6 => if x6 < x1 then ((some (([(Int.tmod x0 256) % 256] : List Int) : List Int)).bind fun y172 => (if (strOfNums y172).size + x5.size ≤ 9223372036854775807 then (palanquinref01_Bytes.l0 k (IntKind.u64.wrap (Int.tdiv x0 256)) x1 ((strOfNums y172) ++ x5) (wrap64 (x6 + 1))) else (none))) else (some x5)
def palanquinref01_Bytes.f (k : Nat) (a0 : Int) (a1 : Int) : Option (ByteArray) := palanquinref01_Bytes.l0 k a0 a1 (⟨#[]⟩ : ByteArray) 0
theorem palanquinref01_Bytes.mono_l : ∀ k, (∀ y0 y1 y2 y3, LeO (palanquinref01_Bytes.l0 k y0 y1 y2 y3) (palanquinref01_Bytes.l0 (k + 1) y0 y1 y2 y3))
  | 0 => fun _ _ _ _ r h => by simp [palanquinref01_Bytes.l0] at h
  | k + 1 => by
    have ih0 := palanquinref01_Bytes.mono_l k
    · intro y0 y1 y2 y3
      unfold palanquinref01_Bytes.l0
      repeat' first
      | (with_reducible exact ih0 _ _ _ _)
      | (with_reducible exact LeO.refl _)
      | (with_reducible exact LeO.none _)
      | (with_reducible refine LeO.ite ?_ ?_)
      | (with_reducible refine LeO.bind ?_ (fun _ => ?_))
      | exact ih0 _ _ _ _
      | exact LeO.none _
      | refine LeO.ite ?_ ?_
      | refine LeO.bind ?_ (fun _ => ?_)
theorem palanquinref01_Bytes.mono : ∀ a0 a1 k, LeO (palanquinref01_Bytes.f k a0 a1) (palanquinref01_Bytes.f (k + 1) a0 a1) := by
  intro a0 a1 k
  have ih0 := palanquinref01_Bytes.mono_l k
  unfold palanquinref01_Bytes.f
  repeat' first
      | (with_reducible exact ih0 _ _ _ _)
      | (with_reducible exact LeO.refl _)
      | (with_reducible exact LeO.none _)
      | (with_reducible refine LeO.ite ?_ ?_)
      | (with_reducible refine LeO.bind ?_ (fun _ => ?_))
      | exact ih0 _ _ _ _
      | exact LeO.none _
      | refine LeO.ite ?_ ?_
      | refine LeO.bind ?_ (fun _ => ?_)
set_option maxHeartbeats 8000000 in
set_option maxRecDepth 100000 in
theorem palanquinref01_Bytes.calls (k : Nat) (a0 : Int) (a1 : Int) (r : ByteArray) (w : World) (h : palanquinref01_Bytes.f k a0 a1 = some r) :
    Calls Tryd.prog 61 #[.int .u64 a0, .int .i64 a1] w fun e w' => e = .returned (.string r) ∧ Below w.heap.size w w' := by
  have HB := Aside0.mk (Below.refl w.heap.size w)
  have H : (palanquinref01_Bytes.l0 k a0 a1 (⟨#[]⟩ : ByteArray) 0) = some r := h
  clear h
  have H' := Aside0.mk H
  clear H
  go_enter Tryd.func61, Tryd.ntmps61
  go_wp2
  go_loopg [0, 5, 6] k (fun kq v0 v5 v6 w' => ∃ (x0_1 : Int) (x5_1 : ByteArray) (x6_1 : Int), v0 = .int .u64 x0_1 ∧ v5 = .string x5_1 ∧ v6 = .int .i64 x6_1 ∧ Aside0 (palanquinref01_Bytes.l0 kq x0_1 a1 x5_1 x6_1 = some r) ∧ Aside0 (kq ≤ k) ∧ Aside0 (Below w.heap.size w w'))
  case atStart => exact ⟨(a0), ((⟨#[]⟩ : ByteArray)), (0), (by first | rfl | (simp; done) | (simp [*]; done)), (by first | rfl | (simp; done) | (simp [*]; done)), (by first | rfl | (simp; done) | (simp [*]; done)), H', ⟨Nat.le_refl _⟩, ⟨by repeat (first | (with_reducible first | exact HB.out | apply below_alloc | apply pw_below_drewN | apply below_drew1) | exact HB.out)⟩⟩
  case round =>
    clear H'
    try clear p2
    obtain ⟨x0_1, x5_1, x6_1, rfl, rfl, rfl, HA, HK1, HB⟩ := hrel
    cases gk with
    | zero => exact absurd HA.out (by simp [palanquinref01_Bytes.l0])
    | succ k1 =>
      have H := HA.out
      clear HA
      simp only [palanquinref01_Bytes.l0] at H
      by_cases c3 : x6_1 < a1
      · rw [if_pos c3] at H
        have c3b0 : decide (x6_1 < a1) = true := decide_eq_true c3
        clear c3
        obtain ⟨y172, hy172⟩ : ∃ y_ : List Int, y_ = (([(Int.tmod x0_1 256) % 256] : List Int)) := ⟨_, rfl⟩
        replace H : (if (strOfNums y172).size + x5_1.size ≤ 9223372036854775807 then (palanquinref01_Bytes.l0 k1 (IntKind.u64.wrap (Int.tdiv x0_1 256)) a1 ((strOfNums y172) ++ x5_1) (wrap64 (x6_1 + 1))) else (none)) = some r := by first | (rw [hy172]; with_reducible exact H) | (have H2_ := (Option.bind_some _ _).symm.trans H; rw [hy172]; with_reducible exact H2_) | (have H2_ := (Option.bind_some _ _).symm.trans H; with_reducible exact H2_) | with_reducible exact H | (rw [hy172]; exact H) | exact H
        have Ny172 := Aside0.mk hy172
        clear hy172
        by_cases c4 : (strOfNums y172).size + x5_1.size ≤ 9223372036854775807
        · rw [if_pos c4] at H
          have c4b0 := eq_true c4
          have c4b1 : decide ((strOfNums y172).size + x5_1.size ≤ 9223372036854775807) = true := decide_eq_true c4
          try have c4b2 : (9223372036854775807 < (strOfNums y172).size + x5_1.size) = False := eq_false (Nat.not_lt.2 c4)
          have H' := Aside0.mk H
          clear H
          go_wp2_with (first | ((with_reducible refine gate_dst (N := 15) rfl ?_); refine Kd.R_lit (Kd.int .u8) _ 5 ?hg (N := 15) ?hd (xs := ([(Int.tmod x0_1 256) % 256] : List Int)) (inner := [.int .u8 ((Int.tmod x0_1 256) % 256)]) (ok := fun _ => True) (okp := fun _ => True) ?hr ?hp (fun _ hk => hk) trivial (Below.refl _ _) (Nat.le_refl _) (by simp) ?_; (case hd => rfl); (case hg => rfl); (case hr => first | (go_simp; done) | (go_simp; rfl)); (case hp => exact (Reps.one (show Kd.M (Kd.int .u8) _ _ _ ((Int.tmod x0_1 256) % 256) [.int .u8 ((Int.tmod x0_1 256) % 256)] from rfl) (Reps.none _ _))); intro v173 w5 ho6 hb hg_ hnew_; clear hg_ hnew_; (first | rw [← Ny172.out] at ho6 | (simp only [Int.reduceToNat] at ho6; rw [← Ny172.out] at ho6)); have n0_ := Aside0.mk (Kd.R_lower ho6 (below_size (by repeat (first | (with_reducible first | exact HB.out | apply below_alloc | apply pw_below_drewN | apply below_drew1) | exact HB.out)))); have n1_ := Aside0.mk (below_step (by repeat (first | (with_reducible first | exact HB.out | apply below_alloc | apply pw_below_drewN | apply below_drew1) | exact HB.out)) hb); clear HB; have HO174 := n0_; have HB := n1_; clear n0_ n1_; clear hb ho6; have hcv7 := own_string (P := Tryd.prog) Tryd.underlying23 Tryd.underlying5 Tryd.underlying9 (Kd.own_of_R HO174.out)))
          go_roundg k1
          case measure => have := HK1.out; omega
          case rel => exact ⟨(IntKind.u64.wrap (Int.tdiv x0_1 256)), ((strOfNums y172) ++ x5_1), (wrap64 (x6_1 + 1)), (by first | rfl | (simp; done) | (simp [*]; done)), (by first | rfl | (simp; done) | (simp [*]; done)), (by first | rfl | (simp; done) | (simp [*]; done)), H', ⟨by have := HK1.out; omega⟩, ⟨by repeat (first | (with_reducible first | exact HB.out | apply below_alloc | apply pw_below_drewN | apply below_drew1) | exact HB.out)⟩⟩
        · rw [if_neg c4] at H
          exact absurd H (by simp)
      · rw [if_neg c3] at H
        have c3b0 : decide (x6_1 < a1) = false := decide_eq_false c3
        clear c3
        obtain rfl := Option.some.inj H
        go_wp2
        go_ret
        exact ⟨by first | rfl | (simp [errW_none, errW_some] <;> rfl) | (simp [*, errW_none, errW_some] <;> rfl), by repeat (first | (with_reducible first | exact HB.out | apply below_alloc | apply pw_below_drewN | apply below_drew1) | exact HB.out)⟩

/-! ### palanquinref01_Value: function 72 -/
def palanquinref01_Value.l0 : Nat → ByteArray → Int → Int → Option (Int)
  | 0, _, _, _ => none
  | k + 1, x0, x3, x4 => if x4 < (x0.size : Int) then (if 0 ≤ x4 then (palanquinref01_Value.l0 k x0 (IntKind.u64.wrap ((IntKind.u64.wrap (x3 * 256)) + (IntKind.u64.wrap (bt x0 x4)))) (wrap64 (x4 + 1))) else (none)) else (some x3)
def palanquinref01_Value.f (k : Nat) (a0 : ByteArray) : Option (Int) := palanquinref01_Value.l0 k a0 0 0
theorem palanquinref01_Value.mono_l : ∀ k, (∀ y0 y1 y2, LeO (palanquinref01_Value.l0 k y0 y1 y2) (palanquinref01_Value.l0 (k + 1) y0 y1 y2))
  | 0 => fun _ _ _ r h => by simp [palanquinref01_Value.l0] at h
  | k + 1 => by
    have ih0 := palanquinref01_Value.mono_l k
    · intro y0 y1 y2
      unfold palanquinref01_Value.l0
      repeat' first
      | (with_reducible exact ih0 _ _ _)
      | (with_reducible exact LeO.refl _)
      | (with_reducible exact LeO.none _)
      | (with_reducible refine LeO.ite ?_ ?_)
      | (with_reducible refine LeO.bind ?_ (fun _ => ?_))
      | exact ih0 _ _ _
      | exact LeO.none _
      | refine LeO.ite ?_ ?_
      | refine LeO.bind ?_ (fun _ => ?_)
theorem palanquinref01_Value.mono : ∀ a0 k, LeO (palanquinref01_Value.f k a0) (palanquinref01_Value.f (k + 1) a0) := by
  intro a0 k
  have ih0 := palanquinref01_Value.mono_l k
  unfold palanquinref01_Value.f
  repeat' first
      | (with_reducible exact ih0 _ _ _)
      | (with_reducible exact LeO.refl _)
      | (with_reducible exact LeO.none _)
      | (with_reducible refine LeO.ite ?_ ?_)
      | (with_reducible refine LeO.bind ?_ (fun _ => ?_))
      | exact ih0 _ _ _
      | exact LeO.none _
      | refine LeO.ite ?_ ?_
      | refine LeO.bind ?_ (fun _ => ?_)
set_option maxHeartbeats 8000000 in
set_option maxRecDepth 100000 in
theorem palanquinref01_Value.calls (k : Nat) (a0 : ByteArray) (r : Int) (w : World) (h : palanquinref01_Value.f k a0 = some r) :
    Calls Tryd.prog 72 #[.string a0] w fun e w' => e = .returned (.int .u64 r) ∧ Drawn0 w w' := by
  have H : (palanquinref01_Value.l0 k a0 0 0) = some r := h
  clear h
  have H' := Aside0.mk H
  clear H
  go_enter Tryd.func72, Tryd.ntmps72
  go_wp2
  go_loopg [3, 4] k (fun kq v3 v4 w' => ∃ (x3_1 : Int) (x4_1 : Int), v3 = .int .u64 x3_1 ∧ v4 = .int .i64 x4_1 ∧ Aside0 (palanquinref01_Value.l0 kq a0 x3_1 x4_1 = some r) ∧ Aside0 (kq ≤ k) ∧ Drawn0 w w')
  case atStart => exact ⟨(0), (0), (by first | rfl | (simp; done) | (simp [*]; done)), (by first | rfl | (simp; done) | (simp [*]; done)), H', ⟨Nat.le_refl _⟩, by repeat (first | exact Drawn0.refl _ | apply Drawn0.step)⟩
  case round =>
    clear H'
    obtain ⟨x3_1, x4_1, rfl, rfl, HA, HK1, ⟨m1, rfl⟩⟩ := hrel
    cases gk with
    | zero => exact absurd HA.out (by simp [palanquinref01_Value.l0])
    | succ k1 =>
      have H := HA.out
      clear HA
      simp only [palanquinref01_Value.l0] at H
      by_cases c2 : x4_1 < (a0.size : Int)
      · rw [if_pos c2] at H
        have c2b0 : decide (x4_1 < (a0.size : Int)) = true := decide_eq_true c2
        clear c2
        by_cases c3 : 0 ≤ x4_1
        · rw [if_pos c3] at H
          have c3b0 : decide (0 ≤ x4_1) = true := decide_eq_true c3
          clear c3
          have H' := Aside0.mk H
          clear H
          have p4 : 0 ≤ (x4_1 : Int) := of_decide_eq_true (by first | (with_reducible assumption) | assumption)
          have q4 : x4_1 < (a0.size : Int) := of_decide_eq_true (by first | (with_reducible assumption) | assumption)
          have hx4 := bt_at a0 x4_1
          replace p4 := eq_true p4
          replace q4 := eq_true q4
          go_wp2
          go_roundg k1
          case measure => have := HK1.out; omega
          case rel => exact ⟨(IntKind.u64.wrap ((IntKind.u64.wrap (x3_1 * 256)) + (IntKind.u64.wrap (bt a0 x4_1)))), (wrap64 (x4_1 + 1)), (by first | rfl | (simp; done) | (simp [*]; done)), (by first | rfl | (simp; done) | (simp [*]; done)), H', ⟨by have := HK1.out; omega⟩, by repeat (first | exact Drawn0.refl _ | apply Drawn0.step)⟩
        · rw [if_neg c3] at H
          exact absurd H (by simp)
      · rw [if_neg c2] at H
        have c2b0 : decide (x4_1 < (a0.size : Int)) = false := decide_eq_false c2
        clear c2
        obtain rfl := Option.some.inj H
        go_wp2
        go_ret
        exact ⟨by first | rfl | (simp; done) | (simp [*]; done), by repeat (first | exact Drawn0.refl _ | apply Drawn0.step)⟩

end Go.Proofs.YtcmalglippmocaaDoor.G
end

section
namespace Go.Proofs.YtcmalglippmocaaDoor.G
open Go.RowKit Go.Proofs.YtcmalglippmocaaDoorW.PrintWords Go.Proofs.YtcmalglippmocaaDoorW.PrintLast Go.Proofs.YtcmalglippmocaaDoorW.PrintMore
attribute [local go_sem] max2_int min2_int max_two min_two max_three min_three max_four min_four   -- for this text's walks alone
set_option linter.unusedVariables false
set_option linter.unusedSimpArgs false

/-! ### palanquinref02_down: function 103 -/
def palanquinref02_down.l0 : Nat → Int → Option (Int)
  | 0, _ => none
  | k + 1, x0 => if x0 ≥ 65536 then (palanquinref02_down.l0 k (wrap64 ((Int.tmod x0 65536) + (wrap64 (Int.tdiv x0 65536))))) else (some x0)
def palanquinref02_down.f (k : Nat) (a0 : Int) : Option (Int) := palanquinref02_down.l0 k a0
theorem palanquinref02_down.mono_l : ∀ k, (∀ y0, LeO (palanquinref02_down.l0 k y0) (palanquinref02_down.l0 (k + 1) y0))
  | 0 => fun _ r h => by simp [palanquinref02_down.l0] at h
  | k + 1 => by
    have ih0 := palanquinref02_down.mono_l k
    · intro y0
      unfold palanquinref02_down.l0
      repeat' first
      | (with_reducible exact ih0 _)
      | (with_reducible exact LeO.refl _)
      | (with_reducible exact LeO.none _)
      | (with_reducible refine LeO.ite ?_ ?_)
      | (with_reducible refine LeO.bind ?_ (fun _ => ?_))
      | exact ih0 _
      | exact LeO.none _
      | refine LeO.ite ?_ ?_
      | refine LeO.bind ?_ (fun _ => ?_)
theorem palanquinref02_down.mono : ∀ a0 k, LeO (palanquinref02_down.f k a0) (palanquinref02_down.f (k + 1) a0) := by
  intro a0 k
  have ih0 := palanquinref02_down.mono_l k
  unfold palanquinref02_down.f
  repeat' first
      | (with_reducible exact ih0 _)
      | (with_reducible exact LeO.refl _)
      | (with_reducible exact LeO.none _)
      | (with_reducible refine LeO.ite ?_ ?_)
      | (with_reducible refine LeO.bind ?_ (fun _ => ?_))
      | exact ih0 _
      | exact LeO.none _
      | refine LeO.ite ?_ ?_
      | refine LeO.bind ?_ (fun _ => ?_)
set_option maxHeartbeats 8000000 in
set_option maxRecDepth 100000 in
theorem palanquinref02_down.calls (k : Nat) (a0 : Int) (r : Int) (w : World) (h : palanquinref02_down.f k a0 = some r) :
    Calls Tryd.prog 103 #[.int .i64 a0] w fun e w' => e = .returned (.int .i64 r) ∧ Drawn0 w w' := by
  have H : (palanquinref02_down.l0 k a0) = some r := h
  clear h
  have H' := Aside0.mk H
  clear H
  go_enter Tryd.func103, Tryd.ntmps103
  go_wp2
  go_loopg [0] k (fun kq v0 w' => ∃ (x0_1 : Int), v0 = .int .i64 x0_1 ∧ Aside0 (palanquinref02_down.l0 kq x0_1 = some r) ∧ Aside0 (kq ≤ k) ∧ Drawn0 w w')
  case atStart => exact ⟨(a0), (by first | rfl | (simp; done) | (simp [*]; done)), H', ⟨Nat.le_refl _⟩, by repeat (first | exact Drawn0.refl _ | apply Drawn0.step)⟩
  case round =>
    clear H'
    try clear c1
    obtain ⟨x0_1, rfl, HA, HK1, ⟨m1, rfl⟩⟩ := hrel
    cases gk with
    | zero => exact absurd HA.out (by simp [palanquinref02_down.l0])
    | succ k1 =>
      have H := HA.out
      clear HA
      simp only [palanquinref02_down.l0] at H
      by_cases c2 : x0_1 ≥ 65536
      · rw [if_pos c2] at H
        have c2b0 : decide (65536 ≤ x0_1) = true := decide_eq_true c2
        clear c2
        have H' := Aside0.mk H
        clear H
        go_wp2
        go_roundg k1
        case measure => have := HK1.out; omega
        case rel => exact ⟨(wrap64 ((Int.tmod x0_1 65536) + (wrap64 (Int.tdiv x0_1 65536)))), (by first | rfl | (simp; done) | (simp [*]; done)), H', ⟨by have := HK1.out; omega⟩, by repeat (first | exact Drawn0.refl _ | apply Drawn0.step)⟩
      · rw [if_neg c2] at H
        have c2b0 : decide (65536 ≤ x0_1) = false := decide_eq_false c2
        clear c2
        obtain rfl := Option.some.inj H
        go_wp2
        go_ret
        exact ⟨by first | rfl | (simp; done) | (simp [*]; done), by repeat (first | exact Drawn0.refl _ | apply Drawn0.step)⟩

/-! ### palanquinref02_Sum: function 62 -/
mutual
def palanquinref02_Sum.j0 : Nat → ByteArray → Option (Int)
  | 0, _ => none
  | k + 1, x0 => palanquinref02_Sum.l0 k x0 0 0
def palanquinref02_Sum.l0 : Nat → ByteArray → Int → Int → Option (Int)
  | 0, _, _, _ => none
  | k + 1, x0, x3, x4 => if x4 < (x0.size : Int) then (if 0 ≤ x4 then (if 0 ≤ (wrap64 (x4 + 1)) then (if (wrap64 (x4 + 1)) < (x0.size : Int) then (palanquinref02_Sum.l0 k x0 (wrap64 ((wrap64 (x3 + (wrap64 ((wrap64 (bt x0 x4)) * 256)))) + (wrap64 (bt x0 (wrap64 (x4 + 1)))))) (wrap64 (x4 + 2))) else (none)) else (none)) else (none)) else ((palanquinref02_down.f k x3).bind fun t178 => (some (wrap64 (65535 - t178))))
end
def palanquinref02_Sum.f (k : Nat) (a0 : ByteArray) : Option (Int) := if ((a0.size : Int) % 2) = 1 then ((some (([0] : List Int) : List Int)).bind fun y175 => (if a0.size + (strOfNums y175).size ≤ 9223372036854775807 then (palanquinref02_Sum.j0 k (a0 ++ (strOfNums y175))) else (none))) else (palanquinref02_Sum.j0 k a0)
theorem palanquinref02_Sum.mono_l : ∀ k, (∀ y0, LeO (palanquinref02_Sum.j0 k y0) (palanquinref02_Sum.j0 (k + 1) y0)) ∧ (∀ y0 y1 y2, LeO (palanquinref02_Sum.l0 k y0 y1 y2) (palanquinref02_Sum.l0 (k + 1) y0 y1 y2))
  | 0 => ⟨fun _ r h => by simp [palanquinref02_Sum.j0] at h, fun _ _ _ r h => by simp [palanquinref02_Sum.l0] at h⟩
  | k + 1 => by
    obtain ⟨ih0, ih1⟩ := palanquinref02_Sum.mono_l k
    refine ⟨?_, ?_⟩
    · intro y0
      unfold palanquinref02_Sum.j0
      repeat' first
      | (with_reducible exact ih0 _)
      | (with_reducible exact ih1 _ _ _)
      | (with_reducible exact palanquinref02_down.mono _ _)
      | (with_reducible exact LeO.refl _)
      | (with_reducible exact LeO.none _)
      | (with_reducible refine LeO.ite ?_ ?_)
      | (with_reducible refine LeO.bind ?_ (fun _ => ?_))
      | exact ih0 _
      | exact ih1 _ _ _
      | exact palanquinref02_down.mono _ _
      | exact LeO.none _
      | refine LeO.ite ?_ ?_
      | refine LeO.bind ?_ (fun _ => ?_)
    · intro y0 y1 y2
      unfold palanquinref02_Sum.l0
      repeat' first
      | (with_reducible exact ih0 _)
      | (with_reducible exact ih1 _ _ _)
      | (with_reducible exact palanquinref02_down.mono _ _)
      | (with_reducible exact LeO.refl _)
      | (with_reducible exact LeO.none _)
      | (with_reducible refine LeO.ite ?_ ?_)
      | (with_reducible refine LeO.bind ?_ (fun _ => ?_))
      | exact ih0 _
      | exact ih1 _ _ _
      | exact palanquinref02_down.mono _ _
      | exact LeO.none _
      | refine LeO.ite ?_ ?_
      | refine LeO.bind ?_ (fun _ => ?_)
theorem palanquinref02_Sum.mono : ∀ a0 k, LeO (palanquinref02_Sum.f k a0) (palanquinref02_Sum.f (k + 1) a0) := by
  intro a0 k
  obtain ⟨ih0, ih1⟩ := palanquinref02_Sum.mono_l k
  unfold palanquinref02_Sum.f
  repeat' first
      | (with_reducible exact ih0 _)
      | (with_reducible exact ih1 _ _ _)
      | (with_reducible exact palanquinref02_down.mono _ _)
      | (with_reducible exact LeO.refl _)
      | (with_reducible exact LeO.none _)
      | (with_reducible refine LeO.ite ?_ ?_)
      | (with_reducible refine LeO.bind ?_ (fun _ => ?_))
      | exact ih0 _
      | exact ih1 _ _ _
      | exact palanquinref02_down.mono _ _
      | exact LeO.none _
      | refine LeO.ite ?_ ?_
      | refine LeO.bind ?_ (fun _ => ?_)
set_option maxHeartbeats 8000000 in
set_option maxRecDepth 100000 in
theorem palanquinref02_Sum.calls (k : Nat) (a0 : ByteArray) (r : Int) (w : World) (h : palanquinref02_Sum.f k a0 = some r) :
    Calls Tryd.prog 62 #[.string a0] w fun e w' => e = .returned (.int .i64 r) ∧ Below w.heap.size w w' := by
  have HB := Aside0.mk (Below.refl w.heap.size w)
  have H : (if ((a0.size : Int) % 2) = 1 then ((some (([0] : List Int) : List Int)).bind fun y175 => (if a0.size + (strOfNums y175).size ≤ 9223372036854775807 then (palanquinref02_Sum.j0 k (a0 ++ (strOfNums y175))) else (none))) else (palanquinref02_Sum.j0 k a0)) = some r := h
  clear h
  have HC2 := Aside0.mk H
  clear H
  go_enter Tryd.func62, Tryd.ntmps62
  go_upto_if 8 with (fail)
  repeat (go_quiet (fail); go_upto_if 8 with (fail))
  go_cut [0] (fun v0 wc => ∃ (kq : Nat) (x0_1 : ByteArray), v0 = .string x0_1 ∧ Aside0 (palanquinref02_Sum.j0 kq x0_1 = some r) ∧ Aside0 (kq ≤ k) ∧ Aside0 (Below w.heap.size w wc))
  case first =>
    have H := HC2.out
    clear HC2
    by_cases c3 : ((a0.size : Int) % 2) = 1
    · rw [if_pos c3] at H
      have c3b0 : (((a0.size : Int) % 2) == 1) = true := beq_iff_eq.mpr c3
      have c3b1 : (((a0.size : Int) % 2) != 1) = false := bne_eq_false_iff_eq.mpr c3
      clear c3
      (first | rw [c3b0] | (simp only [i64_w, i32_w]; rw [c3b0]) | skip)
      obtain ⟨y175, hy175⟩ : ∃ y_ : List Int, y_ = (([0] : List Int)) := ⟨_, rfl⟩
      replace H : (if a0.size + (strOfNums y175).size ≤ 9223372036854775807 then (palanquinref02_Sum.j0 k (a0 ++ (strOfNums y175))) else (none)) = some r := by first | (rw [hy175]; with_reducible exact H) | (have H2_ := (Option.bind_some _ _).symm.trans H; rw [hy175]; with_reducible exact H2_) | (have H2_ := (Option.bind_some _ _).symm.trans H; with_reducible exact H2_) | with_reducible exact H | (rw [hy175]; exact H) | exact H
      have Ny175 := Aside0.mk hy175
      clear hy175
      by_cases c4 : a0.size + (strOfNums y175).size ≤ 9223372036854775807
      · rw [if_pos c4] at H
        have c4b0 := eq_true c4
        have c4b1 : decide (a0.size + (strOfNums y175).size ≤ 9223372036854775807) = true := decide_eq_true c4
        try have c4b2 : (9223372036854775807 < a0.size + (strOfNums y175).size) = False := eq_false (Nat.not_lt.2 c4)
        have H' := Aside0.mk H
        clear H
        go_wp2_with (first | ((with_reducible refine gate_dst (N := 10) rfl ?_); refine Kd.R_lit (Kd.int .u8) _ 5 ?hg (N := 10) ?hd (xs := ([0] : List Int)) (inner := [.int .u8 0]) (ok := fun _ => True) (okp := fun _ => True) ?hr ?hp (fun _ hk => hk) trivial (Below.refl _ _) (Nat.le_refl _) (by simp) ?_; (case hd => rfl); (case hg => rfl); (case hr => first | (go_simp; done) | (go_simp; rfl)); (case hp => exact (Reps.one (show Kd.M (Kd.int .u8) _ _ _ 0 [.int .u8 0] from rfl) (Reps.none _ _))); intro v176 w5 ho6 hb hg_ hnew_; clear hg_ hnew_; (first | rw [← Ny175.out] at ho6 | (simp only [Int.reduceToNat] at ho6; rw [← Ny175.out] at ho6)); have n0_ := Aside0.mk (Kd.R_lower ho6 (below_size (by repeat (first | (with_reducible first | exact HB.out | apply below_alloc | apply pw_below_drewN | apply below_drew1) | exact HB.out)))); have n1_ := Aside0.mk (below_step (by repeat (first | (with_reducible first | exact HB.out | apply below_alloc | apply pw_below_drewN | apply below_drew1) | exact HB.out)) hb); clear HB; have HO177 := n0_; have HB := n1_; clear n0_ n1_; clear hb ho6; have hcv7 := own_string (P := Tryd.prog) Tryd.underlying23 Tryd.underlying5 Tryd.underlying9 (Kd.own_of_R HO177.out)))
        repeat (go_quiet (first | ((with_reducible refine gate_dst (N := 10) rfl ?_); refine Kd.R_lit (Kd.int .u8) _ 5 ?hg (N := 10) ?hd (xs := ([0] : List Int)) (inner := [.int .u8 0]) (ok := fun _ => True) (okp := fun _ => True) ?hr ?hp (fun _ hk => hk) trivial (Below.refl _ _) (Nat.le_refl _) (by simp) ?_; (case hd => rfl); (case hg => rfl); (case hr => first | (go_simp; done) | (go_simp; rfl)); (case hp => exact (Reps.one (show Kd.M (Kd.int .u8) _ _ _ 0 [.int .u8 0] from rfl) (Reps.none _ _))); intro v176 w5 ho6 hb hg_ hnew_; clear hg_ hnew_; (first | rw [← Ny175.out] at ho6 | (simp only [Int.reduceToNat] at ho6; rw [← Ny175.out] at ho6)); have n0_ := Aside0.mk (Kd.R_lower ho6 (below_size (by repeat (first | (with_reducible first | exact HB.out | apply below_alloc | apply pw_below_drewN | apply below_drew1) | exact HB.out)))); have n1_ := Aside0.mk (below_step (by repeat (first | (with_reducible first | exact HB.out | apply below_alloc | apply pw_below_drewN | apply below_drew1) | exact HB.out)) hb); clear HB; have HO177 := n0_; have HB := n1_; clear n0_ n1_; clear hb ho6; have hcv7 := own_string (P := Tryd.prog) Tryd.underlying23 Tryd.underlying5 Tryd.underlying9 (Kd.own_of_R HO177.out))); try go_wp2_with (first | ((with_reducible refine gate_dst (N := 10) rfl ?_); refine Kd.R_lit (Kd.int .u8) _ 5 ?hg (N := 10) ?hd (xs := ([0] : List Int)) (inner := [.int .u8 0]) (ok := fun _ => True) (okp := fun _ => True) ?hr ?hp (fun _ hk => hk) trivial (Below.refl _ _) (Nat.le_refl _) (by simp) ?_; (case hd => rfl); (case hg => rfl); (case hr => first | (go_simp; done) | (go_simp; rfl)); (case hp => exact (Reps.one (show Kd.M (Kd.int .u8) _ _ _ 0 [.int .u8 0] from rfl) (Reps.none _ _))); intro v176 w5 ho6 hb hg_ hnew_; clear hg_ hnew_; (first | rw [← Ny175.out] at ho6 | (simp only [Int.reduceToNat] at ho6; rw [← Ny175.out] at ho6)); have n0_ := Aside0.mk (Kd.R_lower ho6 (below_size (by repeat (first | (with_reducible first | exact HB.out | apply below_alloc | apply pw_below_drewN | apply below_drew1) | exact HB.out)))); have n1_ := Aside0.mk (below_step (by repeat (first | (with_reducible first | exact HB.out | apply below_alloc | apply pw_below_drewN | apply below_drew1) | exact HB.out)) hb); clear HB; have HO177 := n0_; have HB := n1_; clear n0_ n1_; clear hb ho6; have hcv7 := own_string (P := Tryd.prog) Tryd.underlying23 Tryd.underlying5 Tryd.underlying9 (Kd.own_of_R HO177.out))))
        go_meet
        case rel => exact ⟨_, (a0 ++ (strOfNums y175)), (by first | rfl | (simp; done) | (simp [*]; done)), H', ⟨by first | omega | exact Nat.le_refl _⟩, ⟨by repeat (first | (with_reducible first | exact HB.out | apply below_alloc | apply pw_below_drewN | apply below_drew1) | exact HB.out)⟩⟩
      · rw [if_neg c4] at H
        exact absurd H (by simp)
    · rw [if_neg c3] at H
      have c3b0 : (((a0.size : Int) % 2) == 1) = false := beq_eq_false_iff_ne.mpr c3
      have c3b1 : (((a0.size : Int) % 2) != 1) = true := bne_iff_ne.mpr c3
      (first | rw [c3b0] | (simp only [i64_w, i32_w]; rw [c3b0]) | skip)
      have H' := Aside0.mk H
      clear H
      go_wp2
      repeat (go_quiet (fail); try go_wp2)
      go_meet
      case rel => exact ⟨_, (a0), (by first | rfl | (simp; done) | (simp [*]; done)), H', ⟨by first | omega | exact Nat.le_refl _⟩, ⟨by repeat (first | (with_reducible first | exact HB.out | apply below_alloc | apply pw_below_drewN | apply below_drew1) | exact HB.out)⟩⟩
  case rest =>
    clear HC2
    try clear p2
    try clear c3
    try clear c3b0
    try clear c3b1
    try clear c4
    try clear c4b0
    try clear c4b1
    try clear c4b2
    try clear c6
    try clear hcv7
    obtain ⟨kq, x0_1, rfl, HA, HJ1, HB⟩ := hcut
    cases kq with
    | zero => exact absurd HA.out (by simp [palanquinref02_Sum.j0])
    | succ kj1 =>
      have H := HA.out
      clear HA
      simp only [palanquinref02_Sum.j0] at H
      have H' := Aside0.mk H
      clear H
      go_wp2
      repeat (go_quiet (fail); try go_wp2)
      go_loopg [3, 4] kj1 (fun kq v3 v4 w' => ∃ (x3_2 : Int) (x4_2 : Int), v3 = .int .i64 x3_2 ∧ v4 = .int .i64 x4_2 ∧ Aside0 (palanquinref02_Sum.l0 kq x0_1 x3_2 x4_2 = some r) ∧ Aside0 (kq ≤ kj1) ∧ Aside0 (Below w.heap.size w w'))
      case atStart => exact ⟨(0), (0), (by first | rfl | (simp; done) | (simp [*]; done)), (by first | rfl | (simp; done) | (simp [*]; done)), H', ⟨Nat.le_refl _⟩, ⟨by repeat (first | (with_reducible first | exact HB.out | apply below_alloc | apply pw_below_drewN | apply below_drew1) | exact HB.out)⟩⟩
      case round =>
        clear H'
        try clear p2
        try clear c3
        try clear c3b0
        try clear c3b1
        try clear c4
        try clear c4b0
        try clear c4b1
        try clear c4b2
        try clear c6
        try clear hcv7
        try clear p2
        obtain ⟨x3_2, x4_2, rfl, rfl, HA, HK2, HB⟩ := hrel
        cases gk with
        | zero => exact absurd HA.out (by simp [palanquinref02_Sum.l0])
        | succ k2 =>
          have H := HA.out
          clear HA
          simp only [palanquinref02_Sum.l0] at H
          by_cases c8 : x4_2 < (x0_1.size : Int)
          · rw [if_pos c8] at H
            have c8b0 : decide (x4_2 < (x0_1.size : Int)) = true := decide_eq_true c8
            clear c8
            by_cases c9 : 0 ≤ x4_2
            · rw [if_pos c9] at H
              have c9b0 : decide (0 ≤ x4_2) = true := decide_eq_true c9
              clear c9
              obtain ⟨ji11, hji11⟩ : ∃ j_ : Int, (wrap64 (x4_2 + 1)) = j_ := ⟨_, rfl⟩
              replace H : (if 0 ≤ (ji11) then (if (ji11) < (x0_1.size : Int) then (palanquinref02_Sum.l0 k2 x0_1 (wrap64 ((wrap64 (x3_2 + (wrap64 ((wrap64 (bt x0_1 x4_2)) * 256)))) + (wrap64 (bt x0_1 (ji11))))) (wrap64 (x4_2 + 2))) else (none)) else (none)) = some r := by first | (rw [hji11] at H; exact H) | (simp only [hji11] at H ⊢; exact H)
              have hji11w : (IntKind.i64.wrap (x4_2 + 1)) = ji11 := (i64_w _).trans hji11
              by_cases c12 : 0 ≤ (ji11)
              · rw [if_pos c12] at H
                have c12b0 : decide (0 ≤ (ji11)) = true := decide_eq_true c12
                clear c12
                by_cases c13 : (ji11) < (x0_1.size : Int)
                · rw [if_pos c13] at H
                  have c13b0 : decide ((ji11) < (x0_1.size : Int)) = true := decide_eq_true c13
                  clear c13
                  have H' := Aside0.mk H
                  clear H
                  have p10 : 0 ≤ (x4_2 : Int) := of_decide_eq_true (by first | (with_reducible assumption) | assumption)
                  have q10 : x4_2 < (x0_1.size : Int) := of_decide_eq_true (by first | (with_reducible assumption) | assumption)
                  have hx10 := bt_at x0_1 x4_2
                  replace p10 := eq_true p10
                  replace q10 := eq_true q10
                  have p14 : 0 ≤ ((ji11) : Int) := of_decide_eq_true (by first | (with_reducible assumption) | assumption)
                  have q14 : (ji11) < (x0_1.size : Int) := of_decide_eq_true (by first | (with_reducible assumption) | assumption)
                  have hx14 := bt_at x0_1 (ji11)
                  replace p14 := eq_true p14
                  replace q14 := eq_true q14
                  go_wp2
                  repeat (go_quiet (fail); try go_wp2)
                  go_roundg k2
                  case measure => have := HJ1.out; have := HK2.out; omega
                  case rel => exact ⟨(wrap64 ((wrap64 (x3_2 + (wrap64 ((wrap64 (bt x0_1 x4_2)) * 256)))) + (wrap64 (bt x0_1 (ji11))))), (wrap64 (x4_2 + 2)), (by first | rfl | (simp; done) | (simp only [← hji11] <;> (first | rfl | simp)) | (simp [*]; done)), (by first | rfl | (simp; done) | (simp [*]; done)), H', ⟨by have := HJ1.out; have := HK2.out; omega⟩, ⟨by repeat (first | (with_reducible first | exact HB.out | apply below_alloc | apply pw_below_drewN | apply below_drew1) | exact HB.out)⟩⟩
                · rw [if_neg c13] at H
                  exact absurd H (by simp)
              · rw [if_neg c12] at H
                exact absurd H (by simp)
            · rw [if_neg c9] at H
              exact absurd H (by simp)
          · rw [if_neg c8] at H
            have c8b0 : decide (x4_2 < (x0_1.size : Int)) = false := decide_eq_false c8
            clear c8
            replace H := Option.bind_eq_some_iff.mp H
            obtain ⟨t178, A150, H⟩ := H
            replace H : (some (wrap64 (65535 - t178))) = some r := H
            have A15 := Aside0.mk A150
            clear A150
            obtain rfl := Option.some.inj H
            go_wp2_with (first | (go_at_call 103; (with_reducible refine (palanquinref02_down.calls k2 x3_2 t178 _ A15.out).mono ?_); rintro e w' ⟨rfl, ⟨nd, rfl⟩⟩; (try first | exact ⟨rfl, _, World.drewN_drewN _ _ _⟩ | exact ⟨rfl, _, Eq.trans (World.drewN_drewN _ _ _) (congrArg (World.drewN _) (Nat.add_assoc _ _ _))⟩)))
            repeat (go_quiet (first | (go_at_call 103; (with_reducible refine (palanquinref02_down.calls k2 x3_2 t178 _ A15.out).mono ?_); rintro e w' ⟨rfl, ⟨nd, rfl⟩⟩; (try first | exact ⟨rfl, _, World.drewN_drewN _ _ _⟩ | exact ⟨rfl, _, Eq.trans (World.drewN_drewN _ _ _) (congrArg (World.drewN _) (Nat.add_assoc _ _ _))⟩))); try go_wp2_with (first | (go_at_call 103; (with_reducible refine (palanquinref02_down.calls k2 x3_2 t178 _ A15.out).mono ?_); rintro e w' ⟨rfl, ⟨nd, rfl⟩⟩; (try first | exact ⟨rfl, _, World.drewN_drewN _ _ _⟩ | exact ⟨rfl, _, Eq.trans (World.drewN_drewN _ _ _) (congrArg (World.drewN _) (Nat.add_assoc _ _ _))⟩))))
            go_ret
            exact ⟨by first | rfl | (simp [errW_none, errW_some] <;> rfl) | (simp [*, errW_none, errW_some] <;> rfl), by repeat (first | (with_reducible first | exact HB.out | apply below_alloc | apply pw_below_drewN | apply below_drew1) | exact HB.out)⟩

/-! ### palanquinref02_Pseudo: function 81 -/
def palanquinref02_Pseudo.f (k : Nat) (a0 : ByteArray) (a1 : ByteArray) (a2 : Int) (a3 : Int) : Option (ByteArray) := if (a0.size : Int) = 16 then (if a0.size + a1.size ≤ 9223372036854775807 then ((palanquinref01_Bytes.f k (IntKind.u64.wrap (a3)) 4).bind fun t274 => (if (a0 ++ a1).size + t274.size ≤ 9223372036854775807 then ((palanquinref01_Bytes.f k (IntKind.u64.wrap (Go.bits .and .i64 a2 255)) 4).bind fun t275 => (if ((a0 ++ a1) ++ t274).size + t275.size ≤ 9223372036854775807 then (some (((a0 ++ a1) ++ t274) ++ t275)) else (none))) else (none))) else (none)) else (if a0.size + a1.size ≤ 9223372036854775807 then ((palanquinref01_Bytes.f k (IntKind.u64.wrap (Go.bits .and .i64 a2 255)) 2).bind fun t276 => (if (a0 ++ a1).size + t276.size ≤ 9223372036854775807 then ((palanquinref01_Bytes.f k (IntKind.u64.wrap (a3)) 2).bind fun t277 => (if ((a0 ++ a1) ++ t276).size + t277.size ≤ 9223372036854775807 then (some (((a0 ++ a1) ++ t276) ++ t277)) else (none))) else (none))) else (none))
theorem palanquinref02_Pseudo.mono : ∀ a0 a1 a2 a3 k, LeO (palanquinref02_Pseudo.f k a0 a1 a2 a3) (palanquinref02_Pseudo.f (k + 1) a0 a1 a2 a3) := by
  intro a0 a1 a2 a3 k
  unfold palanquinref02_Pseudo.f
  repeat' first
      | (with_reducible exact palanquinref01_Bytes.mono _ _ _)
      | (with_reducible exact LeO.refl _)
      | (with_reducible exact LeO.none _)
      | (with_reducible refine LeO.ite ?_ ?_)
      | (with_reducible refine LeO.bind ?_ (fun _ => ?_))
      | exact palanquinref01_Bytes.mono _ _ _
      | exact LeO.none _
      | refine LeO.ite ?_ ?_
      | refine LeO.bind ?_ (fun _ => ?_)
set_option maxHeartbeats 8000000 in
set_option maxRecDepth 100000 in
theorem palanquinref02_Pseudo.calls (k : Nat) (a0 : ByteArray) (a1 : ByteArray) (a2 : Int) (a3 : Int) (r : ByteArray) (w : World) (h : palanquinref02_Pseudo.f k a0 a1 a2 a3 = some r) :
    Calls Tryd.prog 81 #[.string a0, .string a1, .int .i64 a2, .int .i64 a3] w fun e w' => e = .returned (.string r) ∧ Below w.heap.size w w' := by
  have HB := Aside0.mk (Below.refl w.heap.size w)
  have H : (if (a0.size : Int) = 16 then (if a0.size + a1.size ≤ 9223372036854775807 then ((palanquinref01_Bytes.f k (IntKind.u64.wrap (a3)) 4).bind fun t274 => (if (a0 ++ a1).size + t274.size ≤ 9223372036854775807 then ((palanquinref01_Bytes.f k (IntKind.u64.wrap (Go.bits .and .i64 a2 255)) 4).bind fun t275 => (if ((a0 ++ a1) ++ t274).size + t275.size ≤ 9223372036854775807 then (some (((a0 ++ a1) ++ t274) ++ t275)) else (none))) else (none))) else (none)) else (if a0.size + a1.size ≤ 9223372036854775807 then ((palanquinref01_Bytes.f k (IntKind.u64.wrap (Go.bits .and .i64 a2 255)) 2).bind fun t276 => (if (a0 ++ a1).size + t276.size ≤ 9223372036854775807 then ((palanquinref01_Bytes.f k (IntKind.u64.wrap (a3)) 2).bind fun t277 => (if ((a0 ++ a1) ++ t276).size + t277.size ≤ 9223372036854775807 then (some (((a0 ++ a1) ++ t276) ++ t277)) else (none))) else (none))) else (none))) = some r := h
  clear h
  by_cases c5 : (a0.size : Int) = 16
  · rw [if_pos c5] at H
    have c5b0 : ((a0.size : Int) == 16) = true := beq_iff_eq.mpr c5
    have c5b1 : ((a0.size : Int) != 16) = false := bne_eq_false_iff_eq.mpr c5
    clear c5
    by_cases c6 : a0.size + a1.size ≤ 9223372036854775807
    · rw [if_pos c6] at H
      have c6b0 := eq_true c6
      have c6b1 : decide (a0.size + a1.size ≤ 9223372036854775807) = true := decide_eq_true c6
      try have c6b2 : (9223372036854775807 < a0.size + a1.size) = False := eq_false (Nat.not_lt.2 c6)
      replace H := Option.bind_eq_some_iff.mp H
      obtain ⟨t274, A70, H⟩ := H
      replace H : (if (a0 ++ a1).size + t274.size ≤ 9223372036854775807 then ((palanquinref01_Bytes.f k (IntKind.u64.wrap (Go.bits .and .i64 a2 255)) 4).bind fun t275 => (if ((a0 ++ a1) ++ t274).size + t275.size ≤ 9223372036854775807 then (some (((a0 ++ a1) ++ t274) ++ t275)) else (none))) else (none)) = some r := H
      have A7 := Aside0.mk A70
      clear A70
      by_cases c8 : (a0 ++ a1).size + t274.size ≤ 9223372036854775807
      · rw [if_pos c8] at H
        have c8b0 := eq_true c8
        have c8b1 : decide ((a0 ++ a1).size + t274.size ≤ 9223372036854775807) = true := decide_eq_true c8
        try have c8b2 : (9223372036854775807 < (a0 ++ a1).size + t274.size) = False := eq_false (Nat.not_lt.2 c8)
        try have c8b3 : (9223372036854775807 < (a0.size) + (a1.size) + t274.size) = False := eq_false (by have h_ := c8; simp only [ByteArray.size_append] at h_; omega)
        try have c8b4 : ((a0.size) + (a1.size) + t274.size ≤ 9223372036854775807) = True := eq_true (by have h_ := c8; simp only [ByteArray.size_append] at h_; omega)
        replace H := Option.bind_eq_some_iff.mp H
        obtain ⟨t275, A90, H⟩ := H
        replace H : (if ((a0 ++ a1) ++ t274).size + t275.size ≤ 9223372036854775807 then (some (((a0 ++ a1) ++ t274) ++ t275)) else (none)) = some r := H
        have A9 := Aside0.mk A90
        clear A90
        by_cases c10 : ((a0 ++ a1) ++ t274).size + t275.size ≤ 9223372036854775807
        · rw [if_pos c10] at H
          have c10b0 := eq_true c10
          have c10b1 : decide (((a0 ++ a1) ++ t274).size + t275.size ≤ 9223372036854775807) = true := decide_eq_true c10
          try have c10b2 : (9223372036854775807 < ((a0 ++ a1) ++ t274).size + t275.size) = False := eq_false (Nat.not_lt.2 c10)
          try have c10b3 : (9223372036854775807 < (a0.size) + (a1.size) + (t274.size) + t275.size) = False := eq_false (by have h_ := c10; simp only [ByteArray.size_append] at h_; omega)
          try have c10b4 : ((a0.size) + (a1.size) + (t274.size) + t275.size ≤ 9223372036854775807) = True := eq_true (by have h_ := c10; simp only [ByteArray.size_append] at h_; omega)
          obtain rfl := Option.some.inj H
          go_enter Tryd.func81, Tryd.ntmps81
          go_wp2_with (first | ((with_reducible refine gate_callee (f := 61) rfl ?_); refine goesL_ (some 17) rfl rfl Tryd.func61 (by kernel_rfl) rfl #[.int .u64 (IntKind.u64.wrap (a3)), .int .i64 4] rfl (by (try simp only [List.map_toArray, List.map_cons, List.map_nil]); first | done | rfl | (simp only [List.length_drop, List.length_take]; rfl)) ?_; (with_reducible refine (palanquinref01_Bytes.calls k (IntKind.u64.wrap (a3)) 4 t274 _ A7.out).mono ?_); rintro e w11 ⟨rfl, hb⟩; refine ⟨_, rfl, ?_⟩; have n0_ := Aside0.mk (below_step (by repeat (first | (with_reducible first | exact HB.out | apply below_alloc | apply pw_below_drewN | apply below_drew1) | exact HB.out)) hb); clear HB; have HB := n0_; clear n0_; (try clear hb); (try clear hb2); (try clear hk); (try clear hi)) | ((with_reducible refine gate_callee (f := 61) rfl ?_); refine goesL_ (some 22) rfl rfl Tryd.func61 (by kernel_rfl) rfl #[.int .u64 (IntKind.u64.wrap (Go.bits .and .i64 a2 255)), .int .i64 4] rfl (by (try simp only [List.map_toArray, List.map_cons, List.map_nil]); first | done | rfl | (simp only [List.length_drop, List.length_take]; rfl)) ?_; (with_reducible refine (palanquinref01_Bytes.calls k (IntKind.u64.wrap (Go.bits .and .i64 a2 255)) 4 t275 _ A9.out).mono ?_); rintro e w12 ⟨rfl, hb⟩; refine ⟨_, rfl, ?_⟩; have n0_ := Aside0.mk (below_step (by repeat (first | (with_reducible first | exact HB.out | apply below_alloc | apply pw_below_drewN | apply below_drew1) | exact HB.out)) hb); clear HB; have HB := n0_; clear n0_; (try clear hb); (try clear hb2); (try clear hk); (try clear hi)))
          go_ret
          exact ⟨by first | rfl | (simp [errW_none, errW_some] <;> rfl) | (simp [*, errW_none, errW_some] <;> rfl), by repeat (first | (with_reducible first | exact HB.out | apply below_alloc | apply pw_below_drewN | apply below_drew1) | exact HB.out)⟩
        · rw [if_neg c10] at H
          exact absurd H (by simp)
      · rw [if_neg c8] at H
        exact absurd H (by simp)
    · rw [if_neg c6] at H
      exact absurd H (by simp)
  · rw [if_neg c5] at H
    have c5b0 : ((a0.size : Int) == 16) = false := beq_eq_false_iff_ne.mpr c5
    have c5b1 : ((a0.size : Int) != 16) = true := bne_iff_ne.mpr c5
    by_cases c13 : a0.size + a1.size ≤ 9223372036854775807
    · rw [if_pos c13] at H
      have c13b0 := eq_true c13
      have c13b1 : decide (a0.size + a1.size ≤ 9223372036854775807) = true := decide_eq_true c13
      try have c13b2 : (9223372036854775807 < a0.size + a1.size) = False := eq_false (Nat.not_lt.2 c13)
      replace H := Option.bind_eq_some_iff.mp H
      obtain ⟨t276, A140, H⟩ := H
      replace H : (if (a0 ++ a1).size + t276.size ≤ 9223372036854775807 then ((palanquinref01_Bytes.f k (IntKind.u64.wrap (a3)) 2).bind fun t277 => (if ((a0 ++ a1) ++ t276).size + t277.size ≤ 9223372036854775807 then (some (((a0 ++ a1) ++ t276) ++ t277)) else (none))) else (none)) = some r := H
      have A14 := Aside0.mk A140
      clear A140
      by_cases c15 : (a0 ++ a1).size + t276.size ≤ 9223372036854775807
      · rw [if_pos c15] at H
        have c15b0 := eq_true c15
        have c15b1 : decide ((a0 ++ a1).size + t276.size ≤ 9223372036854775807) = true := decide_eq_true c15
        try have c15b2 : (9223372036854775807 < (a0 ++ a1).size + t276.size) = False := eq_false (Nat.not_lt.2 c15)
        try have c15b3 : (9223372036854775807 < (a0.size) + (a1.size) + t276.size) = False := eq_false (by have h_ := c15; simp only [ByteArray.size_append] at h_; omega)
        try have c15b4 : ((a0.size) + (a1.size) + t276.size ≤ 9223372036854775807) = True := eq_true (by have h_ := c15; simp only [ByteArray.size_append] at h_; omega)
        replace H := Option.bind_eq_some_iff.mp H
        obtain ⟨t277, A160, H⟩ := H
        replace H : (if ((a0 ++ a1) ++ t276).size + t277.size ≤ 9223372036854775807 then (some (((a0 ++ a1) ++ t276) ++ t277)) else (none)) = some r := H
        have A16 := Aside0.mk A160
        clear A160
        by_cases c17 : ((a0 ++ a1) ++ t276).size + t277.size ≤ 9223372036854775807
        · rw [if_pos c17] at H
          have c17b0 := eq_true c17
          have c17b1 : decide (((a0 ++ a1) ++ t276).size + t277.size ≤ 9223372036854775807) = true := decide_eq_true c17
          try have c17b2 : (9223372036854775807 < ((a0 ++ a1) ++ t276).size + t277.size) = False := eq_false (Nat.not_lt.2 c17)
          try have c17b3 : (9223372036854775807 < (a0.size) + (a1.size) + (t276.size) + t277.size) = False := eq_false (by have h_ := c17; simp only [ByteArray.size_append] at h_; omega)
          try have c17b4 : ((a0.size) + (a1.size) + (t276.size) + t277.size ≤ 9223372036854775807) = True := eq_true (by have h_ := c17; simp only [ByteArray.size_append] at h_; omega)
          obtain rfl := Option.some.inj H
          go_enter Tryd.func81, Tryd.ntmps81
          go_wp2_with (first | ((with_reducible refine gate_callee (f := 61) rfl ?_); refine goesL_ (some 30) rfl rfl Tryd.func61 (by kernel_rfl) rfl #[.int .u64 (IntKind.u64.wrap (Go.bits .and .i64 a2 255)), .int .i64 2] rfl (by (try simp only [List.map_toArray, List.map_cons, List.map_nil]); first | done | rfl | (simp only [List.length_drop, List.length_take]; rfl)) ?_; (with_reducible refine (palanquinref01_Bytes.calls k (IntKind.u64.wrap (Go.bits .and .i64 a2 255)) 2 t276 _ A14.out).mono ?_); rintro e w18 ⟨rfl, hb⟩; refine ⟨_, rfl, ?_⟩; have n0_ := Aside0.mk (below_step (by repeat (first | (with_reducible first | exact HB.out | apply below_alloc | apply pw_below_drewN | apply below_drew1) | exact HB.out)) hb); clear HB; have HB := n0_; clear n0_; (try clear hb); (try clear hb2); (try clear hk); (try clear hi)) | ((with_reducible refine gate_callee (f := 61) rfl ?_); refine goesL_ (some 34) rfl rfl Tryd.func61 (by kernel_rfl) rfl #[.int .u64 (IntKind.u64.wrap (a3)), .int .i64 2] rfl (by (try simp only [List.map_toArray, List.map_cons, List.map_nil]); first | done | rfl | (simp only [List.length_drop, List.length_take]; rfl)) ?_; (with_reducible refine (palanquinref01_Bytes.calls k (IntKind.u64.wrap (a3)) 2 t277 _ A16.out).mono ?_); rintro e w19 ⟨rfl, hb⟩; refine ⟨_, rfl, ?_⟩; have n0_ := Aside0.mk (below_step (by repeat (first | (with_reducible first | exact HB.out | apply below_alloc | apply pw_below_drewN | apply below_drew1) | exact HB.out)) hb); clear HB; have HB := n0_; clear n0_; (try clear hb); (try clear hb2); (try clear hk); (try clear hi)))
          go_ret
          exact ⟨by first | rfl | (simp [errW_none, errW_some] <;> rfl) | (simp [*, errW_none, errW_some] <;> rfl), by repeat (first | (with_reducible first | exact HB.out | apply below_alloc | apply pw_below_drewN | apply below_drew1) | exact HB.out)⟩
        · rw [if_neg c17] at H
          exact absurd H (by simp)
      · rw [if_neg c15] at H
        exact absurd H (by simp)
    · rw [if_neg c13] at H
      exact absurd H (by simp)

end Go.Proofs.YtcmalglippmocaaDoor.G
end

section
/- Plain facts of palanquinref01: Value reads a big-endian number, Bytes writes one. -/
namespace Go.Proofs.YtcmalglippmocaaDoor.Pure
open Go.RowKit Go.Proofs.YtcmalglippmocaaDoorW.PrintWords Go.Proofs.YtcmalglippmocaaDoorW.PrintLast Go.Proofs.YtcmalglippmocaaDoor.G Go.Proofs.YtcmalglippmocaaDoor.Pal
theorem bt_bl (s : ByteArray) (i : Nat) (h : i < s.size) : bt s (i : Int) = (((bl s)[i]'(by rw [bl_length]; exact h)).toNat : Int) := by
  unfold bt
  rw [dif_pos (by simpa using h)]
  rfl
theorem value_loop (s : ByteArray) (hs : s.size ≤ 8) : ∀ (n i k : Nat), i + n = s.size → n < k → palanquinref01_Value.l0 k s ((be ((bl s).take i) : Nat) : Int) (i : Int) = some ((be (bl s) : Nat) : Int)
  | 0, i, k + 1, hi, _ => by
    rw [palanquinref01_Value.l0, if_neg (by omega), List.take_of_length_le (by rw [bl_length]; omega)]
  | n + 1, i, k + 1, hi, hk => by
    have hlt : i < s.size := by omega
    have hlen : i < (bl s).length := by rw [bl_length]; exact hlt
    rw [palanquinref01_Value.l0, if_pos (by omega), if_pos (by omega)]
    have hb : (bl s)[i].toNat < 256 := (bl s)[i].toNat_lt
    have h1 : be ((bl s).take (i + 1)) = be ((bl s).take i) * 256 + (bl s)[i].toNat := by
      rw [List.take_succ_eq_append_getElem hlen, be_snoc]
    have h2 : be ((bl s).take (i + 1)) < 256 ^ 8 := be_lt_of _ 8 (by rw [List.length_take]; omega)
    have h3 : (256 : Nat) ^ 8 = 18446744073709551616 := by decide
    rw [bt_bl s i hlt, show wrap64 ((i : Int) + 1) = ((i + 1 : Nat) : Int) by unfold wrap64; omega,
      show IntKind.u64.wrap ((IntKind.u64.wrap (((be ((bl s).take i) : Nat) : Int) * 256)) + (IntKind.u64.wrap ((bl s)[i].toNat : Int))) = ((be ((bl s).take (i + 1)) : Nat) : Int) by rw [IntKind.wrap_u64, IntKind.wrap_u64, IntKind.wrap_u64]; omega]
    exact value_loop s hs n (i + 1) k (by omega) (by omega)
theorem value_is (s : ByteArray) (hs : s.size ≤ 8) (k : Nat) (hk : s.size < k) : palanquinref01_Value.f k s = some ((be (bl s) : Nat) : Int) := by
  have := value_loop s hs s.size 0 k (by omega) hk
  exact this
theorem byte_is (x : Int) (h0 : 0 ≤ x) : strOfNums [Int.tmod x 256 % 256] = ⟨#[UInt8.ofNat x.toNat]⟩ := by
  obtain ⟨n, rfl⟩ := Int.eq_ofNat_of_zero_le h0
  have e : Int.tmod (n : Int) 256 % 256 = ((n % 256 : Nat) : Int) := by rw [Int.tmod_eq_emod_of_nonneg (by omega)]; omega
  rw [e]
  simp [strOfNums]
  apply UInt8.toNat.inj
  simp
  omega
theorem bytes_loop (n : Nat) (hn : n ≤ 8) : ∀ (m i k x : Nat) (t : ByteArray), i + m = n → m < k → x ≤ 18446744073709551615 → t.size = i →
    ∃ r, palanquinref01_Bytes.l0 k (x : Int) (n : Int) t (i : Int) = some r ∧ bl r = nb m x ++ bl t
  | 0, i, k + 1, x, t, hi, _, _, _ => by
    refine ⟨t, ?_, by simp [nb]⟩
    rw [palanquinref01_Bytes.l0, if_neg (by omega)]
  | m + 1, i, k + 1, x, t, hi, hk, hx, ht => by
    have hd : IntKind.u64.wrap (Int.tdiv (x : Int) 256) = ((x / 256 : Nat) : Int) := by rw [IntKind.wrap_u64, Int.tdiv_eq_ediv_of_nonneg (by omega)]; omega
    have hb := byte_is (x : Int) (by omega)
    rw [Int.toNat_natCast] at hb
    have h1 : (⟨#[UInt8.ofNat x]⟩ : ByteArray).size = 1 := rfl
    obtain ⟨r, hr, hr2⟩ := bytes_loop n hn m (i + 1) k (x / 256) (⟨#[UInt8.ofNat x]⟩ ++ t) (by omega) (by omega) (by omega) (by rw [ByteArray.size_append, h1]; omega)
    refine ⟨r, ?_, ?_⟩
    · rw [palanquinref01_Bytes.l0, if_pos (by omega), Option.bind_some, hb, if_pos (by rw [h1]; omega), hd, show wrap64 ((i : Int) + 1) = ((i + 1 : Nat) : Int) by unfold wrap64; omega]
      exact hr
    · rw [hr2, bl_append, nb, List.append_assoc]
      rfl
theorem bytes_is (n : Nat) (hn : n ≤ 8) (x : Nat) (hx : x ≤ 18446744073709551615) (k : Nat) (hk : n < k) : ∃ r, palanquinref01_Bytes.f k (x : Int) (n : Int) = some r ∧ bl r = nb n x := by
  obtain ⟨r, h1, h2⟩ := bytes_loop n hn n 0 k x ⟨#[]⟩ (by omega) hk hx rfl
  refine ⟨r, h1, ?_⟩
  rw [h2]
  simp [bl]
theorem bytes_u (n : Nat) (hn : n ≤ 8) (v : Int) (k : Nat) (hk : n < k) : ∃ r, palanquinref01_Bytes.f k (IntKind.u64.wrap v) (n : Int) = some r ∧ bl r = nb n (IntKind.u64.wrap v).toNat := by
  have h0 : 0 ≤ IntKind.u64.wrap v ∧ IntKind.u64.wrap v ≤ 18446744073709551615 := by rw [IntKind.wrap_u64]; omega
  generalize IntKind.u64.wrap v = x at h0 ⊢
  obtain ⟨x, rfl⟩ := Int.eq_ofNat_of_zero_le h0.1
  obtain ⟨r, h1, h2⟩ := bytes_is n hn x (by omega) k hk
  exact ⟨r, h1, by rw [h2, Int.toNat_natCast]⟩
theorem bytes_sized {n : Nat} {r : ByteArray} {x : Nat} (h : bl r = nb n x) : r.size = n := by rw [← bl_length, h, nb_length]
end Go.Proofs.YtcmalglippmocaaDoor.Pure
end

section
/- Plain facts of palanquinref02: its sum is the checksum. -/
namespace Go.Proofs.YtcmalglippmocaaDoor.Pure
open Go.RowKit Go.Proofs.YtcmalglippmocaaDoorW.PrintWords Go.Proofs.YtcmalglippmocaaDoorW.PrintLast Go.Proofs.YtcmalglippmocaaDoor.G Go.Proofs.YtcmalglippmocaaDoor.Pal
namespace R2
theorem down_is : ∀ (k n : Nat), n < k → n ≤ 1099511627776 → palanquinref02_down.f k (n : Int) = some ((fold16 n : Nat) : Int)
  | k + 1, n, hk, hn => by
    unfold palanquinref02_down.f
    rw [palanquinref02_down.l0]
    by_cases h : (n : Int) ≥ 65536
    · rw [if_pos h, show wrap64 (Int.tmod (n : Int) 65536 + wrap64 (Int.tdiv (n : Int) 65536)) = ((n % 65536 + n / 65536 : Nat) : Int) by
        rw [Int.tmod_eq_emod_of_nonneg (by omega), Int.tdiv_eq_ediv_of_nonneg (by omega)]; unfold wrap64; omega]
      have := down_is k (n % 65536 + n / 65536) (by omega) (by omega)
      unfold palanquinref02_down.f at this
      rw [this, fold16_step]
    · rw [if_neg h, fold16_id n (by omega)]
/-- fewer rounds: each takes at least 65535 away -/
theorem down_fast : ∀ (k n : Nat), n ≤ 4294967296 → 2 < k → palanquinref02_down.f k (n : Int) = some ((fold16 n : Nat) : Int) := by
  intro k n hn hk
  obtain ⟨k, rfl⟩ : ∃ j, k = j + 3 := ⟨k - 3, by omega⟩
  have step : ∀ m : Nat, m ≤ 4294967296 → (m : Int) ≥ 65536 → wrap64 (Int.tmod (m : Int) 65536 + wrap64 (Int.tdiv (m : Int) 65536)) = ((m % 65536 + m / 65536 : Nat) : Int) := fun m hm h => by
    rw [Int.tmod_eq_emod_of_nonneg (by omega), Int.tdiv_eq_ediv_of_nonneg (by omega)]; unfold wrap64; omega
  unfold palanquinref02_down.f
  rw [palanquinref02_down.l0]
  by_cases h : (n : Int) ≥ 65536
  · rw [if_pos h, step n hn h, palanquinref02_down.l0]
    by_cases h2 : ((n % 65536 + n / 65536 : Nat) : Int) ≥ 65536
    · rw [if_pos h2, step _ (by omega) h2, palanquinref02_down.l0, if_neg (by omega)]
      congr 2
      rw [← fold16_step n, ← fold16_step (n % 65536 + n / 65536), fold16_id _ (by omega)]
    · rw [if_neg h2]
      congr 2
      rw [← fold16_step n, fold16_id _ (by omega)]
  · rw [if_neg h, fold16_id n (by omega)]
theorem tot_two (l : List UInt8) (i : Nat) (h : i + 1 < l.length) : tot false (l.take (i + 2)) = tot false (l.take i) + tot (odd (l.take i)) [l[i], l[i + 1]] := by
  have e : l.take (i + 2) = l.take i ++ [l[i], l[i + 1]] := by
    rw [List.take_succ_eq_append_getElem (by omega), List.take_succ_eq_append_getElem (by omega), List.append_assoc]; rfl
  rw [e, tot_append]
  cases odd (l.take i) <;> rfl
theorem sum_end (s : ByteArray) (hs : s.size ≤ 6000) (k : Nat) (hk : 3 < k) : palanquinref02_Sum.l0 k s ((tot false (bl s) : Nat) : Int) (s.size : Int) = some ((65535 - fold16 (tot false (bl s)) : Nat) : Int) := by
  obtain ⟨k, rfl⟩ : ∃ j, k = j + 1 := ⟨k - 1, by omega⟩
  have hb := tot_le (bl s) false
  rw [bl_length] at hb
  rw [palanquinref02_Sum.l0, if_neg (by omega), down_fast k _ (by omega) (by omega), Option.bind_some]
  have := fold16_le (tot false (bl s))
  congr 1; unfold wrap64; omega
theorem sum_num (z x y : Nat) (hz : z ≤ 391680000) (hx : x < 2 ^ 8) (hy : y < 2 ^ 8) : wrap64 (wrap64 ((z : Int) + wrap64 (wrap64 (x : Int) * 256)) + wrap64 (y : Int)) = ((z + (x * 256 + y) : Nat) : Int) := by
  have e1 : wrap64 (x : Int) = x := by unfold wrap64; omega
  have e2 : wrap64 (y : Int) = y := by unfold wrap64; omega
  have e3 : wrap64 ((x : Int) * 256) = (x : Int) * 256 := by unfold wrap64; omega
  have e4 : wrap64 ((z : Int) + (x : Int) * 256) = (z : Int) + (x : Int) * 256 := by unfold wrap64; omega
  rw [e1, e2, e3, e4]
  unfold wrap64; omega
theorem sum_step (s : ByteArray) (hs : s.size ≤ 6000) (i k : Nat) (hi : i % 2 = 0) (h1 : i + 1 < s.size) :
    palanquinref02_Sum.l0 (k + 1) s ((tot false ((bl s).take i) : Nat) : Int) (i : Int) = palanquinref02_Sum.l0 k s ((tot false ((bl s).take (i + 2)) : Nat) : Int) ((i + 2 : Nat) : Int) := by
  have h0 : i < s.size := by omega
  have hl1 : i + 1 < (bl s).length := by rw [bl_length]; exact h1
  have hb := tot_le ((bl s).take i) false
  have hl : ((bl s).take i).length ≤ 6000 := by rw [List.length_take, bl_length]; omega
  have ho : odd ((bl s).take i) = false := by
    unfold odd; rw [List.length_take, bl_length, Nat.min_eq_left (by omega), hi]; rfl
  have ht := tot_two (bl s) i hl1
  rw [ho] at ht
  simp only [tot, Nat.add_zero] at ht
  have b0 := (bl s)[i].toNat_lt
  have b1 := (bl s)[i + 1].toNat_lt
  have w1 : wrap64 ((i : Int) + 1) = ((i + 1 : Nat) : Int) := by unfold wrap64; omega
  have w2 : wrap64 ((i : Int) + 2) = ((i + 2 : Nat) : Int) := by unfold wrap64; omega
  have g0 : bt s (i : Int) = (((bl s)[i].toNat : Nat) : Int) := bt_bl s i h0
  have g1 : bt s ((i + 1 : Nat) : Int) = (((bl s)[i + 1].toNat : Nat) : Int) := bt_bl s (i + 1) h1
  rw [ht]
  generalize (bl s)[i].toNat = x at b0 g0 ⊢
  generalize (bl s)[i + 1].toNat = y at b1 g1 ⊢
  have hz : tot false ((bl s).take i) ≤ 391680000 := by omega
  generalize tot false ((bl s).take i) = z at hz ⊢
  clear hb hl ho ht hl1 hs
  rw [palanquinref02_Sum.l0, if_pos (by omega), if_pos (by omega), w1, w2, if_pos (by omega), if_pos (by omega), g0, g1]
  rw [sum_num z x y hz b0 b1]
theorem sum_loop (s : ByteArray) (hs : s.size ≤ 6000) (he : s.size % 2 = 0) (n : Nat) : ∀ (i k : Nat), i + 2 * n = s.size → n + 3 < k →
    palanquinref02_Sum.l0 k s ((tot false ((bl s).take i) : Nat) : Int) (i : Int) = some ((65535 - fold16 (tot false (bl s)) : Nat) : Int) := by
  induction n with
  | zero =>
    intro i k hi hk
    have e := sum_end s hs k (by omega)
    rw [List.take_of_length_le (by rw [bl_length]; omega), show i = s.size by omega]
    exact e
  | succ n ih =>
    intro i k hi hk
    obtain ⟨k, rfl⟩ : ∃ j, k = j + 1 := ⟨k - 1, by omega⟩
    rw [sum_step s hs i k (by omega) (by omega)]
    exact ih (i + 2) k (by omega) (by omega)
theorem zero_is : strOfNums [0] = ⟨#[0]⟩ := by simp [strOfNums]
theorem ref_sum (s : ByteArray) (hs : s.size ≤ 5000) (k : Nat) (hk : 5000 < k) : palanquinref02_Sum.f k s = some ((csum (bl s) : Nat) : Int) := by
  unfold palanquinref02_Sum.f
  obtain ⟨k, rfl⟩ : ∃ j, k = j + 1 := ⟨k - 1, by omega⟩
  by_cases h : (s.size : Int) % 2 = 1
  · have h1 : (⟨#[0]⟩ : ByteArray).size = 1 := rfl
    rw [if_pos h, Option.bind_some, zero_is, if_pos (by rw [h1]; omega), palanquinref02_Sum.j0]
    have e := sum_loop (s ++ ⟨#[0]⟩) (by rw [ByteArray.size_append, h1]; omega) (by rw [ByteArray.size_append, h1]; omega) ((s.size + 1) / 2) 0 k (by rw [ByteArray.size_append, h1]; omega) (by omega)
    refine Eq.trans e ?_
    rw [bl_append, tot_append]
    unfold csum
    have : ∀ o, tot o (bl (⟨#[0]⟩ : ByteArray)) = 0 := fun o => by cases o <;> rfl
    rw [this]; rfl
  · rw [if_neg h, palanquinref02_Sum.j0]
    exact sum_loop s (by omega) (by omega) (s.size / 2) 0 k (by omega) (by omega)
end R2
end Go.Proofs.YtcmalglippmocaaDoor.Pure
end

section
/- Plain facts of palanquinref02: its sum is the checksum, for texts up to 80000 bytes. -/
namespace Go.Proofs.YtcmalglippmocaaDoor.Pure
open Go.RowKit Go.Proofs.YtcmalglippmocaaDoorW.PrintWords Go.Proofs.YtcmalglippmocaaDoorW.PrintLast Go.Proofs.YtcmalglippmocaaDoor.G Go.Proofs.YtcmalglippmocaaDoor.Pal
namespace R2
theorem down_fastL : ∀ (k n : Nat), n ≤ 1099511627776 → 3 < k → palanquinref02_down.f k (n : Int) = some ((fold16 n : Nat) : Int) := by
  intro k n hn hk
  by_cases hs : n ≤ 4294967296
  · exact down_fast k n hs (by omega)
  obtain ⟨k, rfl⟩ : ∃ j, k = j + 1 := ⟨k - 1, by omega⟩
  have step : wrap64 (Int.tmod (n : Int) 65536 + wrap64 (Int.tdiv (n : Int) 65536)) = ((n % 65536 + n / 65536 : Nat) : Int) := by
    rw [Int.tmod_eq_emod_of_nonneg (by omega), Int.tdiv_eq_ediv_of_nonneg (by omega)]; unfold wrap64; omega
  have e := down_fast k (n % 65536 + n / 65536) (by omega) (by omega)
  unfold palanquinref02_down.f at e ⊢
  rw [palanquinref02_down.l0, if_pos (by omega), step, e, fold16_step]
theorem sum_endL (s : ByteArray) (hs : s.size ≤ 80000) (k : Nat) (hk : 4 < k) : palanquinref02_Sum.l0 k s ((tot false (bl s) : Nat) : Int) (s.size : Int) = some ((65535 - fold16 (tot false (bl s)) : Nat) : Int) := by
  obtain ⟨k, rfl⟩ : ∃ j, k = j + 1 := ⟨k - 1, by omega⟩
  have hb := tot_le (bl s) false
  rw [bl_length] at hb
  rw [palanquinref02_Sum.l0, if_neg (by omega), down_fastL k _ (by omega) (by omega), Option.bind_some]
  have := fold16_le (tot false (bl s))
  congr 1; unfold wrap64; omega
theorem sum_numL (z x y : Nat) (hz : z ≤ 5222400000) (hx : x < 2 ^ 8) (hy : y < 2 ^ 8) : wrap64 (wrap64 ((z : Int) + wrap64 (wrap64 (x : Int) * 256)) + wrap64 (y : Int)) = ((z + (x * 256 + y) : Nat) : Int) := by
  have e1 : wrap64 (x : Int) = x := by unfold wrap64; omega
  have e2 : wrap64 (y : Int) = y := by unfold wrap64; omega
  have e3 : wrap64 ((x : Int) * 256) = (x : Int) * 256 := by unfold wrap64; omega
  have e4 : wrap64 ((z : Int) + (x : Int) * 256) = (z : Int) + (x : Int) * 256 := by unfold wrap64; omega
  rw [e1, e2, e3, e4]
  unfold wrap64; omega
theorem sum_stepL (s : ByteArray) (hs : s.size ≤ 80000) (i k : Nat) (hi : i % 2 = 0) (h1 : i + 1 < s.size) :
    palanquinref02_Sum.l0 (k + 1) s ((tot false ((bl s).take i) : Nat) : Int) (i : Int) = palanquinref02_Sum.l0 k s ((tot false ((bl s).take (i + 2)) : Nat) : Int) ((i + 2 : Nat) : Int) := by
  have h0 : i < s.size := by omega
  have hl1 : i + 1 < (bl s).length := by rw [bl_length]; exact h1
  have hb := tot_le ((bl s).take i) false
  have hl : ((bl s).take i).length ≤ 80000 := by rw [List.length_take, bl_length]; omega
  have ho : odd ((bl s).take i) = false := by
    unfold odd; rw [List.length_take, bl_length, Nat.min_eq_left (by omega), hi]; rfl
  have ht := tot_two (bl s) i hl1
  rw [ho] at ht
  simp only [tot, Nat.add_zero] at ht
  have b0 := (bl s)[i].toNat_lt
  have b1 := (bl s)[i + 1].toNat_lt
  have w1 : wrap64 ((i : Int) + 1) = ((i + 1 : Nat) : Int) := by unfold wrap64; omega
  have w2 : wrap64 ((i : Int) + 2) = ((i + 2 : Nat) : Int) := by unfold wrap64; omega
  have g0 : bt s (i : Int) = (((bl s)[i].toNat : Nat) : Int) := bt_bl s i h0
  have g1 : bt s ((i + 1 : Nat) : Int) = (((bl s)[i + 1].toNat : Nat) : Int) := bt_bl s (i + 1) h1
  rw [ht]
  generalize (bl s)[i].toNat = x at b0 g0 ⊢
  generalize (bl s)[i + 1].toNat = y at b1 g1 ⊢
  have hz : tot false ((bl s).take i) ≤ 5222400000 := by omega
  generalize tot false ((bl s).take i) = z at hz ⊢
  clear hb hl ho ht hl1 hs
  rw [palanquinref02_Sum.l0, if_pos (by omega), if_pos (by omega), w1, w2, if_pos (by omega), if_pos (by omega), g0, g1]
  rw [sum_numL z x y hz b0 b1]
theorem sum_loopL (s : ByteArray) (hs : s.size ≤ 80000) (he : s.size % 2 = 0) (n : Nat) : ∀ (i k : Nat), i + 2 * n = s.size → n + 4 < k →
    palanquinref02_Sum.l0 k s ((tot false ((bl s).take i) : Nat) : Int) (i : Int) = some ((65535 - fold16 (tot false (bl s)) : Nat) : Int) := by
  induction n with
  | zero =>
    intro i k hi hk
    have e := sum_endL s hs k (by omega)
    rw [List.take_of_length_le (by rw [bl_length]; omega), show i = s.size by omega]
    exact e
  | succ n ih =>
    intro i k hi hk
    obtain ⟨k, rfl⟩ : ∃ j, k = j + 1 := ⟨k - 1, by omega⟩
    rw [sum_stepL s hs i k (by omega) (by omega)]
    exact ih (i + 2) k (by omega) (by omega)
theorem ref_sumL (s : ByteArray) (hs : s.size ≤ 79000) (k : Nat) (hk : s.size + 10 < k) : palanquinref02_Sum.f k s = some ((csum (bl s) : Nat) : Int) := by
  unfold palanquinref02_Sum.f
  obtain ⟨k, rfl⟩ : ∃ j, k = j + 1 := ⟨k - 1, by omega⟩
  by_cases h : (s.size : Int) % 2 = 1
  · have h1 : (⟨#[0]⟩ : ByteArray).size = 1 := rfl
    rw [if_pos h, Option.bind_some, zero_is, if_pos (by rw [h1]; omega), palanquinref02_Sum.j0]
    have e := sum_loopL (s ++ ⟨#[0]⟩) (by rw [ByteArray.size_append, h1]; omega) (by rw [ByteArray.size_append, h1]; omega) ((s.size + 1) / 2) 0 k (by rw [ByteArray.size_append, h1]; omega) (by omega)
    refine Eq.trans e ?_
    rw [bl_append, tot_append]
    unfold csum
    have : ∀ o, tot o (bl (⟨#[0]⟩ : ByteArray)) = 0 := fun o => by cases o <;> rfl
    rw [this]; rfl
  · rw [if_neg h, palanquinref02_Sum.j0]
    exact sum_loopL s (by omega) (by omega) (s.size / 2) 0 k (by omega) (by omega)
theorem bl_inj' {a b : ByteArray} (h : bl a = bl b) : a = b := ByteArray.ext (Array.toList_inj.mp h)
theorem mask8 (x : Int) : Go.bits .and .i64 x 255 = x % 256 := by
  have e : Go.bits .and .i64 x 255 = IntKind.i64.wrap (((x % 18446744073709551616).toNat &&& 255 : Nat) : Int) := by
    show IntKind.i64.wrap (((BitVec.ofInt 64 x &&& BitVec.ofInt 64 255).toNat : Nat) : Int) = _
    rw [BitVec.toNat_and, BitVec.toNat_ofInt, show (BitVec.ofInt 64 255).toNat = 255 from rfl]
    rfl
  rw [e, Nat.and_two_pow_sub_one_eq_mod _ 8, IntKind.wrap_i64]; omega
/-- The sum, brought up to date. -/
theorem nums4 (v : Int) : [UInt8.ofNat (v / 16777216 % 256).toNat, UInt8.ofNat (v / 65536 % 256).toNat, UInt8.ofNat (v / 256 % 256).toNat, UInt8.ofNat (v % 256).toNat] = nb 4 (v % 18446744073709551616).toNat := by
  have e : ∀ (m n : Nat), m % 256 = n % 256 → UInt8.ofNat m = UInt8.ofNat n := fun m n h => by apply UInt8.toNat.inj; simp [h]
  simp only [nb, List.nil_append, List.cons_append]
  refine congr (congrArg List.cons (e _ _ (by omega))) (congr (congrArg List.cons (e _ _ (by omega))) (congr (congrArg List.cons (e _ _ (by omega))) (congr (congrArg List.cons (e _ _ (by omega))) rfl)))
theorem nums2 (v : Int) : [UInt8.ofNat (v / 256 % 256).toNat, UInt8.ofNat (v % 256).toNat] = nb 2 (v % 18446744073709551616).toNat := by
  have e : ∀ (m n : Nat), m % 256 = n % 256 → UInt8.ofNat m = UInt8.ofNat n := fun m n h => by apply UInt8.toNat.inj; simp [h]
  simp only [nb, List.nil_append, List.cons_append]
  refine congr (congrArg List.cons (e _ _ (by omega))) (congr (congrArg List.cons (e _ _ (by omega))) rfl)
theorem bytes_any (n : Nat) (hn : n ≤ 8) (v : Int) (k : Nat) (hk : n < k) : ∃ r, palanquinref01_Bytes.f k (IntKind.u64.wrap v) (n : Int) = some r ∧ bl r = nb n (v % 18446744073709551616).toNat := by
  have e : IntKind.u64.wrap v = (((v % 18446744073709551616).toNat : Nat) : Int) := by rw [IntKind.wrap_u64]; omega
  rw [e]
  exact bytes_is n hn _ (by omega) k hk
theorem ref_pseudo (s d : ByteArray) (hs : s.size ≤ 300) (hd : d.size ≤ 300) (a b : Int) (k : Nat) (hk : 4 < k) : ∃ r, sum_Pseudo.f s d a b = some r ∧ palanquinref02_Pseudo.f k s d a b = some r := by
  unfold sum_Pseudo.f palanquinref02_Pseudo.f
  have bl_nums : ∀ xs : List Int, bl (strOfNums xs) = xs.map fun n => UInt8.ofNat n.toNat := fun xs => by simp [bl, strOfNums]
  have sz_nums : ∀ xs : List Int, (strOfNums xs).size = xs.length := fun xs => by rw [← bl_length, bl_nums, List.length_map]
  by_cases h : (s.size : Int) = 16
  · rw [if_pos h, if_pos h, if_pos (by omega), if_pos (by omega), Option.bind_some, if_pos (by rw [sz_nums, ByteArray.size_append]; simp; omega)]
    obtain ⟨r1, e1, b1⟩ := bytes_any 4 (by decide) b k hk
    obtain ⟨r2, e2, b2⟩ := bytes_any 4 (by decide) (a % 256) k hk
    have s1 : r1.size = 4 := by rw [← bl_length, b1, nb_length]
    have s2 : r2.size = 4 := by rw [← bl_length, b2, nb_length]
    refine ⟨_, rfl, ?_⟩
    rw [mask8]
    rw [show (4 : Int) = ((4 : Nat) : Int) from rfl, e1, Option.bind_some, if_pos (by rw [ByteArray.size_append]; omega), e2, Option.bind_some, if_pos (by rw [ByteArray.size_append, ByteArray.size_append]; omega)]
    have key : s ++ d ++ r1 ++ r2 = s ++ d ++ strOfNums [b / 16777216 % 256, b / 65536 % 256, b / 256 % 256, b % 256, 0, 0, 0, a % 256] := by
      apply bl_inj'
      rw [bl_append, bl_append, bl_append (s ++ d), b1, b2, bl_nums, ← nums4 b, ← nums4 (a % 256)]
      simp only [List.map_cons, List.map_nil, List.append_assoc, List.cons_append, List.nil_append]
      congr 5
      have e : ∀ (m n : Nat), m % 256 = n % 256 → UInt8.ofNat m = UInt8.ofNat n := fun m n h => by apply UInt8.toNat.inj; simp [h]
      refine congr (congrArg List.cons (e _ _ (by omega))) (congr (congrArg List.cons (e _ _ (by omega))) (congr (congrArg List.cons (e _ _ (by omega))) (congr (congrArg List.cons (e _ _ (by omega))) rfl)))
    rw [key]
  · rw [if_neg h, if_neg h, if_pos (by omega), if_pos (by omega), Option.bind_some, if_pos (by rw [sz_nums, ByteArray.size_append]; simp; omega)]
    obtain ⟨r1, e1, b1⟩ := bytes_any 2 (by decide) (a % 256) k (by omega)
    obtain ⟨r2, e2, b2⟩ := bytes_any 2 (by decide) b k (by omega)
    have s1 : r1.size = 2 := by rw [← bl_length, b1, nb_length]
    have s2 : r2.size = 2 := by rw [← bl_length, b2, nb_length]
    refine ⟨_, rfl, ?_⟩
    rw [mask8]
    rw [show (2 : Int) = ((2 : Nat) : Int) from rfl, e1, Option.bind_some, if_pos (by rw [ByteArray.size_append]; omega), e2, Option.bind_some, if_pos (by rw [ByteArray.size_append, ByteArray.size_append]; omega)]
    have key : s ++ d ++ r1 ++ r2 = s ++ d ++ strOfNums [0, a % 256, b / 256 % 256, b % 256] := by
      apply bl_inj'
      rw [bl_append, bl_append, bl_append (s ++ d), b1, b2, bl_nums, ← nums2 b, ← nums2 (a % 256)]
      simp only [List.map_cons, List.map_nil, List.append_assoc, List.cons_append, List.nil_append]
      rw [show a % 256 / 256 % 256 = 0 by omega, show a % 256 % 256 = a % 256 by omega]
    rw [key]
end R2
end Go.Proofs.YtcmalglippmocaaDoor.Pure
end
