/- Texts of this session, joined: each is a section. -/
import Derived.Test.YtcmalglippmocaaDoorMGrbg1
import Derived.Test.YtcmalglippmocaaDoorMGrbg2
set_option linter.unusedVariables false
set_option linter.unusedSimpArgs false
section
namespace Go.Proofs.YtcmalglippmocaaDoor.G
open Go.RowKit Go.Proofs.YtcmalglippmocaaDoorW.PrintWords Go.Proofs.YtcmalglippmocaaDoorW.PrintLast Go.Proofs.YtcmalglippmocaaDoorW.PrintMore
attribute [local go_sem] max2_int min2_int max_two min_two max_three min_three max_four min_four   -- for this text's walks alone
set_option linter.unusedVariables false
set_option linter.unusedSimpArgs false

/-! ### palanquinlaw12_awake: function 28 -/
def palanquinlaw12_awake.f  : Option (Bool) := (gre_Put.f false false 0 (⟨#[69, 120]⟩ : ByteArray)).bind fun bt169 => (if bt169.1.toList = ([0, 0, 8, 0, 69, 120] : List UInt8) then (if bt169.2 = 0 then ((gre_Size.f true true 0).bind fun t171 => (some (t171 == 12))) else (some false)) else (some false))
set_option maxHeartbeats 8000000 in
set_option maxRecDepth 100000 in
theorem palanquinlaw12_awake.calls  (r : Bool) (w : World) (h : palanquinlaw12_awake.f  = some r) (hgV_ : GV w) :
    Calls Tryd.prog 28 #[] w fun e w' => e = .returned (.bool r) ∧ Below w.heap.size w w' := by
  have HgV_ := Aside0.mk hgV_
  clear hgV_
  have hu40 := Tryd.underlying40
  have HB := Aside0.mk (Below.refl w.heap.size w)
  have H : ((gre_Put.f false false 0 (⟨#[69, 120]⟩ : ByteArray)).bind fun bt169 => (if bt169.1.toList = ([0, 0, 8, 0, 69, 120] : List UInt8) then (if bt169.2 = 0 then ((gre_Size.f true true 0).bind fun t171 => (some (t171 == 12))) else (some false)) else (some false))) = some r := h
  clear h
  replace H := Option.bind_eq_some_iff.mp H
  obtain ⟨⟨t169, t170⟩, A10, H⟩ := H
  replace H : (if t169.toList = ([0, 0, 8, 0, 69, 120] : List UInt8) then (if t170 = 0 then ((gre_Size.f true true 0).bind fun t171 => (some (t171 == 12))) else (some false)) else (some false)) = some r := H
  have A1 := Aside0.mk A10
  clear A10
  by_cases c2 : t169.toList = ([0, 0, 8, 0, 69, 120] : List UInt8)
  · rw [if_pos c2] at H
    have c2b0 : (t169.toList == ([0, 0, 8, 0, 69, 120] : List UInt8)) = true := beq_iff_eq.mpr c2
    have c2b1 : (t169.toList != ([0, 0, 8, 0, 69, 120] : List UInt8)) = false := bne_eq_false_iff_eq.mpr c2
    clear c2
    by_cases c3 : t170 = 0
    · rw [if_pos c3] at H
      have c3b0 : (t170 == 0) = true := beq_iff_eq.mpr c3
      have c3b1 : (t170 != 0) = false := bne_eq_false_iff_eq.mpr c3
      clear c3
      replace H := Option.bind_eq_some_iff.mp H
      obtain ⟨t171, A40, H⟩ := H
      replace H : (some (t171 == 12)) = some r := H
      have A4 := Aside0.mk A40
      clear A40
      obtain rfl := Option.some.inj H
      go_enter Tryd.func28, Tryd.ntmps28
      go_wp2_with (first | ((with_reducible refine gate_callee (f := 29) rfl ?_); refine goesL_ (some 5) rfl rfl Tryd.func29 (by kernel_rfl) rfl #[.agg #[.bool false, .bool false, .int .u32 0], .string (⟨#[69, 120]⟩ : ByteArray)] rfl (by (try simp only [List.map_toArray, List.map_cons, List.map_nil]); first | done | rfl | (simp only [List.length_drop, List.length_take]; rfl)) ?_; (with_reducible refine (gre_Put.calls false false 0 (⟨#[69, 120]⟩ : ByteArray) t169 t170 _ A1.out (GV.below HgV_.out (by repeat (first | (with_reducible first | exact HB.out | apply below_alloc | apply pw_below_drewN | apply below_drew1) | exact HB.out)))).mono ?_); rintro e w5 ⟨rfl, hb⟩; refine ⟨_, rfl, ?_⟩; have n0_ := Aside0.mk (below_step (by repeat (first | (with_reducible first | exact HB.out | apply below_alloc | apply pw_below_drewN | apply below_drew1) | exact HB.out)) hb); clear HB; have HB := n0_; clear n0_; (try clear hb); (try clear hb2); (try clear hk); (try clear hi)) | (go_at_call 33; (with_reducible refine (gre_Size.calls true true 0 t171 _ A4.out).mono ?_); rintro e w6 ⟨rfl, hb⟩; have n0_ := Aside0.mk (below_step (by repeat (first | (with_reducible first | exact HB.out | apply below_alloc | apply pw_below_drewN | apply below_drew1) | exact HB.out)) hb); clear HB; have HB := n0_; clear n0_; (try clear hb); (try clear hb2); (try clear hk); (try clear hi)))
      go_ret
      exact ⟨by first | rfl | (simp [errW_none, errW_some] <;> rfl) | (simp [*, errW_none, errW_some] <;> rfl), by repeat (first | (with_reducible first | exact HB.out | apply below_alloc | apply pw_below_drewN | apply below_drew1) | exact HB.out)⟩
    · rw [if_neg c3] at H
      have c3b0 : (t170 == 0) = false := beq_eq_false_iff_ne.mpr c3
      have c3b1 : (t170 != 0) = true := bne_iff_ne.mpr c3
      obtain rfl := Option.some.inj H
      go_enter Tryd.func28, Tryd.ntmps28
      go_wp2_with (first | ((with_reducible refine gate_callee (f := 29) rfl ?_); refine goesL_ (some 5) rfl rfl Tryd.func29 (by kernel_rfl) rfl #[.agg #[.bool false, .bool false, .int .u32 0], .string (⟨#[69, 120]⟩ : ByteArray)] rfl (by (try simp only [List.map_toArray, List.map_cons, List.map_nil]); first | done | rfl | (simp only [List.length_drop, List.length_take]; rfl)) ?_; (with_reducible refine (gre_Put.calls false false 0 (⟨#[69, 120]⟩ : ByteArray) t169 t170 _ A1.out (GV.below HgV_.out (by repeat (first | (with_reducible first | exact HB.out | apply below_alloc | apply pw_below_drewN | apply below_drew1) | exact HB.out)))).mono ?_); rintro e w7 ⟨rfl, hb⟩; refine ⟨_, rfl, ?_⟩; have n0_ := Aside0.mk (below_step (by repeat (first | (with_reducible first | exact HB.out | apply below_alloc | apply pw_below_drewN | apply below_drew1) | exact HB.out)) hb); clear HB; have HB := n0_; clear n0_; (try clear hb); (try clear hb2); (try clear hk); (try clear hi)))
      go_ret
      exact ⟨by first | rfl | (simp [errW_none, errW_some] <;> rfl) | (simp [*, errW_none, errW_some] <;> rfl), by repeat (first | (with_reducible first | exact HB.out | apply below_alloc | apply pw_below_drewN | apply below_drew1) | exact HB.out)⟩
  · rw [if_neg c2] at H
    have c2b0 : (t169.toList == ([0, 0, 8, 0, 69, 120] : List UInt8)) = false := beq_eq_false_iff_ne.mpr c2
    have c2b1 : (t169.toList != ([0, 0, 8, 0, 69, 120] : List UInt8)) = true := bne_iff_ne.mpr c2
    obtain rfl := Option.some.inj H
    go_enter Tryd.func28, Tryd.ntmps28
    go_wp2_with (first | ((with_reducible refine gate_callee (f := 29) rfl ?_); refine goesL_ (some 5) rfl rfl Tryd.func29 (by kernel_rfl) rfl #[.agg #[.bool false, .bool false, .int .u32 0], .string (⟨#[69, 120]⟩ : ByteArray)] rfl (by (try simp only [List.map_toArray, List.map_cons, List.map_nil]); first | done | rfl | (simp only [List.length_drop, List.length_take]; rfl)) ?_; (with_reducible refine (gre_Put.calls false false 0 (⟨#[69, 120]⟩ : ByteArray) t169 t170 _ A1.out (GV.below HgV_.out (by repeat (first | (with_reducible first | exact HB.out | apply below_alloc | apply pw_below_drewN | apply below_drew1) | exact HB.out)))).mono ?_); rintro e w8 ⟨rfl, hb⟩; refine ⟨_, rfl, ?_⟩; have n0_ := Aside0.mk (below_step (by repeat (first | (with_reducible first | exact HB.out | apply below_alloc | apply pw_below_drewN | apply below_drew1) | exact HB.out)) hb); clear HB; have HB := n0_; clear n0_; (try clear hb); (try clear hb2); (try clear hk); (try clear hi)))
    go_ret
    exact ⟨by first | rfl | (simp [errW_none, errW_some] <;> rfl) | (simp [*, errW_none, errW_some] <;> rfl), by repeat (first | (with_reducible first | exact HB.out | apply below_alloc | apply pw_below_drewN | apply below_drew1) | exact HB.out)⟩

end Go.Proofs.YtcmalglippmocaaDoor.G
end

section
namespace Go.Proofs.YtcmalglippmocaaDoor.G
open Go.RowKit Go.Proofs.YtcmalglippmocaaDoorW.PrintWords Go.Proofs.YtcmalglippmocaaDoorW.PrintLast Go.Proofs.YtcmalglippmocaaDoorW.PrintMore
attribute [local go_sem] max2_int min2_int max_two min_two max_three min_three max_four min_four   -- for this text's walks alone
set_option linter.unusedVariables false
set_option linter.unusedSimpArgs false

/-! ### palanquinref11_Proto: function 25 -/
def palanquinref11_Proto.f (a0 : ByteArray) : Option (Int × Int) := if a0.toList = ([] : List UInt8) then (some (0, 2)) else (if 0 < (a0.size : Int) then (if ((Int.tdiv (bt a0 0) 16) % 256) = 4 then (some (4, 0)) else (if ((Int.tdiv (bt a0 0) 16) % 256) = 6 then (some (41, 0)) else (some (0, 3)))) else (none))
set_option maxHeartbeats 8000000 in
set_option maxRecDepth 100000 in
theorem palanquinref11_Proto.calls (a0 : ByteArray) (r1 : Int) (r2 : Int) (w : World) (h : palanquinref11_Proto.f a0 = some (r1, r2)) :
    Calls Tryd.prog 25 #[.string a0] w fun e w' => e = .returned (.tuple #[.int .i64 r1, .int .i64 r2]) ∧ Drawn0 w w' := by
  have H : (if a0.toList = ([] : List UInt8) then (some (0, 2)) else (if 0 < (a0.size : Int) then (if ((Int.tdiv (bt a0 0) 16) % 256) = 4 then (some (4, 0)) else (if ((Int.tdiv (bt a0 0) 16) % 256) = 6 then (some (41, 0)) else (some (0, 3)))) else (none))) = some (r1, r2) := h
  clear h
  by_cases c2 : a0.toList = ([] : List UInt8)
  · rw [if_pos c2] at H
    have c2b0 : (a0.toList == ([] : List UInt8)) = true := beq_iff_eq.mpr c2
    have c2b1 : (a0.toList != ([] : List UInt8)) = false := bne_eq_false_iff_eq.mpr c2
    clear c2
    simp only [Option.some.injEq, Prod.mk.injEq] at H
    obtain ⟨rfl, rfl⟩ := H
    go_enter Tryd.func25, Tryd.ntmps25
    go_wp2
    go_ret2
    exact ⟨by first | rfl | (simp; done) | (simp [*]; done), by repeat (first | exact Drawn0.refl _ | apply Drawn0.step)⟩
  · rw [if_neg c2] at H
    have c2b0 : (a0.toList == ([] : List UInt8)) = false := beq_eq_false_iff_ne.mpr c2
    have c2b1 : (a0.toList != ([] : List UInt8)) = true := bne_iff_ne.mpr c2
    by_cases c3 : 0 < (a0.size : Int)
    · rw [if_pos c3] at H
      have c3b0 : decide (0 < (a0.size : Int)) = true := decide_eq_true c3
      have c3b1 : decide (0 < a0.size) = true := decide_eq_true (by omega)
      clear c3
      by_cases c5 : ((Int.tdiv (bt a0 0) 16) % 256) = 4
      · rw [if_pos c5] at H
        have c5b0 : (((Int.tdiv (bt a0 0) 16) % 256) == 4) = true := beq_iff_eq.mpr c5
        have c5b1 : (((Int.tdiv (bt a0 0) 16) % 256) != 4) = false := bne_eq_false_iff_eq.mpr c5
        clear c5
        simp only [Option.some.injEq, Prod.mk.injEq] at H
        obtain ⟨rfl, rfl⟩ := H
        have p4 : 0 ≤ (0 : Int) := (by omega)
        have q4 : 0 < a0.size := (by have : (0 : Int) < (a0.size : Int) := of_decide_eq_true (by first | (with_reducible assumption) | assumption); omega)
        have hx4 : ∀ h : 0 < a0.size, ((a0[0]'h).toNat : Int) = bt a0 0 := bt_at a0 0
        clear p4
        have qi4 : (0 < (a0.size : Int)) = True := eq_true (of_decide_eq_true (by first | (with_reducible assumption) | assumption))
        replace q4 := eq_true q4
        go_enter Tryd.func25, Tryd.ntmps25
        go_wp2
        go_ret2
        exact ⟨by first | rfl | (simp; done) | (simp [*]; done), by repeat (first | exact Drawn0.refl _ | apply Drawn0.step)⟩
      · rw [if_neg c5] at H
        have c5b0 : (((Int.tdiv (bt a0 0) 16) % 256) == 4) = false := beq_eq_false_iff_ne.mpr c5
        have c5b1 : (((Int.tdiv (bt a0 0) 16) % 256) != 4) = true := bne_iff_ne.mpr c5
        by_cases c6 : ((Int.tdiv (bt a0 0) 16) % 256) = 6
        · rw [if_pos c6] at H
          have c6b0 : (((Int.tdiv (bt a0 0) 16) % 256) == 6) = true := beq_iff_eq.mpr c6
          have c6b1 : (((Int.tdiv (bt a0 0) 16) % 256) != 6) = false := bne_eq_false_iff_eq.mpr c6
          clear c6
          simp only [Option.some.injEq, Prod.mk.injEq] at H
          obtain ⟨rfl, rfl⟩ := H
          have p4 : 0 ≤ (0 : Int) := (by omega)
          have q4 : 0 < a0.size := (by have : (0 : Int) < (a0.size : Int) := of_decide_eq_true (by first | (with_reducible assumption) | assumption); omega)
          have hx4 : ∀ h : 0 < a0.size, ((a0[0]'h).toNat : Int) = bt a0 0 := bt_at a0 0
          clear p4
          have qi4 : (0 < (a0.size : Int)) = True := eq_true (of_decide_eq_true (by first | (with_reducible assumption) | assumption))
          replace q4 := eq_true q4
          go_enter Tryd.func25, Tryd.ntmps25
          go_wp2
          go_ret2
          exact ⟨by first | rfl | (simp; done) | (simp [*]; done), by repeat (first | exact Drawn0.refl _ | apply Drawn0.step)⟩
        · rw [if_neg c6] at H
          have c6b0 : (((Int.tdiv (bt a0 0) 16) % 256) == 6) = false := beq_eq_false_iff_ne.mpr c6
          have c6b1 : (((Int.tdiv (bt a0 0) 16) % 256) != 6) = true := bne_iff_ne.mpr c6
          simp only [Option.some.injEq, Prod.mk.injEq] at H
          obtain ⟨rfl, rfl⟩ := H
          have p4 : 0 ≤ (0 : Int) := (by omega)
          have q4 : 0 < a0.size := (by have : (0 : Int) < (a0.size : Int) := of_decide_eq_true (by first | (with_reducible assumption) | assumption); omega)
          have hx4 : ∀ h : 0 < a0.size, ((a0[0]'h).toNat : Int) = bt a0 0 := bt_at a0 0
          clear p4
          have qi4 : (0 < (a0.size : Int)) = True := eq_true (of_decide_eq_true (by first | (with_reducible assumption) | assumption))
          replace q4 := eq_true q4
          go_enter Tryd.func25, Tryd.ntmps25
          go_wp2
          go_ret2
          exact ⟨by first | rfl | (simp; done) | (simp [*]; done), by repeat (first | exact Drawn0.refl _ | apply Drawn0.step)⟩
    · rw [if_neg c3] at H
      exact absurd H (by simp)

/-! ### palanquinref11_Kind: function 26 -/
def palanquinref11_Kind.f (a0 : ByteArray) : Option (Int × Int) := (palanquinref11_Proto.f a0).bind fun bt139 => (if bt139.1 = 4 then (some (2048, 0)) else (if bt139.1 = 41 then (some (34525, 0)) else (some (0, bt139.2))))
set_option maxHeartbeats 8000000 in
set_option maxRecDepth 100000 in
theorem palanquinref11_Kind.calls (a0 : ByteArray) (r1 : Int) (r2 : Int) (w : World) (h : palanquinref11_Kind.f a0 = some (r1, r2)) :
    Calls Tryd.prog 26 #[.string a0] w fun e w' => e = .returned (.tuple #[.int .i64 r1, .int .i64 r2]) ∧ Drawn0 w w' := by
  have H : ((palanquinref11_Proto.f a0).bind fun bt139 => (if bt139.1 = 4 then (some (2048, 0)) else (if bt139.1 = 41 then (some (34525, 0)) else (some (0, bt139.2))))) = some (r1, r2) := h
  clear h
  replace H := Option.bind_eq_some_iff.mp H
  obtain ⟨⟨t139, t140⟩, A20, H⟩ := H
  replace H : (if t139 = 4 then (some (2048, 0)) else (if t139 = 41 then (some (34525, 0)) else (some (0, t140)))) = some (r1, r2) := H
  have A2 := Aside0.mk A20
  clear A20
  by_cases c3 : t139 = 4
  · rw [if_pos c3] at H
    have c3b0 : (t139 == 4) = true := beq_iff_eq.mpr c3
    have c3b1 : (t139 != 4) = false := bne_eq_false_iff_eq.mpr c3
    clear c3
    simp only [Option.some.injEq, Prod.mk.injEq] at H
    obtain ⟨rfl, rfl⟩ := H
    go_enter Tryd.func26, Tryd.ntmps26
    go_wp2_with (first | ((with_reducible refine gate_callee (f := 25) rfl ?_); refine goesL_ (some 8) rfl rfl Tryd.func25 (by kernel_rfl) rfl #[.string a0] rfl (by (try simp only [List.map_toArray, List.map_cons, List.map_nil]); first | done | rfl | (simp only [List.length_drop, List.length_take]; rfl)) ?_; (with_reducible refine (palanquinref11_Proto.calls a0 t139 t140 _ A2.out).mono ?_); rintro e w' ⟨rfl, ⟨nd, rfl⟩⟩; refine ⟨_, rfl, ?_⟩))
    go_ret2
    exact ⟨by first | rfl | (simp; done) | (simp [*]; done), by repeat (first | exact Drawn0.refl _ | apply Drawn0.step)⟩
  · rw [if_neg c3] at H
    have c3b0 : (t139 == 4) = false := beq_eq_false_iff_ne.mpr c3
    have c3b1 : (t139 != 4) = true := bne_iff_ne.mpr c3
    by_cases c4 : t139 = 41
    · rw [if_pos c4] at H
      have c4b0 : (t139 == 41) = true := beq_iff_eq.mpr c4
      have c4b1 : (t139 != 41) = false := bne_eq_false_iff_eq.mpr c4
      clear c4
      simp only [Option.some.injEq, Prod.mk.injEq] at H
      obtain ⟨rfl, rfl⟩ := H
      go_enter Tryd.func26, Tryd.ntmps26
      go_wp2_with (first | ((with_reducible refine gate_callee (f := 25) rfl ?_); refine goesL_ (some 8) rfl rfl Tryd.func25 (by kernel_rfl) rfl #[.string a0] rfl (by (try simp only [List.map_toArray, List.map_cons, List.map_nil]); first | done | rfl | (simp only [List.length_drop, List.length_take]; rfl)) ?_; (with_reducible refine (palanquinref11_Proto.calls a0 t139 t140 _ A2.out).mono ?_); rintro e w' ⟨rfl, ⟨nd, rfl⟩⟩; refine ⟨_, rfl, ?_⟩))
      go_ret2
      exact ⟨by first | rfl | (simp; done) | (simp [*]; done), by repeat (first | exact Drawn0.refl _ | apply Drawn0.step)⟩
    · rw [if_neg c4] at H
      have c4b0 : (t139 == 41) = false := beq_eq_false_iff_ne.mpr c4
      have c4b1 : (t139 != 41) = true := bne_iff_ne.mpr c4
      simp only [Option.some.injEq, Prod.mk.injEq] at H
      obtain ⟨rfl, rfl⟩ := H
      go_enter Tryd.func26, Tryd.ntmps26
      go_wp2_with (first | ((with_reducible refine gate_callee (f := 25) rfl ?_); refine goesL_ (some 8) rfl rfl Tryd.func25 (by kernel_rfl) rfl #[.string a0] rfl (by (try simp only [List.map_toArray, List.map_cons, List.map_nil]); first | done | rfl | (simp only [List.length_drop, List.length_take]; rfl)) ?_; (with_reducible refine (palanquinref11_Proto.calls a0 t139 t140 _ A2.out).mono ?_); rintro e w' ⟨rfl, ⟨nd, rfl⟩⟩; refine ⟨_, rfl, ?_⟩))
      go_ret2
      exact ⟨by first | rfl | (simp; done) | (simp [*]; done), by repeat (first | exact Drawn0.refl _ | apply Drawn0.step)⟩

/-! ### palanquinref11_Get: function 27 -/
def palanquinref11_Get.j0 : Nat → Int → ByteArray → Bool → Option (ByteArray × Int)
  | 0, _, _, _ => none
  | k + 1, x0, x1, x13 => if x13 = true then (some ((⟨#[]⟩ : ByteArray), 6)) else ((palanquinref11_Proto.f x1).bind fun bt141 => (if bt141.2 = 0 then (if bt141.1 = x0 then (some (x1, 0)) else (some ((⟨#[]⟩ : ByteArray), 3))) else (some ((⟨#[]⟩ : ByteArray), bt141.2))))
def palanquinref11_Get.f (k : Nat) (a0 : Int) (a1 : ByteArray) : Option (ByteArray × Int) := if a0 = 4 then (palanquinref11_Get.j0 k a0 a1 false) else (palanquinref11_Get.j0 k a0 a1 (a0 != 41))
theorem palanquinref11_Get.mono_l : ∀ k, (∀ y0 y1 y2, LeO (palanquinref11_Get.j0 k y0 y1 y2) (palanquinref11_Get.j0 (k + 1) y0 y1 y2))
  | 0 => fun _ _ _ r h => by simp [palanquinref11_Get.j0] at h
  | k + 1 => by
    have ih0 := palanquinref11_Get.mono_l k
    · intro y0 y1 y2
      unfold palanquinref11_Get.j0
      repeat' first
      | (with_reducible exact ih0 _ _ _)
      | (with_reducible exact LeO.refl _)
      | (with_reducible exact LeO.none _)
      | (with_reducible refine LeO.ite ?_ ?_)
      | (with_reducible refine LeO.bind ?_ (fun _ => ?_))
      | exact ih0 _ _ _
      | exact LeO.none _
      | refine LeO.ite ?_ ?_
      | refine LeO.bind ?_ (fun _ => ?_)
theorem palanquinref11_Get.mono : ∀ a0 a1 k, LeO (palanquinref11_Get.f k a0 a1) (palanquinref11_Get.f (k + 1) a0 a1) := by
  intro a0 a1 k
  have ih0 := palanquinref11_Get.mono_l k
  unfold palanquinref11_Get.f
  repeat' first
      | (with_reducible exact ih0 _ _ _)
      | (with_reducible exact LeO.refl _)
      | (with_reducible exact LeO.none _)
      | (with_reducible refine LeO.ite ?_ ?_)
      | (with_reducible refine LeO.bind ?_ (fun _ => ?_))
      | exact ih0 _ _ _
      | exact LeO.none _
      | refine LeO.ite ?_ ?_
      | refine LeO.bind ?_ (fun _ => ?_)
set_option maxHeartbeats 8000000 in
set_option maxRecDepth 100000 in
theorem palanquinref11_Get.calls (k : Nat) (a0 : Int) (a1 : ByteArray) (r1 : ByteArray) (r2 : Int) (w : World) (h : palanquinref11_Get.f k a0 a1 = some (r1, r2)) :
    Calls Tryd.prog 27 #[.int .i64 a0, .string a1] w fun e w' => e = .returned (.tuple #[.string r1, .int .i64 r2]) ∧ Drawn0 w w' := by
  have H : (if a0 = 4 then (palanquinref11_Get.j0 k a0 a1 false) else (palanquinref11_Get.j0 k a0 a1 (a0 != 41))) = some (r1, r2) := h
  clear h
  have HC3 := Aside0.mk H
  clear H
  go_enter Tryd.func27, Tryd.ntmps27
  go_upto_region 1 with (fail)
  go_cut [13] (fun v13 wc => ∃ (kq : Nat) (x13_2 : Bool), v13 = .bool x13_2 ∧ Aside0 (palanquinref11_Get.j0 kq a0 a1 x13_2 = some (r1, r2)) ∧ Aside0 (kq ≤ k) ∧ Drawn0 w wc)
  case first =>
    have H := HC3.out
    clear HC3
    by_cases c4 : a0 = 4
    · rw [if_pos c4] at H
      have c4b0 : (a0 == 4) = true := beq_iff_eq.mpr c4
      have c4b1 : (a0 != 4) = false := bne_eq_false_iff_eq.mpr c4
      clear c4
      (first | rw [c4b0] | (simp only [i64_w, i32_w]; rw [c4b0]) | skip)
      have H' := Aside0.mk H
      clear H
      go_wp2
      go_meet
      case rel => exact ⟨_, (false), (by first | rfl | (simp; done) | (simp [*]; done)), H', ⟨by first | omega | exact Nat.le_refl _⟩, by repeat (first | exact Drawn0.refl _ | apply Drawn0.step)⟩
    · rw [if_neg c4] at H
      have c4b0 : (a0 == 4) = false := beq_eq_false_iff_ne.mpr c4
      have c4b1 : (a0 != 4) = true := bne_iff_ne.mpr c4
      (first | rw [c4b0] | (simp only [i64_w, i32_w]; rw [c4b0]) | skip)
      have H' := Aside0.mk H
      clear H
      go_wp2
      go_meet
      case rel => exact ⟨_, ((a0 != 41)), (by first | rfl | (simp; done) | (simp [*]; done)), H', ⟨by first | omega | exact Nat.le_refl _⟩, by repeat (first | exact Drawn0.refl _ | apply Drawn0.step)⟩
  case rest =>
    clear HC3
    try clear c2
    try clear p2
    try clear c4
    try clear c4b0
    try clear c4b1
    obtain ⟨kq, x13_2, rfl, HA, HJ2, ⟨mc2, rfl⟩⟩ := hcut
    cases kq with
    | zero => exact absurd HA.out (by simp [palanquinref11_Get.j0])
    | succ kj2 =>
      have H := HA.out
      clear HA
      simp only [palanquinref11_Get.j0] at H
      by_cases c5 : x13_2 = true
      · subst c5
        have H1 : (some ((⟨#[]⟩ : ByteArray), 6)) = some (r1, r2) := by rw [if_pos rfl] at H; exact H
        clear H
        have H := H1
        clear H1
        simp only [Option.some.injEq, Prod.mk.injEq] at H
        obtain ⟨rfl, rfl⟩ := H
        go_wp2
        go_ret2
        exact ⟨by first | rfl | (simp; done) | (simp [*]; done), by repeat (first | exact Drawn0.refl _ | apply Drawn0.step)⟩
      · replace c5 := Bool.eq_false_iff.mpr c5
        subst c5
        have H1 : ((palanquinref11_Proto.f a1).bind fun bt141 => (if bt141.2 = 0 then (if bt141.1 = a0 then (some (a1, 0)) else (some ((⟨#[]⟩ : ByteArray), 3))) else (some ((⟨#[]⟩ : ByteArray), bt141.2)))) = some (r1, r2) := by rw [if_neg (show ¬ (false = true) by decide)] at H; exact H
        clear H
        have H := H1
        clear H1
        replace H := Option.bind_eq_some_iff.mp H
        obtain ⟨⟨t141, t142⟩, A60, H⟩ := H
        replace H : (if t142 = 0 then (if t141 = a0 then (some (a1, 0)) else (some ((⟨#[]⟩ : ByteArray), 3))) else (some ((⟨#[]⟩ : ByteArray), t142))) = some (r1, r2) := H
        have A6 := Aside0.mk A60
        clear A60
        by_cases c7 : t142 = 0
        · rw [if_pos c7] at H
          have c7b0 : (t142 == 0) = true := beq_iff_eq.mpr c7
          have c7b1 : (t142 != 0) = false := bne_eq_false_iff_eq.mpr c7
          clear c7
          by_cases c8 : t141 = a0
          · rw [if_pos c8] at H
            have c8b0 : (t141 == a0) = true := beq_iff_eq.mpr c8
            have c8b1 : (t141 != a0) = false := bne_eq_false_iff_eq.mpr c8
            clear c8
            simp only [Option.some.injEq, Prod.mk.injEq] at H
            obtain ⟨rfl, rfl⟩ := H
            go_wp2_with (first | ((with_reducible refine gate_callee (f := 25) rfl ?_); refine goesL_ (some 16) rfl rfl Tryd.func25 (by kernel_rfl) rfl #[.string a1] rfl (by (try simp only [List.map_toArray, List.map_cons, List.map_nil]); first | done | rfl | (simp only [List.length_drop, List.length_take]; rfl)) ?_; (with_reducible refine (palanquinref11_Proto.calls a1 t141 t142 _ A6.out).mono ?_); rintro e w' ⟨rfl, ⟨nd, rfl⟩⟩; refine ⟨_, rfl, ?_⟩))
            go_ret2
            exact ⟨by first | rfl | (simp; done) | (simp [*]; done), by repeat (first | exact Drawn0.refl _ | apply Drawn0.step)⟩
          · rw [if_neg c8] at H
            have c8b0 : (t141 == a0) = false := beq_eq_false_iff_ne.mpr c8
            have c8b1 : (t141 != a0) = true := bne_iff_ne.mpr c8
            simp only [Option.some.injEq, Prod.mk.injEq] at H
            obtain ⟨rfl, rfl⟩ := H
            go_wp2_with (first | ((with_reducible refine gate_callee (f := 25) rfl ?_); refine goesL_ (some 16) rfl rfl Tryd.func25 (by kernel_rfl) rfl #[.string a1] rfl (by (try simp only [List.map_toArray, List.map_cons, List.map_nil]); first | done | rfl | (simp only [List.length_drop, List.length_take]; rfl)) ?_; (with_reducible refine (palanquinref11_Proto.calls a1 t141 t142 _ A6.out).mono ?_); rintro e w' ⟨rfl, ⟨nd, rfl⟩⟩; refine ⟨_, rfl, ?_⟩))
            go_ret2
            exact ⟨by first | rfl | (simp; done) | (simp [*]; done), by repeat (first | exact Drawn0.refl _ | apply Drawn0.step)⟩
        · rw [if_neg c7] at H
          have c7b0 : (t142 == 0) = false := beq_eq_false_iff_ne.mpr c7
          have c7b1 : (t142 != 0) = true := bne_iff_ne.mpr c7
          simp only [Option.some.injEq, Prod.mk.injEq] at H
          obtain ⟨rfl, rfl⟩ := H
          go_wp2_with (first | ((with_reducible refine gate_callee (f := 25) rfl ?_); refine goesL_ (some 16) rfl rfl Tryd.func25 (by kernel_rfl) rfl #[.string a1] rfl (by (try simp only [List.map_toArray, List.map_cons, List.map_nil]); first | done | rfl | (simp only [List.length_drop, List.length_take]; rfl)) ?_; (with_reducible refine (palanquinref11_Proto.calls a1 t141 t142 _ A6.out).mono ?_); rintro e w' ⟨rfl, ⟨nd, rfl⟩⟩; refine ⟨_, rfl, ?_⟩))
          go_ret2
          exact ⟨by first | rfl | (simp; done) | (simp [*]; done), by repeat (first | exact Drawn0.refl _ | apply Drawn0.step)⟩

end Go.Proofs.YtcmalglippmocaaDoor.G
end

section
namespace Go.Proofs.YtcmalglippmocaaDoor.G
open Go.RowKit Go.Proofs.YtcmalglippmocaaDoorW.PrintWords Go.Proofs.YtcmalglippmocaaDoorW.PrintLast Go.Proofs.YtcmalglippmocaaDoorW.PrintMore
attribute [local go_sem] max2_int min2_int max_two min_two max_three min_three max_four min_four   -- for this text's walks alone
set_option linter.unusedVariables false
set_option linter.unusedSimpArgs false

/-! ### palanquinlaw11_awake: function 20 -/
def palanquinlaw11_awake.f  : Option (Bool) := (ipip_Proto.f (⟨#[69]⟩ : ByteArray)).bind fun bt106 => ((ipip_Proto.f (⟨#[96]⟩ : ByteArray)).bind fun bt108 => (if bt106.1 = 4 then (if bt106.2 = 0 then (if bt108.1 = 41 then (some (bt108.2 == 0)) else (some false)) else (some false)) else (some false)))
set_option maxHeartbeats 8000000 in
set_option maxRecDepth 100000 in
theorem palanquinlaw11_awake.calls  (r : Bool) (w : World) (h : palanquinlaw11_awake.f  = some r) (hgV_ : GV w) :
    Calls Tryd.prog 20 #[] w fun e w' => e = .returned (.bool r) ∧ Below w.heap.size w w' := by
  have HgV_ := Aside0.mk hgV_
  clear hgV_
  have HB := Aside0.mk (Below.refl w.heap.size w)
  have H : ((ipip_Proto.f (⟨#[69]⟩ : ByteArray)).bind fun bt106 => ((ipip_Proto.f (⟨#[96]⟩ : ByteArray)).bind fun bt108 => (if bt106.1 = 4 then (if bt106.2 = 0 then (if bt108.1 = 41 then (some (bt108.2 == 0)) else (some false)) else (some false)) else (some false)))) = some r := h
  clear h
  replace H := Option.bind_eq_some_iff.mp H
  obtain ⟨⟨t106, t107⟩, A10, H⟩ := H
  replace H : ((ipip_Proto.f (⟨#[96]⟩ : ByteArray)).bind fun bt108 => (if t106 = 4 then (if t107 = 0 then (if bt108.1 = 41 then (some (bt108.2 == 0)) else (some false)) else (some false)) else (some false))) = some r := H
  have A1 := Aside0.mk A10
  clear A10
  replace H := Option.bind_eq_some_iff.mp H
  obtain ⟨⟨t108, t109⟩, A20, H⟩ := H
  replace H : (if t106 = 4 then (if t107 = 0 then (if t108 = 41 then (some (t109 == 0)) else (some false)) else (some false)) else (some false)) = some r := H
  have A2 := Aside0.mk A20
  clear A20
  by_cases c3 : t106 = 4
  · rw [if_pos c3] at H
    have c3b0 : (t106 == 4) = true := beq_iff_eq.mpr c3
    have c3b1 : (t106 != 4) = false := bne_eq_false_iff_eq.mpr c3
    clear c3
    by_cases c4 : t107 = 0
    · rw [if_pos c4] at H
      have c4b0 : (t107 == 0) = true := beq_iff_eq.mpr c4
      have c4b1 : (t107 != 0) = false := bne_eq_false_iff_eq.mpr c4
      clear c4
      by_cases c5 : t108 = 41
      · rw [if_pos c5] at H
        have c5b0 : (t108 == 41) = true := beq_iff_eq.mpr c5
        have c5b1 : (t108 != 41) = false := bne_eq_false_iff_eq.mpr c5
        clear c5
        obtain rfl := Option.some.inj H
        go_enter Tryd.func20, Tryd.ntmps20
        go_wp2_with (first | ((with_reducible refine gate_callee (f := 21) rfl ?_); refine goesL_ (some 6) rfl rfl Tryd.func21 (by kernel_rfl) rfl #[.string (⟨#[69]⟩ : ByteArray)] rfl (by (try simp only [List.map_toArray, List.map_cons, List.map_nil]); first | done | rfl | (simp only [List.length_drop, List.length_take]; rfl)) ?_; (with_reducible refine (ipip_Proto.calls (⟨#[69]⟩ : ByteArray) t106 t107 _ A1.out (GV.below HgV_.out (by repeat (first | (with_reducible first | exact HB.out | apply below_alloc | apply pw_below_drewN | apply below_drew1) | exact HB.out)))).mono ?_); rintro e w6 ⟨rfl, hb⟩; refine ⟨_, rfl, ?_⟩; have n0_ := Aside0.mk (below_step (by repeat (first | (with_reducible first | exact HB.out | apply below_alloc | apply pw_below_drewN | apply below_drew1) | exact HB.out)) hb); clear HB; have HB := n0_; clear n0_; (try clear hb); (try clear hb2); (try clear hk); (try clear hi)) | ((with_reducible refine gate_callee (f := 21) rfl ?_); refine goesL_ (some 10) rfl rfl Tryd.func21 (by kernel_rfl) rfl #[.string (⟨#[96]⟩ : ByteArray)] rfl (by (try simp only [List.map_toArray, List.map_cons, List.map_nil]); first | done | rfl | (simp only [List.length_drop, List.length_take]; rfl)) ?_; (with_reducible refine (ipip_Proto.calls (⟨#[96]⟩ : ByteArray) t108 t109 _ A2.out (GV.below HgV_.out (by repeat (first | (with_reducible first | exact HB.out | apply below_alloc | apply pw_below_drewN | apply below_drew1) | exact HB.out)))).mono ?_); rintro e w7 ⟨rfl, hb⟩; refine ⟨_, rfl, ?_⟩; have n0_ := Aside0.mk (below_step (by repeat (first | (with_reducible first | exact HB.out | apply below_alloc | apply pw_below_drewN | apply below_drew1) | exact HB.out)) hb); clear HB; have HB := n0_; clear n0_; (try clear hb); (try clear hb2); (try clear hk); (try clear hi)))
        go_ret
        exact ⟨by first | rfl | (simp [errW_none, errW_some] <;> rfl) | (simp [*, errW_none, errW_some] <;> rfl), by repeat (first | (with_reducible first | exact HB.out | apply below_alloc | apply pw_below_drewN | apply below_drew1) | exact HB.out)⟩
      · rw [if_neg c5] at H
        have c5b0 : (t108 == 41) = false := beq_eq_false_iff_ne.mpr c5
        have c5b1 : (t108 != 41) = true := bne_iff_ne.mpr c5
        obtain rfl := Option.some.inj H
        go_enter Tryd.func20, Tryd.ntmps20
        go_wp2_with (first | ((with_reducible refine gate_callee (f := 21) rfl ?_); refine goesL_ (some 6) rfl rfl Tryd.func21 (by kernel_rfl) rfl #[.string (⟨#[69]⟩ : ByteArray)] rfl (by (try simp only [List.map_toArray, List.map_cons, List.map_nil]); first | done | rfl | (simp only [List.length_drop, List.length_take]; rfl)) ?_; (with_reducible refine (ipip_Proto.calls (⟨#[69]⟩ : ByteArray) t106 t107 _ A1.out (GV.below HgV_.out (by repeat (first | (with_reducible first | exact HB.out | apply below_alloc | apply pw_below_drewN | apply below_drew1) | exact HB.out)))).mono ?_); rintro e w8 ⟨rfl, hb⟩; refine ⟨_, rfl, ?_⟩; have n0_ := Aside0.mk (below_step (by repeat (first | (with_reducible first | exact HB.out | apply below_alloc | apply pw_below_drewN | apply below_drew1) | exact HB.out)) hb); clear HB; have HB := n0_; clear n0_; (try clear hb); (try clear hb2); (try clear hk); (try clear hi)) | ((with_reducible refine gate_callee (f := 21) rfl ?_); refine goesL_ (some 10) rfl rfl Tryd.func21 (by kernel_rfl) rfl #[.string (⟨#[96]⟩ : ByteArray)] rfl (by (try simp only [List.map_toArray, List.map_cons, List.map_nil]); first | done | rfl | (simp only [List.length_drop, List.length_take]; rfl)) ?_; (with_reducible refine (ipip_Proto.calls (⟨#[96]⟩ : ByteArray) t108 t109 _ A2.out (GV.below HgV_.out (by repeat (first | (with_reducible first | exact HB.out | apply below_alloc | apply pw_below_drewN | apply below_drew1) | exact HB.out)))).mono ?_); rintro e w9 ⟨rfl, hb⟩; refine ⟨_, rfl, ?_⟩; have n0_ := Aside0.mk (below_step (by repeat (first | (with_reducible first | exact HB.out | apply below_alloc | apply pw_below_drewN | apply below_drew1) | exact HB.out)) hb); clear HB; have HB := n0_; clear n0_; (try clear hb); (try clear hb2); (try clear hk); (try clear hi)))
        go_ret
        exact ⟨by first | rfl | (simp [errW_none, errW_some] <;> rfl) | (simp [*, errW_none, errW_some] <;> rfl), by repeat (first | (with_reducible first | exact HB.out | apply below_alloc | apply pw_below_drewN | apply below_drew1) | exact HB.out)⟩
    · rw [if_neg c4] at H
      have c4b0 : (t107 == 0) = false := beq_eq_false_iff_ne.mpr c4
      have c4b1 : (t107 != 0) = true := bne_iff_ne.mpr c4
      obtain rfl := Option.some.inj H
      go_enter Tryd.func20, Tryd.ntmps20
      go_wp2_with (first | ((with_reducible refine gate_callee (f := 21) rfl ?_); refine goesL_ (some 6) rfl rfl Tryd.func21 (by kernel_rfl) rfl #[.string (⟨#[69]⟩ : ByteArray)] rfl (by (try simp only [List.map_toArray, List.map_cons, List.map_nil]); first | done | rfl | (simp only [List.length_drop, List.length_take]; rfl)) ?_; (with_reducible refine (ipip_Proto.calls (⟨#[69]⟩ : ByteArray) t106 t107 _ A1.out (GV.below HgV_.out (by repeat (first | (with_reducible first | exact HB.out | apply below_alloc | apply pw_below_drewN | apply below_drew1) | exact HB.out)))).mono ?_); rintro e w10 ⟨rfl, hb⟩; refine ⟨_, rfl, ?_⟩; have n0_ := Aside0.mk (below_step (by repeat (first | (with_reducible first | exact HB.out | apply below_alloc | apply pw_below_drewN | apply below_drew1) | exact HB.out)) hb); clear HB; have HB := n0_; clear n0_; (try clear hb); (try clear hb2); (try clear hk); (try clear hi)) | ((with_reducible refine gate_callee (f := 21) rfl ?_); refine goesL_ (some 10) rfl rfl Tryd.func21 (by kernel_rfl) rfl #[.string (⟨#[96]⟩ : ByteArray)] rfl (by (try simp only [List.map_toArray, List.map_cons, List.map_nil]); first | done | rfl | (simp only [List.length_drop, List.length_take]; rfl)) ?_; (with_reducible refine (ipip_Proto.calls (⟨#[96]⟩ : ByteArray) t108 t109 _ A2.out (GV.below HgV_.out (by repeat (first | (with_reducible first | exact HB.out | apply below_alloc | apply pw_below_drewN | apply below_drew1) | exact HB.out)))).mono ?_); rintro e w11 ⟨rfl, hb⟩; refine ⟨_, rfl, ?_⟩; have n0_ := Aside0.mk (below_step (by repeat (first | (with_reducible first | exact HB.out | apply below_alloc | apply pw_below_drewN | apply below_drew1) | exact HB.out)) hb); clear HB; have HB := n0_; clear n0_; (try clear hb); (try clear hb2); (try clear hk); (try clear hi)))
      go_ret
      exact ⟨by first | rfl | (simp [errW_none, errW_some] <;> rfl) | (simp [*, errW_none, errW_some] <;> rfl), by repeat (first | (with_reducible first | exact HB.out | apply below_alloc | apply pw_below_drewN | apply below_drew1) | exact HB.out)⟩
  · rw [if_neg c3] at H
    have c3b0 : (t106 == 4) = false := beq_eq_false_iff_ne.mpr c3
    have c3b1 : (t106 != 4) = true := bne_iff_ne.mpr c3
    obtain rfl := Option.some.inj H
    go_enter Tryd.func20, Tryd.ntmps20
    go_wp2_with (first | ((with_reducible refine gate_callee (f := 21) rfl ?_); refine goesL_ (some 6) rfl rfl Tryd.func21 (by kernel_rfl) rfl #[.string (⟨#[69]⟩ : ByteArray)] rfl (by (try simp only [List.map_toArray, List.map_cons, List.map_nil]); first | done | rfl | (simp only [List.length_drop, List.length_take]; rfl)) ?_; (with_reducible refine (ipip_Proto.calls (⟨#[69]⟩ : ByteArray) t106 t107 _ A1.out (GV.below HgV_.out (by repeat (first | (with_reducible first | exact HB.out | apply below_alloc | apply pw_below_drewN | apply below_drew1) | exact HB.out)))).mono ?_); rintro e w12 ⟨rfl, hb⟩; refine ⟨_, rfl, ?_⟩; have n0_ := Aside0.mk (below_step (by repeat (first | (with_reducible first | exact HB.out | apply below_alloc | apply pw_below_drewN | apply below_drew1) | exact HB.out)) hb); clear HB; have HB := n0_; clear n0_; (try clear hb); (try clear hb2); (try clear hk); (try clear hi)) | ((with_reducible refine gate_callee (f := 21) rfl ?_); refine goesL_ (some 10) rfl rfl Tryd.func21 (by kernel_rfl) rfl #[.string (⟨#[96]⟩ : ByteArray)] rfl (by (try simp only [List.map_toArray, List.map_cons, List.map_nil]); first | done | rfl | (simp only [List.length_drop, List.length_take]; rfl)) ?_; (with_reducible refine (ipip_Proto.calls (⟨#[96]⟩ : ByteArray) t108 t109 _ A2.out (GV.below HgV_.out (by repeat (first | (with_reducible first | exact HB.out | apply below_alloc | apply pw_below_drewN | apply below_drew1) | exact HB.out)))).mono ?_); rintro e w13 ⟨rfl, hb⟩; refine ⟨_, rfl, ?_⟩; have n0_ := Aside0.mk (below_step (by repeat (first | (with_reducible first | exact HB.out | apply below_alloc | apply pw_below_drewN | apply below_drew1) | exact HB.out)) hb); clear HB; have HB := n0_; clear n0_; (try clear hb); (try clear hb2); (try clear hk); (try clear hi)))
    go_ret
    exact ⟨by first | rfl | (simp [errW_none, errW_some] <;> rfl) | (simp [*, errW_none, errW_some] <;> rfl), by repeat (first | (with_reducible first | exact HB.out | apply below_alloc | apply pw_below_drewN | apply below_drew1) | exact HB.out)⟩

end Go.Proofs.YtcmalglippmocaaDoor.G
end

section
/- Plain facts of ipip's functions: what a packet is told to be; the document's answer is that. -/
namespace Go.Proofs.YtcmalglippmocaaDoor.Pure
open Go.RowKit Go.Proofs.YtcmalglippmocaaDoorW.PrintWords Go.Proofs.YtcmalglippmocaaDoorW.PrintLast Go.Proofs.YtcmalglippmocaaDoor.G Go.Proofs.YtcmalglippmocaaDoor.Pal
set_option linter.unusedVariables false
theorem toList_nil (s : ByteArray) : s.toList = ([] : List UInt8) ↔ s.size = 0 := by
  have e := bl_length s
  have h : s.toList = bl s := ByteArray.toList_eq s
  rw [h, ← e]
  exact List.length_eq_zero_iff.symm
theorem ver_cases (s : ByteArray) : (s.size = 0 ∧ verOf s = (0, 0, 0, 2)) ∨ (s.size ≠ 0 ∧ bt s 0 / 16 = 4 ∧ verOf s = (4, 4, 2048, 0)) ∨ (s.size ≠ 0 ∧ bt s 0 / 16 = 6 ∧ verOf s = (6, 41, 34525, 0)) ∨ (s.size ≠ 0 ∧ bt s 0 / 16 ≠ 4 ∧ bt s 0 / 16 ≠ 6 ∧ verOf s = (0, 0, 0, 3)) := by
  unfold verOf
  by_cases h0 : s.size = 0
  · left; exact ⟨h0, if_pos h0⟩
  right
  rw [if_neg h0]
  by_cases h4 : bt s 0 / 16 = 4
  · left; exact ⟨h0, h4, if_pos h4⟩
  right
  rw [if_neg h4]
  by_cases h6 : bt s 0 / 16 = 6
  · left; exact ⟨h0, h6, if_pos h6⟩
  right
  exact ⟨h0, h4, h6, if_neg h6⟩
theorem proto_is (s : ByteArray) : ipip_Proto.f s = some ((verOf s).2.1, (verOf s).2.2.2) := rfl
theorem kind_is (s : ByteArray) : ipip_Kind.f s = some ((verOf s).2.2.1, (verOf s).2.2.2) := rfl
theorem put_is (s : ByteArray) : ipip_Put.f s = some (if (verOf s).2.2.2 = 0 then ((verOf s).2.1, s, 0) else (0, ⟨#[]⟩, (verOf s).2.2.2)) := by
  unfold ipip_Put.f
  rw [proto_is, Option.bind_some]
  split <;> rfl
theorem nib_div (s : ByteArray) : (Int.tdiv (bt s 0) 16) % 256 = bt s 0 / 16 := by
  have h := bt_range s 0
  rw [Int.tdiv_eq_ediv_of_nonneg h.1]
  omega
theorem refProto_is (s : ByteArray) : palanquinref11_Proto.f s = some ((verOf s).2.1, (verOf s).2.2.2) := by
  unfold palanquinref11_Proto.f verOf
  rw [nib_div]
  by_cases h0 : s.size = 0
  · rw [if_pos ((toList_nil s).2 h0), if_pos h0]
  · rw [if_neg (fun h => h0 ((toList_nil s).1 h)), if_pos (by omega), if_neg h0]
    split
    · rfl
    · split <;> rfl
theorem refKind_is (s : ByteArray) : palanquinref11_Kind.f s = some ((verOf s).2.2.1, (verOf s).2.2.2) := by
  unfold palanquinref11_Kind.f
  rw [refProto_is, Option.bind_some]
  rcases ver_cases s with ⟨_, h⟩ | ⟨_, _, h⟩ | ⟨_, _, h⟩ | ⟨_, _, _, h⟩ <;> rw [h] <;> rfl
theorem refGet_is (k : Nat) (p : Int) (s : ByteArray) : palanquinref11_Get.f (k + 1) p s = ipip_Get.f p s := by
  have hp := refProto_is s
  unfold palanquinref11_Get.f ipip_Get.f
  generalize verOf s = v at hp ⊢
  obtain ⟨b, q, kk, e⟩ := v
  by_cases h4 : p = 4 <;> by_cases h41 : p = 41 <;> by_cases he : e = 0 <;> by_cases hq : q = p <;> first | (simp [palanquinref11_Get.j0, hp, h4, h41, he, hq]; done) | (subst h4; simp [palanquinref11_Get.j0, hp, he, hq]; done) | (subst h41; simp [palanquinref11_Get.j0, hp, he, hq]; done) | (simp [palanquinref11_Get.j0, hp, h4, h41, he, hq]; omega)
theorem get_own {s : ByteArray} (h : (verOf s).2.2.2 = 0) : ipip_Get.f (verOf s).2.1 s = some (s, 0) := by
  unfold ipip_Get.f
  have hp : ¬ ((verOf s).2.1 ≠ 4 ∧ (verOf s).2.1 ≠ 41) := by
    rcases ver_cases s with ⟨_, e⟩ | ⟨_, _, e⟩ | ⟨_, _, e⟩ | ⟨_, _, _, e⟩ <;> rw [e] at h ⊢ <;> simp at h ⊢
  rw [if_neg hp, if_neg (by simpa using h), if_neg (by simp)]
theorem get_other {s : ByteArray} {p : Int} (h : (verOf s).2.2.2 = 0) (hp : p ≠ (verOf s).2.1) : ∃ e, ipip_Get.f p s = some (⟨#[]⟩, e) ∧ e ≠ 0 := by
  unfold ipip_Get.f
  by_cases h0 : p ≠ 4 ∧ p ≠ 41
  · exact ⟨6, by rw [if_pos h0], by decide⟩
  · exact ⟨3, by rw [if_neg h0, if_neg (by simpa using h), if_pos (fun e => hp e.symm)], by decide⟩
theorem awake11 : palanquinlaw11_awake.f = some true := by decide +kernel
theorem empty11 : (⟨#[]⟩ : ByteArray).toList = [] := by decide +kernel
end Go.Proofs.YtcmalglippmocaaDoor.Pure
end

section
/- Plain theory: a text with its own checksum inside it, at an even place. No program in it. -/
namespace Go.Proofs.YtcmalglippmocaaDoor.Pal
theorem nb2_is (c : Nat) : nb 2 c = [UInt8.ofNat (c / 256), UInt8.ofNat c] := rfl
theorem nb2_tot (c : Nat) (h : c ≤ 65535) : tot false (nb 2 c) = c := by
  rw [nb2_is]
  simp only [tot, UInt8.toNat_ofNat']
  omega
theorem nb2_odd (c : Nat) : odd (nb 2 c) = false := by unfold odd; rw [nb_length]; rfl
theorem tot_mid (A B : List UInt8) (c : Nat) (hA : odd A = false) (hc : c ≤ 65535) : tot false (A ++ nb 2 c ++ B) = tot false (A ++ nb 2 0 ++ B) + c := by
  have e : ∀ d, odd (A ++ nb 2 d) = false := fun d => by
    unfold odd at hA ⊢
    rw [List.length_append, nb_length]
    simp only [beq_eq_false_iff_ne] at hA ⊢
    omega
  have t : ∀ d, tot false (A ++ nb 2 d ++ B) = tot false A + tot false (nb 2 d) + tot false B := fun d => by
    rw [tot_append, tot_append, e d, hA]
    rfl
  rw [t, t, nb2_tot c hc, nb2_tot 0 (by decide)]
  omega
theorem csum_bound (l : List UInt8) : csum l ≤ 65535 := by unfold csum; omega
/-- With its checksum in its place it sums to 0. -/
theorem inSealed (A B : List UInt8) (hA : odd A = false) : csum (A ++ nb 2 (csum (A ++ nb 2 0 ++ B)) ++ B) = 0 := by
  unfold csum at *
  rw [tot_mid A B _ hA (by omega)]
  generalize tot false (A ++ nb 2 0 ++ B) = t
  unfold fold16
  split <;> split <;> omega
/-- What stands there, and makes it sum to 0, is its checksum, but where it is FFFF. -/
theorem outSealed (A B : List UInt8) (c : Nat) (hA : odd A = false) (hc : c < 65535) (h : csum (A ++ nb 2 c ++ B) = 0) : csum (A ++ nb 2 0 ++ B) = c := by
  unfold csum at *
  rw [tot_mid A B c hA (by omega)] at h
  generalize tot false (A ++ nb 2 0 ++ B) = t at h ⊢
  unfold fold16 at *
  split at h
  · omega
  · split
    · omega
    · omega
end Go.Proofs.YtcmalglippmocaaDoor.Pal
end

section
/- Plain facts of gre's functions: what is put, what is got. -/
namespace Go.Proofs.YtcmalglippmocaaDoor.Pure
open Go.RowKit Go.Proofs.YtcmalglippmocaaDoorW.PrintWords Go.Proofs.YtcmalglippmocaaDoorW.PrintLast Go.Proofs.YtcmalglippmocaaDoor.G Go.Proofs.YtcmalglippmocaaDoor.Pal
set_option linter.unusedVariables false
theorem andNot_nat (x : Nat) (hx : x < 65536) : Go.bits .andNot .i64 (x : Int) 40960 = ((x &&& (2 ^ 64 - 40961) : Nat) : Int) := by
  have e : (BitVec.ofInt IntKind.i64.bits (x : Int) &&& ~~~ BitVec.ofInt IntKind.i64.bits 40960).toNat = x &&& (2 ^ 64 - 40961) := by
    rw [BitVec.toNat_and, show (~~~ BitVec.ofInt IntKind.i64.bits 40960).toNat = 2 ^ 64 - 40961 by decide, BitVec.ofInt_natCast, BitVec.toNat_ofNat, Nat.mod_eq_of_lt (Nat.lt_of_lt_of_le hx (by decide))]
  have hl : x &&& (2 ^ 64 - 40961) ≤ x := Nat.and_le_left
  show IntKind.i64.wrap ((BitVec.ofInt IntKind.i64.bits (x : Int) &&& ~~~ BitVec.ofInt IntKind.i64.bits 40960).toNat : Int) = _
  rw [e, IntKind.wrap_i64]
  omega
theorem andNot_zero (x : Nat) (hx : x < 65536) : Go.bits .andNot .i64 (x : Int) 40960 = 0 ↔ x = 0 ∨ x = 8192 ∨ x = 32768 ∨ x = 40960 := by
  constructor
  · intro h
    rw [andNot_nat x hx] at h
    have h0 : x &&& (2 ^ 64 - 40961) = 0 := by omega
    have h1 : x % 2 ^ 13 = 0 := by
      rw [← Nat.and_two_pow_sub_one_eq_mod]
      have : (x &&& (2 ^ 64 - 40961)) &&& (2 ^ 13 - 1) = x &&& (2 ^ 13 - 1) := by rw [Nat.and_assoc]; congr 1
      rw [← this, h0, Nat.zero_and]
    have h2 : x / 2 ^ 14 % 2 = 0 := by
      have := congrArg (Nat.testBit · 14) h0
      simp only [Nat.testBit_and, Nat.zero_testBit, show (2 ^ 64 - 40961 : Nat).testBit 14 = true by decide, Bool.and_true] at this
      rw [Nat.testBit_eq_decide_div_mod_eq] at this
      have := of_decide_eq_false this
      omega
    omega
  · rintro (rfl | rfl | rfl | rfl) <;> decide +kernel
theorem bits_cases (x : Nat) (h : x = 0 ∨ x = 8192 ∨ x = 32768 ∨ x = 40960) : x = greBits (Go.bits .and .i64 (x : Int) 32768 != 0) (Go.bits .and .i64 (x : Int) 8192 != 0) ∧ Go.bits .and .i64 (x : Int) 7 = 0 := by
  rcases h with rfl | rfl | rfl | rfl <;> decide +kernel
theorem bits_back (S K : Bool) : (greBits S K = 0 ∨ greBits S K = 8192 ∨ greBits S K = 32768 ∨ greBits S K = 40960) ∧ (Go.bits .and .i64 (greBits S K : Int) 32768 != 0) = S ∧ (Go.bits .and .i64 (greBits S K : Int) 8192 != 0) = K ∧ greBits S K < 65536 := by
  cases S <;> cases K <;> decide +kernel
theorem gx_lt (s : ByteArray) : be (bl (s.extract 0 2)) < 65536 := be_lt_of _ 2 (by rw [bl_length, ByteArray.size_extract]; omega)
theorem gkd_lt (s : ByteArray) : be (bl (s.extract 2 4)) < 65536 := be_lt_of _ 2 (by rw [bl_length, ByteArray.size_extract]; omega)
theorem cutG (s : ByteArray) (n m : Nat) : bl (s.extract n m) = ((bl s).take m).drop n := by simp [bl, ByteArray.data_extract, List.drop_take]
theorem segG {x : ByteArray} (A B C : List UInt8) {i j : Nat} (hx : bl x = A ++ B ++ C) (hA : A.length = i) (hB : i + B.length = j) : bl (x.extract i j) = B := by
  rw [cutG, hx, List.take_append_of_le_length (by rw [List.length_append]; omega), List.take_of_length_le (by rw [List.length_append]; omega), List.drop_append_of_le_length (by omega), List.drop_of_length_le (by omega), List.nil_append]
theorem blG_inj {a b : ByteArray} (h : bl a = bl b) : a = b := ByteArray.ext (Array.toList_inj.mp h)
/-- The bytes behind a header's first four. -/
def greTail (S K : Bool) (v c : Nat) : List UInt8 := (if S then nb 2 c ++ nb 2 0 else []) ++ (if K then nb 4 v else [])
theorem tail_len (S K : Bool) (v c : Nat) : (greTail S K v c).length = (if S then 4 else 0) + (if K then 4 else 0) := by
  unfold greTail; cases S <;> cases K <;> simp [nb_length]
/-- What is got of bytes that begin with a header. -/
theorem got_parts {y x : ByteArray} {S K : Bool} {v c kd : Nat} (hy : bl y = nb 2 (greBits S K) ++ nb 2 kd ++ greTail S K v c ++ bl x) (hk : kd < 65536) (hv : v < 4294967296) :
    y.size = 4 + (if S then 4 else 0) + (if K then 4 else 0) + x.size ∧ gx y = (greBits S K : Nat) ∧ gkd y = (kd : Nat) ∧ gS y = S ∧ gK y = K ∧ gAt y = 4 + (if S then 4 else 0) + (if K then 4 else 0) ∧ gIn y = x ∧ gVal y = (if K then (v : Int) else 0) ∧ (S = true → be (bl (y.extract 6 8)) = 0 ∧ be (bl (y.extract 4 6)) = c % 65536) := by
  have hsz : y.size = 4 + (if S then 4 else 0) + (if K then 4 else 0) + x.size := by
    rw [← bl_length, hy]; simp only [List.length_append, nb_length, tail_len, bl_length]; omega
  have hx0 : gx y = (greBits S K : Nat) := by
    unfold gx
    rw [segG [] (nb 2 (greBits S K)) (nb 2 kd ++ greTail S K v c ++ bl x) (i := 0) (j := 2) (by rw [hy]; simp [List.append_assoc]) rfl (by rw [nb_length]), be_nb, Nat.mod_eq_of_lt (bits_back S K).2.2.2]
  have hkd : gkd y = (kd : Nat) := by
    unfold gkd
    rw [segG (nb 2 (greBits S K)) (nb 2 kd) (greTail S K v c ++ bl x) (by rw [hy]; simp [List.append_assoc]) (nb_length _ _) (by rw [nb_length]), be_nb, Nat.mod_eq_of_lt hk]
  have hS : gS y = S := by unfold gS; rw [hx0]; exact (bits_back S K).2.1
  have hK : gK y = K := by unfold gK; rw [hx0]; exact (bits_back S K).2.2.1
  have hat : gAt y = 4 + (if S then 4 else 0) + (if K then 4 else 0) := by unfold gAt; rw [hS, hK]
  refine ⟨hsz, hx0, hkd, hS, hK, hat, ?_, ?_, ?_⟩
  · apply blG_inj
    unfold gIn
    rw [hat]
    have := segG (nb 2 (greBits S K) ++ nb 2 kd ++ greTail S K v c) (bl x) [] (x := y) (i := 4 + (if S then 4 else 0) + (if K then 4 else 0)) (j := y.size) (by rw [hy]; simp) (by simp only [List.length_append, nb_length, tail_len]; omega) (by rw [bl_length, hsz])
    exact this
  · unfold gVal
    rw [hK, hat]
    cases K with
    | false => rfl
    | true =>
      rw [if_pos rfl, if_pos rfl]
      have := segG (nb 2 (greBits S true) ++ nb 2 kd ++ (if S then nb 2 c ++ nb 2 0 else [])) (nb 4 v) (bl x) (x := y) (i := 4 + (if S then 4 else 0)) (j := 4 + (if S then 4 else 0) + 4) (by rw [hy]; simp [greTail, List.append_assoc]) (by cases S <;> simp [nb_length]) (by rw [nb_length])
      rw [show (4 + (if S = true then 4 else 0)) + 4 - 4 = 4 + (if S = true then 4 else 0) by omega, if_pos rfl, this, be_nb, Nat.mod_eq_of_lt hv]
  · intro h
    subst h
    refine ⟨?_, ?_⟩
    · rw [segG (nb 2 (greBits true K) ++ nb 2 kd ++ nb 2 c) (nb 2 0) ((if K then nb 4 v else []) ++ bl x) (by rw [hy]; simp [greTail, List.append_assoc]) (by simp [nb_length]) (by rw [nb_length]), be_nb]
    · rw [segG (nb 2 (greBits true K) ++ nb 2 kd) (nb 2 c) (nb 2 0 ++ (if K then nb 4 v else []) ++ bl x) (by rw [hy]; simp [greTail, List.append_assoc]) (by simp [nb_length]) (by rw [nb_length]), be_nb]
theorem got_err {y x : ByteArray} {S K : Bool} {v c kd : Nat} (hy : bl y = nb 2 (greBits S K) ++ nb 2 kd ++ greTail S K v c ++ bl x) (hk : kd < 65536) (hv : v < 4294967296) :
    greErr y = if S = true ∧ csum (bl y) ≠ 0 then 5 else if ¬ ((kd : Int) == 2048 || (kd : Int) == 34525) = true then 6 else if (verOf x).2.2.2 ≠ 0 then (verOf x).2.2.2 else if (verOf x).2.2.1 ≠ (kd : Int) then 3 else 0 := by
  obtain ⟨hsz, hx0, hkd, hS, hK, hat, hin, hval, h6⟩ := got_parts hy hk hv
  have hb := bits_back S K
  unfold greErr
  rw [hx0, hkd, hS, hat, hin, hsz, if_neg (by omega), if_neg (fun h => h (bits_cases _ hb.1).2), if_neg (fun h => h ((andNot_zero _ hb.2.2.2).2 hb.1)), if_neg (by omega), if_neg (fun h => h.2 (h6 h.1).1)]
theorem got_ok {y x : ByteArray} {S K : Bool} {v c kd : Nat} (hy : bl y = nb 2 (greBits S K) ++ nb 2 kd ++ greTail S K v c ++ bl x) (hk : kd < 65536) (hv : v < 4294967296) (hs : y.size ≤ 1099511627776)
    (h5 : S = true → csum (bl y) = 0) (he : (verOf x).2.2.2 = 0) (hk2 : (verOf x).2.2.1 = (kd : Int)) : gre_Get.f y = some (S, K, (if K then (v : Int) else 0), x, 0) := by
  obtain ⟨hsz, hx0, hkd, hS, hK, hat, hin, hval, h6⟩ := got_parts hy hk hv
  have h9 : ((kd : Int) == 2048 || (kd : Int) == 34525) = true := by
    rw [← hk2]
    rcases ver_cases x with ⟨_, e⟩ | ⟨_, _, e⟩ | ⟨_, _, e⟩ | ⟨_, _, _, e⟩ <;> rw [e] at he ⊢ <;> simp at he ⊢
  have h0 : greErr y = 0 := by
    rw [got_err hy hk hv, if_neg (fun h => h.2 (h5 h.1)), if_neg (fun h => h h9), if_neg (fun h => h he), if_neg (fun h => h hk2)]
  unfold gre_Get.f
  rw [if_pos hs, if_pos h0, hS, hK, hval, hin]
/-- What is put. -/
def putG (S K : Bool) (v : Nat) (kd : Int) (x : ByteArray) : List UInt8 := greBytes S K v kd (csum (greBytes S K v kd 0 ++ bl x) : Nat) ++ bl x
theorem bytes_is' (S K : Bool) (v : Nat) (kd c : Nat) (hv : v < 4294967296) (hk : kd < 65536) (hc : c ≤ 65535) : greBytes S K v kd c = nb 2 (greBits S K) ++ nb 2 kd ++ greTail S K v c := by
  have w : ∀ n : Nat, n < 4294967296 → u64n (n : Int) = n := fun n hn => by unfold u64n; rw [IntKind.wrap_u64]; omega
  unfold greBytes greTail
  rw [w v hv, w kd (by omega), w c (by omega)]
  simp [List.append_assoc]
theorem put_ok {S K : Bool} {v : Nat} {x : ByteArray} (hv : v < 4294967296) (hx : x.size ≤ 1000000) (he : (verOf x).2.2.2 = 0) :
    ∃ y kd c, gre_Put.f S K v x = some (y, 0) ∧ bl y = nb 2 (greBits S K) ++ nb 2 kd ++ greTail S K v c ++ bl x ∧ (verOf x).2.2.1 = (kd : Nat) ∧ kd < 65536 ∧ c ≤ 65535 ∧ c = csum (nb 2 (greBits S K) ++ nb 2 kd ++ greTail S K v 0 ++ bl x) ∧ (S = true → csum (bl y) = 0) := by
  obtain ⟨kd, hkd, hk⟩ : ∃ kd : Nat, (verOf x).2.2.1 = (kd : Nat) ∧ kd < 65536 := by
    rcases ver_cases x with ⟨_, e⟩ | ⟨_, _, e⟩ | ⟨_, _, e⟩ | ⟨_, _, _, e⟩ <;> rw [e] at he ⊢
    · exact absurd he (by decide)
    · exact ⟨2048, rfl, by decide⟩
    · exact ⟨34525, rfl, by decide⟩
    · exact absurd he (by decide)
  have hc := csum_bound (nb 2 (greBits S K) ++ nb 2 kd ++ greTail S K v 0 ++ bl x)
  obtain ⟨c, hcc⟩ : ∃ c, c = csum (nb 2 (greBits S K) ++ nb 2 kd ++ greTail S K v 0 ++ bl x) := ⟨_, rfl⟩
  rw [← hcc] at hc
  have hlen : ∀ c' : Nat, (nb 2 (greBits S K) ++ nb 2 kd ++ greTail S K v c').length ≤ 12 := fun c' => by simp only [List.length_append, nb_length, tail_len]; split <;> split <;> omega
  obtain ⟨t0, ht0⟩ : ∃ t0 : ByteArray, t0 = ⟨(nb 2 (greBits S K) ++ nb 2 kd ++ greTail S K v 0).toArray⟩ := ⟨_, rfl⟩
  obtain ⟨t1, ht1⟩ : ∃ t1 : ByteArray, t1 = ⟨(nb 2 (greBits S K) ++ nb 2 kd ++ greTail S K v c).toArray⟩ := ⟨_, rfl⟩
  have b0 : bl t0 = nb 2 (greBits S K) ++ nb 2 kd ++ greTail S K v 0 := by rw [ht0]; simp [bl]
  have b1 : bl t1 = nb 2 (greBits S K) ++ nb 2 kd ++ greTail S K v c := by rw [ht1]; simp [bl]
  have z0 : t0.size ≤ 12 := by rw [← bl_length, b0]; exact hlen 0
  have z1 : t1.size ≤ 12 := by rw [← bl_length, b1]; exact hlen c
  have e0 : gre_bytes.f S K v kd 0 = some t0 := by
    unfold gre_bytes.f
    have := bytes_is' S K v kd 0 hv hk (by decide)
    rw [if_pos ⟨by omega, by omega⟩, ht0, ← this]; rfl
  have e1 : gre_bytes.f S K v kd (c : Int) = some t1 := by
    unfold gre_bytes.f
    rw [if_pos ⟨by omega, by omega⟩, ht1, ← bytes_is' S K v kd c hv hk hc]
  have hs : sum_Sum.f [t0, x] = some ((c : Nat) : Int) := by
    unfold sum_Sum.f
    rw [cat_cons, cat_cons, cat_nil, List.append_nil, if_pos (by rw [List.length_append, bl_length, bl_length]; omega), b0, ← hcc]
  refine ⟨t1 ++ x, kd, c, ?_, by rw [bl_append, b1], hkd, hk, hc, hcc, ?_⟩
  · unfold gre_Put.f
    rw [kind_is, Option.bind_some]
    dsimp +instances only
    rw [if_pos he, hkd, e0, Option.bind_some, hs, Option.bind_some, e1, Option.bind_some, if_pos (by omega)]
  · intro h
    subst h
    rw [bl_append, b1]
    have := inSealed (nb 2 (greBits true K) ++ nb 2 kd) (nb 2 0 ++ (if K then nb 4 v else []) ++ bl x) (by simp [odd, nb_length])
    have e2 : ∀ c' : Nat, nb 2 (greBits true K) ++ nb 2 kd ++ greTail true K v c' ++ bl x = nb 2 (greBits true K) ++ nb 2 kd ++ nb 2 c' ++ (nb 2 0 ++ (if K then nb 4 v else []) ++ bl x) := fun c' => by simp [greTail, List.append_assoc]
    rw [e2, hcc, e2]
    exact this
theorem put_no {S K : Bool} {v : Int} {x : ByteArray} (he : (verOf x).2.2.2 ≠ 0) : gre_Put.f S K v x = some (⟨#[]⟩, (verOf x).2.2.2) := by
  unfold gre_Put.f
  rw [kind_is, Option.bind_some]
  dsimp +instances only
  rw [if_neg he]
theorem awake12 : palanquinlaw12_awake.f = some true := by
  unfold palanquinlaw12_awake.f
  obtain ⟨y, kd, c, h1, h2, h3, _⟩ := put_ok (S := false) (K := false) (v := 0) (x := ⟨#[69, 120]⟩) (by decide) (by decide) (by decide +kernel)
  have h3' : (verOf ⟨#[69, 120]⟩).2.2.1 = 2048 := by decide +kernel
  obtain rfl : kd = 2048 := by omega
  rw [show ((0 : Nat) : Int) = 0 from rfl] at h1
  rw [h1, Option.bind_some]
  dsimp +instances only
  rw [if_pos (by rw [ByteArray.toList_eq]; exact h2.trans (by rw [show greTail false false 0 c = [] from rfl]; decide +kernel)), if_pos rfl]
  rfl
end Go.Proofs.YtcmalglippmocaaDoor.Pure
end
