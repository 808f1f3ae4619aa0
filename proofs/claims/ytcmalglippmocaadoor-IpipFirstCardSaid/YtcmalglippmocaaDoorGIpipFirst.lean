-- Laid by a program of this session (wip/gen/gprint.py) over the translation's print. Lean checks it.
import Derived.Test.YtcmalglippmocaaDoorG0
import Derived.Test.YtcmalglippmocaaDoorGipip
import Derived.Test.YtcmalglippmocaaDoorGlaw11
import Derived.Test.YtcmalglippmocaaDoorHIpipG
namespace Go.Proofs.YtcmalglippmocaaDoor.G
open Go.RowKit Go.Proofs.YtcmalglippmocaaDoorW.PrintWords Go.Proofs.YtcmalglippmocaaDoorW.PrintLast Go.Proofs.YtcmalglippmocaaDoorW.PrintMore
attribute [local go_sem] max2_int min2_int max_two min_two max_three min_three max_four min_four   -- for this text's walks alone
set_option linter.unusedVariables false
set_option linter.unusedSimpArgs false

/-! ### palanquinlaw11_IpipFirst: function 3 -/
def palanquinlaw11_IpipFirst.j0 : Nat → ByteArray → ByteArray → Bool → Option (Bool)
  | 0, _, _, _ => none
  | k + 1, x0, x1, x29 => if x29 = true then (some true) else (if 0 < (x0.size : Int) then ((some (([Go.bits .or .u8 (Go.bits .and .u8 (bt x0 0) 240) ((Go.bits .and .i64 (x1.size : Int) 15) % 256)] : List Int) : List Int)).bind fun y116 => (if (strOfNums y116).size + x1.size ≤ 9223372036854775807 then ((ipip_Proto.f x0).bind fun bt119 => ((ipip_Proto.f ((strOfNums y116) ++ x1)).bind fun bt121 => ((ipip_Kind.f x0).bind fun bt123 => ((ipip_Kind.f ((strOfNums y116) ++ x1)).bind fun bt125 => ((ipip_Get.f bt119.1 ((strOfNums y116) ++ x1)).bind fun bt127 => (if bt119.1 = bt121.1 then (if bt119.2 = bt121.2 then (if bt123.1 = bt125.1 then (if bt123.2 = bt125.2 then (if bt123.2 = bt119.2 then (if ((bt127.2 == 0) == (bt119.2 == 0)) = true then (if bt127.1.toList = ((strOfNums y116) ++ x1).toList then (some true) else (if bt119.2 = 0 then (some false) else (some (bt127.1.toList == ([] : List UInt8))))) else (some false)) else (some false)) else (some false)) else (some false)) else (some false)) else (some false))))))) else (none))) else (none))
def palanquinlaw11_IpipFirst.f (k : Nat) (a0 : ByteArray) (a1 : ByteArray) : Option (Bool) := (palanquinlaw11_awake.f).bind fun t115 => (if t115 = true then (if (a0.size : Int) > 3000 then (palanquinlaw11_IpipFirst.j0 k a0 a1 true) else (if (a1.size : Int) > 3000 then (palanquinlaw11_IpipFirst.j0 k a0 a1 true) else (palanquinlaw11_IpipFirst.j0 k a0 a1 (a0.toList == ([] : List UInt8))))) else (some false))
theorem palanquinlaw11_IpipFirst.mono_l : ∀ k, (∀ y0 y1 y2, LeO (palanquinlaw11_IpipFirst.j0 k y0 y1 y2) (palanquinlaw11_IpipFirst.j0 (k + 1) y0 y1 y2))
  | 0 => fun _ _ _ r h => by simp [palanquinlaw11_IpipFirst.j0] at h
  | k + 1 => by
    have ih0 := palanquinlaw11_IpipFirst.mono_l k
    · intro y0 y1 y2
      unfold palanquinlaw11_IpipFirst.j0
      repeat' first
      | (with_reducible exact ih0 _ _ _)
      | (with_reducible exact LeO.refl _)
      | (with_reducible exact LeO.none _)
      | (with_reducible refine LeO.ite ?_ ?_)
      | (with_reducible refine LeO.bind ?_ (fun _ => ?_))
      | exact ih0 _ _ _
      | exact LeO.none _
      | refine LeO.ite ?_ ?_
      | refine LeO.bind ?_ (fun _ => ?_)
theorem palanquinlaw11_IpipFirst.mono : ∀ a0 a1 k, LeO (palanquinlaw11_IpipFirst.f k a0 a1) (palanquinlaw11_IpipFirst.f (k + 1) a0 a1) := by
  intro a0 a1 k
  have ih0 := palanquinlaw11_IpipFirst.mono_l k
  unfold palanquinlaw11_IpipFirst.f
  repeat' first
      | (with_reducible exact ih0 _ _ _)
      | (with_reducible exact LeO.refl _)
      | (with_reducible exact LeO.none _)
      | (with_reducible refine LeO.ite ?_ ?_)
      | (with_reducible refine LeO.bind ?_ (fun _ => ?_))
      | exact ih0 _ _ _
      | exact LeO.none _
      | refine LeO.ite ?_ ?_
      | refine LeO.bind ?_ (fun _ => ?_)
set_option maxHeartbeats 8000000 in
set_option maxRecDepth 100000 in
theorem palanquinlaw11_IpipFirst.calls (k : Nat) (a0 : ByteArray) (a1 : ByteArray) (r : Bool) (w : World) (h : palanquinlaw11_IpipFirst.f k a0 a1 = some r) (hrt_ : Aside0 (r = true)) (hgV_ : GV w) :
    Calls Tryd.prog 3 #[.string a0, .string a1] w fun e w' => e = .returned (.bool r) ∧ Below w.heap.size w w' := by
  have HgV_ := Aside0.mk hgV_
  clear hgV_
  have HB := Aside0.mk (Below.refl w.heap.size w)
  have H : ((palanquinlaw11_awake.f).bind fun t115 => (if t115 = true then (if (a0.size : Int) > 3000 then (palanquinlaw11_IpipFirst.j0 k a0 a1 true) else (if (a1.size : Int) > 3000 then (palanquinlaw11_IpipFirst.j0 k a0 a1 true) else (palanquinlaw11_IpipFirst.j0 k a0 a1 (a0.toList == ([] : List UInt8))))) else (some false))) = some r := h
  clear h
  replace H := Option.bind_eq_some_iff.mp H
  obtain ⟨t115, A30, H⟩ := H
  replace H : (if t115 = true then (if (a0.size : Int) > 3000 then (palanquinlaw11_IpipFirst.j0 k a0 a1 true) else (if (a1.size : Int) > 3000 then (palanquinlaw11_IpipFirst.j0 k a0 a1 true) else (palanquinlaw11_IpipFirst.j0 k a0 a1 (a0.toList == ([] : List UInt8))))) else (some false)) = some r := H
  have A3 := Aside0.mk A30
  clear A30
  by_cases c4 : t115 = true
  · subst c4
    have H1 : (if (a0.size : Int) > 3000 then (palanquinlaw11_IpipFirst.j0 k a0 a1 true) else (if (a1.size : Int) > 3000 then (palanquinlaw11_IpipFirst.j0 k a0 a1 true) else (palanquinlaw11_IpipFirst.j0 k a0 a1 (a0.toList == ([] : List UInt8))))) = some r := by rw [if_pos rfl] at H; exact H
    clear H
    have H := H1
    clear H1
    have HC5 := Aside0.mk H
    clear H
    go_enter Tryd.func3, Tryd.ntmps3
    go_upto_region 3 with (first | ((with_reducible refine gate_callee (f := 20) rfl ?_); refine goesL_ (some 16) rfl rfl Tryd.func20 (by kernel_rfl) rfl #[] rfl (by (try simp only [List.map_toArray, List.map_cons, List.map_nil]); first | done | rfl | (simp only [List.length_drop, List.length_take]; rfl)) ?_; (with_reducible refine (palanquinlaw11_awake.calls  true _ A3.out (GV.below HgV_.out (by repeat (first | (with_reducible first | exact HB.out | apply below_alloc | apply pw_below_drewN | apply below_drew1) | exact HB.out)))).mono ?_); rintro e w6 ⟨rfl, hb⟩; refine ⟨_, rfl, ?_⟩; have n0_ := Aside0.mk (below_step (by repeat (first | (with_reducible first | exact HB.out | apply below_alloc | apply pw_below_drewN | apply below_drew1) | exact HB.out)) hb); clear HB; have HB := n0_; clear n0_; (try clear hb); (try clear hb2); (try clear hk); (try clear hi)))
    (try simp only [Act.put, List.setIfInBounds_toArray, List.set_cons_zero, List.set_cons_succ])
    go_cut [29] (fun v29 wc => ∃ (kq : Nat) (x29_4 : Bool), v29 = .bool x29_4 ∧ Aside0 (palanquinlaw11_IpipFirst.j0 kq a0 a1 x29_4 = some r) ∧ Aside0 (kq ≤ k) ∧ Aside0 (Below w.heap.size w wc))
    case first =>
      have H := HC5.out
      clear HC5
      by_cases c7 : (a0.size : Int) > 3000
      · rw [if_pos c7] at H
        have c7b0 : decide (3000 < (a0.size : Int)) = true := decide_eq_true c7
        have c7b1 : decide (3000 < a0.size) = true := decide_eq_true (by omega)
        clear c7
        (first | rw [c7b0] | (simp only [i64_w, i32_w]; rw [c7b0]) | skip)
        have H' := Aside0.mk H
        clear H
        go_wp2
        go_meet
        case rel => exact ⟨_, (true), (by first | rfl | (simp; done) | (simp [*]; done)), H', ⟨by first | omega | exact Nat.le_refl _⟩, ⟨by repeat (first | (with_reducible first | exact HB.out | apply below_alloc | apply pw_below_drewN | apply below_drew1) | exact HB.out)⟩⟩
      · rw [if_neg c7] at H
        have c7b0 : decide (3000 < (a0.size : Int)) = false := decide_eq_false c7
        have c7b1 : decide (3000 < a0.size) = false := decide_eq_false (by omega)
        clear c7
        (first | rw [c7b0] | (simp only [i64_w, i32_w]; rw [c7b0]) | skip)
        by_cases c8 : (a1.size : Int) > 3000
        · rw [if_pos c8] at H
          have c8b0 : decide (3000 < (a1.size : Int)) = true := decide_eq_true c8
          have c8b1 : decide (3000 < a1.size) = true := decide_eq_true (by omega)
          clear c8
          have H' := Aside0.mk H
          clear H
          go_wp2
          go_meet
          case rel => exact ⟨_, (true), (by first | rfl | (simp; done) | (simp [*]; done)), H', ⟨by first | omega | exact Nat.le_refl _⟩, ⟨by repeat (first | (with_reducible first | exact HB.out | apply below_alloc | apply pw_below_drewN | apply below_drew1) | exact HB.out)⟩⟩
        · rw [if_neg c8] at H
          have c8b0 : decide (3000 < (a1.size : Int)) = false := decide_eq_false c8
          have c8b1 : decide (3000 < a1.size) = false := decide_eq_false (by omega)
          clear c8
          have H' := Aside0.mk H
          clear H
          go_wp2
          go_meet
          case rel => exact ⟨_, ((a0.toList == ([] : List UInt8))), (by first | rfl | (simp; done) | (simp [*]; done)), H', ⟨by first | omega | exact Nat.le_refl _⟩, ⟨by repeat (first | (with_reducible first | exact HB.out | apply below_alloc | apply pw_below_drewN | apply below_drew1) | exact HB.out)⟩⟩
    case rest =>
      clear HC5
      try clear c2
      try clear p2
      try clear c3
      try clear c4
      try clear c7
      try clear c7b0
      try clear c7b1
      try clear c8
      try clear c8b0
      try clear c8b1
      obtain ⟨kq, x29_4, rfl, HA, HJ4, HB⟩ := hcut
      cases kq with
      | zero => exact absurd HA.out (by simp [palanquinlaw11_IpipFirst.j0])
      | succ kj4 =>
        have H := HA.out
        clear HA
        simp only [palanquinlaw11_IpipFirst.j0] at H
        by_cases c9 : x29_4 = true
        · subst c9
          have H1 : (some true) = some r := by rw [if_pos rfl] at H; exact H
          clear H
          have H := H1
          clear H1
          obtain rfl := Option.some.inj H
          go_wp2
          go_ret
          exact ⟨by first | rfl | (simp [errW_none, errW_some] <;> rfl) | (simp [*, errW_none, errW_some] <;> rfl), by repeat (first | (with_reducible first | exact HB.out | apply below_alloc | apply pw_below_drewN | apply below_drew1) | exact HB.out)⟩
        · replace c9 := Bool.eq_false_iff.mpr c9
          subst c9
          have H1 : (if 0 < (a0.size : Int) then ((some (([Go.bits .or .u8 (Go.bits .and .u8 (bt a0 0) 240) ((Go.bits .and .i64 (a1.size : Int) 15) % 256)] : List Int) : List Int)).bind fun y116 => (if (strOfNums y116).size + a1.size ≤ 9223372036854775807 then ((ipip_Proto.f a0).bind fun bt119 => ((ipip_Proto.f ((strOfNums y116) ++ a1)).bind fun bt121 => ((ipip_Kind.f a0).bind fun bt123 => ((ipip_Kind.f ((strOfNums y116) ++ a1)).bind fun bt125 => ((ipip_Get.f bt119.1 ((strOfNums y116) ++ a1)).bind fun bt127 => (if bt119.1 = bt121.1 then (if bt119.2 = bt121.2 then (if bt123.1 = bt125.1 then (if bt123.2 = bt125.2 then (if bt123.2 = bt119.2 then (if ((bt127.2 == 0) == (bt119.2 == 0)) = true then (if bt127.1.toList = ((strOfNums y116) ++ a1).toList then (some true) else (if bt119.2 = 0 then (some false) else (some (bt127.1.toList == ([] : List UInt8))))) else (some false)) else (some false)) else (some false)) else (some false)) else (some false)) else (some false))))))) else (none))) else (none)) = some r := by rw [if_neg (show ¬ (false = true) by decide)] at H; exact H
          clear H
          have H := H1
          clear H1
          by_cases c10 : 0 < (a0.size : Int)
          · rw [if_pos c10] at H
            have c10b0 : decide (0 < (a0.size : Int)) = true := decide_eq_true c10
            have c10b1 : decide (0 < a0.size) = true := decide_eq_true (by omega)
            clear c10
            obtain ⟨y116, hy116⟩ : ∃ y_ : List Int, y_ = (([Go.bits .or .u8 (Go.bits .and .u8 (bt a0 0) 240) ((Go.bits .and .i64 (a1.size : Int) 15) % 256)] : List Int)) := ⟨_, rfl⟩
            replace H : (if (strOfNums y116).size + a1.size ≤ 9223372036854775807 then ((ipip_Proto.f a0).bind fun bt119 => ((ipip_Proto.f ((strOfNums y116) ++ a1)).bind fun bt121 => ((ipip_Kind.f a0).bind fun bt123 => ((ipip_Kind.f ((strOfNums y116) ++ a1)).bind fun bt125 => ((ipip_Get.f bt119.1 ((strOfNums y116) ++ a1)).bind fun bt127 => (if bt119.1 = bt121.1 then (if bt119.2 = bt121.2 then (if bt123.1 = bt125.1 then (if bt123.2 = bt125.2 then (if bt123.2 = bt119.2 then (if ((bt127.2 == 0) == (bt119.2 == 0)) = true then (if bt127.1.toList = ((strOfNums y116) ++ a1).toList then (some true) else (if bt119.2 = 0 then (some false) else (some (bt127.1.toList == ([] : List UInt8))))) else (some false)) else (some false)) else (some false)) else (some false)) else (some false)) else (some false))))))) else (none)) = some r := by first | (rw [hy116]; with_reducible exact H) | (have H2_ := (Option.bind_some _ _).symm.trans H; rw [hy116]; with_reducible exact H2_) | (have H2_ := (Option.bind_some _ _).symm.trans H; with_reducible exact H2_) | with_reducible exact H | (rw [hy116]; exact H) | exact H
            have Ny116 := Aside0.mk hy116
            clear hy116
            by_cases c12 : (strOfNums y116).size + a1.size ≤ 9223372036854775807
            · rw [if_pos c12] at H
              have c12b0 := eq_true c12
              have c12b1 : decide ((strOfNums y116).size + a1.size ≤ 9223372036854775807) = true := decide_eq_true c12
              try have c12b2 : (9223372036854775807 < (strOfNums y116).size + a1.size) = False := eq_false (Nat.not_lt.2 c12)
              replace H := Option.bind_eq_some_iff.mp H
              obtain ⟨⟨t119, t120⟩, A130, H⟩ := H
              replace H : ((ipip_Proto.f ((strOfNums y116) ++ a1)).bind fun bt121 => ((ipip_Kind.f a0).bind fun bt123 => ((ipip_Kind.f ((strOfNums y116) ++ a1)).bind fun bt125 => ((ipip_Get.f t119 ((strOfNums y116) ++ a1)).bind fun bt127 => (if t119 = bt121.1 then (if t120 = bt121.2 then (if bt123.1 = bt125.1 then (if bt123.2 = bt125.2 then (if bt123.2 = t120 then (if ((bt127.2 == 0) == (t120 == 0)) = true then (if bt127.1.toList = ((strOfNums y116) ++ a1).toList then (some true) else (if t120 = 0 then (some false) else (some (bt127.1.toList == ([] : List UInt8))))) else (some false)) else (some false)) else (some false)) else (some false)) else (some false)) else (some false)))))) = some r := H
              have A13 := Aside0.mk A130
              clear A130
              replace H := Option.bind_eq_some_iff.mp H
              obtain ⟨⟨t121, t122⟩, A140, H⟩ := H
              replace H : ((ipip_Kind.f a0).bind fun bt123 => ((ipip_Kind.f ((strOfNums y116) ++ a1)).bind fun bt125 => ((ipip_Get.f t119 ((strOfNums y116) ++ a1)).bind fun bt127 => (if t119 = t121 then (if t120 = t122 then (if bt123.1 = bt125.1 then (if bt123.2 = bt125.2 then (if bt123.2 = t120 then (if ((bt127.2 == 0) == (t120 == 0)) = true then (if bt127.1.toList = ((strOfNums y116) ++ a1).toList then (some true) else (if t120 = 0 then (some false) else (some (bt127.1.toList == ([] : List UInt8))))) else (some false)) else (some false)) else (some false)) else (some false)) else (some false)) else (some false))))) = some r := H
              have A14 := Aside0.mk A140
              clear A140
              replace H := Option.bind_eq_some_iff.mp H
              obtain ⟨⟨t123, t124⟩, A150, H⟩ := H
              replace H : ((ipip_Kind.f ((strOfNums y116) ++ a1)).bind fun bt125 => ((ipip_Get.f t119 ((strOfNums y116) ++ a1)).bind fun bt127 => (if t119 = t121 then (if t120 = t122 then (if t123 = bt125.1 then (if t124 = bt125.2 then (if t124 = t120 then (if ((bt127.2 == 0) == (t120 == 0)) = true then (if bt127.1.toList = ((strOfNums y116) ++ a1).toList then (some true) else (if t120 = 0 then (some false) else (some (bt127.1.toList == ([] : List UInt8))))) else (some false)) else (some false)) else (some false)) else (some false)) else (some false)) else (some false)))) = some r := H
              have A15 := Aside0.mk A150
              clear A150
              replace H := Option.bind_eq_some_iff.mp H
              obtain ⟨⟨t125, t126⟩, A160, H⟩ := H
              replace H : ((ipip_Get.f t119 ((strOfNums y116) ++ a1)).bind fun bt127 => (if t119 = t121 then (if t120 = t122 then (if t123 = t125 then (if t124 = t126 then (if t124 = t120 then (if ((bt127.2 == 0) == (t120 == 0)) = true then (if bt127.1.toList = ((strOfNums y116) ++ a1).toList then (some true) else (if t120 = 0 then (some false) else (some (bt127.1.toList == ([] : List UInt8))))) else (some false)) else (some false)) else (some false)) else (some false)) else (some false)) else (some false))) = some r := H
              have A16 := Aside0.mk A160
              clear A160
              replace H := Option.bind_eq_some_iff.mp H
              obtain ⟨⟨t127, t128⟩, A170, H⟩ := H
              replace H : (if t119 = t121 then (if t120 = t122 then (if t123 = t125 then (if t124 = t126 then (if t124 = t120 then (if ((t128 == 0) == (t120 == 0)) = true then (if t127.toList = ((strOfNums y116) ++ a1).toList then (some true) else (if t120 = 0 then (some false) else (some (t127.toList == ([] : List UInt8))))) else (some false)) else (some false)) else (some false)) else (some false)) else (some false)) else (some false)) = some r := H
              have A17 := Aside0.mk A170
              clear A170
              by_cases c18 : t119 = t121
              · rw [if_pos c18] at H
                have c18b0 : (t119 == t121) = true := beq_iff_eq.mpr c18
                have c18b1 : (t119 != t121) = false := bne_eq_false_iff_eq.mpr c18
                clear c18
                by_cases c19 : t120 = t122
                · rw [if_pos c19] at H
                  have c19b0 : (t120 == t122) = true := beq_iff_eq.mpr c19
                  have c19b1 : (t120 != t122) = false := bne_eq_false_iff_eq.mpr c19
                  clear c19
                  by_cases c20 : t123 = t125
                  · rw [if_pos c20] at H
                    have c20b0 : (t123 == t125) = true := beq_iff_eq.mpr c20
                    have c20b1 : (t123 != t125) = false := bne_eq_false_iff_eq.mpr c20
                    clear c20
                    by_cases c21 : t124 = t126
                    · rw [if_pos c21] at H
                      have c21b0 : (t124 == t126) = true := beq_iff_eq.mpr c21
                      have c21b1 : (t124 != t126) = false := bne_eq_false_iff_eq.mpr c21
                      clear c21
                      by_cases c22 : t124 = t120
                      · rw [if_pos c22] at H
                        have c22b0 : (t124 == t120) = true := beq_iff_eq.mpr c22
                        have c22b1 : (t124 != t120) = false := bne_eq_false_iff_eq.mpr c22
                        clear c22
                        by_cases c23 : ((t128 == 0) == (t120 == 0)) = true
                        · rw [if_pos c23] at H
                          have c23b0 : ((t128 == 0) == (t120 == 0)) = true := c23
                          (try (have c23b1 : decide ((t128 == 0) = (t120 == 0)) = true := by simpa using c23))
                          (try (have c23b2 : ((t128 == 0) == (t120 == 0)) = true := by simpa using c23))
                          clear c23
                          by_cases c24 : t127.toList = ((strOfNums y116) ++ a1).toList
                          · rw [if_pos c24] at H
                            have c24b0 : (t127.toList == ((strOfNums y116) ++ a1).toList) = true := beq_iff_eq.mpr c24
                            have c24b1 : (t127.toList != ((strOfNums y116) ++ a1).toList) = false := bne_eq_false_iff_eq.mpr c24
                            clear c24
                            obtain rfl := Option.some.inj H
                            have p11 : 0 ≤ (0 : Int) := (by omega)
                            have q11 : 0 < a0.size := (by have : (0 : Int) < (a0.size : Int) := of_decide_eq_true (by first | (with_reducible assumption) | assumption); omega)
                            have hx11 : ∀ h : 0 < a0.size, ((a0[0]'h).toNat : Int) = bt a0 0 := bt_at a0 0
                            clear p11
                            have qi11 : (0 < (a0.size : Int)) = True := eq_true (of_decide_eq_true (by first | (with_reducible assumption) | assumption))
                            replace q11 := eq_true q11
                            go_wp2_with (first | ((with_reducible refine gate_dst (N := 38) rfl ?_); (try (refine gate_guard (by rfl) ?_; dsimp only)); refine Kd.R_lit (Kd.int .u8) _ 5 ?hg (N := 38) ?hd (xs := ([Go.bits .or .u8 (Go.bits .and .u8 (bt a0 0) 240) ((Go.bits .and .i64 (a1.size : Int) 15) % 256)] : List Int)) (inner := [.int .u8 (Go.bits .or .u8 (Go.bits .and .u8 (bt a0 0) 240) ((Go.bits .and .i64 (a1.size : Int) 15) % 256))]) (ok := fun _ => True) (okp := fun _ => True) ?hr ?hp (fun _ hk => hk) trivial (Below.refl _ _) (Nat.le_refl _) (by simp) ?_; (case hd => rfl); (case hg => rfl); (case hr => first | (go_simp; done) | (go_simp; rfl)); (case hp => exact (Reps.one (show Kd.M (Kd.int .u8) _ _ _ (Go.bits .or .u8 (Go.bits .and .u8 (bt a0 0) 240) ((Go.bits .and .i64 (a1.size : Int) 15) % 256)) [.int .u8 (Go.bits .or .u8 (Go.bits .and .u8 (bt a0 0) 240) ((Go.bits .and .i64 (a1.size : Int) 15) % 256))] from rfl) (Reps.none _ _))); intro v117 w25 ho26 hb hg_ hnew_; clear hg_ hnew_; (first | rw [← Ny116.out] at ho26 | (simp only [Int.reduceToNat] at ho26; rw [← Ny116.out] at ho26)); have n0_ := Aside0.mk (Kd.R_lower ho26 (below_size (by repeat (first | (with_reducible first | exact HB.out | apply below_alloc | apply pw_below_drewN | apply below_drew1) | exact HB.out)))); have n1_ := Aside0.mk (below_step (by repeat (first | (with_reducible first | exact HB.out | apply below_alloc | apply pw_below_drewN | apply below_drew1) | exact HB.out)) hb); clear HB; have HO118 := n0_; have HB := n1_; clear n0_ n1_; clear hb ho26; have hcv27 := own_string (P := Tryd.prog) Tryd.underlying23 Tryd.underlying5 Tryd.underlying9 (Kd.own_of_R HO118.out)) | ((with_reducible refine gate_callee (f := 21) rfl ?_); refine goesL_ (some 44) rfl rfl Tryd.func21 (by kernel_rfl) rfl #[.string a0] rfl (by (try simp only [List.map_toArray, List.map_cons, List.map_nil]); first | done | rfl | (simp only [List.length_drop, List.length_take]; rfl)) ?_; (with_reducible refine (ipip_Proto.calls a0 t119 t120 _ A13.out (GV.below HgV_.out (by repeat (first | (with_reducible first | exact HB.out | apply below_alloc | apply pw_below_drewN | apply below_drew1) | exact HB.out)))).mono ?_); rintro e w28 ⟨rfl, hb⟩; refine ⟨_, rfl, ?_⟩; have n0_ := Aside0.mk (Kd.R_below (by (with_reducible repeat (first | apply Kd.R_alloc | apply Kd.R_drewN | apply Kd.R_drew)); exact HO118.out) hb); have n1_ := Aside0.mk (below_step (by repeat (first | (with_reducible first | exact HB.out | apply below_alloc | apply pw_below_drewN | apply below_drew1) | exact HB.out)) hb); clear HO118; clear HB; have HO118 := n0_; have HB := n1_; clear n0_ n1_; (try clear hb); (try clear hb2); (try clear hk); (try clear hi)) | ((with_reducible refine gate_callee (f := 21) rfl ?_); refine goesL_ (some 49) rfl rfl Tryd.func21 (by kernel_rfl) rfl #[.string ((strOfNums y116) ++ a1)] rfl (by (try simp only [List.map_toArray, List.map_cons, List.map_nil]); first | done | rfl | (simp only [List.length_drop, List.length_take]; rfl)) ?_; (with_reducible refine (ipip_Proto.calls ((strOfNums y116) ++ a1) t121 t122 _ A14.out (GV.below HgV_.out (by repeat (first | (with_reducible first | exact HB.out | apply below_alloc | apply pw_below_drewN | apply below_drew1) | exact HB.out)))).mono ?_); rintro e w29 ⟨rfl, hb⟩; refine ⟨_, rfl, ?_⟩; have n0_ := Aside0.mk (Kd.R_below (by (with_reducible repeat (first | apply Kd.R_alloc | apply Kd.R_drewN | apply Kd.R_drew)); exact HO118.out) hb); have n1_ := Aside0.mk (below_step (by repeat (first | (with_reducible first | exact HB.out | apply below_alloc | apply pw_below_drewN | apply below_drew1) | exact HB.out)) hb); clear HO118; clear HB; have HO118 := n0_; have HB := n1_; clear n0_ n1_; (try clear hb); (try clear hb2); (try clear hk); (try clear hi)) | ((with_reducible refine gate_callee (f := 22) rfl ?_); refine goesL_ (some 54) rfl rfl Tryd.func22 (by kernel_rfl) rfl #[.string a0] rfl (by (try simp only [List.map_toArray, List.map_cons, List.map_nil]); first | done | rfl | (simp only [List.length_drop, List.length_take]; rfl)) ?_; (with_reducible refine (ipip_Kind.calls a0 t123 t124 _ A15.out (GV.below HgV_.out (by repeat (first | (with_reducible first | exact HB.out | apply below_alloc | apply pw_below_drewN | apply below_drew1) | exact HB.out)))).mono ?_); rintro e w30 ⟨rfl, hb⟩; refine ⟨_, rfl, ?_⟩; have n0_ := Aside0.mk (Kd.R_below (by (with_reducible repeat (first | apply Kd.R_alloc | apply Kd.R_drewN | apply Kd.R_drew)); exact HO118.out) hb); have n1_ := Aside0.mk (below_step (by repeat (first | (with_reducible first | exact HB.out | apply below_alloc | apply pw_below_drewN | apply below_drew1) | exact HB.out)) hb); clear HO118; clear HB; have HO118 := n0_; have HB := n1_; clear n0_ n1_; (try clear hb); (try clear hb2); (try clear hk); (try clear hi)) | ((with_reducible refine gate_callee (f := 22) rfl ?_); refine goesL_ (some 59) rfl rfl Tryd.func22 (by kernel_rfl) rfl #[.string ((strOfNums y116) ++ a1)] rfl (by (try simp only [List.map_toArray, List.map_cons, List.map_nil]); first | done | rfl | (simp only [List.length_drop, List.length_take]; rfl)) ?_; (with_reducible refine (ipip_Kind.calls ((strOfNums y116) ++ a1) t125 t126 _ A16.out (GV.below HgV_.out (by repeat (first | (with_reducible first | exact HB.out | apply below_alloc | apply pw_below_drewN | apply below_drew1) | exact HB.out)))).mono ?_); rintro e w31 ⟨rfl, hb⟩; refine ⟨_, rfl, ?_⟩; have n0_ := Aside0.mk (Kd.R_below (by (with_reducible repeat (first | apply Kd.R_alloc | apply Kd.R_drewN | apply Kd.R_drew)); exact HO118.out) hb); have n1_ := Aside0.mk (below_step (by repeat (first | (with_reducible first | exact HB.out | apply below_alloc | apply pw_below_drewN | apply below_drew1) | exact HB.out)) hb); clear HO118; clear HB; have HO118 := n0_; have HB := n1_; clear n0_ n1_; (try clear hb); (try clear hb2); (try clear hk); (try clear hi)) | ((with_reducible refine gate_callee (f := 23) rfl ?_); refine goesL_ (some 65) rfl rfl Tryd.func23 (by kernel_rfl) rfl #[.int .i64 t119, .string ((strOfNums y116) ++ a1)] rfl (by (try simp only [List.map_toArray, List.map_cons, List.map_nil]); first | done | rfl | (simp only [List.length_drop, List.length_take]; rfl)) ?_; (with_reducible refine (ipip_Get.calls t119 ((strOfNums y116) ++ a1) t127 t128 _ A17.out (GV.below HgV_.out (by repeat (first | (with_reducible first | exact HB.out | apply below_alloc | apply pw_below_drewN | apply below_drew1) | exact HB.out)))).mono ?_); rintro e w32 ⟨rfl, hb⟩; refine ⟨_, rfl, ?_⟩; have n0_ := Aside0.mk (Kd.R_below (by (with_reducible repeat (first | apply Kd.R_alloc | apply Kd.R_drewN | apply Kd.R_drew)); exact HO118.out) hb); have n1_ := Aside0.mk (below_step (by repeat (first | (with_reducible first | exact HB.out | apply below_alloc | apply pw_below_drewN | apply below_drew1) | exact HB.out)) hb); clear HO118; clear HB; have HO118 := n0_; have HB := n1_; clear n0_ n1_; (try clear hb); (try clear hb2); (try clear hk); (try clear hi)))
                            go_ret
                            exact ⟨by first | rfl | (simp [errW_none, errW_some] <;> rfl) | (simp [*, errW_none, errW_some] <;> rfl), by repeat (first | (with_reducible first | exact HB.out | apply below_alloc | apply pw_below_drewN | apply below_drew1) | exact HB.out)⟩
                          · rw [if_neg c24] at H
                            have c24b0 : (t127.toList == ((strOfNums y116) ++ a1).toList) = false := beq_eq_false_iff_ne.mpr c24
                            have c24b1 : (t127.toList != ((strOfNums y116) ++ a1).toList) = true := bne_iff_ne.mpr c24
                            by_cases c33 : t120 = 0
                            · rw [if_pos c33] at H
                              exact absurd ((Option.some.inj H).trans hrt_.out) (by decide)
                            · rw [if_neg c33] at H
                              have c33b0 : (t120 == 0) = false := beq_eq_false_iff_ne.mpr c33
                              try have c33b0q : (t128 == 0) = false := by have h1 := c23b0; rw [c33b0] at h1; revert h1; cases hz_ : (t128 == 0) <;> simp
                              have c33b1 : (t120 != 0) = true := bne_iff_ne.mpr c33
                              obtain rfl := Option.some.inj H
                              have p11 : 0 ≤ (0 : Int) := (by omega)
                              have q11 : 0 < a0.size := (by have : (0 : Int) < (a0.size : Int) := of_decide_eq_true (by first | (with_reducible assumption) | assumption); omega)
                              have hx11 : ∀ h : 0 < a0.size, ((a0[0]'h).toNat : Int) = bt a0 0 := bt_at a0 0
                              clear p11
                              have qi11 : (0 < (a0.size : Int)) = True := eq_true (of_decide_eq_true (by first | (with_reducible assumption) | assumption))
                              replace q11 := eq_true q11
                              go_wp2_with (first | ((with_reducible refine gate_dst (N := 38) rfl ?_); (try (refine gate_guard (by rfl) ?_; dsimp only)); refine Kd.R_lit (Kd.int .u8) _ 5 ?hg (N := 38) ?hd (xs := ([Go.bits .or .u8 (Go.bits .and .u8 (bt a0 0) 240) ((Go.bits .and .i64 (a1.size : Int) 15) % 256)] : List Int)) (inner := [.int .u8 (Go.bits .or .u8 (Go.bits .and .u8 (bt a0 0) 240) ((Go.bits .and .i64 (a1.size : Int) 15) % 256))]) (ok := fun _ => True) (okp := fun _ => True) ?hr ?hp (fun _ hk => hk) trivial (Below.refl _ _) (Nat.le_refl _) (by simp) ?_; (case hd => rfl); (case hg => rfl); (case hr => first | (go_simp; done) | (go_simp; rfl)); (case hp => exact (Reps.one (show Kd.M (Kd.int .u8) _ _ _ (Go.bits .or .u8 (Go.bits .and .u8 (bt a0 0) 240) ((Go.bits .and .i64 (a1.size : Int) 15) % 256)) [.int .u8 (Go.bits .or .u8 (Go.bits .and .u8 (bt a0 0) 240) ((Go.bits .and .i64 (a1.size : Int) 15) % 256))] from rfl) (Reps.none _ _))); intro v117 w42 ho43 hb hg_ hnew_; clear hg_ hnew_; (first | rw [← Ny116.out] at ho43 | (simp only [Int.reduceToNat] at ho43; rw [← Ny116.out] at ho43)); have n0_ := Aside0.mk (Kd.R_lower ho43 (below_size (by repeat (first | (with_reducible first | exact HB.out | apply below_alloc | apply pw_below_drewN | apply below_drew1) | exact HB.out)))); have n1_ := Aside0.mk (below_step (by repeat (first | (with_reducible first | exact HB.out | apply below_alloc | apply pw_below_drewN | apply below_drew1) | exact HB.out)) hb); clear HB; have HO118 := n0_; have HB := n1_; clear n0_ n1_; clear hb ho43; have hcv44 := own_string (P := Tryd.prog) Tryd.underlying23 Tryd.underlying5 Tryd.underlying9 (Kd.own_of_R HO118.out)) | ((with_reducible refine gate_callee (f := 21) rfl ?_); refine goesL_ (some 44) rfl rfl Tryd.func21 (by kernel_rfl) rfl #[.string a0] rfl (by (try simp only [List.map_toArray, List.map_cons, List.map_nil]); first | done | rfl | (simp only [List.length_drop, List.length_take]; rfl)) ?_; (with_reducible refine (ipip_Proto.calls a0 t119 t120 _ A13.out (GV.below HgV_.out (by repeat (first | (with_reducible first | exact HB.out | apply below_alloc | apply pw_below_drewN | apply below_drew1) | exact HB.out)))).mono ?_); rintro e w45 ⟨rfl, hb⟩; refine ⟨_, rfl, ?_⟩; have n0_ := Aside0.mk (Kd.R_below (by (with_reducible repeat (first | apply Kd.R_alloc | apply Kd.R_drewN | apply Kd.R_drew)); exact HO118.out) hb); have n1_ := Aside0.mk (below_step (by repeat (first | (with_reducible first | exact HB.out | apply below_alloc | apply pw_below_drewN | apply below_drew1) | exact HB.out)) hb); clear HO118; clear HB; have HO118 := n0_; have HB := n1_; clear n0_ n1_; (try clear hb); (try clear hb2); (try clear hk); (try clear hi)) | ((with_reducible refine gate_callee (f := 21) rfl ?_); refine goesL_ (some 49) rfl rfl Tryd.func21 (by kernel_rfl) rfl #[.string ((strOfNums y116) ++ a1)] rfl (by (try simp only [List.map_toArray, List.map_cons, List.map_nil]); first | done | rfl | (simp only [List.length_drop, List.length_take]; rfl)) ?_; (with_reducible refine (ipip_Proto.calls ((strOfNums y116) ++ a1) t121 t122 _ A14.out (GV.below HgV_.out (by repeat (first | (with_reducible first | exact HB.out | apply below_alloc | apply pw_below_drewN | apply below_drew1) | exact HB.out)))).mono ?_); rintro e w46 ⟨rfl, hb⟩; refine ⟨_, rfl, ?_⟩; have n0_ := Aside0.mk (Kd.R_below (by (with_reducible repeat (first | apply Kd.R_alloc | apply Kd.R_drewN | apply Kd.R_drew)); exact HO118.out) hb); have n1_ := Aside0.mk (below_step (by repeat (first | (with_reducible first | exact HB.out | apply below_alloc | apply pw_below_drewN | apply below_drew1) | exact HB.out)) hb); clear HO118; clear HB; have HO118 := n0_; have HB := n1_; clear n0_ n1_; (try clear hb); (try clear hb2); (try clear hk); (try clear hi)) | ((with_reducible refine gate_callee (f := 22) rfl ?_); refine goesL_ (some 54) rfl rfl Tryd.func22 (by kernel_rfl) rfl #[.string a0] rfl (by (try simp only [List.map_toArray, List.map_cons, List.map_nil]); first | done | rfl | (simp only [List.length_drop, List.length_take]; rfl)) ?_; (with_reducible refine (ipip_Kind.calls a0 t123 t124 _ A15.out (GV.below HgV_.out (by repeat (first | (with_reducible first | exact HB.out | apply below_alloc | apply pw_below_drewN | apply below_drew1) | exact HB.out)))).mono ?_); rintro e w47 ⟨rfl, hb⟩; refine ⟨_, rfl, ?_⟩; have n0_ := Aside0.mk (Kd.R_below (by (with_reducible repeat (first | apply Kd.R_alloc | apply Kd.R_drewN | apply Kd.R_drew)); exact HO118.out) hb); have n1_ := Aside0.mk (below_step (by repeat (first | (with_reducible first | exact HB.out | apply below_alloc | apply pw_below_drewN | apply below_drew1) | exact HB.out)) hb); clear HO118; clear HB; have HO118 := n0_; have HB := n1_; clear n0_ n1_; (try clear hb); (try clear hb2); (try clear hk); (try clear hi)) | ((with_reducible refine gate_callee (f := 22) rfl ?_); refine goesL_ (some 59) rfl rfl Tryd.func22 (by kernel_rfl) rfl #[.string ((strOfNums y116) ++ a1)] rfl (by (try simp only [List.map_toArray, List.map_cons, List.map_nil]); first | done | rfl | (simp only [List.length_drop, List.length_take]; rfl)) ?_; (with_reducible refine (ipip_Kind.calls ((strOfNums y116) ++ a1) t125 t126 _ A16.out (GV.below HgV_.out (by repeat (first | (with_reducible first | exact HB.out | apply below_alloc | apply pw_below_drewN | apply below_drew1) | exact HB.out)))).mono ?_); rintro e w48 ⟨rfl, hb⟩; refine ⟨_, rfl, ?_⟩; have n0_ := Aside0.mk (Kd.R_below (by (with_reducible repeat (first | apply Kd.R_alloc | apply Kd.R_drewN | apply Kd.R_drew)); exact HO118.out) hb); have n1_ := Aside0.mk (below_step (by repeat (first | (with_reducible first | exact HB.out | apply below_alloc | apply pw_below_drewN | apply below_drew1) | exact HB.out)) hb); clear HO118; clear HB; have HO118 := n0_; have HB := n1_; clear n0_ n1_; (try clear hb); (try clear hb2); (try clear hk); (try clear hi)) | ((with_reducible refine gate_callee (f := 23) rfl ?_); refine goesL_ (some 65) rfl rfl Tryd.func23 (by kernel_rfl) rfl #[.int .i64 t119, .string ((strOfNums y116) ++ a1)] rfl (by (try simp only [List.map_toArray, List.map_cons, List.map_nil]); first | done | rfl | (simp only [List.length_drop, List.length_take]; rfl)) ?_; (with_reducible refine (ipip_Get.calls t119 ((strOfNums y116) ++ a1) t127 t128 _ A17.out (GV.below HgV_.out (by repeat (first | (with_reducible first | exact HB.out | apply below_alloc | apply pw_below_drewN | apply below_drew1) | exact HB.out)))).mono ?_); rintro e w49 ⟨rfl, hb⟩; refine ⟨_, rfl, ?_⟩; have n0_ := Aside0.mk (Kd.R_below (by (with_reducible repeat (first | apply Kd.R_alloc | apply Kd.R_drewN | apply Kd.R_drew)); exact HO118.out) hb); have n1_ := Aside0.mk (below_step (by repeat (first | (with_reducible first | exact HB.out | apply below_alloc | apply pw_below_drewN | apply below_drew1) | exact HB.out)) hb); clear HO118; clear HB; have HO118 := n0_; have HB := n1_; clear n0_ n1_; (try clear hb); (try clear hb2); (try clear hk); (try clear hi)))
                              go_ret
                              exact ⟨by first | rfl | (simp [errW_none, errW_some] <;> rfl) | (simp [*, errW_none, errW_some] <;> rfl), by repeat (first | (with_reducible first | exact HB.out | apply below_alloc | apply pw_below_drewN | apply below_drew1) | exact HB.out)⟩
                        · rw [if_neg c23] at H
                          exact absurd ((Option.some.inj H).trans hrt_.out) (by decide)
                      · rw [if_neg c22] at H
                        exact absurd ((Option.some.inj H).trans hrt_.out) (by decide)
                    · rw [if_neg c21] at H
                      exact absurd ((Option.some.inj H).trans hrt_.out) (by decide)
                  · rw [if_neg c20] at H
                    exact absurd ((Option.some.inj H).trans hrt_.out) (by decide)
                · rw [if_neg c19] at H
                  exact absurd ((Option.some.inj H).trans hrt_.out) (by decide)
              · rw [if_neg c18] at H
                exact absurd ((Option.some.inj H).trans hrt_.out) (by decide)
            · rw [if_neg c12] at H
              exact absurd H (by simp)
          · rw [if_neg c10] at H
            exact absurd H (by simp)
  · replace c4 := Bool.eq_false_iff.mpr c4
    subst c4
    have H1 : (some false) = some r := by rw [if_neg (show ¬ (false = true) by decide)] at H; exact H
    exact absurd ((Option.some.inj H1).trans hrt_.out) (by decide)

end Go.Proofs.YtcmalglippmocaaDoor.G
