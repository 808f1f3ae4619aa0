-- Laid by a program of this session (wip/gen/gprint.py) over the translation's print. Lean checks it.
import Derived.Test.YtcmalglippmocaaDoorG0
import Derived.Test.YtcmalglippmocaaDoorGipip
import Derived.Test.YtcmalglippmocaaDoorGlaw11
import Derived.Test.YtcmalglippmocaaDoorHIpipG
namespace Go.Proofs.YtcmalglippmocaaDoor.G
open Go.RowKit Go.Proofs.YtcmalglippmocaaDoorW.PrintWords Go.Proofs.YtcmalglippmocaaDoorW.PrintLast Go.Proofs.YtcmalglippmocaaDoorW.PrintMore
attribute [local go_sem] max2_int min2_int max_two min_two max_three min_three max_four min_four   -- for this text's walks alone
set_option linter.unusedVariables false
set_option linter.unusedSimpArgs false

/-! ### palanquinlaw11_IpipBack: function 4 -/
def palanquinlaw11_IpipBack.f (a0 : ByteArray) (a1 : Int) : Option (Bool) := (palanquinlaw11_awake.f).bind fun t131 => (if t131 = true then (if (a0.size : Int) > 5000 then (some true) else ((ipip_Put.f a0).bind fun bt132 => (if bt132.2.2 = 0 then ((ipip_Get.f bt132.1 bt132.2.1).bind fun bt135 => ((ipip_Get.f a1 bt132.2.1).bind fun bt137 => (if bt135.1.toList = a0.toList then (if bt135.2 = 0 then (if ((bt137.2 == 0) == (a1 == bt132.1)) = true then (if bt137.1.toList = a0.toList then (some true) else (if bt137.2 = 0 then (some false) else (some (bt137.1.toList == ([] : List UInt8))))) else (some false)) else (some false)) else (some false)))) else (if bt132.1 = 0 then (some (bt132.2.1.toList == ([] : List UInt8))) else (some false))))) else (some false))
set_option maxHeartbeats 8000000 in
set_option maxRecDepth 100000 in
theorem palanquinlaw11_IpipBack.calls (a0 : ByteArray) (a1 : Int) (r : Bool) (w : World) (h : palanquinlaw11_IpipBack.f a0 a1 = some r) (hrt_ : Aside0 (r = true)) (hgV_ : GV w) :
    Calls Tryd.prog 4 #[.string a0, .int .i64 a1] w fun e w' => e = .returned (.bool r) ∧ Below w.heap.size w w' := by
  have HgV_ := Aside0.mk hgV_
  clear hgV_
  have HB := Aside0.mk (Below.refl w.heap.size w)
  have H : ((palanquinlaw11_awake.f).bind fun t131 => (if t131 = true then (if (a0.size : Int) > 5000 then (some true) else ((ipip_Put.f a0).bind fun bt132 => (if bt132.2.2 = 0 then ((ipip_Get.f bt132.1 bt132.2.1).bind fun bt135 => ((ipip_Get.f a1 bt132.2.1).bind fun bt137 => (if bt135.1.toList = a0.toList then (if bt135.2 = 0 then (if ((bt137.2 == 0) == (a1 == bt132.1)) = true then (if bt137.1.toList = a0.toList then (some true) else (if bt137.2 = 0 then (some false) else (some (bt137.1.toList == ([] : List UInt8))))) else (some false)) else (some false)) else (some false)))) else (if bt132.1 = 0 then (some (bt132.2.1.toList == ([] : List UInt8))) else (some false))))) else (some false))) = some r := h
  clear h
  replace H := Option.bind_eq_some_iff.mp H
  obtain ⟨t131, A30, H⟩ := H
  replace H : (if t131 = true then (if (a0.size : Int) > 5000 then (some true) else ((ipip_Put.f a0).bind fun bt132 => (if bt132.2.2 = 0 then ((ipip_Get.f bt132.1 bt132.2.1).bind fun bt135 => ((ipip_Get.f a1 bt132.2.1).bind fun bt137 => (if bt135.1.toList = a0.toList then (if bt135.2 = 0 then (if ((bt137.2 == 0) == (a1 == bt132.1)) = true then (if bt137.1.toList = a0.toList then (some true) else (if bt137.2 = 0 then (some false) else (some (bt137.1.toList == ([] : List UInt8))))) else (some false)) else (some false)) else (some false)))) else (if bt132.1 = 0 then (some (bt132.2.1.toList == ([] : List UInt8))) else (some false))))) else (some false)) = some r := H
  have A3 := Aside0.mk A30
  clear A30
  by_cases c4 : t131 = true
  · subst c4
    have H1 : (if (a0.size : Int) > 5000 then (some true) else ((ipip_Put.f a0).bind fun bt132 => (if bt132.2.2 = 0 then ((ipip_Get.f bt132.1 bt132.2.1).bind fun bt135 => ((ipip_Get.f a1 bt132.2.1).bind fun bt137 => (if bt135.1.toList = a0.toList then (if bt135.2 = 0 then (if ((bt137.2 == 0) == (a1 == bt132.1)) = true then (if bt137.1.toList = a0.toList then (some true) else (if bt137.2 = 0 then (some false) else (some (bt137.1.toList == ([] : List UInt8))))) else (some false)) else (some false)) else (some false)))) else (if bt132.1 = 0 then (some (bt132.2.1.toList == ([] : List UInt8))) else (some false))))) = some r := by rw [if_pos rfl] at H; exact H
    clear H
    have H := H1
    clear H1
    by_cases c5 : (a0.size : Int) > 5000
    · rw [if_pos c5] at H
      have c5b0 : decide (5000 < (a0.size : Int)) = true := decide_eq_true c5
      have c5b1 : decide (5000 < a0.size) = true := decide_eq_true (by omega)
      clear c5
      obtain rfl := Option.some.inj H
      go_enter Tryd.func4, Tryd.ntmps4
      go_wp2_with (first | ((with_reducible refine gate_callee (f := 20) rfl ?_); refine goesL_ (some 12) rfl rfl Tryd.func20 (by kernel_rfl) rfl #[] rfl (by (try simp only [List.map_toArray, List.map_cons, List.map_nil]); first | done | rfl | (simp only [List.length_drop, List.length_take]; rfl)) ?_; (with_reducible refine (palanquinlaw11_awake.calls  true _ A3.out (GV.below HgV_.out (by repeat (first | (with_reducible first | exact HB.out | apply below_alloc | apply pw_below_drewN | apply below_drew1) | exact HB.out)))).mono ?_); rintro e w6 ⟨rfl, hb⟩; refine ⟨_, rfl, ?_⟩; have n0_ := Aside0.mk (below_step (by repeat (first | (with_reducible first | exact HB.out | apply below_alloc | apply pw_below_drewN | apply below_drew1) | exact HB.out)) hb); clear HB; have HB := n0_; clear n0_; (try clear hb); (try clear hb2); (try clear hk); (try clear hi)))
      go_ret
      exact ⟨by first | rfl | (simp [errW_none, errW_some] <;> rfl) | (simp [*, errW_none, errW_some] <;> rfl), by repeat (first | (with_reducible first | exact HB.out | apply below_alloc | apply pw_below_drewN | apply below_drew1) | exact HB.out)⟩
    · rw [if_neg c5] at H
      have c5b0 : decide (5000 < (a0.size : Int)) = false := decide_eq_false c5
      have c5b1 : decide (5000 < a0.size) = false := decide_eq_false (by omega)
      clear c5
      replace H := Option.bind_eq_some_iff.mp H
      obtain ⟨⟨t132, t133, t134⟩, A70, H⟩ := H
      replace H : (if t134 = 0 then ((ipip_Get.f t132 t133).bind fun bt135 => ((ipip_Get.f a1 t133).bind fun bt137 => (if bt135.1.toList = a0.toList then (if bt135.2 = 0 then (if ((bt137.2 == 0) == (a1 == t132)) = true then (if bt137.1.toList = a0.toList then (some true) else (if bt137.2 = 0 then (some false) else (some (bt137.1.toList == ([] : List UInt8))))) else (some false)) else (some false)) else (some false)))) else (if t132 = 0 then (some (t133.toList == ([] : List UInt8))) else (some false))) = some r := H
      have A7 := Aside0.mk A70
      clear A70
      by_cases c8 : t134 = 0
      · rw [if_pos c8] at H
        have c8b0 : (t134 == 0) = true := beq_iff_eq.mpr c8
        have c8b1 : (t134 != 0) = false := bne_eq_false_iff_eq.mpr c8
        clear c8
        replace H := Option.bind_eq_some_iff.mp H
        obtain ⟨⟨t135, t136⟩, A90, H⟩ := H
        replace H : ((ipip_Get.f a1 t133).bind fun bt137 => (if t135.toList = a0.toList then (if t136 = 0 then (if ((bt137.2 == 0) == (a1 == t132)) = true then (if bt137.1.toList = a0.toList then (some true) else (if bt137.2 = 0 then (some false) else (some (bt137.1.toList == ([] : List UInt8))))) else (some false)) else (some false)) else (some false))) = some r := H
        have A9 := Aside0.mk A90
        clear A90
        replace H := Option.bind_eq_some_iff.mp H
        obtain ⟨⟨t137, t138⟩, A100, H⟩ := H
        replace H : (if t135.toList = a0.toList then (if t136 = 0 then (if ((t138 == 0) == (a1 == t132)) = true then (if t137.toList = a0.toList then (some true) else (if t138 = 0 then (some false) else (some (t137.toList == ([] : List UInt8))))) else (some false)) else (some false)) else (some false)) = some r := H
        have A10 := Aside0.mk A100
        clear A100
        by_cases c11 : t135.toList = a0.toList
        · rw [if_pos c11] at H
          have c11b0 : (t135.toList == a0.toList) = true := beq_iff_eq.mpr c11
          have c11b1 : (t135.toList != a0.toList) = false := bne_eq_false_iff_eq.mpr c11
          clear c11
          by_cases c12 : t136 = 0
          · rw [if_pos c12] at H
            have c12b0 : (t136 == 0) = true := beq_iff_eq.mpr c12
            have c12b1 : (t136 != 0) = false := bne_eq_false_iff_eq.mpr c12
            clear c12
            by_cases c13 : ((t138 == 0) == (a1 == t132)) = true
            · rw [if_pos c13] at H
              have c13b0 : ((t138 == 0) == (a1 == t132)) = true := c13
              (try (have c13b1 : decide ((t138 == 0) = (a1 == t132)) = true := by simpa using c13))
              (try (have c13b2 : ((t138 == 0) == (a1 == t132)) = true := by simpa using c13))
              clear c13
              by_cases c14 : t137.toList = a0.toList
              · rw [if_pos c14] at H
                have c14b0 : (t137.toList == a0.toList) = true := beq_iff_eq.mpr c14
                have c14b1 : (t137.toList != a0.toList) = false := bne_eq_false_iff_eq.mpr c14
                clear c14
                obtain rfl := Option.some.inj H
                go_enter Tryd.func4, Tryd.ntmps4
                go_wp2_with (first | ((with_reducible refine gate_callee (f := 20) rfl ?_); refine goesL_ (some 12) rfl rfl Tryd.func20 (by kernel_rfl) rfl #[] rfl (by (try simp only [List.map_toArray, List.map_cons, List.map_nil]); first | done | rfl | (simp only [List.length_drop, List.length_take]; rfl)) ?_; (with_reducible refine (palanquinlaw11_awake.calls  true _ A3.out (GV.below HgV_.out (by repeat (first | (with_reducible first | exact HB.out | apply below_alloc | apply pw_below_drewN | apply below_drew1) | exact HB.out)))).mono ?_); rintro e w15 ⟨rfl, hb⟩; refine ⟨_, rfl, ?_⟩; have n0_ := Aside0.mk (below_step (by repeat (first | (with_reducible first | exact HB.out | apply below_alloc | apply pw_below_drewN | apply below_drew1) | exact HB.out)) hb); clear HB; have HB := n0_; clear n0_; (try clear hb); (try clear hb2); (try clear hk); (try clear hi)) | ((with_reducible refine gate_callee (f := 24) rfl ?_); refine goesL_ (some 19) rfl rfl Tryd.func24 (by kernel_rfl) rfl #[.string a0] rfl (by (try simp only [List.map_toArray, List.map_cons, List.map_nil]); first | done | rfl | (simp only [List.length_drop, List.length_take]; rfl)) ?_; (with_reducible refine (ipip_Put.calls a0 t132 t133 t134 _ A7.out (GV.below HgV_.out (by repeat (first | (with_reducible first | exact HB.out | apply below_alloc | apply pw_below_drewN | apply below_drew1) | exact HB.out)))).mono ?_); rintro e w16 ⟨rfl, hb⟩; refine ⟨_, rfl, ?_⟩; have n0_ := Aside0.mk (below_step (by repeat (first | (with_reducible first | exact HB.out | apply below_alloc | apply pw_below_drewN | apply below_drew1) | exact HB.out)) hb); clear HB; have HB := n0_; clear n0_; (try clear hb); (try clear hb2); (try clear hk); (try clear hi)) | ((with_reducible refine gate_callee (f := 23) rfl ?_); refine goesL_ (some 34) rfl rfl Tryd.func23 (by kernel_rfl) rfl #[.int .i64 t132, .string t133] rfl (by (try simp only [List.map_toArray, List.map_cons, List.map_nil]); first | done | rfl | (simp only [List.length_drop, List.length_take]; rfl)) ?_; (with_reducible refine (ipip_Get.calls t132 t133 t135 t136 _ A9.out (GV.below HgV_.out (by repeat (first | (with_reducible first | exact HB.out | apply below_alloc | apply pw_below_drewN | apply below_drew1) | exact HB.out)))).mono ?_); rintro e w17 ⟨rfl, hb⟩; refine ⟨_, rfl, ?_⟩; have n0_ := Aside0.mk (below_step (by repeat (first | (with_reducible first | exact HB.out | apply below_alloc | apply pw_below_drewN | apply below_drew1) | exact HB.out)) hb); clear HB; have HB := n0_; clear n0_; (try clear hb); (try clear hb2); (try clear hk); (try clear hi)) | ((with_reducible refine gate_callee (f := 23) rfl ?_); refine goesL_ (some 40) rfl rfl Tryd.func23 (by kernel_rfl) rfl #[.int .i64 a1, .string t133] rfl (by (try simp only [List.map_toArray, List.map_cons, List.map_nil]); first | done | rfl | (simp only [List.length_drop, List.length_take]; rfl)) ?_; (with_reducible refine (ipip_Get.calls a1 t133 t137 t138 _ A10.out (GV.below HgV_.out (by repeat (first | (with_reducible first | exact HB.out | apply below_alloc | apply pw_below_drewN | apply below_drew1) | exact HB.out)))).mono ?_); rintro e w18 ⟨rfl, hb⟩; refine ⟨_, rfl, ?_⟩; have n0_ := Aside0.mk (below_step (by repeat (first | (with_reducible first | exact HB.out | apply below_alloc | apply pw_below_drewN | apply below_drew1) | exact HB.out)) hb); clear HB; have HB := n0_; clear n0_; (try clear hb); (try clear hb2); (try clear hk); (try clear hi)))
                go_ret
                exact ⟨by first | rfl | (simp [errW_none, errW_some] <;> rfl) | (simp [*, errW_none, errW_some] <;> rfl), by repeat (first | (with_reducible first | exact HB.out | apply below_alloc | apply pw_below_drewN | apply below_drew1) | exact HB.out)⟩
              · rw [if_neg c14] at H
                have c14b0 : (t137.toList == a0.toList) = false := beq_eq_false_iff_ne.mpr c14
                have c14b1 : (t137.toList != a0.toList) = true := bne_iff_ne.mpr c14
                by_cases c19 : t138 = 0
                · rw [if_pos c19] at H
                  exact absurd ((Option.some.inj H).trans hrt_.out) (by decide)
                · rw [if_neg c19] at H
                  have c19b0 : (t138 == 0) = false := beq_eq_false_iff_ne.mpr c19
                  try have c19b0q : (a1 == t132) = false := by have h1 := c13b0; rw [c19b0] at h1; revert h1; cases hz_ : (a1 == t132) <;> simp
                  have c19b1 : (t138 != 0) = true := bne_iff_ne.mpr c19
                  obtain rfl := Option.some.inj H
                  go_enter Tryd.func4, Tryd.ntmps4
                  go_wp2_with (first | ((with_reducible refine gate_callee (f := 20) rfl ?_); refine goesL_ (some 12) rfl rfl Tryd.func20 (by kernel_rfl) rfl #[] rfl (by (try simp only [List.map_toArray, List.map_cons, List.map_nil]); first | done | rfl | (simp only [List.length_drop, List.length_take]; rfl)) ?_; (with_reducible refine (palanquinlaw11_awake.calls  true _ A3.out (GV.below HgV_.out (by repeat (first | (with_reducible first | exact HB.out | apply below_alloc | apply pw_below_drewN | apply below_drew1) | exact HB.out)))).mono ?_); rintro e w24 ⟨rfl, hb⟩; refine ⟨_, rfl, ?_⟩; have n0_ := Aside0.mk (below_step (by repeat (first | (with_reducible first | exact HB.out | apply below_alloc | apply pw_below_drewN | apply below_drew1) | exact HB.out)) hb); clear HB; have HB := n0_; clear n0_; (try clear hb); (try clear hb2); (try clear hk); (try clear hi)) | ((with_reducible refine gate_callee (f := 24) rfl ?_); refine goesL_ (some 19) rfl rfl Tryd.func24 (by kernel_rfl) rfl #[.string a0] rfl (by (try simp only [List.map_toArray, List.map_cons, List.map_nil]); first | done | rfl | (simp only [List.length_drop, List.length_take]; rfl)) ?_; (with_reducible refine (ipip_Put.calls a0 t132 t133 t134 _ A7.out (GV.below HgV_.out (by repeat (first | (with_reducible first | exact HB.out | apply below_alloc | apply pw_below_drewN | apply below_drew1) | exact HB.out)))).mono ?_); rintro e w25 ⟨rfl, hb⟩; refine ⟨_, rfl, ?_⟩; have n0_ := Aside0.mk (below_step (by repeat (first | (with_reducible first | exact HB.out | apply below_alloc | apply pw_below_drewN | apply below_drew1) | exact HB.out)) hb); clear HB; have HB := n0_; clear n0_; (try clear hb); (try clear hb2); (try clear hk); (try clear hi)) | ((with_reducible refine gate_callee (f := 23) rfl ?_); refine goesL_ (some 34) rfl rfl Tryd.func23 (by kernel_rfl) rfl #[.int .i64 t132, .string t133] rfl (by (try simp only [List.map_toArray, List.map_cons, List.map_nil]); first | done | rfl | (simp only [List.length_drop, List.length_take]; rfl)) ?_; (with_reducible refine (ipip_Get.calls t132 t133 t135 t136 _ A9.out (GV.below HgV_.out (by repeat (first | (with_reducible first | exact HB.out | apply below_alloc | apply pw_below_drewN | apply below_drew1) | exact HB.out)))).mono ?_); rintro e w26 ⟨rfl, hb⟩; refine ⟨_, rfl, ?_⟩; have n0_ := Aside0.mk (below_step (by repeat (first | (with_reducible first | exact HB.out | apply below_alloc | apply pw_below_drewN | apply below_drew1) | exact HB.out)) hb); clear HB; have HB := n0_; clear n0_; (try clear hb); (try clear hb2); (try clear hk); (try clear hi)) | ((with_reducible refine gate_callee (f := 23) rfl ?_); refine goesL_ (some 40) rfl rfl Tryd.func23 (by kernel_rfl) rfl #[.int .i64 a1, .string t133] rfl (by (try simp only [List.map_toArray, List.map_cons, List.map_nil]); first | done | rfl | (simp only [List.length_drop, List.length_take]; rfl)) ?_; (with_reducible refine (ipip_Get.calls a1 t133 t137 t138 _ A10.out (GV.below HgV_.out (by repeat (first | (with_reducible first | exact HB.out | apply below_alloc | apply pw_below_drewN | apply below_drew1) | exact HB.out)))).mono ?_); rintro e w27 ⟨rfl, hb⟩; refine ⟨_, rfl, ?_⟩; have n0_ := Aside0.mk (below_step (by repeat (first | (with_reducible first | exact HB.out | apply below_alloc | apply pw_below_drewN | apply below_drew1) | exact HB.out)) hb); clear HB; have HB := n0_; clear n0_; (try clear hb); (try clear hb2); (try clear hk); (try clear hi)))
                  go_ret
                  exact ⟨by first | rfl | (simp [errW_none, errW_some] <;> rfl) | (simp [*, errW_none, errW_some] <;> rfl), by repeat (first | (with_reducible first | exact HB.out | apply below_alloc | apply pw_below_drewN | apply below_drew1) | exact HB.out)⟩
            · rw [if_neg c13] at H
              exact absurd ((Option.some.inj H).trans hrt_.out) (by decide)
          · rw [if_neg c12] at H
            exact absurd ((Option.some.inj H).trans hrt_.out) (by decide)
        · rw [if_neg c11] at H
          exact absurd ((Option.some.inj H).trans hrt_.out) (by decide)
      · rw [if_neg c8] at H
        have c8b0 : (t134 == 0) = false := beq_eq_false_iff_ne.mpr c8
        have c8b1 : (t134 != 0) = true := bne_iff_ne.mpr c8
        by_cases c40 : t132 = 0
        · rw [if_pos c40] at H
          have c40b0 : (t132 == 0) = true := beq_iff_eq.mpr c40
          have c40b1 : (t132 != 0) = false := bne_eq_false_iff_eq.mpr c40
          clear c40
          obtain rfl := Option.some.inj H
          go_enter Tryd.func4, Tryd.ntmps4
          go_wp2_with (first | ((with_reducible refine gate_callee (f := 20) rfl ?_); refine goesL_ (some 12) rfl rfl Tryd.func20 (by kernel_rfl) rfl #[] rfl (by (try simp only [List.map_toArray, List.map_cons, List.map_nil]); first | done | rfl | (simp only [List.length_drop, List.length_take]; rfl)) ?_; (with_reducible refine (palanquinlaw11_awake.calls  true _ A3.out (GV.below HgV_.out (by repeat (first | (with_reducible first | exact HB.out | apply below_alloc | apply pw_below_drewN | apply below_drew1) | exact HB.out)))).mono ?_); rintro e w41 ⟨rfl, hb⟩; refine ⟨_, rfl, ?_⟩; have n0_ := Aside0.mk (below_step (by repeat (first | (with_reducible first | exact HB.out | apply below_alloc | apply pw_below_drewN | apply below_drew1) | exact HB.out)) hb); clear HB; have HB := n0_; clear n0_; (try clear hb); (try clear hb2); (try clear hk); (try clear hi)) | ((with_reducible refine gate_callee (f := 24) rfl ?_); refine goesL_ (some 19) rfl rfl Tryd.func24 (by kernel_rfl) rfl #[.string a0] rfl (by (try simp only [List.map_toArray, List.map_cons, List.map_nil]); first | done | rfl | (simp only [List.length_drop, List.length_take]; rfl)) ?_; (with_reducible refine (ipip_Put.calls a0 t132 t133 t134 _ A7.out (GV.below HgV_.out (by repeat (first | (with_reducible first | exact HB.out | apply below_alloc | apply pw_below_drewN | apply below_drew1) | exact HB.out)))).mono ?_); rintro e w42 ⟨rfl, hb⟩; refine ⟨_, rfl, ?_⟩; have n0_ := Aside0.mk (below_step (by repeat (first | (with_reducible first | exact HB.out | apply below_alloc | apply pw_below_drewN | apply below_drew1) | exact HB.out)) hb); clear HB; have HB := n0_; clear n0_; (try clear hb); (try clear hb2); (try clear hk); (try clear hi)))
          go_ret
          exact ⟨by first | rfl | (simp [errW_none, errW_some] <;> rfl) | (simp [*, errW_none, errW_some] <;> rfl), by repeat (first | (with_reducible first | exact HB.out | apply below_alloc | apply pw_below_drewN | apply below_drew1) | exact HB.out)⟩
        · rw [if_neg c40] at H
          exact absurd ((Option.some.inj H).trans hrt_.out) (by decide)
  · replace c4 := Bool.eq_false_iff.mpr c4
    subst c4
    have H1 : (some false) = some r := by rw [if_neg (show ¬ (false = true) by decide)] at H; exact H
    exact absurd ((Option.some.inj H1).trans hrt_.out) (by decide)

end Go.Proofs.YtcmalglippmocaaDoor.G
