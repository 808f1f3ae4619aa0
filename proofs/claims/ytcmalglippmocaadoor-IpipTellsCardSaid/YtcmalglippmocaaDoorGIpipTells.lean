-- Laid by a program of this session (wip/gen/gprint.py) over the translation's print. Lean checks it.
import Derived.Test.YtcmalglippmocaaDoorG0
import Derived.Test.YtcmalglippmocaaDoorGipip
import Derived.Test.YtcmalglippmocaaDoorGlaw11
import Derived.Test.YtcmalglippmocaaDoorGref11
import Derived.Test.YtcmalglippmocaaDoorHIpipG
namespace Go.Proofs.YtcmalglippmocaaDoor.G
open Go.RowKit Go.Proofs.YtcmalglippmocaaDoorW.PrintWords Go.Proofs.YtcmalglippmocaaDoorW.PrintLast Go.Proofs.YtcmalglippmocaaDoorW.PrintMore
attribute [local go_sem] max2_int min2_int max_two min_two max_three min_three max_four min_four   -- for this text's walks alone
set_option linter.unusedVariables false
set_option linter.unusedSimpArgs false

/-! ### palanquinlaw11_IpipTells: function 5 -/
def palanquinlaw11_IpipTells.f (k : Nat) (a0 : ByteArray) (a1 : Int) : Option (Bool) := (palanquinlaw11_awake.f).bind fun t143 => (if t143 = true then (if (a0.size : Int) > 5000 then (some true) else ((ipip_Proto.f a0).bind fun bt144 => ((palanquinref11_Proto.f a0).bind fun bt146 => ((ipip_Kind.f a0).bind fun bt148 => ((palanquinref11_Kind.f a0).bind fun bt150 => ((ipip_Get.f a1 a0).bind fun bt152 => ((palanquinref11_Get.f k a1 a0).bind fun bt154 => ((ipip_Put.f a0).bind fun bt156 => (if bt144.1 = bt146.1 then (if bt144.2 = bt146.2 then (if bt148.1 = bt150.1 then (if bt148.2 = bt150.2 then (if bt152.1.toList = bt154.1.toList then (if bt152.2 = bt154.2 then (if bt156.1 = bt146.1 then (if bt156.2.2 = bt146.2 then (if bt156.2.1.toList = a0.toList then (some true) else (if bt146.2 = 0 then (some false) else (some (bt156.2.1.toList == ([] : List UInt8))))) else (some false)) else (some false)) else (some false)) else (some false)) else (some false)) else (some false)) else (some false)) else (some false)))))))))) else (some false))
theorem palanquinlaw11_IpipTells.mono : ∀ a0 a1 k, LeO (palanquinlaw11_IpipTells.f k a0 a1) (palanquinlaw11_IpipTells.f (k + 1) a0 a1) := by
  intro a0 a1 k
  unfold palanquinlaw11_IpipTells.f
  repeat' first
      | (with_reducible exact palanquinref11_Get.mono _ _ _)
      | (with_reducible exact LeO.refl _)
      | (with_reducible exact LeO.none _)
      | (with_reducible refine LeO.ite ?_ ?_)
      | (with_reducible refine LeO.bind ?_ (fun _ => ?_))
      | exact palanquinref11_Get.mono _ _ _
      | exact LeO.none _
      | refine LeO.ite ?_ ?_
      | refine LeO.bind ?_ (fun _ => ?_)
set_option maxHeartbeats 8000000 in
set_option maxRecDepth 100000 in
theorem palanquinlaw11_IpipTells.calls (k : Nat) (a0 : ByteArray) (a1 : Int) (r : Bool) (w : World) (h : palanquinlaw11_IpipTells.f k a0 a1 = some r) (hrt_ : Aside0 (r = true)) (hgV_ : GV w) :
    Calls Tryd.prog 5 #[.string a0, .int .i64 a1] w fun e w' => e = .returned (.bool r) ∧ Below w.heap.size w w' := by
  have HgV_ := Aside0.mk hgV_
  clear hgV_
  have HB := Aside0.mk (Below.refl w.heap.size w)
  have H : ((palanquinlaw11_awake.f).bind fun t143 => (if t143 = true then (if (a0.size : Int) > 5000 then (some true) else ((ipip_Proto.f a0).bind fun bt144 => ((palanquinref11_Proto.f a0).bind fun bt146 => ((ipip_Kind.f a0).bind fun bt148 => ((palanquinref11_Kind.f a0).bind fun bt150 => ((ipip_Get.f a1 a0).bind fun bt152 => ((palanquinref11_Get.f k a1 a0).bind fun bt154 => ((ipip_Put.f a0).bind fun bt156 => (if bt144.1 = bt146.1 then (if bt144.2 = bt146.2 then (if bt148.1 = bt150.1 then (if bt148.2 = bt150.2 then (if bt152.1.toList = bt154.1.toList then (if bt152.2 = bt154.2 then (if bt156.1 = bt146.1 then (if bt156.2.2 = bt146.2 then (if bt156.2.1.toList = a0.toList then (some true) else (if bt146.2 = 0 then (some false) else (some (bt156.2.1.toList == ([] : List UInt8))))) else (some false)) else (some false)) else (some false)) else (some false)) else (some false)) else (some false)) else (some false)) else (some false)))))))))) else (some false))) = some r := h
  clear h
  replace H := Option.bind_eq_some_iff.mp H
  obtain ⟨t143, A30, H⟩ := H
  replace H : (if t143 = true then (if (a0.size : Int) > 5000 then (some true) else ((ipip_Proto.f a0).bind fun bt144 => ((palanquinref11_Proto.f a0).bind fun bt146 => ((ipip_Kind.f a0).bind fun bt148 => ((palanquinref11_Kind.f a0).bind fun bt150 => ((ipip_Get.f a1 a0).bind fun bt152 => ((palanquinref11_Get.f k a1 a0).bind fun bt154 => ((ipip_Put.f a0).bind fun bt156 => (if bt144.1 = bt146.1 then (if bt144.2 = bt146.2 then (if bt148.1 = bt150.1 then (if bt148.2 = bt150.2 then (if bt152.1.toList = bt154.1.toList then (if bt152.2 = bt154.2 then (if bt156.1 = bt146.1 then (if bt156.2.2 = bt146.2 then (if bt156.2.1.toList = a0.toList then (some true) else (if bt146.2 = 0 then (some false) else (some (bt156.2.1.toList == ([] : List UInt8))))) else (some false)) else (some false)) else (some false)) else (some false)) else (some false)) else (some false)) else (some false)) else (some false)))))))))) else (some false)) = some r := H
  have A3 := Aside0.mk A30
  clear A30
  by_cases c4 : t143 = true
  · subst c4
    have H1 : (if (a0.size : Int) > 5000 then (some true) else ((ipip_Proto.f a0).bind fun bt144 => ((palanquinref11_Proto.f a0).bind fun bt146 => ((ipip_Kind.f a0).bind fun bt148 => ((palanquinref11_Kind.f a0).bind fun bt150 => ((ipip_Get.f a1 a0).bind fun bt152 => ((palanquinref11_Get.f k a1 a0).bind fun bt154 => ((ipip_Put.f a0).bind fun bt156 => (if bt144.1 = bt146.1 then (if bt144.2 = bt146.2 then (if bt148.1 = bt150.1 then (if bt148.2 = bt150.2 then (if bt152.1.toList = bt154.1.toList then (if bt152.2 = bt154.2 then (if bt156.1 = bt146.1 then (if bt156.2.2 = bt146.2 then (if bt156.2.1.toList = a0.toList then (some true) else (if bt146.2 = 0 then (some false) else (some (bt156.2.1.toList == ([] : List UInt8))))) else (some false)) else (some false)) else (some false)) else (some false)) else (some false)) else (some false)) else (some false)) else (some false)))))))))) = some r := by rw [if_pos rfl] at H; exact H
    clear H
    have H := H1
    clear H1
    by_cases c5 : (a0.size : Int) > 5000
    · rw [if_pos c5] at H
      have c5b0 : decide (5000 < (a0.size : Int)) = true := decide_eq_true c5
      have c5b1 : decide (5000 < a0.size) = true := decide_eq_true (by omega)
      clear c5
      obtain rfl := Option.some.inj H
      go_enter Tryd.func5, Tryd.ntmps5
      go_wp2_with (first | ((with_reducible refine gate_callee (f := 20) rfl ?_); refine goesL_ (some 20) rfl rfl Tryd.func20 (by kernel_rfl) rfl #[] rfl (by (try simp only [List.map_toArray, List.map_cons, List.map_nil]); first | done | rfl | (simp only [List.length_drop, List.length_take]; rfl)) ?_; (with_reducible refine (palanquinlaw11_awake.calls  true _ A3.out (GV.below HgV_.out (by repeat (first | (with_reducible first | exact HB.out | apply below_alloc | apply pw_below_drewN | apply below_drew1) | exact HB.out)))).mono ?_); rintro e w6 ⟨rfl, hb⟩; refine ⟨_, rfl, ?_⟩; have n0_ := Aside0.mk (below_step (by repeat (first | (with_reducible first | exact HB.out | apply below_alloc | apply pw_below_drewN | apply below_drew1) | exact HB.out)) hb); clear HB; have HB := n0_; clear n0_; (try clear hb); (try clear hb2); (try clear hk); (try clear hi)))
      go_ret
      exact ⟨by first | rfl | (simp [errW_none, errW_some] <;> rfl) | (simp [*, errW_none, errW_some] <;> rfl), by repeat (first | (with_reducible first | exact HB.out | apply below_alloc | apply pw_below_drewN | apply below_drew1) | exact HB.out)⟩
    · rw [if_neg c5] at H
      have c5b0 : decide (5000 < (a0.size : Int)) = false := decide_eq_false c5
      have c5b1 : decide (5000 < a0.size) = false := decide_eq_false (by omega)
      clear c5
      replace H := Option.bind_eq_some_iff.mp H
      obtain ⟨⟨t144, t145⟩, A70, H⟩ := H
      replace H : ((palanquinref11_Proto.f a0).bind fun bt146 => ((ipip_Kind.f a0).bind fun bt148 => ((palanquinref11_Kind.f a0).bind fun bt150 => ((ipip_Get.f a1 a0).bind fun bt152 => ((palanquinref11_Get.f k a1 a0).bind fun bt154 => ((ipip_Put.f a0).bind fun bt156 => (if t144 = bt146.1 then (if t145 = bt146.2 then (if bt148.1 = bt150.1 then (if bt148.2 = bt150.2 then (if bt152.1.toList = bt154.1.toList then (if bt152.2 = bt154.2 then (if bt156.1 = bt146.1 then (if bt156.2.2 = bt146.2 then (if bt156.2.1.toList = a0.toList then (some true) else (if bt146.2 = 0 then (some false) else (some (bt156.2.1.toList == ([] : List UInt8))))) else (some false)) else (some false)) else (some false)) else (some false)) else (some false)) else (some false)) else (some false)) else (some false)))))))) = some r := H
      have A7 := Aside0.mk A70
      clear A70
      replace H := Option.bind_eq_some_iff.mp H
      obtain ⟨⟨t146, t147⟩, A80, H⟩ := H
      replace H : ((ipip_Kind.f a0).bind fun bt148 => ((palanquinref11_Kind.f a0).bind fun bt150 => ((ipip_Get.f a1 a0).bind fun bt152 => ((palanquinref11_Get.f k a1 a0).bind fun bt154 => ((ipip_Put.f a0).bind fun bt156 => (if t144 = t146 then (if t145 = t147 then (if bt148.1 = bt150.1 then (if bt148.2 = bt150.2 then (if bt152.1.toList = bt154.1.toList then (if bt152.2 = bt154.2 then (if bt156.1 = t146 then (if bt156.2.2 = t147 then (if bt156.2.1.toList = a0.toList then (some true) else (if t147 = 0 then (some false) else (some (bt156.2.1.toList == ([] : List UInt8))))) else (some false)) else (some false)) else (some false)) else (some false)) else (some false)) else (some false)) else (some false)) else (some false))))))) = some r := H
      have A8 := Aside0.mk A80
      clear A80
      replace H := Option.bind_eq_some_iff.mp H
      obtain ⟨⟨t148, t149⟩, A90, H⟩ := H
      replace H : ((palanquinref11_Kind.f a0).bind fun bt150 => ((ipip_Get.f a1 a0).bind fun bt152 => ((palanquinref11_Get.f k a1 a0).bind fun bt154 => ((ipip_Put.f a0).bind fun bt156 => (if t144 = t146 then (if t145 = t147 then (if t148 = bt150.1 then (if t149 = bt150.2 then (if bt152.1.toList = bt154.1.toList then (if bt152.2 = bt154.2 then (if bt156.1 = t146 then (if bt156.2.2 = t147 then (if bt156.2.1.toList = a0.toList then (some true) else (if t147 = 0 then (some false) else (some (bt156.2.1.toList == ([] : List UInt8))))) else (some false)) else (some false)) else (some false)) else (some false)) else (some false)) else (some false)) else (some false)) else (some false)))))) = some r := H
      have A9 := Aside0.mk A90
      clear A90
      replace H := Option.bind_eq_some_iff.mp H
      obtain ⟨⟨t150, t151⟩, A100, H⟩ := H
      replace H : ((ipip_Get.f a1 a0).bind fun bt152 => ((palanquinref11_Get.f k a1 a0).bind fun bt154 => ((ipip_Put.f a0).bind fun bt156 => (if t144 = t146 then (if t145 = t147 then (if t148 = t150 then (if t149 = t151 then (if bt152.1.toList = bt154.1.toList then (if bt152.2 = bt154.2 then (if bt156.1 = t146 then (if bt156.2.2 = t147 then (if bt156.2.1.toList = a0.toList then (some true) else (if t147 = 0 then (some false) else (some (bt156.2.1.toList == ([] : List UInt8))))) else (some false)) else (some false)) else (some false)) else (some false)) else (some false)) else (some false)) else (some false)) else (some false))))) = some r := H
      have A10 := Aside0.mk A100
      clear A100
      replace H := Option.bind_eq_some_iff.mp H
      obtain ⟨⟨t152, t153⟩, A110, H⟩ := H
      replace H : ((palanquinref11_Get.f k a1 a0).bind fun bt154 => ((ipip_Put.f a0).bind fun bt156 => (if t144 = t146 then (if t145 = t147 then (if t148 = t150 then (if t149 = t151 then (if t152.toList = bt154.1.toList then (if t153 = bt154.2 then (if bt156.1 = t146 then (if bt156.2.2 = t147 then (if bt156.2.1.toList = a0.toList then (some true) else (if t147 = 0 then (some false) else (some (bt156.2.1.toList == ([] : List UInt8))))) else (some false)) else (some false)) else (some false)) else (some false)) else (some false)) else (some false)) else (some false)) else (some false)))) = some r := H
      have A11 := Aside0.mk A110
      clear A110
      replace H := Option.bind_eq_some_iff.mp H
      obtain ⟨⟨t154, t155⟩, A120, H⟩ := H
      replace H : ((ipip_Put.f a0).bind fun bt156 => (if t144 = t146 then (if t145 = t147 then (if t148 = t150 then (if t149 = t151 then (if t152.toList = t154.toList then (if t153 = t155 then (if bt156.1 = t146 then (if bt156.2.2 = t147 then (if bt156.2.1.toList = a0.toList then (some true) else (if t147 = 0 then (some false) else (some (bt156.2.1.toList == ([] : List UInt8))))) else (some false)) else (some false)) else (some false)) else (some false)) else (some false)) else (some false)) else (some false)) else (some false))) = some r := H
      have A12 := Aside0.mk A120
      clear A120
      replace H := Option.bind_eq_some_iff.mp H
      obtain ⟨⟨t156, t157, t158⟩, A130, H⟩ := H
      replace H : (if t144 = t146 then (if t145 = t147 then (if t148 = t150 then (if t149 = t151 then (if t152.toList = t154.toList then (if t153 = t155 then (if t156 = t146 then (if t158 = t147 then (if t157.toList = a0.toList then (some true) else (if t147 = 0 then (some false) else (some (t157.toList == ([] : List UInt8))))) else (some false)) else (some false)) else (some false)) else (some false)) else (some false)) else (some false)) else (some false)) else (some false)) = some r := H
      have A13 := Aside0.mk A130
      clear A130
      by_cases c14 : t144 = t146
      · rw [if_pos c14] at H
        have c14b0 : (t144 == t146) = true := beq_iff_eq.mpr c14
        have c14b1 : (t144 != t146) = false := bne_eq_false_iff_eq.mpr c14
        clear c14
        by_cases c15 : t145 = t147
        · rw [if_pos c15] at H
          have c15b0 : (t145 == t147) = true := beq_iff_eq.mpr c15
          have c15b1 : (t145 != t147) = false := bne_eq_false_iff_eq.mpr c15
          clear c15
          by_cases c16 : t148 = t150
          · rw [if_pos c16] at H
            have c16b0 : (t148 == t150) = true := beq_iff_eq.mpr c16
            have c16b1 : (t148 != t150) = false := bne_eq_false_iff_eq.mpr c16
            clear c16
            by_cases c17 : t149 = t151
            · rw [if_pos c17] at H
              have c17b0 : (t149 == t151) = true := beq_iff_eq.mpr c17
              have c17b1 : (t149 != t151) = false := bne_eq_false_iff_eq.mpr c17
              clear c17
              by_cases c18 : t152.toList = t154.toList
              · rw [if_pos c18] at H
                have c18b0 : (t152.toList == t154.toList) = true := beq_iff_eq.mpr c18
                have c18b1 : (t152.toList != t154.toList) = false := bne_eq_false_iff_eq.mpr c18
                clear c18
                by_cases c19 : t153 = t155
                · rw [if_pos c19] at H
                  have c19b0 : (t153 == t155) = true := beq_iff_eq.mpr c19
                  have c19b1 : (t153 != t155) = false := bne_eq_false_iff_eq.mpr c19
                  clear c19
                  by_cases c20 : t156 = t146
                  · rw [if_pos c20] at H
                    have c20b0 : (t156 == t146) = true := beq_iff_eq.mpr c20
                    have c20b1 : (t156 != t146) = false := bne_eq_false_iff_eq.mpr c20
                    clear c20
                    by_cases c21 : t158 = t147
                    · rw [if_pos c21] at H
                      have c21b0 : (t158 == t147) = true := beq_iff_eq.mpr c21
                      have c21b1 : (t158 != t147) = false := bne_eq_false_iff_eq.mpr c21
                      clear c21
                      by_cases c22 : t157.toList = a0.toList
                      · rw [if_pos c22] at H
                        have c22b0 : (t157.toList == a0.toList) = true := beq_iff_eq.mpr c22
                        have c22b1 : (t157.toList != a0.toList) = false := bne_eq_false_iff_eq.mpr c22
                        clear c22
                        obtain rfl := Option.some.inj H
                        go_enter Tryd.func5, Tryd.ntmps5
                        go_wp2_with (first | ((with_reducible refine gate_callee (f := 20) rfl ?_); refine goesL_ (some 20) rfl rfl Tryd.func20 (by kernel_rfl) rfl #[] rfl (by (try simp only [List.map_toArray, List.map_cons, List.map_nil]); first | done | rfl | (simp only [List.length_drop, List.length_take]; rfl)) ?_; (with_reducible refine (palanquinlaw11_awake.calls  true _ A3.out (GV.below HgV_.out (by repeat (first | (with_reducible first | exact HB.out | apply below_alloc | apply pw_below_drewN | apply below_drew1) | exact HB.out)))).mono ?_); rintro e w23 ⟨rfl, hb⟩; refine ⟨_, rfl, ?_⟩; have n0_ := Aside0.mk (below_step (by repeat (first | (with_reducible first | exact HB.out | apply below_alloc | apply pw_below_drewN | apply below_drew1) | exact HB.out)) hb); clear HB; have HB := n0_; clear n0_; (try clear hb); (try clear hb2); (try clear hk); (try clear hi)) | ((with_reducible refine gate_callee (f := 21) rfl ?_); refine goesL_ (some 27) rfl rfl Tryd.func21 (by kernel_rfl) rfl #[.string a0] rfl (by (try simp only [List.map_toArray, List.map_cons, List.map_nil]); first | done | rfl | (simp only [List.length_drop, List.length_take]; rfl)) ?_; (with_reducible refine (ipip_Proto.calls a0 t144 t145 _ A7.out (GV.below HgV_.out (by repeat (first | (with_reducible first | exact HB.out | apply below_alloc | apply pw_below_drewN | apply below_drew1) | exact HB.out)))).mono ?_); rintro e w24 ⟨rfl, hb⟩; refine ⟨_, rfl, ?_⟩; have n0_ := Aside0.mk (below_step (by repeat (first | (with_reducible first | exact HB.out | apply below_alloc | apply pw_below_drewN | apply below_drew1) | exact HB.out)) hb); clear HB; have HB := n0_; clear n0_; (try clear hb); (try clear hb2); (try clear hk); (try clear hi)) | ((with_reducible refine gate_callee (f := 25) rfl ?_); refine goesL_ (some 32) rfl rfl Tryd.func25 (by kernel_rfl) rfl #[.string a0] rfl (by (try simp only [List.map_toArray, List.map_cons, List.map_nil]); first | done | rfl | (simp only [List.length_drop, List.length_take]; rfl)) ?_; (with_reducible refine (palanquinref11_Proto.calls a0 t146 t147 _ A8.out).mono ?_); rintro e w' ⟨rfl, ⟨nd, rfl⟩⟩; refine ⟨_, rfl, ?_⟩) | ((with_reducible refine gate_callee (f := 22) rfl ?_); refine goesL_ (some 37) rfl rfl Tryd.func22 (by kernel_rfl) rfl #[.string a0] rfl (by (try simp only [List.map_toArray, List.map_cons, List.map_nil]); first | done | rfl | (simp only [List.length_drop, List.length_take]; rfl)) ?_; (with_reducible refine (ipip_Kind.calls a0 t148 t149 _ A9.out (GV.below HgV_.out (by repeat (first | (with_reducible first | exact HB.out | apply below_alloc | apply pw_below_drewN | apply below_drew1) | exact HB.out)))).mono ?_); rintro e w25 ⟨rfl, hb⟩; refine ⟨_, rfl, ?_⟩; have n0_ := Aside0.mk (below_step (by repeat (first | (with_reducible first | exact HB.out | apply below_alloc | apply pw_below_drewN | apply below_drew1) | exact HB.out)) hb); clear HB; have HB := n0_; clear n0_; (try clear hb); (try clear hb2); (try clear hk); (try clear hi)) | ((with_reducible refine gate_callee (f := 26) rfl ?_); refine goesL_ (some 42) rfl rfl Tryd.func26 (by kernel_rfl) rfl #[.string a0] rfl (by (try simp only [List.map_toArray, List.map_cons, List.map_nil]); first | done | rfl | (simp only [List.length_drop, List.length_take]; rfl)) ?_; (with_reducible refine (palanquinref11_Kind.calls a0 t150 t151 _ A10.out).mono ?_); rintro e w' ⟨rfl, ⟨nd, rfl⟩⟩; refine ⟨_, rfl, ?_⟩) | ((with_reducible refine gate_callee (f := 23) rfl ?_); refine goesL_ (some 48) rfl rfl Tryd.func23 (by kernel_rfl) rfl #[.int .i64 a1, .string a0] rfl (by (try simp only [List.map_toArray, List.map_cons, List.map_nil]); first | done | rfl | (simp only [List.length_drop, List.length_take]; rfl)) ?_; (with_reducible refine (ipip_Get.calls a1 a0 t152 t153 _ A11.out (GV.below HgV_.out (by repeat (first | (with_reducible first | exact HB.out | apply below_alloc | apply pw_below_drewN | apply below_drew1) | exact HB.out)))).mono ?_); rintro e w26 ⟨rfl, hb⟩; refine ⟨_, rfl, ?_⟩; have n0_ := Aside0.mk (below_step (by repeat (first | (with_reducible first | exact HB.out | apply below_alloc | apply pw_below_drewN | apply below_drew1) | exact HB.out)) hb); clear HB; have HB := n0_; clear n0_; (try clear hb); (try clear hb2); (try clear hk); (try clear hi)) | ((with_reducible refine gate_callee (f := 27) rfl ?_); refine goesL_ (some 54) rfl rfl Tryd.func27 (by kernel_rfl) rfl #[.int .i64 a1, .string a0] rfl (by (try simp only [List.map_toArray, List.map_cons, List.map_nil]); first | done | rfl | (simp only [List.length_drop, List.length_take]; rfl)) ?_; (with_reducible refine (palanquinref11_Get.calls k a1 a0 t154 t155 _ A12.out).mono ?_); rintro e w' ⟨rfl, ⟨nd, rfl⟩⟩; refine ⟨_, rfl, ?_⟩) | ((with_reducible refine gate_callee (f := 24) rfl ?_); refine goesL_ (some 59) rfl rfl Tryd.func24 (by kernel_rfl) rfl #[.string a0] rfl (by (try simp only [List.map_toArray, List.map_cons, List.map_nil]); first | done | rfl | (simp only [List.length_drop, List.length_take]; rfl)) ?_; (with_reducible refine (ipip_Put.calls a0 t156 t157 t158 _ A13.out (GV.below HgV_.out (by repeat (first | (with_reducible first | exact HB.out | apply below_alloc | apply pw_below_drewN | apply below_drew1) | exact HB.out)))).mono ?_); rintro e w27 ⟨rfl, hb⟩; refine ⟨_, rfl, ?_⟩; have n0_ := Aside0.mk (below_step (by repeat (first | (with_reducible first | exact HB.out | apply below_alloc | apply pw_below_drewN | apply below_drew1) | exact HB.out)) hb); clear HB; have HB := n0_; clear n0_; (try clear hb); (try clear hb2); (try clear hk); (try clear hi)))
                        go_ret
                        exact ⟨by first | rfl | (simp [errW_none, errW_some] <;> rfl) | (simp [*, errW_none, errW_some] <;> rfl), by repeat (first | (with_reducible first | exact HB.out | apply below_alloc | apply pw_below_drewN | apply below_drew1) | exact HB.out)⟩
                      · rw [if_neg c22] at H
                        have c22b0 : (t157.toList == a0.toList) = false := beq_eq_false_iff_ne.mpr c22
                        have c22b1 : (t157.toList != a0.toList) = true := bne_iff_ne.mpr c22
                        by_cases c28 : t147 = 0
                        · rw [if_pos c28] at H
                          exact absurd ((Option.some.inj H).trans hrt_.out) (by decide)
                        · rw [if_neg c28] at H
                          have c28b0 : (t147 == 0) = false := beq_eq_false_iff_ne.mpr c28
                          have c28b1 : (t147 != 0) = true := bne_iff_ne.mpr c28
                          obtain rfl := Option.some.inj H
                          go_enter Tryd.func5, Tryd.ntmps5
                          go_wp2_with (first | ((with_reducible refine gate_callee (f := 20) rfl ?_); refine goesL_ (some 20) rfl rfl Tryd.func20 (by kernel_rfl) rfl #[] rfl (by (try simp only [List.map_toArray, List.map_cons, List.map_nil]); first | done | rfl | (simp only [List.length_drop, List.length_take]; rfl)) ?_; (with_reducible refine (palanquinlaw11_awake.calls  true _ A3.out (GV.below HgV_.out (by repeat (first | (with_reducible first | exact HB.out | apply below_alloc | apply pw_below_drewN | apply below_drew1) | exact HB.out)))).mono ?_); rintro e w34 ⟨rfl, hb⟩; refine ⟨_, rfl, ?_⟩; have n0_ := Aside0.mk (below_step (by repeat (first | (with_reducible first | exact HB.out | apply below_alloc | apply pw_below_drewN | apply below_drew1) | exact HB.out)) hb); clear HB; have HB := n0_; clear n0_; (try clear hb); (try clear hb2); (try clear hk); (try clear hi)) | ((with_reducible refine gate_callee (f := 21) rfl ?_); refine goesL_ (some 27) rfl rfl Tryd.func21 (by kernel_rfl) rfl #[.string a0] rfl (by (try simp only [List.map_toArray, List.map_cons, List.map_nil]); first | done | rfl | (simp only [List.length_drop, List.length_take]; rfl)) ?_; (with_reducible refine (ipip_Proto.calls a0 t144 t145 _ A7.out (GV.below HgV_.out (by repeat (first | (with_reducible first | exact HB.out | apply below_alloc | apply pw_below_drewN | apply below_drew1) | exact HB.out)))).mono ?_); rintro e w35 ⟨rfl, hb⟩; refine ⟨_, rfl, ?_⟩; have n0_ := Aside0.mk (below_step (by repeat (first | (with_reducible first | exact HB.out | apply below_alloc | apply pw_below_drewN | apply below_drew1) | exact HB.out)) hb); clear HB; have HB := n0_; clear n0_; (try clear hb); (try clear hb2); (try clear hk); (try clear hi)) | ((with_reducible refine gate_callee (f := 25) rfl ?_); refine goesL_ (some 32) rfl rfl Tryd.func25 (by kernel_rfl) rfl #[.string a0] rfl (by (try simp only [List.map_toArray, List.map_cons, List.map_nil]); first | done | rfl | (simp only [List.length_drop, List.length_take]; rfl)) ?_; (with_reducible refine (palanquinref11_Proto.calls a0 t146 t147 _ A8.out).mono ?_); rintro e w' ⟨rfl, ⟨nd, rfl⟩⟩; refine ⟨_, rfl, ?_⟩) | ((with_reducible refine gate_callee (f := 22) rfl ?_); refine goesL_ (some 37) rfl rfl Tryd.func22 (by kernel_rfl) rfl #[.string a0] rfl (by (try simp only [List.map_toArray, List.map_cons, List.map_nil]); first | done | rfl | (simp only [List.length_drop, List.length_take]; rfl)) ?_; (with_reducible refine (ipip_Kind.calls a0 t148 t149 _ A9.out (GV.below HgV_.out (by repeat (first | (with_reducible first | exact HB.out | apply below_alloc | apply pw_below_drewN | apply below_drew1) | exact HB.out)))).mono ?_); rintro e w36 ⟨rfl, hb⟩; refine ⟨_, rfl, ?_⟩; have n0_ := Aside0.mk (below_step (by repeat (first | (with_reducible first | exact HB.out | apply below_alloc | apply pw_below_drewN | apply below_drew1) | exact HB.out)) hb); clear HB; have HB := n0_; clear n0_; (try clear hb); (try clear hb2); (try clear hk); (try clear hi)) | ((with_reducible refine gate_callee (f := 26) rfl ?_); refine goesL_ (some 42) rfl rfl Tryd.func26 (by kernel_rfl) rfl #[.string a0] rfl (by (try simp only [List.map_toArray, List.map_cons, List.map_nil]); first | done | rfl | (simp only [List.length_drop, List.length_take]; rfl)) ?_; (with_reducible refine (palanquinref11_Kind.calls a0 t150 t151 _ A10.out).mono ?_); rintro e w' ⟨rfl, ⟨nd, rfl⟩⟩; refine ⟨_, rfl, ?_⟩) | ((with_reducible refine gate_callee (f := 23) rfl ?_); refine goesL_ (some 48) rfl rfl Tryd.func23 (by kernel_rfl) rfl #[.int .i64 a1, .string a0] rfl (by (try simp only [List.map_toArray, List.map_cons, List.map_nil]); first | done | rfl | (simp only [List.length_drop, List.length_take]; rfl)) ?_; (with_reducible refine (ipip_Get.calls a1 a0 t152 t153 _ A11.out (GV.below HgV_.out (by repeat (first | (with_reducible first | exact HB.out | apply below_alloc | apply pw_below_drewN | apply below_drew1) | exact HB.out)))).mono ?_); rintro e w37 ⟨rfl, hb⟩; refine ⟨_, rfl, ?_⟩; have n0_ := Aside0.mk (below_step (by repeat (first | (with_reducible first | exact HB.out | apply below_alloc | apply pw_below_drewN | apply below_drew1) | exact HB.out)) hb); clear HB; have HB := n0_; clear n0_; (try clear hb); (try clear hb2); (try clear hk); (try clear hi)) | ((with_reducible refine gate_callee (f := 27) rfl ?_); refine goesL_ (some 54) rfl rfl Tryd.func27 (by kernel_rfl) rfl #[.int .i64 a1, .string a0] rfl (by (try simp only [List.map_toArray, List.map_cons, List.map_nil]); first | done | rfl | (simp only [List.length_drop, List.length_take]; rfl)) ?_; (with_reducible refine (palanquinref11_Get.calls k a1 a0 t154 t155 _ A12.out).mono ?_); rintro e w' ⟨rfl, ⟨nd, rfl⟩⟩; refine ⟨_, rfl, ?_⟩) | ((with_reducible refine gate_callee (f := 24) rfl ?_); refine goesL_ (some 59) rfl rfl Tryd.func24 (by kernel_rfl) rfl #[.string a0] rfl (by (try simp only [List.map_toArray, List.map_cons, List.map_nil]); first | done | rfl | (simp only [List.length_drop, List.length_take]; rfl)) ?_; (with_reducible refine (ipip_Put.calls a0 t156 t157 t158 _ A13.out (GV.below HgV_.out (by repeat (first | (with_reducible first | exact HB.out | apply below_alloc | apply pw_below_drewN | apply below_drew1) | exact HB.out)))).mono ?_); rintro e w38 ⟨rfl, hb⟩; refine ⟨_, rfl, ?_⟩; have n0_ := Aside0.mk (below_step (by repeat (first | (with_reducible first | exact HB.out | apply below_alloc | apply pw_below_drewN | apply below_drew1) | exact HB.out)) hb); clear HB; have HB := n0_; clear n0_; (try clear hb); (try clear hb2); (try clear hk); (try clear hi)))
                          go_ret
                          exact ⟨by first | rfl | (simp [errW_none, errW_some] <;> rfl) | (simp [*, errW_none, errW_some] <;> rfl), by repeat (first | (with_reducible first | exact HB.out | apply below_alloc | apply pw_below_drewN | apply below_drew1) | exact HB.out)⟩
                    · rw [if_neg c21] at H
                      exact absurd ((Option.some.inj H).trans hrt_.out) (by decide)
                  · rw [if_neg c20] at H
                    exact absurd ((Option.some.inj H).trans hrt_.out) (by decide)
                · rw [if_neg c19] at H
                  exact absurd ((Option.some.inj H).trans hrt_.out) (by decide)
              · rw [if_neg c18] at H
                exact absurd ((Option.some.inj H).trans hrt_.out) (by decide)
            · rw [if_neg c17] at H
              exact absurd ((Option.some.inj H).trans hrt_.out) (by decide)
          · rw [if_neg c16] at H
            exact absurd ((Option.some.inj H).trans hrt_.out) (by decide)
        · rw [if_neg c15] at H
          exact absurd ((Option.some.inj H).trans hrt_.out) (by decide)
      · rw [if_neg c14] at H
        exact absurd ((Option.some.inj H).trans hrt_.out) (by decide)
  · replace c4 := Bool.eq_false_iff.mpr c4
    subst c4
    have H1 : (some false) = some r := by rw [if_neg (show ¬ (false = true) by decide)] at H; exact H
    exact absurd ((Option.some.inj H1).trans hrt_.out) (by decide)

end Go.Proofs.YtcmalglippmocaaDoor.G
