-- Laid by a program of this session (wip/gen/gprint.py) over the translation's print. Lean checks it.
import Derived.Test.YtejmipoolbodgaaG0
import Derived.Test.YtejmipoolbodgaaHUdp
namespace Go.Proofs.Ytejmipoolbodgaa.G
open Go.RowKit Go.Proofs.YtejmipoolbodgaaW.PrintWords Go.Proofs.YtejmipoolbodgaaW.PrintLast Go.Proofs.YtejmipoolbodgaaW.PrintMore
attribute [local go_sem] max2_int min2_int max_two min_two max_three min_three max_four min_four   -- for this text's walks alone
set_option linter.unusedVariables false
set_option linter.unusedSimpArgs false

/-! ### palanquinlaw08_awake: function 89 -/
def palanquinlaw08_awake.f  : Option (Bool) := (udp_Put.f 1 2 (⟨#[120]⟩ : ByteArray) 3).bind fun bt436 => (if bt436.1.toList = ([0, 1, 0, 2, 0, 9, 0, 3, 120] : List UInt8) then (some (bt436.2 == 0)) else (some false))
set_option maxHeartbeats 8000000 in
set_option maxRecDepth 100000 in
theorem palanquinlaw08_awake.calls  (r : Bool) (w : World) (h : palanquinlaw08_awake.f  = some r) :
    Calls Try.prog 89 #[] w fun e w' => e = .returned (.bool r) ∧ Below w.heap.size w w' := by
  have hu102 := Try.underlying102
  have HB := Aside0.mk (Below.refl w.heap.size w)
  have H : ((udp_Put.f 1 2 (⟨#[120]⟩ : ByteArray) 3).bind fun bt436 => (if bt436.1.toList = ([0, 1, 0, 2, 0, 9, 0, 3, 120] : List UInt8) then (some (bt436.2 == 0)) else (some false))) = some r := h
  clear h
  replace H := Option.bind_eq_some_iff.mp H
  obtain ⟨⟨t436, t437⟩, A10, H⟩ := H
  replace H : (if t436.toList = ([0, 1, 0, 2, 0, 9, 0, 3, 120] : List UInt8) then (some (t437 == 0)) else (some false)) = some r := H
  have A1 := Aside0.mk A10
  clear A10
  by_cases c2 : t436.toList = ([0, 1, 0, 2, 0, 9, 0, 3, 120] : List UInt8)
  · rw [if_pos c2] at H
    have c2b0 : (t436.toList == ([0, 1, 0, 2, 0, 9, 0, 3, 120] : List UInt8)) = true := beq_iff_eq.mpr c2
    have c2b1 : (t436.toList != ([0, 1, 0, 2, 0, 9, 0, 3, 120] : List UInt8)) = false := bne_eq_false_iff_eq.mpr c2
    clear c2
    obtain rfl := Option.some.inj H
    go_enter Try.func89, Try.ntmps89
    go_wp2_with (first | ((with_reducible refine gate_callee (f := 90) rfl ?_); refine goesL_ (some 5) rfl rfl Try.func90 (by kernel_rfl) rfl #[.agg #[.int .i64 1, .int .i64 2, .string (⟨#[120]⟩ : ByteArray)], .int .i64 3] rfl (by (try simp only [List.map_toArray, List.map_cons, List.map_nil]); first | done | rfl | (simp only [List.length_drop, List.length_take]; rfl)) ?_; (with_reducible refine (udp_Put.calls 1 2 (⟨#[120]⟩ : ByteArray) 3 t436 t437 _ A1.out).mono ?_); rintro e w3 ⟨rfl, hb⟩; refine ⟨_, rfl, ?_⟩; have n0_ := Aside0.mk (below_step (by repeat (first | (with_reducible first | exact HB.out | apply below_alloc | apply pw_below_drewN | apply below_drew1) | exact HB.out)) hb); clear HB; have HB := n0_; clear n0_; (try clear hb); (try clear hb2); (try clear hk); (try clear hi)))
    go_ret
    exact ⟨by first | rfl | (simp [errW_none, errW_some] <;> rfl) | (simp [*, errW_none, errW_some] <;> rfl), by repeat (first | (with_reducible first | exact HB.out | apply below_alloc | apply pw_below_drewN | apply below_drew1) | exact HB.out)⟩
  · rw [if_neg c2] at H
    have c2b0 : (t436.toList == ([0, 1, 0, 2, 0, 9, 0, 3, 120] : List UInt8)) = false := beq_eq_false_iff_ne.mpr c2
    have c2b1 : (t436.toList != ([0, 1, 0, 2, 0, 9, 0, 3, 120] : List UInt8)) = true := bne_iff_ne.mpr c2
    obtain rfl := Option.some.inj H
    go_enter Try.func89, Try.ntmps89
    go_wp2_with (first | ((with_reducible refine gate_callee (f := 90) rfl ?_); refine goesL_ (some 5) rfl rfl Try.func90 (by kernel_rfl) rfl #[.agg #[.int .i64 1, .int .i64 2, .string (⟨#[120]⟩ : ByteArray)], .int .i64 3] rfl (by (try simp only [List.map_toArray, List.map_cons, List.map_nil]); first | done | rfl | (simp only [List.length_drop, List.length_take]; rfl)) ?_; (with_reducible refine (udp_Put.calls 1 2 (⟨#[120]⟩ : ByteArray) 3 t436 t437 _ A1.out).mono ?_); rintro e w4 ⟨rfl, hb⟩; refine ⟨_, rfl, ?_⟩; have n0_ := Aside0.mk (below_step (by repeat (first | (with_reducible first | exact HB.out | apply below_alloc | apply pw_below_drewN | apply below_drew1) | exact HB.out)) hb); clear HB; have HB := n0_; clear n0_; (try clear hb); (try clear hb2); (try clear hk); (try clear hi)))
    go_ret
    exact ⟨by first | rfl | (simp [errW_none, errW_some] <;> rfl) | (simp [*, errW_none, errW_some] <;> rfl), by repeat (first | (with_reducible first | exact HB.out | apply below_alloc | apply pw_below_drewN | apply below_drew1) | exact HB.out)⟩

end Go.Proofs.Ytejmipoolbodgaa.G
