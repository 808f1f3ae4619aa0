/- Texts of this session, joined: each is a section. -/
import Derived.Test.YtejmipoolbodgaaMFrag1
import Derived.Test.YtejmipoolbodgaaMFrag7
import Derived.Test.YtejmipoolbodgaaMFrag4
import Derived.Test.YtejmipoolbodgaaMFrag3
section
namespace Go.Proofs.Ytejmipoolbodgaa.G
open Go.RowKit Go.Proofs.YtejmipoolbodgaaW.PrintWords Go.Proofs.YtejmipoolbodgaaW.PrintLast Go.Proofs.YtejmipoolbodgaaW.PrintMore
attribute [local go_sem] max2_int min2_int max_two min_two max_three min_three max_four min_four   -- for this text's walks alone
set_option linter.unusedVariables false
set_option linter.unusedSimpArgs false

/-! ### palanquinlaw15_FragTwice: function 33 -/
mutual
def palanquinlaw15_FragTwice.j0 : Nat → Int → List ByteArray → Int → ByteArray → Bool → Int → Int → Int → Int → Int → Bool → Bool → ByteArray → ByteArray → ByteArray → Option (Bool)
  | 0, _, _, _, _, _, _, _, _, _, _, _, _, _, _, _ => none
  | k + 1, x2, x7, x8, x10, x42, x909000, x909001, x909002, x909003, x909004, x909005, x909006, x909007, x909008, x909009 => if x42 = true then (some (x8 != 0)) else (palanquinlaw15_FragTwice.l0 k x2 x7 x10 0 0 x909000 x909001 x909002 x909003 x909004 x909005 x909006 x909007 x909008 x909009)
def palanquinlaw15_FragTwice.l0 : Nat → Int → List ByteArray → ByteArray → Int → Int → Int → Int → Int → Int → Int → Bool → Bool → ByteArray → ByteArray → ByteArray → Option (Bool)
  | 0, _, _, _, _, _, _, _, _, _, _, _, _, _, _, _ => none
  | k + 1, x2, x7, x10, x12, x13, x909000, x909001, x909002, x909003, x909004, x909005, x909006, x909007, x909008, x909009 => if x13 < (x7.length : Int) then (if 0 ≤ x13 then ((frag_Cut.f (rdOf ByteArray.empty x7 x13) x2).bind fun bt910 => (if bt910.2 = 0 then (palanquinlaw15_FragTwice.l1 k x2 x7 x10 x12 x13 bt910.1 0 x909000 x909001 x909002 x909003 x909004 x909005 x909006 x909007 x909008 x909009) else (some true))) else (none)) else (some (x12 == (x10.size : Int)))
def palanquinlaw15_FragTwice.l1 : Nat → Int → List ByteArray → ByteArray → Int → Int → List ByteArray → Int → Int → Int → Int → Int → Int → Bool → Bool → ByteArray → ByteArray → ByteArray → Option (Bool)
  | 0, _, _, _, _, _, _, _, _, _, _, _, _, _, _, _, _, _ => none
  | k + 1, x2, x7, x10, x12, x13, x14, x16, x909000, x909001, x909002, x909003, x909004, x909005, x909006, x909007, x909008, x909009 => if x16 < (x14.length : Int) then (if 0 ≤ x16 then ((ip4_Get.f (rdOf ByteArray.empty x14 x16)).bind fun bt915 => (if bt915.2.2.2.2.2.2.2.2.2.2.2 = 0 then (if (wrap64 ((wrap64 (bt915.2.2.1 - x909002)) * 8)) = x12 then (if (wrap64 (x12 + (bt915.2.2.2.2.2.2.2.2.2.2.1.size : Int))) > (x10.size : Int) then (some false) else (if 0 ≤ x12 then (if x12 ≤ (wrap64 (x12 + (bt915.2.2.2.2.2.2.2.2.2.2.1.size : Int))) then (if (wrap64 (x12 + (bt915.2.2.2.2.2.2.2.2.2.2.1.size : Int))) ≤ (x10.size : Int) then (if (x10.extract (x12 : Int).toNat ((wrap64 (x12 + (bt915.2.2.2.2.2.2.2.2.2.2.1.size : Int))) : Int).toNat).toList = bt915.2.2.2.2.2.2.2.2.2.2.1.toList then (if x909006 = true then (if (bt915.2.2.2.2.2.2.1 != true) = true then (some false) else (palanquinlaw15_FragTwice.l1 k x2 x7 x10 (wrap64 (x12 + (bt915.2.2.2.2.2.2.2.2.2.2.1.size : Int))) x13 x14 (wrap64 (x16 + 1)) x909000 x909001 x909002 x909003 x909004 x909005 x909006 x909007 x909008 x909009)) else (if (bt915.2.2.2.2.2.2.1 != (decide ((wrap64 (x12 + (bt915.2.2.2.2.2.2.2.2.2.2.1.size : Int))) < (x10.size : Int)))) = true then (some false) else (palanquinlaw15_FragTwice.l1 k x2 x7 x10 (wrap64 (x12 + (bt915.2.2.2.2.2.2.2.2.2.2.1.size : Int))) x13 x14 (wrap64 (x16 + 1)) x909000 x909001 x909002 x909003 x909004 x909005 x909006 x909007 x909008 x909009))) else (some false)) else (none)) else (none)) else (none))) else (some false)) else (some false))) else (none)) else (palanquinlaw15_FragTwice.l0 k x2 x7 x10 x12 (wrap64 (x13 + 1)) x909000 x909001 x909002 x909003 x909004 x909005 x909006 x909007 x909008 x909009)
end
def palanquinlaw15_FragTwice.f (k : Nat) (a0 : ByteArray) (a1 : Int) (a2 : Int) : Option (Bool) := (palanquinlaw15_awake.f k).bind fun t891 => (if t891 = true then (if (a0.size : Int) > 2000 then (some true) else ((frag_Cut.f a0 a1).bind fun bt892 => ((ip4_Get.f a0).bind fun bt896 => (if bt892.2 = 0 then (palanquinlaw15_FragTwice.j0 k a2 bt892.1 bt892.2 bt896.2.2.2.2.2.2.2.2.2.2.1 (bt896.2.2.2.2.2.2.2.2.2.2.2 != 0) bt896.1 bt896.2.1 bt896.2.2.1 bt896.2.2.2.1 bt896.2.2.2.2.1 bt896.2.2.2.2.2.1 bt896.2.2.2.2.2.2.1 bt896.2.2.2.2.2.2.2.1 bt896.2.2.2.2.2.2.2.2.1 bt896.2.2.2.2.2.2.2.2.2.1) else (palanquinlaw15_FragTwice.j0 k a2 bt892.1 bt892.2 bt896.2.2.2.2.2.2.2.2.2.2.1 true bt896.1 bt896.2.1 bt896.2.2.1 bt896.2.2.2.1 bt896.2.2.2.2.1 bt896.2.2.2.2.2.1 bt896.2.2.2.2.2.2.1 bt896.2.2.2.2.2.2.2.1 bt896.2.2.2.2.2.2.2.2.1 bt896.2.2.2.2.2.2.2.2.2.1))))) else (some false))
theorem palanquinlaw15_FragTwice.mono_l : ∀ k, (∀ y0 y1 y2 y3 y4 y5 y6 y7 y8 y9 y10 y11 y12 y13 y14, LeO (palanquinlaw15_FragTwice.j0 k y0 y1 y2 y3 y4 y5 y6 y7 y8 y9 y10 y11 y12 y13 y14) (palanquinlaw15_FragTwice.j0 (k + 1) y0 y1 y2 y3 y4 y5 y6 y7 y8 y9 y10 y11 y12 y13 y14)) ∧ (∀ y0 y1 y2 y3 y4 y5 y6 y7 y8 y9 y10 y11 y12 y13 y14, LeO (palanquinlaw15_FragTwice.l0 k y0 y1 y2 y3 y4 y5 y6 y7 y8 y9 y10 y11 y12 y13 y14) (palanquinlaw15_FragTwice.l0 (k + 1) y0 y1 y2 y3 y4 y5 y6 y7 y8 y9 y10 y11 y12 y13 y14)) ∧ (∀ y0 y1 y2 y3 y4 y5 y6 y7 y8 y9 y10 y11 y12 y13 y14 y15 y16, LeO (palanquinlaw15_FragTwice.l1 k y0 y1 y2 y3 y4 y5 y6 y7 y8 y9 y10 y11 y12 y13 y14 y15 y16) (palanquinlaw15_FragTwice.l1 (k + 1) y0 y1 y2 y3 y4 y5 y6 y7 y8 y9 y10 y11 y12 y13 y14 y15 y16))
  | 0 => ⟨fun _ _ _ _ _ _ _ _ _ _ _ _ _ _ _ r h => by simp [palanquinlaw15_FragTwice.j0] at h, fun _ _ _ _ _ _ _ _ _ _ _ _ _ _ _ r h => by simp [palanquinlaw15_FragTwice.l0] at h, fun _ _ _ _ _ _ _ _ _ _ _ _ _ _ _ _ _ r h => by simp [palanquinlaw15_FragTwice.l1] at h⟩
  | k + 1 => by
    obtain ⟨ih0, ih1, ih2⟩ := palanquinlaw15_FragTwice.mono_l k
    refine ⟨?_, ?_, ?_⟩
    · intro y0 y1 y2 y3 y4 y5 y6 y7 y8 y9 y10 y11 y12 y13 y14
      unfold palanquinlaw15_FragTwice.j0
      repeat' first
      | (with_reducible exact ih0 _ _ _ _ _ _ _ _ _ _ _ _ _ _ _)
      | (with_reducible exact ih1 _ _ _ _ _ _ _ _ _ _ _ _ _ _ _)
      | (with_reducible exact ih2 _ _ _ _ _ _ _ _ _ _ _ _ _ _ _ _ _)
      | (with_reducible exact palanquinlaw15_awake.mono _)
      | (with_reducible exact LeO.refl _)
      | (with_reducible exact LeO.none _)
      | (with_reducible refine LeO.ite ?_ ?_)
      | (with_reducible refine LeO.bind ?_ (fun _ => ?_))
      | exact ih0 _ _ _ _ _ _ _ _ _ _ _ _ _ _ _
      | exact ih1 _ _ _ _ _ _ _ _ _ _ _ _ _ _ _
      | exact ih2 _ _ _ _ _ _ _ _ _ _ _ _ _ _ _ _ _
      | exact palanquinlaw15_awake.mono _
      | exact LeO.none _
      | refine LeO.ite ?_ ?_
      | refine LeO.bind ?_ (fun _ => ?_)
    · intro y0 y1 y2 y3 y4 y5 y6 y7 y8 y9 y10 y11 y12 y13 y14
      unfold palanquinlaw15_FragTwice.l0
      repeat' first
      | (with_reducible exact ih0 _ _ _ _ _ _ _ _ _ _ _ _ _ _ _)
      | (with_reducible exact ih1 _ _ _ _ _ _ _ _ _ _ _ _ _ _ _)
      | (with_reducible exact ih2 _ _ _ _ _ _ _ _ _ _ _ _ _ _ _ _ _)
      | (with_reducible exact palanquinlaw15_awake.mono _)
      | (with_reducible exact LeO.refl _)
      | (with_reducible exact LeO.none _)
      | (with_reducible refine LeO.ite ?_ ?_)
      | (with_reducible refine LeO.bind ?_ (fun _ => ?_))
      | exact ih0 _ _ _ _ _ _ _ _ _ _ _ _ _ _ _
      | exact ih1 _ _ _ _ _ _ _ _ _ _ _ _ _ _ _
      | exact ih2 _ _ _ _ _ _ _ _ _ _ _ _ _ _ _ _ _
      | exact palanquinlaw15_awake.mono _
      | exact LeO.none _
      | refine LeO.ite ?_ ?_
      | refine LeO.bind ?_ (fun _ => ?_)
    · intro y0 y1 y2 y3 y4 y5 y6 y7 y8 y9 y10 y11 y12 y13 y14 y15 y16
      unfold palanquinlaw15_FragTwice.l1
      repeat' first
      | (with_reducible exact ih0 _ _ _ _ _ _ _ _ _ _ _ _ _ _ _)
      | (with_reducible exact ih1 _ _ _ _ _ _ _ _ _ _ _ _ _ _ _)
      | (with_reducible exact ih2 _ _ _ _ _ _ _ _ _ _ _ _ _ _ _ _ _)
      | (with_reducible exact palanquinlaw15_awake.mono _)
      | (with_reducible exact LeO.refl _)
      | (with_reducible exact LeO.none _)
      | (with_reducible refine LeO.ite ?_ ?_)
      | (with_reducible refine LeO.bind ?_ (fun _ => ?_))
      | exact ih0 _ _ _ _ _ _ _ _ _ _ _ _ _ _ _
      | exact ih1 _ _ _ _ _ _ _ _ _ _ _ _ _ _ _
      | exact ih2 _ _ _ _ _ _ _ _ _ _ _ _ _ _ _ _ _
      | exact palanquinlaw15_awake.mono _
      | exact LeO.none _
      | refine LeO.ite ?_ ?_
      | refine LeO.bind ?_ (fun _ => ?_)
theorem palanquinlaw15_FragTwice.mono : ∀ a0 a1 a2 k, LeO (palanquinlaw15_FragTwice.f k a0 a1 a2) (palanquinlaw15_FragTwice.f (k + 1) a0 a1 a2) := by
  intro a0 a1 a2 k
  obtain ⟨ih0, ih1, ih2⟩ := palanquinlaw15_FragTwice.mono_l k
  unfold palanquinlaw15_FragTwice.f
  repeat' first
      | (with_reducible exact ih0 _ _ _ _ _ _ _ _ _ _ _ _ _ _ _)
      | (with_reducible exact ih1 _ _ _ _ _ _ _ _ _ _ _ _ _ _ _)
      | (with_reducible exact ih2 _ _ _ _ _ _ _ _ _ _ _ _ _ _ _ _ _)
      | (with_reducible exact palanquinlaw15_awake.mono _)
      | (with_reducible exact LeO.refl _)
      | (with_reducible exact LeO.none _)
      | (with_reducible refine LeO.ite ?_ ?_)
      | (with_reducible refine LeO.bind ?_ (fun _ => ?_))
      | exact ih0 _ _ _ _ _ _ _ _ _ _ _ _ _ _ _
      | exact ih1 _ _ _ _ _ _ _ _ _ _ _ _ _ _ _
      | exact ih2 _ _ _ _ _ _ _ _ _ _ _ _ _ _ _ _ _
      | exact palanquinlaw15_awake.mono _
      | exact LeO.none _
      | refine LeO.ite ?_ ?_
      | refine LeO.bind ?_ (fun _ => ?_)
set_option maxHeartbeats 8000000 in
set_option maxRecDepth 100000 in
theorem palanquinlaw15_FragTwice.calls (k : Nat) (a0 : ByteArray) (a1 : Int) (a2 : Int) (r : Bool) (w : World) (h : palanquinlaw15_FragTwice.f k a0 a1 a2 = some r) (hrt_ : Aside0 (r = true)) :
    Calls Try.prog 33 #[.string a0, .int .i64 a1, .int .i64 a2] w fun e w' => e = .returned (.bool r) ∧ Below w.heap.size w w' := by
  have hu93 := Try.underlying93
  have HB := Aside0.mk (Below.refl w.heap.size w)
  have H : ((palanquinlaw15_awake.f k).bind fun t891 => (if t891 = true then (if (a0.size : Int) > 2000 then (some true) else ((frag_Cut.f a0 a1).bind fun bt892 => ((ip4_Get.f a0).bind fun bt896 => (if bt892.2 = 0 then (palanquinlaw15_FragTwice.j0 k a2 bt892.1 bt892.2 bt896.2.2.2.2.2.2.2.2.2.2.1 (bt896.2.2.2.2.2.2.2.2.2.2.2 != 0) bt896.1 bt896.2.1 bt896.2.2.1 bt896.2.2.2.1 bt896.2.2.2.2.1 bt896.2.2.2.2.2.1 bt896.2.2.2.2.2.2.1 bt896.2.2.2.2.2.2.2.1 bt896.2.2.2.2.2.2.2.2.1 bt896.2.2.2.2.2.2.2.2.2.1) else (palanquinlaw15_FragTwice.j0 k a2 bt892.1 bt892.2 bt896.2.2.2.2.2.2.2.2.2.2.1 true bt896.1 bt896.2.1 bt896.2.2.1 bt896.2.2.2.1 bt896.2.2.2.2.1 bt896.2.2.2.2.2.1 bt896.2.2.2.2.2.2.1 bt896.2.2.2.2.2.2.2.1 bt896.2.2.2.2.2.2.2.2.1 bt896.2.2.2.2.2.2.2.2.2.1))))) else (some false))) = some r := h
  clear h
  replace H := Option.bind_eq_some_iff.mp H
  obtain ⟨t891, A40, H⟩ := H
  replace H : (if t891 = true then (if (a0.size : Int) > 2000 then (some true) else ((frag_Cut.f a0 a1).bind fun bt892 => ((ip4_Get.f a0).bind fun bt896 => (if bt892.2 = 0 then (palanquinlaw15_FragTwice.j0 k a2 bt892.1 bt892.2 bt896.2.2.2.2.2.2.2.2.2.2.1 (bt896.2.2.2.2.2.2.2.2.2.2.2 != 0) bt896.1 bt896.2.1 bt896.2.2.1 bt896.2.2.2.1 bt896.2.2.2.2.1 bt896.2.2.2.2.2.1 bt896.2.2.2.2.2.2.1 bt896.2.2.2.2.2.2.2.1 bt896.2.2.2.2.2.2.2.2.1 bt896.2.2.2.2.2.2.2.2.2.1) else (palanquinlaw15_FragTwice.j0 k a2 bt892.1 bt892.2 bt896.2.2.2.2.2.2.2.2.2.2.1 true bt896.1 bt896.2.1 bt896.2.2.1 bt896.2.2.2.1 bt896.2.2.2.2.1 bt896.2.2.2.2.2.1 bt896.2.2.2.2.2.2.1 bt896.2.2.2.2.2.2.2.1 bt896.2.2.2.2.2.2.2.2.1 bt896.2.2.2.2.2.2.2.2.2.1))))) else (some false)) = some r := H
  have A4 := Aside0.mk A40
  clear A40
  by_cases c5 : t891 = true
  · subst c5
    have H1 : (if (a0.size : Int) > 2000 then (some true) else ((frag_Cut.f a0 a1).bind fun bt892 => ((ip4_Get.f a0).bind fun bt896 => (if bt892.2 = 0 then (palanquinlaw15_FragTwice.j0 k a2 bt892.1 bt892.2 bt896.2.2.2.2.2.2.2.2.2.2.1 (bt896.2.2.2.2.2.2.2.2.2.2.2 != 0) bt896.1 bt896.2.1 bt896.2.2.1 bt896.2.2.2.1 bt896.2.2.2.2.1 bt896.2.2.2.2.2.1 bt896.2.2.2.2.2.2.1 bt896.2.2.2.2.2.2.2.1 bt896.2.2.2.2.2.2.2.2.1 bt896.2.2.2.2.2.2.2.2.2.1) else (palanquinlaw15_FragTwice.j0 k a2 bt892.1 bt892.2 bt896.2.2.2.2.2.2.2.2.2.2.1 true bt896.1 bt896.2.1 bt896.2.2.1 bt896.2.2.2.1 bt896.2.2.2.2.1 bt896.2.2.2.2.2.1 bt896.2.2.2.2.2.2.1 bt896.2.2.2.2.2.2.2.1 bt896.2.2.2.2.2.2.2.2.1 bt896.2.2.2.2.2.2.2.2.2.1))))) = some r := by rw [if_pos rfl] at H; exact H
    clear H
    have H := H1
    clear H1
    by_cases c6 : (a0.size : Int) > 2000
    · rw [if_pos c6] at H
      have c6b0 : decide (2000 < (a0.size : Int)) = true := decide_eq_true c6
      have c6b1 : decide (2000 < a0.size) = true := decide_eq_true (by omega)
      clear c6
      obtain rfl := Option.some.inj H
      go_enter Try.func33, Try.ntmps33
      go_wp2_with (first | ((with_reducible refine gate_callee (f := 113) rfl ?_); refine goesL_ (some 20) rfl rfl Try.func113 (by kernel_rfl) rfl #[] rfl (by (try simp only [List.map_toArray, List.map_cons, List.map_nil]); first | done | rfl | (simp only [List.length_drop, List.length_take]; rfl)) ?_; (with_reducible refine (palanquinlaw15_awake.calls k  true _ A4.out).mono ?_); rintro e w7 ⟨rfl, hb⟩; refine ⟨_, rfl, ?_⟩; have n0_ := Aside0.mk (below_step (by repeat (first | (with_reducible first | exact HB.out | apply below_alloc | apply pw_below_drewN | apply below_drew1) | exact HB.out)) hb); clear HB; have HB := n0_; clear n0_; (try clear hb); (try clear hb2); (try clear hk); (try clear hi)))
      go_ret
      exact ⟨by first | rfl | (simp [errW_none, errW_some] <;> rfl) | (simp [*, errW_none, errW_some] <;> rfl), by repeat (first | (with_reducible first | exact HB.out | apply below_alloc | apply pw_below_drewN | apply below_drew1) | exact HB.out)⟩
    · rw [if_neg c6] at H
      have c6b0 : decide (2000 < (a0.size : Int)) = false := decide_eq_false c6
      have c6b1 : decide (2000 < a0.size) = false := decide_eq_false (by omega)
      clear c6
      replace H := Option.bind_eq_some_iff.mp H
      obtain ⟨⟨t892, t893⟩, A80, H⟩ := H
      replace H : ((ip4_Get.f a0).bind fun bt896 => (if t893 = 0 then (palanquinlaw15_FragTwice.j0 k a2 t892 t893 bt896.2.2.2.2.2.2.2.2.2.2.1 (bt896.2.2.2.2.2.2.2.2.2.2.2 != 0) bt896.1 bt896.2.1 bt896.2.2.1 bt896.2.2.2.1 bt896.2.2.2.2.1 bt896.2.2.2.2.2.1 bt896.2.2.2.2.2.2.1 bt896.2.2.2.2.2.2.2.1 bt896.2.2.2.2.2.2.2.2.1 bt896.2.2.2.2.2.2.2.2.2.1) else (palanquinlaw15_FragTwice.j0 k a2 t892 t893 bt896.2.2.2.2.2.2.2.2.2.2.1 true bt896.1 bt896.2.1 bt896.2.2.1 bt896.2.2.2.1 bt896.2.2.2.2.1 bt896.2.2.2.2.2.1 bt896.2.2.2.2.2.2.1 bt896.2.2.2.2.2.2.2.1 bt896.2.2.2.2.2.2.2.2.1 bt896.2.2.2.2.2.2.2.2.2.1))) = some r := H
      have A8 := Aside0.mk A80
      clear A80
      replace H := Option.bind_eq_some_iff.mp H
      obtain ⟨⟨t896, t897, t898, t899, t900, t901, t902, t903, t904, t905, t906, t907⟩, A90, H⟩ := H
      replace H : (if t893 = 0 then (palanquinlaw15_FragTwice.j0 k a2 t892 t893 t906 (t907 != 0) t896 t897 t898 t899 t900 t901 t902 t903 t904 t905) else (palanquinlaw15_FragTwice.j0 k a2 t892 t893 t906 true t896 t897 t898 t899 t900 t901 t902 t903 t904 t905)) = some r := H
      have A9 := Aside0.mk A90
      clear A90
      have HC10 := Aside0.mk H
      clear H
      go_enter Try.func33, Try.ntmps33
      go_upto_region 7 with (first | ((with_reducible refine gate_callee (f := 113) rfl ?_); refine goesL_ (some 20) rfl rfl Try.func113 (by kernel_rfl) rfl #[] rfl (by (try simp only [List.map_toArray, List.map_cons, List.map_nil]); first | done | rfl | (simp only [List.length_drop, List.length_take]; rfl)) ?_; (with_reducible refine (palanquinlaw15_awake.calls k  true _ A4.out).mono ?_); rintro e w11 ⟨rfl, hb⟩; refine ⟨_, rfl, ?_⟩; have n0_ := Aside0.mk (below_step (by repeat (first | (with_reducible first | exact HB.out | apply below_alloc | apply pw_below_drewN | apply below_drew1) | exact HB.out)) hb); clear HB; have HB := n0_; clear n0_; (try clear hb); (try clear hb2); (try clear hk); (try clear hi)) | ((with_reducible refine gate_callee (f := 114) rfl ?_); refine goesL_ (some 28) rfl rfl Try.func114 (by kernel_rfl) rfl #[.string a0, .int .i64 a1] rfl (by (try simp only [List.map_toArray, List.map_cons, List.map_nil]); first | done | rfl | (simp only [List.length_drop, List.length_take]; rfl)) ?_; (with_reducible refine (frag_Cut.calls a0 a1 t892 t893 _ A8.out).mono ?_); rintro e w12 ⟨v894, rfl, ho0, hb⟩; refine ⟨_, rfl, ?_⟩; have n0_ := Aside0.mk (Kd.R_lower ho0 (below_size (by repeat (first | (with_reducible first | exact HB.out | apply below_alloc | apply pw_below_drewN | apply below_drew1) | exact HB.out)))); have n1_ := Aside0.mk (below_step (by repeat (first | (with_reducible first | exact HB.out | apply below_alloc | apply pw_below_drewN | apply below_drew1) | exact HB.out)) hb); clear HB; have HO895 := n0_; have HB := n1_; clear n0_ n1_; (try clear hb); (try clear hb2); (try clear hk); (try clear hi); (try clear ho0)) | ((with_reducible refine gate_callee (f := 111) rfl ?_); refine goesL_ (some 33) rfl rfl Try.func111 (by kernel_rfl) rfl #[.string a0] rfl (by (try simp only [List.map_toArray, List.map_cons, List.map_nil]); first | done | rfl | (simp only [List.length_drop, List.length_take]; rfl)) ?_; (with_reducible refine (ip4_Get.calls a0 t896 t897 t898 t899 t900 t901 t902 t903 t904 t905 t906 t907 _ A9.out).mono ?_); rintro e w13 ⟨rfl, hb⟩; refine ⟨_, rfl, ?_⟩; have n0_ := Aside0.mk (Kd.R_below (by (with_reducible repeat (first | apply Kd.R_alloc | apply Kd.R_drewN | apply Kd.R_drew)); exact HO895.out) hb); have n1_ := Aside0.mk (below_step (by repeat (first | (with_reducible first | exact HB.out | apply below_alloc | apply pw_below_drewN | apply below_drew1) | exact HB.out)) hb); clear HO895; clear HB; have HO895 := n0_; have HB := n1_; clear n0_ n1_; (try clear hb); (try clear hb2); (try clear hk); (try clear hi)) | ((with_reducible refine gate_dst (N := 9) rfl ?_); (try (refine gate_guard (by rfl) ?_; dsimp only)); refine box_event ?hg (N := 9) ?hd (cs := #[.int .i64 0, .int .i64 0, .int .i64 0, .int .i64 0, .int .i64 0, .bool false, .bool false, .string (⟨#[]⟩ : ByteArray), .string (⟨#[]⟩ : ByteArray), .string (⟨#[]⟩ : ByteArray)]) (t := 93) ?hr ?_; (case hd => rfl); (case hg => rfl); (case hr => first | (go_simp; done) | (go_simp; rfl)); intro gb908 hg w14 hbox hb; have n0_ := Aside0.mk (Kd.R_below (by (with_reducible repeat (first | apply Kd.R_alloc | apply Kd.R_drewN | apply Kd.R_drew)); exact HO895.out) hb); have n1_ := Aside0.mk (below_step (by repeat (first | (with_reducible first | exact HB.out | apply below_alloc | apply pw_below_drewN | apply below_drew1) | exact HB.out)) hb); have n2_ := Aside0.mk (hbox); have n3_ := Aside0.mk ((by rw [hg]; exact (below_size (by repeat (first | (with_reducible first | exact HB.out | apply below_alloc | apply pw_below_drewN | apply below_drew1) | exact HB.out))) : w.heap.size ≤ gb908)); have n4_ := Aside0.mk ((by rw [hg]; exact (below_size (by repeat (first | (with_reducible first | exact HB.out | apply below_alloc | apply pw_below_drewN | apply below_drew1) | exact HB.out))) : w.heap.size ≤ gb908)); clear HO895; clear HB; have HO895 := n0_; have HB := n1_; have BK908 := n2_; have GW908 := n3_; have GE908 := n4_; clear n0_ n1_ n2_ n3_ n4_; clear hb hbox hg; have hcz15_0 : w14.cell? ⟨gb908, 0, none⟩ = some (.int .i64 0) := (blk_cell BK908.out 0).trans rfl; have hcz15_1 : w14.cell? ⟨gb908, 1, none⟩ = some (.int .i64 0) := (blk_cell BK908.out 1).trans rfl; have hcz15_2 : w14.cell? ⟨gb908, 2, none⟩ = some (.int .i64 0) := (blk_cell BK908.out 2).trans rfl; have hcz15_3 : w14.cell? ⟨gb908, 3, none⟩ = some (.int .i64 0) := (blk_cell BK908.out 3).trans rfl; have hcz15_4 : w14.cell? ⟨gb908, 4, none⟩ = some (.int .i64 0) := (blk_cell BK908.out 4).trans rfl; have hcz15_5 : w14.cell? ⟨gb908, 5, none⟩ = some (.bool false) := (blk_cell BK908.out 5).trans rfl; have hcz15_6 : w14.cell? ⟨gb908, 6, none⟩ = some (.bool false) := (blk_cell BK908.out 6).trans rfl; have hcz15_7 : w14.cell? ⟨gb908, 7, none⟩ = some (.string (⟨#[]⟩ : ByteArray)) := (blk_cell BK908.out 7).trans rfl; have hcz15_8 : w14.cell? ⟨gb908, 8, none⟩ = some (.string (⟨#[]⟩ : ByteArray)) := (blk_cell BK908.out 8).trans rfl; have hcz15_9 : w14.cell? ⟨gb908, 9, none⟩ = some (.string (⟨#[]⟩ : ByteArray)) := (blk_cell BK908.out 9).trans rfl; have hfz15_0 := blk_frozen BK908.out 0; have hfz15_1 := blk_frozen BK908.out 1; have hfz15_2 := blk_frozen BK908.out 2; have hfz15_3 := blk_frozen BK908.out 3; have hfz15_4 := blk_frozen BK908.out 4; have hfz15_5 := blk_frozen BK908.out 5; have hfz15_6 := blk_frozen BK908.out 6; have hfz15_7 := blk_frozen BK908.out 7; have hfz15_8 := blk_frozen BK908.out 8; have hfz15_9 := blk_frozen BK908.out 9))
      (try simp only [Act.put, List.setIfInBounds_toArray, List.set_cons_zero, List.set_cons_succ])
      go_cut [42] (fun v42 wc => ∃ (kq : Nat) (x42_9 : Bool), v42 = .bool x42_9 ∧ Aside0 (palanquinlaw15_FragTwice.j0 kq a2 t892 t893 t906 x42_9 t896 t897 t898 t899 t900 t901 t902 t903 t904 t905 = some r) ∧ Aside0 (kq ≤ k) ∧ Aside0 (Kd.R Kd.string 9 wc w.heap.size (fun _ => True) v894 t892) ∧ Aside0 (wc.heap[gb908]? = some (.cells #[.int .i64 t896, .int .i64 t897, .int .i64 t898, .int .i64 t899, .int .i64 t900, .bool t901, .bool t902, .string t903, .string t904, .string t905] 93 (0, 0))) ∧ Aside0 (Below w.heap.size w wc))
      case first =>
        have H := HC10.out
        clear HC10
        by_cases c16 : t893 = 0
        · rw [if_pos c16] at H
          have c16b0 : (t893 == 0) = true := beq_iff_eq.mpr c16
          have c16b1 : (t893 != 0) = false := bne_eq_false_iff_eq.mpr c16
          clear c16
          (first | rw [c16b0] | (simp only [i64_w, i32_w]; rw [c16b0]) | skip)
          have H' := Aside0.mk H
          clear H
          go_wp2
          go_meet
          case rel => exact ⟨_, ((t907 != 0)), (by first | rfl | (simp; done) | (simp [*]; done)), H', ⟨by first | omega | exact Nat.le_refl _⟩, ⟨by (with_reducible repeat (first | apply Kd.R_alloc | apply Kd.R_drewN | apply Kd.R_drew)); exact Kd.R_mono (Kd.R_far (p := ⟨gb908, 9, none⟩) (Kd.R_far (p := ⟨gb908, 8, none⟩) (Kd.R_far (p := ⟨gb908, 7, none⟩) (Kd.R_far (p := ⟨gb908, 6, none⟩) (Kd.R_far (p := ⟨gb908, 5, none⟩) (Kd.R_far (p := ⟨gb908, 4, none⟩) (Kd.R_far (p := ⟨gb908, 3, none⟩) (Kd.R_far (p := ⟨gb908, 2, none⟩) (Kd.R_far (p := ⟨gb908, 1, none⟩) (Kd.R_far (p := ⟨gb908, 0, none⟩) (Kd.R_types HO895.out BK908.out (by decide)) (fun _ hk => hk.2) (.int .i64 t896)) (fun _ hk => hk.2) (.int .i64 t897)) (fun _ hk => hk.2) (.int .i64 t898)) (fun _ hk => hk.2) (.int .i64 t899)) (fun _ hk => hk.2) (.int .i64 t900)) (fun _ hk => hk.2) (.bool t901)) (fun _ hk => hk.2) (.bool t902)) (fun _ hk => hk.2) (.string t903)) (fun _ hk => hk.2) (.string t904)) (fun _ hk => hk.2) (.string t905)) (fun _ hk => trivial)⟩, ⟨by (with_reducible repeat (first | refine blk_drewN ?_ _ | refine blk_drew ?_ | refine blk_alloc ?_ _)); refine blk_put (cs := #[.int .i64 t896, .int .i64 t897, .int .i64 t898, .int .i64 t899, .int .i64 t900, .bool t901, .bool t902, .string t903, .string t904, .string (⟨#[]⟩ : ByteArray)]) ?_ 9 _ rfl; (with_reducible repeat (first | refine blk_drewN ?_ _ | refine blk_drew ?_ | refine blk_alloc ?_ _)); refine blk_put (cs := #[.int .i64 t896, .int .i64 t897, .int .i64 t898, .int .i64 t899, .int .i64 t900, .bool t901, .bool t902, .string t903, .string (⟨#[]⟩ : ByteArray), .string (⟨#[]⟩ : ByteArray)]) ?_ 8 _ rfl; (with_reducible repeat (first | refine blk_drewN ?_ _ | refine blk_drew ?_ | refine blk_alloc ?_ _)); refine blk_put (cs := #[.int .i64 t896, .int .i64 t897, .int .i64 t898, .int .i64 t899, .int .i64 t900, .bool t901, .bool t902, .string (⟨#[]⟩ : ByteArray), .string (⟨#[]⟩ : ByteArray), .string (⟨#[]⟩ : ByteArray)]) ?_ 7 _ rfl; (with_reducible repeat (first | refine blk_drewN ?_ _ | refine blk_drew ?_ | refine blk_alloc ?_ _)); refine blk_put (cs := #[.int .i64 t896, .int .i64 t897, .int .i64 t898, .int .i64 t899, .int .i64 t900, .bool t901, .bool false, .string (⟨#[]⟩ : ByteArray), .string (⟨#[]⟩ : ByteArray), .string (⟨#[]⟩ : ByteArray)]) ?_ 6 _ rfl; (with_reducible repeat (first | refine blk_drewN ?_ _ | refine blk_drew ?_ | refine blk_alloc ?_ _)); refine blk_put (cs := #[.int .i64 t896, .int .i64 t897, .int .i64 t898, .int .i64 t899, .int .i64 t900, .bool false, .bool false, .string (⟨#[]⟩ : ByteArray), .string (⟨#[]⟩ : ByteArray), .string (⟨#[]⟩ : ByteArray)]) ?_ 5 _ rfl; (with_reducible repeat (first | refine blk_drewN ?_ _ | refine blk_drew ?_ | refine blk_alloc ?_ _)); refine blk_put (cs := #[.int .i64 t896, .int .i64 t897, .int .i64 t898, .int .i64 t899, .int .i64 0, .bool false, .bool false, .string (⟨#[]⟩ : ByteArray), .string (⟨#[]⟩ : ByteArray), .string (⟨#[]⟩ : ByteArray)]) ?_ 4 _ rfl; (with_reducible repeat (first | refine blk_drewN ?_ _ | refine blk_drew ?_ | refine blk_alloc ?_ _)); refine blk_put (cs := #[.int .i64 t896, .int .i64 t897, .int .i64 t898, .int .i64 0, .int .i64 0, .bool false, .bool false, .string (⟨#[]⟩ : ByteArray), .string (⟨#[]⟩ : ByteArray), .string (⟨#[]⟩ : ByteArray)]) ?_ 3 _ rfl; (with_reducible repeat (first | refine blk_drewN ?_ _ | refine blk_drew ?_ | refine blk_alloc ?_ _)); refine blk_put (cs := #[.int .i64 t896, .int .i64 t897, .int .i64 0, .int .i64 0, .int .i64 0, .bool false, .bool false, .string (⟨#[]⟩ : ByteArray), .string (⟨#[]⟩ : ByteArray), .string (⟨#[]⟩ : ByteArray)]) ?_ 2 _ rfl; (with_reducible repeat (first | refine blk_drewN ?_ _ | refine blk_drew ?_ | refine blk_alloc ?_ _)); refine blk_put (cs := #[.int .i64 t896, .int .i64 0, .int .i64 0, .int .i64 0, .int .i64 0, .bool false, .bool false, .string (⟨#[]⟩ : ByteArray), .string (⟨#[]⟩ : ByteArray), .string (⟨#[]⟩ : ByteArray)]) ?_ 1 _ rfl; (with_reducible repeat (first | refine blk_drewN ?_ _ | refine blk_drew ?_ | refine blk_alloc ?_ _)); refine blk_put (cs := #[.int .i64 0, .int .i64 0, .int .i64 0, .int .i64 0, .int .i64 0, .bool false, .bool false, .string (⟨#[]⟩ : ByteArray), .string (⟨#[]⟩ : ByteArray), .string (⟨#[]⟩ : ByteArray)]) ?_ 0 _ rfl; (with_reducible repeat (first | refine blk_drewN ?_ _ | refine blk_drew ?_ | refine blk_alloc ?_ _)); exact BK908.out⟩, ⟨by repeat (first | (with_reducible first | exact HB.out | apply below_alloc | apply pw_below_drewN | apply below_drew1 | refine below_set ?_ GE908.out) | exact HB.out)⟩⟩
        · rw [if_neg c16] at H
          have c16b0 : (t893 == 0) = false := beq_eq_false_iff_ne.mpr c16
          have c16b1 : (t893 != 0) = true := bne_iff_ne.mpr c16
          (first | rw [c16b0] | (simp only [i64_w, i32_w]; rw [c16b0]) | skip)
          have H' := Aside0.mk H
          clear H
          go_wp2
          go_meet
          case rel => exact ⟨_, (true), (by first | rfl | (simp; done) | (simp [*]; done)), H', ⟨by first | omega | exact Nat.le_refl _⟩, ⟨by (with_reducible repeat (first | apply Kd.R_alloc | apply Kd.R_drewN | apply Kd.R_drew)); exact Kd.R_mono (Kd.R_far (p := ⟨gb908, 9, none⟩) (Kd.R_far (p := ⟨gb908, 8, none⟩) (Kd.R_far (p := ⟨gb908, 7, none⟩) (Kd.R_far (p := ⟨gb908, 6, none⟩) (Kd.R_far (p := ⟨gb908, 5, none⟩) (Kd.R_far (p := ⟨gb908, 4, none⟩) (Kd.R_far (p := ⟨gb908, 3, none⟩) (Kd.R_far (p := ⟨gb908, 2, none⟩) (Kd.R_far (p := ⟨gb908, 1, none⟩) (Kd.R_far (p := ⟨gb908, 0, none⟩) (Kd.R_types HO895.out BK908.out (by decide)) (fun _ hk => hk.2) (.int .i64 t896)) (fun _ hk => hk.2) (.int .i64 t897)) (fun _ hk => hk.2) (.int .i64 t898)) (fun _ hk => hk.2) (.int .i64 t899)) (fun _ hk => hk.2) (.int .i64 t900)) (fun _ hk => hk.2) (.bool t901)) (fun _ hk => hk.2) (.bool t902)) (fun _ hk => hk.2) (.string t903)) (fun _ hk => hk.2) (.string t904)) (fun _ hk => hk.2) (.string t905)) (fun _ hk => trivial)⟩, ⟨by (with_reducible repeat (first | refine blk_drewN ?_ _ | refine blk_drew ?_ | refine blk_alloc ?_ _)); refine blk_put (cs := #[.int .i64 t896, .int .i64 t897, .int .i64 t898, .int .i64 t899, .int .i64 t900, .bool t901, .bool t902, .string t903, .string t904, .string (⟨#[]⟩ : ByteArray)]) ?_ 9 _ rfl; (with_reducible repeat (first | refine blk_drewN ?_ _ | refine blk_drew ?_ | refine blk_alloc ?_ _)); refine blk_put (cs := #[.int .i64 t896, .int .i64 t897, .int .i64 t898, .int .i64 t899, .int .i64 t900, .bool t901, .bool t902, .string t903, .string (⟨#[]⟩ : ByteArray), .string (⟨#[]⟩ : ByteArray)]) ?_ 8 _ rfl; (with_reducible repeat (first | refine blk_drewN ?_ _ | refine blk_drew ?_ | refine blk_alloc ?_ _)); refine blk_put (cs := #[.int .i64 t896, .int .i64 t897, .int .i64 t898, .int .i64 t899, .int .i64 t900, .bool t901, .bool t902, .string (⟨#[]⟩ : ByteArray), .string (⟨#[]⟩ : ByteArray), .string (⟨#[]⟩ : ByteArray)]) ?_ 7 _ rfl; (with_reducible repeat (first | refine blk_drewN ?_ _ | refine blk_drew ?_ | refine blk_alloc ?_ _)); refine blk_put (cs := #[.int .i64 t896, .int .i64 t897, .int .i64 t898, .int .i64 t899, .int .i64 t900, .bool t901, .bool false, .string (⟨#[]⟩ : ByteArray), .string (⟨#[]⟩ : ByteArray), .string (⟨#[]⟩ : ByteArray)]) ?_ 6 _ rfl; (with_reducible repeat (first | refine blk_drewN ?_ _ | refine blk_drew ?_ | refine blk_alloc ?_ _)); refine blk_put (cs := #[.int .i64 t896, .int .i64 t897, .int .i64 t898, .int .i64 t899, .int .i64 t900, .bool false, .bool false, .string (⟨#[]⟩ : ByteArray), .string (⟨#[]⟩ : ByteArray), .string (⟨#[]⟩ : ByteArray)]) ?_ 5 _ rfl; (with_reducible repeat (first | refine blk_drewN ?_ _ | refine blk_drew ?_ | refine blk_alloc ?_ _)); refine blk_put (cs := #[.int .i64 t896, .int .i64 t897, .int .i64 t898, .int .i64 t899, .int .i64 0, .bool false, .bool false, .string (⟨#[]⟩ : ByteArray), .string (⟨#[]⟩ : ByteArray), .string (⟨#[]⟩ : ByteArray)]) ?_ 4 _ rfl; (with_reducible repeat (first | refine blk_drewN ?_ _ | refine blk_drew ?_ | refine blk_alloc ?_ _)); refine blk_put (cs := #[.int .i64 t896, .int .i64 t897, .int .i64 t898, .int .i64 0, .int .i64 0, .bool false, .bool false, .string (⟨#[]⟩ : ByteArray), .string (⟨#[]⟩ : ByteArray), .string (⟨#[]⟩ : ByteArray)]) ?_ 3 _ rfl; (with_reducible repeat (first | refine blk_drewN ?_ _ | refine blk_drew ?_ | refine blk_alloc ?_ _)); refine blk_put (cs := #[.int .i64 t896, .int .i64 t897, .int .i64 0, .int .i64 0, .int .i64 0, .bool false, .bool false, .string (⟨#[]⟩ : ByteArray), .string (⟨#[]⟩ : ByteArray), .string (⟨#[]⟩ : ByteArray)]) ?_ 2 _ rfl; (with_reducible repeat (first | refine blk_drewN ?_ _ | refine blk_drew ?_ | refine blk_alloc ?_ _)); refine blk_put (cs := #[.int .i64 t896, .int .i64 0, .int .i64 0, .int .i64 0, .int .i64 0, .bool false, .bool false, .string (⟨#[]⟩ : ByteArray), .string (⟨#[]⟩ : ByteArray), .string (⟨#[]⟩ : ByteArray)]) ?_ 1 _ rfl; (with_reducible repeat (first | refine blk_drewN ?_ _ | refine blk_drew ?_ | refine blk_alloc ?_ _)); refine blk_put (cs := #[.int .i64 0, .int .i64 0, .int .i64 0, .int .i64 0, .int .i64 0, .bool false, .bool false, .string (⟨#[]⟩ : ByteArray), .string (⟨#[]⟩ : ByteArray), .string (⟨#[]⟩ : ByteArray)]) ?_ 0 _ rfl; (with_reducible repeat (first | refine blk_drewN ?_ _ | refine blk_drew ?_ | refine blk_alloc ?_ _)); exact BK908.out⟩, ⟨by repeat (first | (with_reducible first | exact HB.out | apply below_alloc | apply pw_below_drewN | apply below_drew1 | refine below_set ?_ GE908.out) | exact HB.out)⟩⟩
      case rest =>
        clear HC10
        try clear c1
        try clear p2
        try clear c3
        try clear p4
        try clear c5
        try clear c6
        try clear c6b0
        try clear c6b1
        try clear c11
        try clear c16
        try clear c16b0
        try clear c16b1
        try clear hcz15_0
        try clear hcz15_1
        try clear hcz15_2
        try clear hcz15_3
        try clear hcz15_4
        try clear hcz15_5
        try clear hcz15_6
        try clear hcz15_7
        try clear hcz15_8
        try clear hcz15_9
        try clear hfz15_0
        try clear hfz15_1
        try clear hfz15_2
        try clear hfz15_3
        try clear hfz15_4
        try clear hfz15_5
        try clear hfz15_6
        try clear hfz15_7
        try clear hfz15_8
        try clear hfz15_9
        obtain ⟨kq, x42_9, rfl, HA, HJ9, HO_7, BK908, HB⟩ := hcut
        cases kq with
        | zero => exact absurd HA.out (by simp [palanquinlaw15_FragTwice.j0])
        | succ kj9 =>
          have H := HA.out
          clear HA
          simp only [palanquinlaw15_FragTwice.j0] at H
          by_cases c17 : x42_9 = true
          · subst c17
            have H1 : (some (t893 != 0)) = some r := by rw [if_pos rfl] at H; exact H
            clear H
            have H := H1
            clear H1
            obtain rfl := Option.some.inj H
            go_wp2
            go_ret
            exact ⟨by first | rfl | (simp [errW_none, errW_some] <;> rfl) | (simp [*, errW_none, errW_some] <;> rfl), by repeat (first | (with_reducible first | exact HB.out | apply below_alloc | apply pw_below_drewN | apply below_drew1 | refine below_set ?_ GE908.out) | exact HB.out)⟩
          · replace c17 := Bool.eq_false_iff.mpr c17
            subst c17
            have H1 : (palanquinlaw15_FragTwice.l0 kj9 a2 t892 t906 0 0 t896 t897 t898 t899 t900 t901 t902 t903 t904 t905) = some r := by rw [if_neg (show ¬ (false = true) by decide)] at H; exact H
            clear H
            have H := H1
            clear H1
            have H' := Aside0.mk H
            clear H
            go_wp2
            go_loopg [12, 13] kj9 (fun kq v12 v13 w' => ∃ (x12_2 : Int) (x13_2 : Int), v12 = .int .i64 x12_2 ∧ v13 = .int .i64 x13_2 ∧ Aside0 (palanquinlaw15_FragTwice.l0 kq a2 t892 t906 x12_2 x13_2 t896 t897 t898 t899 t900 t901 t902 t903 t904 t905 = some r) ∧ Aside0 (kq ≤ kj9) ∧ Aside0 (Kd.R Kd.string 9 w' w.heap.size (fun _ => True) v894 t892) ∧ Aside0 (w'.heap[gb908]? = some (.cells #[.int .i64 t896, .int .i64 t897, .int .i64 t898, .int .i64 t899, .int .i64 t900, .bool t901, .bool t902, .string t903, .string t904, .string t905] 93 (0, 0))) ∧ Aside0 (Below w.heap.size w w'))
            case atStart => exact ⟨(0), (0), (by first | rfl | (simp; done) | (simp [*]; done)), (by first | rfl | (simp; done) | (simp [*]; done)), H', ⟨Nat.le_refl _⟩, ⟨by (with_reducible repeat (first | apply Kd.R_alloc | apply Kd.R_drewN | apply Kd.R_drew)); exact HO_7.out⟩, ⟨by (with_reducible repeat (first | refine blk_drewN ?_ _ | refine blk_drew ?_ | refine blk_alloc ?_ _)); exact BK908.out⟩, ⟨by repeat (first | (with_reducible first | exact HB.out | apply below_alloc | apply pw_below_drewN | apply below_drew1 | refine below_set ?_ GE908.out) | exact HB.out)⟩⟩
            case round =>
              clear H'
              try clear c1
              try clear p2
              try clear c3
              try clear p4
              try clear c5
              try clear c6
              try clear c6b0
              try clear c6b1
              try clear c11
              try clear c16
              try clear c16b0
              try clear c16b1
              try clear c17
              try clear hcz15_0
              try clear hcz15_1
              try clear hcz15_2
              try clear hcz15_3
              try clear hcz15_4
              try clear hcz15_5
              try clear hcz15_6
              try clear hcz15_7
              try clear hcz15_8
              try clear hcz15_9
              try clear hfz15_0
              try clear hfz15_1
              try clear hfz15_2
              try clear hfz15_3
              try clear hfz15_4
              try clear hfz15_5
              try clear hfz15_6
              try clear hfz15_7
              try clear hfz15_8
              try clear hfz15_9
              try clear p2
              try clear p4
              obtain ⟨x12_2, x13_2, rfl, rfl, HA, HK2, HO_7, BK908, HB⟩ := hrel
              cases gk with
              | zero => exact absurd HA.out (by simp [palanquinlaw15_FragTwice.l0])
              | succ k2 =>
                have H := HA.out
                clear HA
                simp only [palanquinlaw15_FragTwice.l0] at H
                by_cases c18 : x13_2 < (t892.length : Int)
                · rw [if_pos c18] at H
                  have c18b0 : decide (x13_2 < (t892.length : Int)) = true := decide_eq_true c18
                  clear c18
                  by_cases c19 : 0 ≤ x13_2
                  · rw [if_pos c19] at H
                    have c19b0 : decide (0 ≤ x13_2) = true := decide_eq_true c19
                    clear c19
                    replace H := Option.bind_eq_some_iff.mp H
                    obtain ⟨⟨t910, t911⟩, A200, H⟩ := H
                    replace H : (if t911 = 0 then (palanquinlaw15_FragTwice.l1 k2 a2 t892 t906 x12_2 x13_2 t910 0 t896 t897 t898 t899 t900 t901 t902 t903 t904 t905) else (some true)) = some r := H
                    have A20 := Aside0.mk A200
                    clear A200
                    by_cases c21 : t911 = 0
                    · rw [if_pos c21] at H
                      have c21b0 : (t911 == 0) = true := beq_iff_eq.mpr c21
                      have c21b1 : (t911 != 0) = false := bne_eq_false_iff_eq.mpr c21
                      clear c21
                      have H' := Aside0.mk H
                      clear H
                      obtain ⟨Ao22, co22, eo22⟩ := Kd.R_slice HO_7.out
                      subst eo22
                      have p909 : 0 ≤ (x13_2 : Int) := of_decide_eq_true (by first | (with_reducible assumption) | assumption)
                      have q909 : x13_2 < (t892.length : Int) := of_decide_eq_true (by first | (with_reducible assumption) | assumption)
                      obtain ⟨ad909, e909, hx909_0⟩ := Kd.at_string (Kd.R_reads' HO_7.out).2.2 x13_2 p909 q909
                      cases e909
                      replace p909 := eq_true p909
                      replace q909 := eq_true q909
                      go_wp2_with (first | ((with_reducible refine gate_callee (f := 114) rfl ?_); refine goesL_ (some 57) rfl rfl Try.func114 (by kernel_rfl) rfl #[.string (rdOf ByteArray.empty t892 x13_2), .int .i64 a2] rfl (by (try simp only [List.map_toArray, List.map_cons, List.map_nil]); first | done | rfl | (simp only [List.length_drop, List.length_take]; rfl)) ?_; (with_reducible refine (frag_Cut.calls (rdOf ByteArray.empty t892 x13_2) a2 t910 t911 _ A20.out).mono ?_); rintro e w23 ⟨v912, rfl, ho0, hb⟩; refine ⟨_, rfl, ?_⟩; have n0_ := Aside0.mk (Kd.R_elder' (by (with_reducible repeat (first | apply Kd.R_alloc | apply Kd.R_drewN | apply Kd.R_drew)); exact HO_7.out) (Kd.R_base ho0) hb); have n1_ := Aside0.mk (Kd.R_lower (Kd.R_new' ho0 (Kd.R_lt (by (with_reducible repeat (first | apply Kd.R_alloc | apply Kd.R_drewN | apply Kd.R_drew)); exact HO_7.out))) (below_size (by repeat (first | (with_reducible first | exact HB.out | apply below_alloc | apply pw_below_drewN | apply below_drew1 | refine below_set ?_ GE908.out) | exact HB.out)))); have n2_ := Aside0.mk (blk_below (g := gb908) (o := .cells #[.int .i64 t896, .int .i64 t897, .int .i64 t898, .int .i64 t899, .int .i64 t900, .bool t901, .bool t902, .string t903, .string t904, .string t905] 93 (0, 0)) (by (with_reducible repeat (first | refine blk_drewN ?_ _ | refine blk_drew ?_ | refine blk_alloc ?_ _)); exact BK908.out) hb); have n3_ := Aside0.mk (below_step (by repeat (first | (with_reducible first | exact HB.out | apply below_alloc | apply pw_below_drewN | apply below_drew1 | refine below_set ?_ GE908.out) | exact HB.out)) hb); clear HO_7; clear BK908; clear HB; have HO_7 := n0_; have HO913 := n1_; have BK908 := n2_; have HB := n3_; clear n0_ n1_ n2_ n3_; (try clear hb); (try clear hb2); (try clear hk); (try clear hi); (try clear ho0)))
                      go_loopg [12, 16] k2 (fun kq v12 v16 w' => ∃ (x12_3 : Int) (x16_3 : Int), v12 = .int .i64 x12_3 ∧ v16 = .int .i64 x16_3 ∧ Aside0 (palanquinlaw15_FragTwice.l1 kq a2 t892 t906 x12_3 x13_2 t910 x16_3 t896 t897 t898 t899 t900 t901 t902 t903 t904 t905 = some r) ∧ Aside0 (kq ≤ k2) ∧ Aside0 (Kd.R Kd.string 9 w' w.heap.size (fun k_ => some k_ ≠ (v912 : Value).ownBlock) (.slice (some ad909) t892.length co22) t892) ∧ Aside0 (Kd.R Kd.string 9 w' w.heap.size (fun k_ => some k_ ≠ ((.slice (some ad909) t892.length co22) : Value).ownBlock) v912 t910) ∧ Aside0 (w'.heap[gb908]? = some (.cells #[.int .i64 t896, .int .i64 t897, .int .i64 t898, .int .i64 t899, .int .i64 t900, .bool t901, .bool t902, .string t903, .string t904, .string t905] 93 (0, 0))) ∧ Aside0 (Below w.heap.size w w'))
                      case atStart => exact ⟨(x12_2), (0), (by first | rfl | (simp; done) | (simp [*]; done)), (by first | rfl | (simp; done) | (simp [*]; done)), H', ⟨Nat.le_refl _⟩, ⟨by (with_reducible repeat (first | apply Kd.R_alloc | apply Kd.R_drewN | apply Kd.R_drew)); exact Kd.R_mono HO_7.out (fun _ hk => hk.2)⟩, ⟨by (with_reducible repeat (first | apply Kd.R_alloc | apply Kd.R_drewN | apply Kd.R_drew)); exact Kd.R_mono HO913.out (fun _ hk => hk.2)⟩, ⟨by (with_reducible repeat (first | refine blk_drewN ?_ _ | refine blk_drew ?_ | refine blk_alloc ?_ _)); exact BK908.out⟩, ⟨by repeat (first | (with_reducible first | exact HB.out | apply below_alloc | apply pw_below_drewN | apply below_drew1 | refine below_set ?_ GE908.out) | exact HB.out)⟩⟩
                      case round =>
                        clear H'
                        try clear c1
                        try clear c2
                        try clear p2
                        try clear c3
                        try clear p4
                        try clear c5
                        try clear c6
                        try clear c6b0
                        try clear c6b1
                        try clear p9
                        try clear q9
                        try clear hx9
                        try clear c11
                        try clear c16
                        try clear c16b0
                        try clear c16b1
                        try clear c17
                        try clear c18
                        try clear c18b0
                        try clear c19
                        try clear c19b0
                        try clear c21
                        try clear c21b0
                        try clear c21b1
                        try clear hcz15_0
                        try clear hcz15_1
                        try clear hcz15_2
                        try clear hcz15_3
                        try clear hcz15_4
                        try clear hcz15_5
                        try clear hcz15_6
                        try clear hcz15_7
                        try clear hcz15_8
                        try clear hcz15_9
                        try clear hfz15_0
                        try clear hfz15_1
                        try clear hfz15_2
                        try clear hfz15_3
                        try clear hfz15_4
                        try clear hfz15_5
                        try clear hfz15_6
                        try clear hfz15_7
                        try clear hfz15_8
                        try clear hfz15_9
                        try clear hx909_0
                        try clear p2
                        try clear p4
                        try clear p909
                        try clear q909
                        obtain ⟨x12_3, x16_3, rfl, rfl, HA, HK3, HO_7, HO_14, BK908, HB⟩ := hrel
                        cases gk with
                        | zero => exact absurd HA.out (by simp [palanquinlaw15_FragTwice.l1])
                        | succ k3 =>
                          have H := HA.out
                          clear HA
                          simp only [palanquinlaw15_FragTwice.l1] at H
                          by_cases c24 : x16_3 < (t910.length : Int)
                          · rw [if_pos c24] at H
                            have c24b0 : decide (x16_3 < (t910.length : Int)) = true := decide_eq_true c24
                            clear c24
                            by_cases c25 : 0 ≤ x16_3
                            · rw [if_pos c25] at H
                              have c25b0 : decide (0 ≤ x16_3) = true := decide_eq_true c25
                              clear c25
                              replace H := Option.bind_eq_some_iff.mp H
                              obtain ⟨⟨t915, t916, t917, t918, t919, t920, t921, t922, t923, t924, t925, t926⟩, A260, H⟩ := H
                              replace H : (if t926 = 0 then (if (wrap64 ((wrap64 (t917 - t898)) * 8)) = x12_3 then (if (wrap64 (x12_3 + (t925.size : Int))) > (t906.size : Int) then (some false) else (if 0 ≤ x12_3 then (if x12_3 ≤ (wrap64 (x12_3 + (t925.size : Int))) then (if (wrap64 (x12_3 + (t925.size : Int))) ≤ (t906.size : Int) then (if (t906.extract (x12_3 : Int).toNat ((wrap64 (x12_3 + (t925.size : Int))) : Int).toNat).toList = t925.toList then (if t902 = true then (if (t921 != true) = true then (some false) else (palanquinlaw15_FragTwice.l1 k3 a2 t892 t906 (wrap64 (x12_3 + (t925.size : Int))) x13_2 t910 (wrap64 (x16_3 + 1)) t896 t897 t898 t899 t900 t901 t902 t903 t904 t905)) else (if (t921 != (decide ((wrap64 (x12_3 + (t925.size : Int))) < (t906.size : Int)))) = true then (some false) else (palanquinlaw15_FragTwice.l1 k3 a2 t892 t906 (wrap64 (x12_3 + (t925.size : Int))) x13_2 t910 (wrap64 (x16_3 + 1)) t896 t897 t898 t899 t900 t901 t902 t903 t904 t905))) else (some false)) else (none)) else (none)) else (none))) else (some false)) else (some false)) = some r := H
                              have A26 := Aside0.mk A260
                              clear A260
                              by_cases c27 : t926 = 0
                              · rw [if_pos c27] at H
                                have c27b0 : (t926 == 0) = true := beq_iff_eq.mpr c27
                                have c27b1 : (t926 != 0) = false := bne_eq_false_iff_eq.mpr c27
                                clear c27
                                by_cases c28 : (wrap64 ((wrap64 (t917 - t898)) * 8)) = x12_3
                                · rw [if_pos c28] at H
                                  have c28b0 : ((wrap64 ((wrap64 (t917 - t898)) * 8)) == x12_3) = true := beq_iff_eq.mpr c28
                                  have c28b1 : ((wrap64 ((wrap64 (t917 - t898)) * 8)) != x12_3) = false := bne_eq_false_iff_eq.mpr c28
                                  clear c28
                                  by_cases c29 : (wrap64 (x12_3 + (t925.size : Int))) > (t906.size : Int)
                                  · rw [if_pos c29] at H
                                    exact absurd ((Option.some.inj H).trans hrt_.out) (by decide)
                                  · rw [if_neg c29] at H
                                    have c29b0 : decide ((t906.size : Int) < (wrap64 (x12_3 + (t925.size : Int)))) = false := decide_eq_false c29
                                    clear c29
                                    by_cases c36 : 0 ≤ x12_3
                                    · rw [if_pos c36] at H
                                      have c36b0 := eq_true c36
                                      have c36b1 : decide (0 ≤ x12_3) = true := decide_eq_true c36
                                      clear c36
                                      by_cases c37 : x12_3 ≤ (wrap64 (x12_3 + (t925.size : Int)))
                                      · rw [if_pos c37] at H
                                        have c37b0 := eq_true c37
                                        have c37b1 : decide (x12_3 ≤ (wrap64 (x12_3 + (t925.size : Int)))) = true := decide_eq_true c37
                                        by_cases c38 : (wrap64 (x12_3 + (t925.size : Int))) ≤ (t906.size : Int)
                                        · rw [if_pos c38] at H
                                          have c38b0 := eq_true c38
                                          have c38b1 : decide ((wrap64 (x12_3 + (t925.size : Int))) ≤ (t906.size : Int)) = true := decide_eq_true c38
                                          by_cases c39 : (t906.extract (x12_3 : Int).toNat ((wrap64 (x12_3 + (t925.size : Int))) : Int).toNat).toList = t925.toList
                                          · rw [if_pos c39] at H
                                            have c39b0 : ((t906.extract (x12_3 : Int).toNat ((wrap64 (x12_3 + (t925.size : Int))) : Int).toNat).toList == t925.toList) = true := beq_iff_eq.mpr c39
                                            have c39b1 : ((t906.extract (x12_3 : Int).toNat ((wrap64 (x12_3 + (t925.size : Int))) : Int).toNat).toList != t925.toList) = false := bne_eq_false_iff_eq.mpr c39
                                            clear c39
                                            by_cases c40 : t902 = true
                                            · subst c40
                                              have H1 : (if (t921 != true) = true then (some false) else (palanquinlaw15_FragTwice.l1 k3 a2 t892 t906 (wrap64 (x12_3 + (t925.size : Int))) x13_2 t910 (wrap64 (x16_3 + 1)) t896 t897 t898 t899 t900 t901 true t903 t904 t905)) = some r := by rw [if_pos rfl] at H; exact H
                                              clear H
                                              have H := H1
                                              clear H1
                                              by_cases c41 : (t921 != true) = true
                                              · rw [if_pos c41] at H
                                                exact absurd ((Option.some.inj H).trans hrt_.out) (by decide)
                                              · rw [if_neg c41] at H
                                                have c41b0 : (t921 != true) = false := by simpa using c41
                                                (try (have c41b1 : decide (t921 = true) = true := by simpa using c41))
                                                (try (have c41b2 : (t921 == true) = true := by simpa using c41))
                                                clear c41
                                                have H' := Aside0.mk H
                                                clear H
                                                obtain ⟨Ao48, co48, eo48⟩ := Kd.R_slice HO_14.out
                                                subst eo48
                                                have p914 : 0 ≤ (x16_3 : Int) := of_decide_eq_true (by first | (with_reducible assumption) | assumption)
                                                have q914 : x16_3 < (t910.length : Int) := of_decide_eq_true (by first | (with_reducible assumption) | assumption)
                                                obtain ⟨ad914, e914, hx914_0⟩ := Kd.at_string (Kd.R_reads' HO_14.out).2.2 x16_3 p914 q914
                                                cases e914
                                                replace p914 := eq_true p914
                                                replace q914 := eq_true q914
                                                go_wp2_with (first | ((with_reducible refine gate_callee (f := 111) rfl ?_); refine goesL_ (some 73) rfl rfl Try.func111 (by kernel_rfl) rfl #[.string (rdOf ByteArray.empty t910 x16_3)] rfl (by (try simp only [List.map_toArray, List.map_cons, List.map_nil]); first | done | rfl | (simp only [List.length_drop, List.length_take]; rfl)) ?_; (with_reducible refine (ip4_Get.calls (rdOf ByteArray.empty t910 x16_3) t915 t916 t917 t918 t919 t920 t921 t922 t923 t924 t925 t926 _ A26.out).mono ?_); rintro e w49 ⟨rfl, hb⟩; refine ⟨_, rfl, ?_⟩; have n0_ := Aside0.mk (Kd.R_below (by (with_reducible repeat (first | apply Kd.R_alloc | apply Kd.R_drewN | apply Kd.R_drew)); exact HO_7.out) hb); have n1_ := Aside0.mk (Kd.R_below (by (with_reducible repeat (first | apply Kd.R_alloc | apply Kd.R_drewN | apply Kd.R_drew)); exact HO_14.out) hb); have n2_ := Aside0.mk (blk_below (g := gb908) (o := .cells #[.int .i64 t896, .int .i64 t897, .int .i64 t898, .int .i64 t899, .int .i64 t900, .bool t901, .bool true, .string t903, .string t904, .string t905] 93 (0, 0)) (by (with_reducible repeat (first | refine blk_drewN ?_ _ | refine blk_drew ?_ | refine blk_alloc ?_ _)); exact BK908.out) hb); have n3_ := Aside0.mk (below_step (by repeat (first | (with_reducible first | exact HB.out | apply below_alloc | apply pw_below_drewN | apply below_drew1 | refine below_set ?_ GE908.out) | exact HB.out)) hb); clear HO_7; clear HO_14; clear BK908; clear HB; have HO_7 := n0_; have HO_14 := n1_; have BK908 := n2_; have HB := n3_; clear n0_ n1_ n2_ n3_; (try clear hb); (try clear hb2); (try clear hk); (try clear hi)) | ((with_reducible refine gate_dst (N := 17) rfl ?_); (try (refine gate_guard (by rfl) ?_; dsimp only)); refine box_event ?hg (N := 17) ?hd (cs := #[.int .i64 0, .int .i64 0, .int .i64 0, .int .i64 0, .int .i64 0, .bool false, .bool false, .string (⟨#[]⟩ : ByteArray), .string (⟨#[]⟩ : ByteArray), .string (⟨#[]⟩ : ByteArray)]) (t := 93) ?hr ?_; (case hd => rfl); (case hg => rfl); (case hr => first | (go_simp; done) | (go_simp; rfl)); intro gb927 hg w50 hbox hb; have n0_ := Aside0.mk (Kd.R_below (by (with_reducible repeat (first | apply Kd.R_alloc | apply Kd.R_drewN | apply Kd.R_drew)); exact HO_7.out) hb); have n1_ := Aside0.mk (Kd.R_below (by (with_reducible repeat (first | apply Kd.R_alloc | apply Kd.R_drewN | apply Kd.R_drew)); exact HO_14.out) hb); have n2_ := Aside0.mk (blk_below (g := gb908) (o := .cells #[.int .i64 t896, .int .i64 t897, .int .i64 t898, .int .i64 t899, .int .i64 t900, .bool t901, .bool true, .string t903, .string t904, .string t905] 93 (0, 0)) (by (with_reducible repeat (first | refine blk_drewN ?_ _ | refine blk_drew ?_ | refine blk_alloc ?_ _)); exact BK908.out) hb); have n3_ := Aside0.mk (below_step (by repeat (first | (with_reducible first | exact HB.out | apply below_alloc | apply pw_below_drewN | apply below_drew1 | refine below_set ?_ GE908.out) | exact HB.out)) hb); have n4_ := Aside0.mk (hbox); have n5_ := Aside0.mk ((by rw [hg]; exact (below_size (by repeat (first | (with_reducible first | exact HB.out | apply below_alloc | apply pw_below_drewN | apply below_drew1 | refine below_set ?_ GE908.out) | exact HB.out))) : w.heap.size ≤ gb927)); have n6_ := Aside0.mk ((by rw [hg]; exact (below_size (by repeat (first | (with_reducible first | exact HB.out | apply below_alloc | apply pw_below_drewN | apply below_drew1 | refine below_set ?_ GE908.out) | exact HB.out))) : w.heap.size ≤ gb927)); have n7_ := Aside0.mk ((by rw [hg]; exact Nat.ne_of_lt (blk_lt (g := gb908) (o := .cells #[.int .i64 t896, .int .i64 t897, .int .i64 t898, .int .i64 t899, .int .i64 t900, .bool t901, .bool true, .string t903, .string t904, .string t905] 93 (0, 0)) (by (with_reducible repeat (first | refine blk_drewN ?_ _ | refine blk_drew ?_ | refine blk_alloc ?_ _)); exact BK908.out)) : gb908 ≠ gb927)); have n8_ := Aside0.mk ((by rw [hg]; exact Nat.ne_of_gt (blk_lt (g := gb908) (o := .cells #[.int .i64 t896, .int .i64 t897, .int .i64 t898, .int .i64 t899, .int .i64 t900, .bool t901, .bool true, .string t903, .string t904, .string t905] 93 (0, 0)) (by (with_reducible repeat (first | refine blk_drewN ?_ _ | refine blk_drew ?_ | refine blk_alloc ?_ _)); exact BK908.out)) : gb927 ≠ gb908)); clear HO_7; clear HO_14; clear BK908; clear HB; have HO_7 := n0_; have HO_14 := n1_; have BK908 := n2_; have HB := n3_; have BK927 := n4_; have GW927 := n5_; have GE927 := n6_; have NB908_927 := n7_; have NB927_908 := n8_; clear n0_ n1_ n2_ n3_ n4_ n5_ n6_ n7_ n8_; clear hb hbox hg; have hnb51 := NB927_908.out; have hnc51 := NB908_927.out; have hcz52_0 : w50.cell? ⟨gb927, 0, none⟩ = some (.int .i64 0) := (blk_cell BK927.out 0).trans rfl; have hcz52_1 : w50.cell? ⟨gb927, 1, none⟩ = some (.int .i64 0) := (blk_cell BK927.out 1).trans rfl; have hcz52_2 : w50.cell? ⟨gb927, 2, none⟩ = some (.int .i64 0) := (blk_cell BK927.out 2).trans rfl; have hcz52_3 : w50.cell? ⟨gb927, 3, none⟩ = some (.int .i64 0) := (blk_cell BK927.out 3).trans rfl; have hcz52_4 : w50.cell? ⟨gb927, 4, none⟩ = some (.int .i64 0) := (blk_cell BK927.out 4).trans rfl; have hcz52_5 : w50.cell? ⟨gb927, 5, none⟩ = some (.bool false) := (blk_cell BK927.out 5).trans rfl; have hcz52_6 : w50.cell? ⟨gb927, 6, none⟩ = some (.bool false) := (blk_cell BK927.out 6).trans rfl; have hcz52_7 : w50.cell? ⟨gb927, 7, none⟩ = some (.string (⟨#[]⟩ : ByteArray)) := (blk_cell BK927.out 7).trans rfl; have hcz52_8 : w50.cell? ⟨gb927, 8, none⟩ = some (.string (⟨#[]⟩ : ByteArray)) := (blk_cell BK927.out 8).trans rfl; have hcz52_9 : w50.cell? ⟨gb927, 9, none⟩ = some (.string (⟨#[]⟩ : ByteArray)) := (blk_cell BK927.out 9).trans rfl; have hfz52_0 := blk_frozen BK927.out 0; have hfz52_1 := blk_frozen BK927.out 1; have hfz52_2 := blk_frozen BK927.out 2; have hfz52_3 := blk_frozen BK927.out 3; have hfz52_4 := blk_frozen BK927.out 4; have hfz52_5 := blk_frozen BK927.out 5; have hfz52_6 := blk_frozen BK927.out 6; have hfz52_7 := blk_frozen BK927.out 7; have hfz52_8 := blk_frozen BK927.out 8; have hfz52_9 := blk_frozen BK927.out 9; have hcz53_0 : w50.cell? ⟨gb908, 0, none⟩ = some (.int .i64 t896) := (blk_cell BK908.out 0).trans rfl; have hcz53_1 : w50.cell? ⟨gb908, 1, none⟩ = some (.int .i64 t897) := (blk_cell BK908.out 1).trans rfl; have hcz53_2 : w50.cell? ⟨gb908, 2, none⟩ = some (.int .i64 t898) := (blk_cell BK908.out 2).trans rfl; have hcz53_3 : w50.cell? ⟨gb908, 3, none⟩ = some (.int .i64 t899) := (blk_cell BK908.out 3).trans rfl; have hcz53_4 : w50.cell? ⟨gb908, 4, none⟩ = some (.int .i64 t900) := (blk_cell BK908.out 4).trans rfl; have hcz53_5 : w50.cell? ⟨gb908, 5, none⟩ = some (.bool t901) := (blk_cell BK908.out 5).trans rfl; have hcz53_6 : w50.cell? ⟨gb908, 6, none⟩ = some (.bool true) := (blk_cell BK908.out 6).trans rfl; have hcz53_7 : w50.cell? ⟨gb908, 7, none⟩ = some (.string t903) := (blk_cell BK908.out 7).trans rfl; have hcz53_8 : w50.cell? ⟨gb908, 8, none⟩ = some (.string t904) := (blk_cell BK908.out 8).trans rfl; have hcz53_9 : w50.cell? ⟨gb908, 9, none⟩ = some (.string t905) := (blk_cell BK908.out 9).trans rfl; have hfz53_0 := blk_frozen BK908.out 0; have hfz53_1 := blk_frozen BK908.out 1; have hfz53_2 := blk_frozen BK908.out 2; have hfz53_3 := blk_frozen BK908.out 3; have hfz53_4 := blk_frozen BK908.out 4; have hfz53_5 := blk_frozen BK908.out 5; have hfz53_6 := blk_frozen BK908.out 6; have hfz53_7 := blk_frozen BK908.out 7; have hfz53_8 := blk_frozen BK908.out 8; have hfz53_9 := blk_frozen BK908.out 9))
                                                go_roundg k3
                                                case measure => have := HJ9.out; have := HK2.out; have := HK3.out; omega
                                                case rel => exact ⟨(wrap64 (x12_3 + (t925.size : Int))), (wrap64 (x16_3 + 1)), (by first | rfl | (simp; done) | (simp [*]; done)), (by first | rfl | (simp; done) | (simp [*]; done)), H', ⟨by have := HJ9.out; have := HK2.out; have := HK3.out; omega⟩, ⟨by (with_reducible repeat (first | apply Kd.R_alloc | apply Kd.R_drewN | apply Kd.R_drew)); exact Kd.R_mono (Kd.R_far (p := ⟨gb927, 9, none⟩) (Kd.R_far (p := ⟨gb927, 8, none⟩) (Kd.R_far (p := ⟨gb927, 7, none⟩) (Kd.R_far (p := ⟨gb927, 6, none⟩) (Kd.R_far (p := ⟨gb927, 5, none⟩) (Kd.R_far (p := ⟨gb927, 4, none⟩) (Kd.R_far (p := ⟨gb927, 3, none⟩) (Kd.R_far (p := ⟨gb927, 2, none⟩) (Kd.R_far (p := ⟨gb927, 1, none⟩) (Kd.R_far (p := ⟨gb927, 0, none⟩) (Kd.R_types HO_7.out BK927.out (by decide)) (fun _ hk => hk.2) (.int .i64 t915)) (fun _ hk => hk.2) (.int .i64 t916)) (fun _ hk => hk.2) (.int .i64 t917)) (fun _ hk => hk.2) (.int .i64 t918)) (fun _ hk => hk.2) (.int .i64 t919)) (fun _ hk => hk.2) (.bool t920)) (fun _ hk => hk.2) (.bool t921)) (fun _ hk => hk.2) (.string t922)) (fun _ hk => hk.2) (.string t923)) (fun _ hk => hk.2) (.string t924)) (fun _ hk => hk.1)⟩, ⟨by (with_reducible repeat (first | apply Kd.R_alloc | apply Kd.R_drewN | apply Kd.R_drew)); exact Kd.R_mono (Kd.R_far (p := ⟨gb927, 9, none⟩) (Kd.R_far (p := ⟨gb927, 8, none⟩) (Kd.R_far (p := ⟨gb927, 7, none⟩) (Kd.R_far (p := ⟨gb927, 6, none⟩) (Kd.R_far (p := ⟨gb927, 5, none⟩) (Kd.R_far (p := ⟨gb927, 4, none⟩) (Kd.R_far (p := ⟨gb927, 3, none⟩) (Kd.R_far (p := ⟨gb927, 2, none⟩) (Kd.R_far (p := ⟨gb927, 1, none⟩) (Kd.R_far (p := ⟨gb927, 0, none⟩) (Kd.R_types HO_14.out BK927.out (by decide)) (fun _ hk => hk.2) (.int .i64 t915)) (fun _ hk => hk.2) (.int .i64 t916)) (fun _ hk => hk.2) (.int .i64 t917)) (fun _ hk => hk.2) (.int .i64 t918)) (fun _ hk => hk.2) (.int .i64 t919)) (fun _ hk => hk.2) (.bool t920)) (fun _ hk => hk.2) (.bool t921)) (fun _ hk => hk.2) (.string t922)) (fun _ hk => hk.2) (.string t923)) (fun _ hk => hk.2) (.string t924)) (fun _ hk => hk.1)⟩, ⟨by (with_reducible repeat (first | refine blk_drewN ?_ _ | refine blk_drew ?_ | refine blk_alloc ?_ _)); refine blk_far ?_ NB908_927.out _; (with_reducible repeat (first | refine blk_drewN ?_ _ | refine blk_drew ?_ | refine blk_alloc ?_ _)); refine blk_far ?_ NB908_927.out _; (with_reducible repeat (first | refine blk_drewN ?_ _ | refine blk_drew ?_ | refine blk_alloc ?_ _)); refine blk_far ?_ NB908_927.out _; (with_reducible repeat (first | refine blk_drewN ?_ _ | refine blk_drew ?_ | refine blk_alloc ?_ _)); refine blk_far ?_ NB908_927.out _; (with_reducible repeat (first | refine blk_drewN ?_ _ | refine blk_drew ?_ | refine blk_alloc ?_ _)); refine blk_far ?_ NB908_927.out _; (with_reducible repeat (first | refine blk_drewN ?_ _ | refine blk_drew ?_ | refine blk_alloc ?_ _)); refine blk_far ?_ NB908_927.out _; (with_reducible repeat (first | refine blk_drewN ?_ _ | refine blk_drew ?_ | refine blk_alloc ?_ _)); refine blk_far ?_ NB908_927.out _; (with_reducible repeat (first | refine blk_drewN ?_ _ | refine blk_drew ?_ | refine blk_alloc ?_ _)); refine blk_far ?_ NB908_927.out _; (with_reducible repeat (first | refine blk_drewN ?_ _ | refine blk_drew ?_ | refine blk_alloc ?_ _)); refine blk_far ?_ NB908_927.out _; (with_reducible repeat (first | refine blk_drewN ?_ _ | refine blk_drew ?_ | refine blk_alloc ?_ _)); refine blk_far ?_ NB908_927.out _; (with_reducible repeat (first | refine blk_drewN ?_ _ | refine blk_drew ?_ | refine blk_alloc ?_ _)); exact BK908.out⟩, ⟨by repeat (first | (with_reducible first | exact HB.out | apply below_alloc | apply pw_below_drewN | apply below_drew1 | refine below_set ?_ GE908.out | refine below_set ?_ GE927.out) | exact HB.out)⟩⟩
                                            · replace c40 := Bool.eq_false_iff.mpr c40
                                              subst c40
                                              have H1 : (if (t921 != (decide ((wrap64 (x12_3 + (t925.size : Int))) < (t906.size : Int)))) = true then (some false) else (palanquinlaw15_FragTwice.l1 k3 a2 t892 t906 (wrap64 (x12_3 + (t925.size : Int))) x13_2 t910 (wrap64 (x16_3 + 1)) t896 t897 t898 t899 t900 t901 false t903 t904 t905)) = some r := by rw [if_neg (show ¬ (false = true) by decide)] at H; exact H
                                              clear H
                                              have H := H1
                                              clear H1
                                              by_cases c54 : (t921 != (decide ((wrap64 (x12_3 + (t925.size : Int))) < (t906.size : Int)))) = true
                                              · rw [if_pos c54] at H
                                                exact absurd ((Option.some.inj H).trans hrt_.out) (by decide)
                                              · rw [if_neg c54] at H
                                                have c54b0 : (t921 != (decide ((wrap64 (x12_3 + (t925.size : Int))) < (t906.size : Int)))) = false := by simpa using c54
                                                (try (have c54b1 : decide (t921 = (decide ((wrap64 (x12_3 + (t925.size : Int))) < (t906.size : Int)))) = true := by simpa using c54))
                                                (try (have c54b2 : (t921 == (decide ((wrap64 (x12_3 + (t925.size : Int))) < (t906.size : Int)))) = true := by simpa using c54))
                                                clear c54
                                                have H' := Aside0.mk H
                                                clear H
                                                obtain ⟨Ao61, co61, eo61⟩ := Kd.R_slice HO_14.out
                                                subst eo61
                                                have p914 : 0 ≤ (x16_3 : Int) := of_decide_eq_true (by first | (with_reducible assumption) | assumption)
                                                have q914 : x16_3 < (t910.length : Int) := of_decide_eq_true (by first | (with_reducible assumption) | assumption)
                                                obtain ⟨ad914, e914, hx914_0⟩ := Kd.at_string (Kd.R_reads' HO_14.out).2.2 x16_3 p914 q914
                                                cases e914
                                                replace p914 := eq_true p914
                                                replace q914 := eq_true q914
                                                go_wp2_with (first | ((with_reducible refine gate_callee (f := 111) rfl ?_); refine goesL_ (some 73) rfl rfl Try.func111 (by kernel_rfl) rfl #[.string (rdOf ByteArray.empty t910 x16_3)] rfl (by (try simp only [List.map_toArray, List.map_cons, List.map_nil]); first | done | rfl | (simp only [List.length_drop, List.length_take]; rfl)) ?_; (with_reducible refine (ip4_Get.calls (rdOf ByteArray.empty t910 x16_3) t915 t916 t917 t918 t919 t920 t921 t922 t923 t924 t925 t926 _ A26.out).mono ?_); rintro e w62 ⟨rfl, hb⟩; refine ⟨_, rfl, ?_⟩; have n0_ := Aside0.mk (Kd.R_below (by (with_reducible repeat (first | apply Kd.R_alloc | apply Kd.R_drewN | apply Kd.R_drew)); exact HO_7.out) hb); have n1_ := Aside0.mk (Kd.R_below (by (with_reducible repeat (first | apply Kd.R_alloc | apply Kd.R_drewN | apply Kd.R_drew)); exact HO_14.out) hb); have n2_ := Aside0.mk (blk_below (g := gb908) (o := .cells #[.int .i64 t896, .int .i64 t897, .int .i64 t898, .int .i64 t899, .int .i64 t900, .bool t901, .bool false, .string t903, .string t904, .string t905] 93 (0, 0)) (by (with_reducible repeat (first | refine blk_drewN ?_ _ | refine blk_drew ?_ | refine blk_alloc ?_ _)); exact BK908.out) hb); have n3_ := Aside0.mk (below_step (by repeat (first | (with_reducible first | exact HB.out | apply below_alloc | apply pw_below_drewN | apply below_drew1 | refine below_set ?_ GE908.out) | exact HB.out)) hb); clear HO_7; clear HO_14; clear BK908; clear HB; have HO_7 := n0_; have HO_14 := n1_; have BK908 := n2_; have HB := n3_; clear n0_ n1_ n2_ n3_; (try clear hb); (try clear hb2); (try clear hk); (try clear hi)) | ((with_reducible refine gate_dst (N := 17) rfl ?_); (try (refine gate_guard (by rfl) ?_; dsimp only)); refine box_event ?hg (N := 17) ?hd (cs := #[.int .i64 0, .int .i64 0, .int .i64 0, .int .i64 0, .int .i64 0, .bool false, .bool false, .string (⟨#[]⟩ : ByteArray), .string (⟨#[]⟩ : ByteArray), .string (⟨#[]⟩ : ByteArray)]) (t := 93) ?hr ?_; (case hd => rfl); (case hg => rfl); (case hr => first | (go_simp; done) | (go_simp; rfl)); intro gb927 hg w63 hbox hb; have n0_ := Aside0.mk (Kd.R_below (by (with_reducible repeat (first | apply Kd.R_alloc | apply Kd.R_drewN | apply Kd.R_drew)); exact HO_7.out) hb); have n1_ := Aside0.mk (Kd.R_below (by (with_reducible repeat (first | apply Kd.R_alloc | apply Kd.R_drewN | apply Kd.R_drew)); exact HO_14.out) hb); have n2_ := Aside0.mk (blk_below (g := gb908) (o := .cells #[.int .i64 t896, .int .i64 t897, .int .i64 t898, .int .i64 t899, .int .i64 t900, .bool t901, .bool false, .string t903, .string t904, .string t905] 93 (0, 0)) (by (with_reducible repeat (first | refine blk_drewN ?_ _ | refine blk_drew ?_ | refine blk_alloc ?_ _)); exact BK908.out) hb); have n3_ := Aside0.mk (below_step (by repeat (first | (with_reducible first | exact HB.out | apply below_alloc | apply pw_below_drewN | apply below_drew1 | refine below_set ?_ GE908.out) | exact HB.out)) hb); have n4_ := Aside0.mk (hbox); have n5_ := Aside0.mk ((by rw [hg]; exact (below_size (by repeat (first | (with_reducible first | exact HB.out | apply below_alloc | apply pw_below_drewN | apply below_drew1 | refine below_set ?_ GE908.out) | exact HB.out))) : w.heap.size ≤ gb927)); have n6_ := Aside0.mk ((by rw [hg]; exact (below_size (by repeat (first | (with_reducible first | exact HB.out | apply below_alloc | apply pw_below_drewN | apply below_drew1 | refine below_set ?_ GE908.out) | exact HB.out))) : w.heap.size ≤ gb927)); have n7_ := Aside0.mk ((by rw [hg]; exact Nat.ne_of_lt (blk_lt (g := gb908) (o := .cells #[.int .i64 t896, .int .i64 t897, .int .i64 t898, .int .i64 t899, .int .i64 t900, .bool t901, .bool false, .string t903, .string t904, .string t905] 93 (0, 0)) (by (with_reducible repeat (first | refine blk_drewN ?_ _ | refine blk_drew ?_ | refine blk_alloc ?_ _)); exact BK908.out)) : gb908 ≠ gb927)); have n8_ := Aside0.mk ((by rw [hg]; exact Nat.ne_of_gt (blk_lt (g := gb908) (o := .cells #[.int .i64 t896, .int .i64 t897, .int .i64 t898, .int .i64 t899, .int .i64 t900, .bool t901, .bool false, .string t903, .string t904, .string t905] 93 (0, 0)) (by (with_reducible repeat (first | refine blk_drewN ?_ _ | refine blk_drew ?_ | refine blk_alloc ?_ _)); exact BK908.out)) : gb927 ≠ gb908)); clear HO_7; clear HO_14; clear BK908; clear HB; have HO_7 := n0_; have HO_14 := n1_; have BK908 := n2_; have HB := n3_; have BK927 := n4_; have GW927 := n5_; have GE927 := n6_; have NB908_927 := n7_; have NB927_908 := n8_; clear n0_ n1_ n2_ n3_ n4_ n5_ n6_ n7_ n8_; clear hb hbox hg; have hnb64 := NB927_908.out; have hnc64 := NB908_927.out; have hcz65_0 : w63.cell? ⟨gb927, 0, none⟩ = some (.int .i64 0) := (blk_cell BK927.out 0).trans rfl; have hcz65_1 : w63.cell? ⟨gb927, 1, none⟩ = some (.int .i64 0) := (blk_cell BK927.out 1).trans rfl; have hcz65_2 : w63.cell? ⟨gb927, 2, none⟩ = some (.int .i64 0) := (blk_cell BK927.out 2).trans rfl; have hcz65_3 : w63.cell? ⟨gb927, 3, none⟩ = some (.int .i64 0) := (blk_cell BK927.out 3).trans rfl; have hcz65_4 : w63.cell? ⟨gb927, 4, none⟩ = some (.int .i64 0) := (blk_cell BK927.out 4).trans rfl; have hcz65_5 : w63.cell? ⟨gb927, 5, none⟩ = some (.bool false) := (blk_cell BK927.out 5).trans rfl; have hcz65_6 : w63.cell? ⟨gb927, 6, none⟩ = some (.bool false) := (blk_cell BK927.out 6).trans rfl; have hcz65_7 : w63.cell? ⟨gb927, 7, none⟩ = some (.string (⟨#[]⟩ : ByteArray)) := (blk_cell BK927.out 7).trans rfl; have hcz65_8 : w63.cell? ⟨gb927, 8, none⟩ = some (.string (⟨#[]⟩ : ByteArray)) := (blk_cell BK927.out 8).trans rfl; have hcz65_9 : w63.cell? ⟨gb927, 9, none⟩ = some (.string (⟨#[]⟩ : ByteArray)) := (blk_cell BK927.out 9).trans rfl; have hfz65_0 := blk_frozen BK927.out 0; have hfz65_1 := blk_frozen BK927.out 1; have hfz65_2 := blk_frozen BK927.out 2; have hfz65_3 := blk_frozen BK927.out 3; have hfz65_4 := blk_frozen BK927.out 4; have hfz65_5 := blk_frozen BK927.out 5; have hfz65_6 := blk_frozen BK927.out 6; have hfz65_7 := blk_frozen BK927.out 7; have hfz65_8 := blk_frozen BK927.out 8; have hfz65_9 := blk_frozen BK927.out 9; have hcz66_0 : w63.cell? ⟨gb908, 0, none⟩ = some (.int .i64 t896) := (blk_cell BK908.out 0).trans rfl; have hcz66_1 : w63.cell? ⟨gb908, 1, none⟩ = some (.int .i64 t897) := (blk_cell BK908.out 1).trans rfl; have hcz66_2 : w63.cell? ⟨gb908, 2, none⟩ = some (.int .i64 t898) := (blk_cell BK908.out 2).trans rfl; have hcz66_3 : w63.cell? ⟨gb908, 3, none⟩ = some (.int .i64 t899) := (blk_cell BK908.out 3).trans rfl; have hcz66_4 : w63.cell? ⟨gb908, 4, none⟩ = some (.int .i64 t900) := (blk_cell BK908.out 4).trans rfl; have hcz66_5 : w63.cell? ⟨gb908, 5, none⟩ = some (.bool t901) := (blk_cell BK908.out 5).trans rfl; have hcz66_6 : w63.cell? ⟨gb908, 6, none⟩ = some (.bool false) := (blk_cell BK908.out 6).trans rfl; have hcz66_7 : w63.cell? ⟨gb908, 7, none⟩ = some (.string t903) := (blk_cell BK908.out 7).trans rfl; have hcz66_8 : w63.cell? ⟨gb908, 8, none⟩ = some (.string t904) := (blk_cell BK908.out 8).trans rfl; have hcz66_9 : w63.cell? ⟨gb908, 9, none⟩ = some (.string t905) := (blk_cell BK908.out 9).trans rfl; have hfz66_0 := blk_frozen BK908.out 0; have hfz66_1 := blk_frozen BK908.out 1; have hfz66_2 := blk_frozen BK908.out 2; have hfz66_3 := blk_frozen BK908.out 3; have hfz66_4 := blk_frozen BK908.out 4; have hfz66_5 := blk_frozen BK908.out 5; have hfz66_6 := blk_frozen BK908.out 6; have hfz66_7 := blk_frozen BK908.out 7; have hfz66_8 := blk_frozen BK908.out 8; have hfz66_9 := blk_frozen BK908.out 9))
                                                go_roundg k3
                                                case measure => have := HJ9.out; have := HK2.out; have := HK3.out; omega
                                                case rel => exact ⟨(wrap64 (x12_3 + (t925.size : Int))), (wrap64 (x16_3 + 1)), (by first | rfl | (simp; done) | (simp [*]; done)), (by first | rfl | (simp; done) | (simp [*]; done)), H', ⟨by have := HJ9.out; have := HK2.out; have := HK3.out; omega⟩, ⟨by (with_reducible repeat (first | apply Kd.R_alloc | apply Kd.R_drewN | apply Kd.R_drew)); exact Kd.R_mono (Kd.R_far (p := ⟨gb927, 9, none⟩) (Kd.R_far (p := ⟨gb927, 8, none⟩) (Kd.R_far (p := ⟨gb927, 7, none⟩) (Kd.R_far (p := ⟨gb927, 6, none⟩) (Kd.R_far (p := ⟨gb927, 5, none⟩) (Kd.R_far (p := ⟨gb927, 4, none⟩) (Kd.R_far (p := ⟨gb927, 3, none⟩) (Kd.R_far (p := ⟨gb927, 2, none⟩) (Kd.R_far (p := ⟨gb927, 1, none⟩) (Kd.R_far (p := ⟨gb927, 0, none⟩) (Kd.R_types HO_7.out BK927.out (by decide)) (fun _ hk => hk.2) (.int .i64 t915)) (fun _ hk => hk.2) (.int .i64 t916)) (fun _ hk => hk.2) (.int .i64 t917)) (fun _ hk => hk.2) (.int .i64 t918)) (fun _ hk => hk.2) (.int .i64 t919)) (fun _ hk => hk.2) (.bool t920)) (fun _ hk => hk.2) (.bool t921)) (fun _ hk => hk.2) (.string t922)) (fun _ hk => hk.2) (.string t923)) (fun _ hk => hk.2) (.string t924)) (fun _ hk => hk.1)⟩, ⟨by (with_reducible repeat (first | apply Kd.R_alloc | apply Kd.R_drewN | apply Kd.R_drew)); exact Kd.R_mono (Kd.R_far (p := ⟨gb927, 9, none⟩) (Kd.R_far (p := ⟨gb927, 8, none⟩) (Kd.R_far (p := ⟨gb927, 7, none⟩) (Kd.R_far (p := ⟨gb927, 6, none⟩) (Kd.R_far (p := ⟨gb927, 5, none⟩) (Kd.R_far (p := ⟨gb927, 4, none⟩) (Kd.R_far (p := ⟨gb927, 3, none⟩) (Kd.R_far (p := ⟨gb927, 2, none⟩) (Kd.R_far (p := ⟨gb927, 1, none⟩) (Kd.R_far (p := ⟨gb927, 0, none⟩) (Kd.R_types HO_14.out BK927.out (by decide)) (fun _ hk => hk.2) (.int .i64 t915)) (fun _ hk => hk.2) (.int .i64 t916)) (fun _ hk => hk.2) (.int .i64 t917)) (fun _ hk => hk.2) (.int .i64 t918)) (fun _ hk => hk.2) (.int .i64 t919)) (fun _ hk => hk.2) (.bool t920)) (fun _ hk => hk.2) (.bool t921)) (fun _ hk => hk.2) (.string t922)) (fun _ hk => hk.2) (.string t923)) (fun _ hk => hk.2) (.string t924)) (fun _ hk => hk.1)⟩, ⟨by (with_reducible repeat (first | refine blk_drewN ?_ _ | refine blk_drew ?_ | refine blk_alloc ?_ _)); refine blk_far ?_ NB908_927.out _; (with_reducible repeat (first | refine blk_drewN ?_ _ | refine blk_drew ?_ | refine blk_alloc ?_ _)); refine blk_far ?_ NB908_927.out _; (with_reducible repeat (first | refine blk_drewN ?_ _ | refine blk_drew ?_ | refine blk_alloc ?_ _)); refine blk_far ?_ NB908_927.out _; (with_reducible repeat (first | refine blk_drewN ?_ _ | refine blk_drew ?_ | refine blk_alloc ?_ _)); refine blk_far ?_ NB908_927.out _; (with_reducible repeat (first | refine blk_drewN ?_ _ | refine blk_drew ?_ | refine blk_alloc ?_ _)); refine blk_far ?_ NB908_927.out _; (with_reducible repeat (first | refine blk_drewN ?_ _ | refine blk_drew ?_ | refine blk_alloc ?_ _)); refine blk_far ?_ NB908_927.out _; (with_reducible repeat (first | refine blk_drewN ?_ _ | refine blk_drew ?_ | refine blk_alloc ?_ _)); refine blk_far ?_ NB908_927.out _; (with_reducible repeat (first | refine blk_drewN ?_ _ | refine blk_drew ?_ | refine blk_alloc ?_ _)); refine blk_far ?_ NB908_927.out _; (with_reducible repeat (first | refine blk_drewN ?_ _ | refine blk_drew ?_ | refine blk_alloc ?_ _)); refine blk_far ?_ NB908_927.out _; (with_reducible repeat (first | refine blk_drewN ?_ _ | refine blk_drew ?_ | refine blk_alloc ?_ _)); refine blk_far ?_ NB908_927.out _; (with_reducible repeat (first | refine blk_drewN ?_ _ | refine blk_drew ?_ | refine blk_alloc ?_ _)); exact BK908.out⟩, ⟨by repeat (first | (with_reducible first | exact HB.out | apply below_alloc | apply pw_below_drewN | apply below_drew1 | refine below_set ?_ GE908.out | refine below_set ?_ GE927.out) | exact HB.out)⟩⟩
                                          · rw [if_neg c39] at H
                                            exact absurd ((Option.some.inj H).trans hrt_.out) (by decide)
                                        · rw [if_neg c38] at H
                                          exact absurd H (by simp)
                                      · rw [if_neg c37] at H
                                        exact absurd H (by simp)
                                    · rw [if_neg c36] at H
                                      exact absurd H (by simp)
                                · rw [if_neg c28] at H
                                  exact absurd ((Option.some.inj H).trans hrt_.out) (by decide)
                              · rw [if_neg c27] at H
                                exact absurd ((Option.some.inj H).trans hrt_.out) (by decide)
                            · rw [if_neg c25] at H
                              exact absurd H (by simp)
                          · rw [if_neg c24] at H
                            have c24b0 : decide (x16_3 < (t910.length : Int)) = false := decide_eq_false c24
                            clear c24
                            have H' := Aside0.mk H
                            clear H
                            obtain ⟨Ao84, co84, eo84⟩ := Kd.R_slice HO_14.out
                            subst eo84
                            go_wp2
                            go_roundg k3
                            case measure => have := HJ9.out; have := HK2.out; have := HK3.out; omega
                            case rel => exact ⟨(x12_3), (wrap64 (x13_2 + 1)), (by first | rfl | (simp; done) | (simp [*]; done)), (by first | rfl | (simp; done) | (simp [*]; done)), H', ⟨by have := HJ9.out; have := HK2.out; have := HK3.out; omega⟩, ⟨by (with_reducible repeat (first | apply Kd.R_alloc | apply Kd.R_drewN | apply Kd.R_drew)); exact Kd.R_mono HO_7.out (fun _ hk => trivial)⟩, ⟨by (with_reducible repeat (first | refine blk_drewN ?_ _ | refine blk_drew ?_ | refine blk_alloc ?_ _)); exact BK908.out⟩, ⟨by repeat (first | (with_reducible first | exact HB.out | apply below_alloc | apply pw_below_drewN | apply below_drew1 | refine below_set ?_ GE908.out) | exact HB.out)⟩⟩
                    · rw [if_neg c21] at H
                      have c21b0 : (t911 == 0) = false := beq_eq_false_iff_ne.mpr c21
                      have c21b1 : (t911 != 0) = true := bne_iff_ne.mpr c21
                      obtain rfl := Option.some.inj H
                      obtain ⟨Ao85, co85, eo85⟩ := Kd.R_slice HO_7.out
                      subst eo85
                      have p909 : 0 ≤ (x13_2 : Int) := of_decide_eq_true (by first | (with_reducible assumption) | assumption)
                      have q909 : x13_2 < (t892.length : Int) := of_decide_eq_true (by first | (with_reducible assumption) | assumption)
                      obtain ⟨ad909, e909, hx909_0⟩ := Kd.at_string (Kd.R_reads' HO_7.out).2.2 x13_2 p909 q909
                      cases e909
                      replace p909 := eq_true p909
                      replace q909 := eq_true q909
                      go_wp2_with (first | ((with_reducible refine gate_callee (f := 114) rfl ?_); refine goesL_ (some 57) rfl rfl Try.func114 (by kernel_rfl) rfl #[.string (rdOf ByteArray.empty t892 x13_2), .int .i64 a2] rfl (by (try simp only [List.map_toArray, List.map_cons, List.map_nil]); first | done | rfl | (simp only [List.length_drop, List.length_take]; rfl)) ?_; (with_reducible refine (frag_Cut.calls (rdOf ByteArray.empty t892 x13_2) a2 t910 t911 _ A20.out).mono ?_); rintro e w86 ⟨v912, rfl, ho0, hb⟩; refine ⟨_, rfl, ?_⟩; have n0_ := Aside0.mk (Kd.R_elder' (by (with_reducible repeat (first | apply Kd.R_alloc | apply Kd.R_drewN | apply Kd.R_drew)); exact HO_7.out) (Kd.R_base ho0) hb); have n1_ := Aside0.mk (Kd.R_lower (Kd.R_new' ho0 (Kd.R_lt (by (with_reducible repeat (first | apply Kd.R_alloc | apply Kd.R_drewN | apply Kd.R_drew)); exact HO_7.out))) (below_size (by repeat (first | (with_reducible first | exact HB.out | apply below_alloc | apply pw_below_drewN | apply below_drew1 | refine below_set ?_ GE908.out) | exact HB.out)))); have n2_ := Aside0.mk (blk_below (g := gb908) (o := .cells #[.int .i64 t896, .int .i64 t897, .int .i64 t898, .int .i64 t899, .int .i64 t900, .bool t901, .bool t902, .string t903, .string t904, .string t905] 93 (0, 0)) (by (with_reducible repeat (first | refine blk_drewN ?_ _ | refine blk_drew ?_ | refine blk_alloc ?_ _)); exact BK908.out) hb); have n3_ := Aside0.mk (below_step (by repeat (first | (with_reducible first | exact HB.out | apply below_alloc | apply pw_below_drewN | apply below_drew1 | refine below_set ?_ GE908.out) | exact HB.out)) hb); clear HO_7; clear BK908; clear HB; have HO_7 := n0_; have HO913 := n1_; have BK908 := n2_; have HB := n3_; clear n0_ n1_ n2_ n3_; (try clear hb); (try clear hb2); (try clear hk); (try clear hi); (try clear ho0)))
                      go_ret
                      exact ⟨by first | rfl | (simp [errW_none, errW_some] <;> rfl) | (simp [*, errW_none, errW_some] <;> rfl), by repeat (first | (with_reducible first | exact HB.out | apply below_alloc | apply pw_below_drewN | apply below_drew1 | refine below_set ?_ GE908.out) | exact HB.out)⟩
                  · rw [if_neg c19] at H
                    exact absurd H (by simp)
                · rw [if_neg c18] at H
                  have c18b0 : decide (x13_2 < (t892.length : Int)) = false := decide_eq_false c18
                  clear c18
                  obtain rfl := Option.some.inj H
                  obtain ⟨Ao87, co87, eo87⟩ := Kd.R_slice HO_7.out
                  subst eo87
                  go_wp2
                  go_ret
                  exact ⟨by first | rfl | (simp [errW_none, errW_some] <;> rfl) | (simp [*, errW_none, errW_some] <;> rfl), by repeat (first | (with_reducible first | exact HB.out | apply below_alloc | apply pw_below_drewN | apply below_drew1 | refine below_set ?_ GE908.out) | exact HB.out)⟩
  · replace c5 := Bool.eq_false_iff.mpr c5
    subst c5
    have H1 : (some false) = some r := by rw [if_neg (show ¬ (false = true) by decide)] at H; exact H
    exact absurd ((Option.some.inj H1).trans hrt_.out) (by decide)
/-- THE ONE PURE STATEMENT of palanquinlaw15_FragTwice: yours. -/
def palanquinlaw15_FragTwice.Pure : Prop := ∀ (a0 : ByteArray) (a1 : Int) (a2 : Int), a0.size ≤ 140737488351232 → (Lit.int .i64 a1).wf = true → (Lit.int .i64 a2).wf = true → ∃ k, palanquinlaw15_FragTwice.f k a0 a1 a2 = some true
theorem palanquinlaw15_FragTwice.walk (P : palanquinlaw15_FragTwice.Pure) (a0 : ByteArray) (a1 : Int) (a2 : Int) (w : World) (w0 : a0.size ≤ 140737488351232) (w1 : (Lit.int .i64 a1).wf = true) (w2 : (Lit.int .i64 a2).wf = true) :
    Calls Try.prog 33 #[.string a0, .int .i64 a1, .int .i64 a2] w fun e w' => e = .returned (.bool true) ∧ Below w.heap.size w w' := by
  obtain ⟨k, h⟩ := P a0 a1 a2 w0 w1 w2
  refine (palanquinlaw15_FragTwice.calls k a0 a1 a2 true w h ⟨rfl⟩).mono ?_
  rintro e w' ⟨rfl, hd⟩
  exact ⟨rfl, hd⟩

end Go.Proofs.Ytejmipoolbodgaa.G
end

section
/- Plain law of FragTwice: pieces that are cut again are those of the packet. -/
namespace Go.Proofs.Ytejmipoolbodgaa.Pure
open Go.RowKit Go.Proofs.YtejmipoolbodgaaW.PrintWords Go.Proofs.YtejmipoolbodgaaW.PrintLast Go.Proofs.Ytejmipoolbodgaa.G Go.Proofs.Ytejmipoolbodgaa.Pal
set_option linter.unusedVariables false
theorem tw_arith (a x y T P F j K : Nat) (h1 : x ≤ y) (h2 : y ≤ T) (h3 : a + T ≤ P) (hP : P ≤ 65535) (hF : F ≤ 8191) (ha : a % 8 = 0) (hx : x % 8 = 0) (hj : j < K) (hK : K ≤ 100000) :
    ¬ ((a + y : Nat) : Int) > (P : Int) ∧ (0 : Int) ≤ ((a + x : Nat) : Int) ∧ ((a + x : Nat) : Int) ≤ ((a + y : Nat) : Int) ∧ ((a + y : Nat) : Int) ≤ (P : Int) ∧ (j : Int) < (K : Int) ∧ (0 : Int) ≤ (j : Int) ∧
    wrap64 (wrap64 (((F + (a + x) / 8 : Nat) : Int) - (F : Int)) * 8) = ((a + x : Nat) : Int) ∧ wrap64 (((a + x : Nat) : Int) + ((y - x : Nat) : Int)) = ((a + y : Nat) : Int) ∧ wrap64 ((j : Int) + 1) = ((j + 1 : Nat) : Int) ∧
    decide (((a + y : Nat) : Int) < (P : Int)) = decide (a + x + (y - x) < P) := by
  have e : wrap64 (((F + (a + x) / 8 : Nat) : Int) - (F : Int)) = (((a + x) / 8 : Nat) : Int) := by unfold wrap64; omega
  rw [e]
  refine ⟨by omega, by omega, by omega, by omega, by omega, by omega, by unfold wrap64; omega, by unfold wrap64; omega, by unfold wrap64; omega, decide_eq_decide.mpr (by omega)⟩
theorem twice_in (s x : ByteArray) (b : Int) (L : List ByteArray) (i k0 a : Nat) (t : ByteArray) (he : ip4Err s = 0) (hx : PcOf s x a t) (ha : a % 8 = 0) (hat : a + t.size ≤ (hPay s).size) (ht : t = (hPay s).extract a (a + t.size)) (M : List ByteArray) (K : Nat) (at_ : Nat → Nat) (hM : M.length = K) (hK : at_ K = t.size)
    (hT : ∀ j, j < K → at_ j % 8 = 0 ∧ at_ j ≤ at_ (j + 1) ∧ at_ (j + 1) ≤ t.size ∧ PcOf x (rdOf ByteArray.empty M (j : Int)) (at_ j) (t.extract (at_ j) (at_ (j + 1)))) (hi : i ≤ 100000) (hK2 : K ≤ 100000)
    (hnext : palanquinlaw15_FragTwice.l0 k0 b L (hPay s) ((a + t.size : Nat) : Int) ((i + 1 : Nat) : Int) (hTos s : Int) (hId s : Int) (hOff s : Int) (hTtl s : Int) (hProto s : Int) (hDF s) (hMF s) (hSrc s) (hDst s) (hOpt s) = some true) :
    ∀ n j, j + n = K → palanquinlaw15_FragTwice.l1 (n + 1 + k0) b L (hPay s) ((a + at_ j : Nat) : Int) (i : Int) M (j : Int) (hTos s : Int) (hId s : Int) (hOff s : Int) (hTtl s : Int) (hProto s : Int) (hDF s) (hMF s) (hSrc s) (hDst s) (hOpt s) = some true := by
  have hsz := sized4 he
  have hP : (hPay s).size ≤ 65535 := by omega
  intro n
  induction n with
  | zero =>
    intro j hj
    obtain rfl : j = K := by omega
    rw [show 0 + 1 + k0 = k0 + 1 by omega, palanquinlaw15_FragTwice.l1, if_neg (by omega), hK, show wrap64 ((i : Int) + 1) = ((i + 1 : Nat) : Int) by unfold wrap64; omega]
    exact hnext
  | succ n ih =>
    intro j hj
    obtain ⟨t1, t2, t3, t4⟩ := hT j (by omega)
    have us : (t.extract (at_ j) (at_ (j + 1))).size = at_ (j + 1) - at_ j := by simp only [ByteArray.size_extract]; omega
    have hy := hx.trans t4 ha hat (by omega)
    have hg := hy.get
    have ext : (hPay s).extract (a + at_ j) (a + at_ (j + 1)) = t.extract (at_ j) (at_ (j + 1)) := by
      conv => rhs; rw [ht]
      rw [ext_ext _ _ _ _ _ t2 (by omega)]
    obtain ⟨c1, c2, c3, c4, c5, c6, q1, q2, q3, q4⟩ := tw_arith a (at_ j) (at_ (j + 1)) t.size (hPay s).size (hOff s) j K t2 t3 hat hP hsz.2.2.2.2.2.2 ha t1 (by omega) hK2
    rw [show n + 1 + 1 + k0 = (n + 1 + k0) + 1 by omega, palanquinlaw15_FragTwice.l1, hM, if_pos c5, if_pos c6, hg, Option.bind_some]
    dsimp +instances only
    rw [if_pos rfl, q1, if_pos rfl, us, q2, if_neg c1, if_pos c2, if_pos c3, if_pos c4]

    rw [Int.toNat_natCast, Int.toNat_natCast, ext, if_pos rfl, q3, q4]
    have nx := ih (j + 1) (by omega)
    cases hm : hMF s
    · rw [hm] at nx
      rw [if_neg (by decide), if_neg ?_]
      · exact nx
      · rw [Bool.false_or]
        simp
    · rw [hm] at nx
      rw [if_pos rfl, if_neg (by simp)]
      exact nx
theorem twice_out (s : ByteArray) (b : Int) (L : List ByteArray) (he : ip4Err s = 0) (K : Nat) (at_ : Nat → Nat) (hL : L.length = K) (hK : at_ K = (hPay s).size) (hK2 : K ≤ 100000)
    (hT : ∀ i, i < K → at_ i % 8 = 0 ∧ at_ i ≤ at_ (i + 1) ∧ at_ (i + 1) ≤ (hPay s).size ∧ PcOf s (rdOf ByteArray.empty L (i : Int)) (at_ i) ((hPay s).extract (at_ i) (at_ (i + 1)))) :
    ∀ n i, i + n = K → ∃ k, palanquinlaw15_FragTwice.l0 k b L (hPay s) ((at_ i : Nat) : Int) (i : Int) (hTos s : Int) (hId s : Int) (hOff s : Int) (hTtl s : Int) (hProto s : Int) (hDF s) (hMF s) (hSrc s) (hDst s) (hOpt s) = some true := by
  have hsz := sized4 he
  intro n
  induction n with
  | zero =>
    intro i hi
    obtain rfl : i = K := by omega
    refine ⟨1, ?_⟩
    rw [palanquinlaw15_FragTwice.l0, if_neg (by omega), hK, beq_self_eq_true]
  | succ n ih =>
    intro i hi
    obtain ⟨k0, hk0⟩ := ih (i + 1) (by omega)
    obtain ⟨t1, t2, t3, t4⟩ := hT i (by omega)
    have us : ((hPay s).extract (at_ i) (at_ (i + 1))).size = at_ (i + 1) - at_ i := by simp only [ByteArray.size_extract]; omega
    generalize hx : rdOf ByteArray.empty L (i : Int) = x at t4
    have xs := sized4 t4.1
    have hpx : hPay x = (hPay s).extract (at_ i) (at_ (i + 1)) := t4.2.2.2.2.2.2.2.2.2.2.2
    by_cases hb : cutErr x b = 0
    case neg =>
      refine ⟨1, ?_⟩
      rw [palanquinlaw15_FragTwice.l0, if_pos (by omega), if_pos (by omega), hx, cut_f (by omega), Option.bind_some, if_neg hb]
    obtain ⟨K', at', hK', hl', h0', hKe', hT'⟩ := cut_tiles hb
    have hlen := cutL_len (s := x) b
    have hin := twice_in s x b L i k0 (at_ i) ((hPay s).extract (at_ i) (at_ (i + 1))) he t4 t1 (by omega) (by rw [us]; congr 1; omega) (cutL x b) K' at' hl' (by rw [hKe', hpx])
      (fun j hj => ⟨(hT' j hj).1, (hT' j hj).2.1, by rw [← hpx]; exact (hT' j hj).2.2.1, by rw [← hpx]; exact (hT' j hj).2.2.2.2.1⟩) (by omega) (by omega)
      (by rw [us, show at_ i + (at_ (i + 1) - at_ i) = at_ (i + 1) by omega]; exact hk0) K' 0 (by omega)
    rw [h0'] at hin
    refine ⟨K' + 1 + k0 + 1, ?_⟩
    rw [palanquinlaw15_FragTwice.l0, if_pos (by omega), if_pos (by omega), hx, cut_f (by omega), Option.bind_some, hb, if_pos rfl]
    exact hin
theorem FragTwice : palanquinlaw15_FragTwice.Pure := by
  intro s a b hs _ _
  by_cases he : ip4Err s = 0
  case neg =>
    refine ⟨6002 + 1, ?_⟩
    unfold palanquinlaw15_FragTwice.f
    rw [awake15 _ (by decide), Option.bind_some, if_pos rfl]
    split
    · rfl
    · rw [cut_f hs, Option.bind_some, get4_err hs he, Option.bind_some, cutErr_bad he, if_neg he, palanquinlaw15_FragTwice.j0, if_pos rfl, bne_iff_ne.mpr he]
  by_cases hc : cutErr s a = 0
  case neg =>
    refine ⟨6002 + 1, ?_⟩
    unfold palanquinlaw15_FragTwice.f
    rw [awake15 _ (by decide), Option.bind_some, if_pos rfl]
    split
    · rfl
    · rw [cut_f hs, Option.bind_some, get4_f s hs he, Option.bind_some, if_neg hc, palanquinlaw15_FragTwice.j0, if_pos rfl, bne_iff_ne.mpr hc]
  obtain ⟨K, at_, hK, hl, h0, hKe, hT⟩ := cut_tiles hc
  have hlen := cutL_len (s := s) a
  have h4 := sized4 he
  obtain ⟨k, hk⟩ := twice_out s b (cutL s a) he K at_ hl hKe (by omega) (fun i hi => ⟨(hT i hi).1, (hT i hi).2.1, (hT i hi).2.2.1, (hT i hi).2.2.2.2.1⟩) K 0 (by omega)
  rw [h0] at hk
  refine ⟨max k 6002 + 1, ?_⟩
  unfold palanquinlaw15_FragTwice.f
  rw [awake15 _ (by omega), Option.bind_some, if_pos rfl]
  split
  · rfl
  · rw [cut_f hs, Option.bind_some, get4_f s hs he, Option.bind_some, hc, if_pos rfl]
    dsimp only
    rw [palanquinlaw15_FragTwice.j0, if_neg (by decide)]
    exact at_rounds (g := fun q => palanquinlaw15_FragTwice.l0 q b (cutL s a) (hPay s) ((0 : Nat) : Int) ((0 : Nat) : Int) (hTos s : Int) (hId s : Int) (hOff s : Int) (hTtl s : Int) (hProto s : Int) (hDF s) (hMF s) (hSrc s) (hDst s) (hOpt s)) (fun q => (palanquinlaw15_FragTwice.mono_l q).2.1 _ _ _ _ _ _ _ _ _ _ _ _ _ _ _) (Nat.le_max_left k 6002) hk
end Go.Proofs.Ytejmipoolbodgaa.Pure
end
