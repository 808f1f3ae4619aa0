/- Texts of this session, joined: each is a section. -/
import Derived.Test.YtcmalglippmocaaDoorMGueb1
import Derived.Test.YtcmalglippmocaaDoorMGueb4
import Derived.Test.YtcmalglippmocaaDoorMGueb7
import Derived.Test.YtcmalglippmocaaDoorWWords
import Derived.Deep.Fields
import Derived.Deep.Strs
import Derived.WideShapes
import Derived.ChangeArms
import Derived.Test.YtcmalglippmocaaDoorTie
import Derived.ProofKit
import Derived.LaidMore
import Derived.OpenShut
set_option linter.unusedVariables false
set_option linter.unusedSimpArgs false
section
namespace Go.Proofs.YtcmalglippmocaaDoor.G
open Go.RowKit Go.Proofs.YtcmalglippmocaaDoorW.PrintWords Go.Proofs.YtcmalglippmocaaDoorW.PrintLast Go.Proofs.YtcmalglippmocaaDoorW.PrintMore
attribute [local go_sem] max2_int min2_int max_two min_two max_three min_three max_four min_four   -- for this text's walks alone
set_option linter.unusedVariables false
set_option linter.unusedSimpArgs false

/-! ### palanquinlaw13_GuePorts: function 13 -/
mutual
def palanquinlaw13_GuePorts.j0 : Nat → Int → Int → Bool → ByteArray → ByteArray → ByteArray → Bool → Option (Bool)
  | 0, _, _, _, _, _, _, _ => none
  | k + 1, x0, x1, x2, x3, x4, x5, x38 => if x38 = true then (some true) else ((gue_Put.f (wrap64 (x0)) x2 x3 x4 x5).bind fun bt332 => ((gue_Put.f (wrap64 (x1)) x2 x3 x4 x5).bind fun bt334 => ((gue_Put.f (wrap64 (x0)) x2 x4 x3 x5).bind fun bt336 => (if bt332.2 = bt334.2 then (if bt332.2 = bt336.2 then (palanquinlaw13_GuePorts.j1 k x1 x2 x3 x4 x5 bt332.1 bt332.2 bt334.1 (bt332.1.toList != bt336.1.toList)) else (palanquinlaw13_GuePorts.j1 k x1 x2 x3 x4 x5 bt332.1 bt332.2 bt334.1 true)) else (palanquinlaw13_GuePorts.j1 k x1 x2 x3 x4 x5 bt332.1 bt332.2 bt334.1 true)))))
def palanquinlaw13_GuePorts.j1 : Nat → Int → Bool → ByteArray → ByteArray → ByteArray → ByteArray → Int → ByteArray → Bool → Option (Bool)
  | 0, _, _, _, _, _, _, _, _, _ => none
  | k + 1, x1, x2, x3, x4, x5, x13, x14, x15, x84 => if x84 = true then (some false) else (if x14 = 0 then ((gue_Get.f x3 x4 x15).bind fun bt338 => (if 2 ≤ 6 then (if 6 ≤ (x13.size : Int) then (if 6 ≤ (x15.size : Int) then (if (x13.extract 2 6).toList = (x15.extract 2 6).toList then (if 8 ≤ (x13.size : Int) then (if 8 ≤ (x15.size : Int) then (if (x13.extract 8 x13.size).toList = (x15.extract 8 x15.size).toList then (if x2 = true then (if bt338.2.2.2 = 0 then (if bt338.1 = (wrap64 (x1)) then (some (bt338.2.2.1.toList == x5.toList)) else (some false)) else (some false)) else (if 2 ≤ (x13.size : Int) then (if 2 ≤ (x15.size : Int) then (if (x13.extract 2 x13.size).toList = (x15.extract 2 x15.size).toList then (if bt338.2.2.2 = 0 then (if bt338.1 = (wrap64 (x1)) then (some (bt338.2.2.1.toList == x5.toList)) else (some false)) else (some false)) else (some false)) else (none)) else (none))) else (some false)) else (none)) else (none)) else (some false)) else (none)) else (none)) else (none))) else (if x13.toList = ([] : List UInt8) then (some (x15.toList == ([] : List UInt8))) else (some false)))
end
def palanquinlaw13_GuePorts.f (k : Nat) (a0 : Int) (a1 : Int) (a2 : Bool) (a3 : ByteArray) (a4 : ByteArray) (a5 : ByteArray) : Option (Bool) := (palanquinlaw13_awake.f).bind fun t330 => (if t330 = true then ((palanquinlaw13_few.f a3 a4 a5 (⟨#[]⟩ : ByteArray)).bind fun t331 => (if t331 = true then (if (a3.size : Int) = 4 then (palanquinlaw13_GuePorts.j0 k a0 a1 a2 a3 a4 a5 ((a4.size : Int) != 4)) else (palanquinlaw13_GuePorts.j0 k a0 a1 a2 a3 a4 a5 true)) else (palanquinlaw13_GuePorts.j0 k a0 a1 a2 a3 a4 a5 true))) else (some false))
theorem palanquinlaw13_GuePorts.mono_l : ∀ k, (∀ y0 y1 y2 y3 y4 y5 y6, LeO (palanquinlaw13_GuePorts.j0 k y0 y1 y2 y3 y4 y5 y6) (palanquinlaw13_GuePorts.j0 (k + 1) y0 y1 y2 y3 y4 y5 y6)) ∧ (∀ y0 y1 y2 y3 y4 y5 y6 y7 y8, LeO (palanquinlaw13_GuePorts.j1 k y0 y1 y2 y3 y4 y5 y6 y7 y8) (palanquinlaw13_GuePorts.j1 (k + 1) y0 y1 y2 y3 y4 y5 y6 y7 y8))
  | 0 => ⟨fun _ _ _ _ _ _ _ r h => by simp [palanquinlaw13_GuePorts.j0] at h, fun _ _ _ _ _ _ _ _ _ r h => by simp [palanquinlaw13_GuePorts.j1] at h⟩
  | k + 1 => by
    obtain ⟨ih0, ih1⟩ := palanquinlaw13_GuePorts.mono_l k
    refine ⟨?_, ?_⟩
    · intro y0 y1 y2 y3 y4 y5 y6
      unfold palanquinlaw13_GuePorts.j0
      repeat' first
      | (with_reducible exact ih0 _ _ _ _ _ _ _)
      | (with_reducible exact ih1 _ _ _ _ _ _ _ _ _)
      | (with_reducible exact LeO.refl _)
      | (with_reducible exact LeO.none _)
      | (with_reducible refine LeO.ite ?_ ?_)
      | (with_reducible refine LeO.bind ?_ (fun _ => ?_))
      | exact ih0 _ _ _ _ _ _ _
      | exact ih1 _ _ _ _ _ _ _ _ _
      | exact LeO.none _
      | refine LeO.ite ?_ ?_
      | refine LeO.bind ?_ (fun _ => ?_)
    · intro y0 y1 y2 y3 y4 y5 y6 y7 y8
      unfold palanquinlaw13_GuePorts.j1
      repeat' first
      | (with_reducible exact ih0 _ _ _ _ _ _ _)
      | (with_reducible exact ih1 _ _ _ _ _ _ _ _ _)
      | (with_reducible exact LeO.refl _)
      | (with_reducible exact LeO.none _)
      | (with_reducible refine LeO.ite ?_ ?_)
      | (with_reducible refine LeO.bind ?_ (fun _ => ?_))
      | exact ih0 _ _ _ _ _ _ _
      | exact ih1 _ _ _ _ _ _ _ _ _
      | exact LeO.none _
      | refine LeO.ite ?_ ?_
      | refine LeO.bind ?_ (fun _ => ?_)
theorem palanquinlaw13_GuePorts.mono : ∀ a0 a1 a2 a3 a4 a5 k, LeO (palanquinlaw13_GuePorts.f k a0 a1 a2 a3 a4 a5) (palanquinlaw13_GuePorts.f (k + 1) a0 a1 a2 a3 a4 a5) := by
  intro a0 a1 a2 a3 a4 a5 k
  obtain ⟨ih0, ih1⟩ := palanquinlaw13_GuePorts.mono_l k
  unfold palanquinlaw13_GuePorts.f
  repeat' first
      | (with_reducible exact ih0 _ _ _ _ _ _ _)
      | (with_reducible exact ih1 _ _ _ _ _ _ _ _ _)
      | (with_reducible exact LeO.refl _)
      | (with_reducible exact LeO.none _)
      | (with_reducible refine LeO.ite ?_ ?_)
      | (with_reducible refine LeO.bind ?_ (fun _ => ?_))
      | exact ih0 _ _ _ _ _ _ _
      | exact ih1 _ _ _ _ _ _ _ _ _
      | exact LeO.none _
      | refine LeO.ite ?_ ?_
      | refine LeO.bind ?_ (fun _ => ?_)
theorem palanquinlaw13_GuePorts.j1_no : ∀ k y0 y1 y2 y3 y4 y5 y6 y7 r, palanquinlaw13_GuePorts.j1 k y0 y1 y2 y3 y4 y5 y6 y7 true = some r → Aside0 (r = true) → False
  | 0, _, _, _, _, _, _, _, _, _ => fun h _ => by simp [palanquinlaw13_GuePorts.j1] at h
  | k + 1, _, _, _, _, _, _, _, _, _ => fun h hr => by rw [palanquinlaw13_GuePorts.j1, if_pos rfl] at h; exact absurd ((Option.some.inj h).trans hr.out) (by decide)
set_option maxHeartbeats 8000000 in
set_option maxRecDepth 100000 in
theorem palanquinlaw13_GuePorts.calls (k : Nat) (a0 : Int) (a1 : Int) (a2 : Bool) (a3 : ByteArray) (a4 : ByteArray) (a5 : ByteArray) (r : Bool) (w : World) (h : palanquinlaw13_GuePorts.f k a0 a1 a2 a3 a4 a5 = some r) (hrt_ : Aside0 (r = true)) (hgV_ : GV w) (hgP_ : GP w) :
    Calls Tryd.prog 13 #[.int .u16 a0, .int .u16 a1, .bool a2, .string a3, .string a4, .string a5] w fun e w' => e = .returned (.bool r) ∧ Below w.heap.size w w' := by
  have HgV_ := Aside0.mk hgV_
  clear hgV_
  have HgP_ := Aside0.mk hgP_
  clear hgP_
  have hu55 := Tryd.underlying55
  have HB := Aside0.mk (Below.refl w.heap.size w)
  have H : ((palanquinlaw13_awake.f).bind fun t330 => (if t330 = true then ((palanquinlaw13_few.f a3 a4 a5 (⟨#[]⟩ : ByteArray)).bind fun t331 => (if t331 = true then (if (a3.size : Int) = 4 then (palanquinlaw13_GuePorts.j0 k a0 a1 a2 a3 a4 a5 ((a4.size : Int) != 4)) else (palanquinlaw13_GuePorts.j0 k a0 a1 a2 a3 a4 a5 true)) else (palanquinlaw13_GuePorts.j0 k a0 a1 a2 a3 a4 a5 true))) else (some false))) = some r := h
  clear h
  replace H := Option.bind_eq_some_iff.mp H
  obtain ⟨t330, A70, H⟩ := H
  replace H : (if t330 = true then ((palanquinlaw13_few.f a3 a4 a5 (⟨#[]⟩ : ByteArray)).bind fun t331 => (if t331 = true then (if (a3.size : Int) = 4 then (palanquinlaw13_GuePorts.j0 k a0 a1 a2 a3 a4 a5 ((a4.size : Int) != 4)) else (palanquinlaw13_GuePorts.j0 k a0 a1 a2 a3 a4 a5 true)) else (palanquinlaw13_GuePorts.j0 k a0 a1 a2 a3 a4 a5 true))) else (some false)) = some r := H
  have A7 := Aside0.mk A70
  clear A70
  by_cases c8 : t330 = true
  · subst c8
    have H1 : ((palanquinlaw13_few.f a3 a4 a5 (⟨#[]⟩ : ByteArray)).bind fun t331 => (if t331 = true then (if (a3.size : Int) = 4 then (palanquinlaw13_GuePorts.j0 k a0 a1 a2 a3 a4 a5 ((a4.size : Int) != 4)) else (palanquinlaw13_GuePorts.j0 k a0 a1 a2 a3 a4 a5 true)) else (palanquinlaw13_GuePorts.j0 k a0 a1 a2 a3 a4 a5 true))) = some r := by rw [if_pos rfl] at H; exact H
    clear H
    have H := H1
    clear H1
    have HC9 := Aside0.mk H
    clear H
    go_enter Tryd.func13, Tryd.ntmps13
    go_upto_region 3 with (first | (go_at_call 34; (with_reducible refine (palanquinlaw13_awake.calls  true _ A7.out (GV.below HgV_.out (by repeat (first | (with_reducible first | exact HB.out | apply below_alloc | apply pw_below_drewN | apply below_drew1 | refine below_set ?_ GE342.out) | exact HB.out))) (GP.below HgP_.out (by repeat (first | (with_reducible first | exact HB.out | apply below_alloc | apply pw_below_drewN | apply below_drew1 | refine below_set ?_ GE342.out) | exact HB.out)))).mono ?_); rintro e w10 ⟨rfl, hb⟩; have n0_ := Aside0.mk (below_step (by repeat (first | (with_reducible first | exact HB.out | apply below_alloc | apply pw_below_drewN | apply below_drew1) | exact HB.out)) hb); clear HB; have HB := n0_; clear n0_; (try clear hb); (try clear hb2); (try clear hk); (try clear hi)))
    repeat (go_quiet (first | (go_at_call 34; (with_reducible refine (palanquinlaw13_awake.calls  true _ A7.out (GV.below HgV_.out (by repeat (first | (with_reducible first | exact HB.out | apply below_alloc | apply pw_below_drewN | apply below_drew1 | refine below_set ?_ GE342.out) | exact HB.out))) (GP.below HgP_.out (by repeat (first | (with_reducible first | exact HB.out | apply below_alloc | apply pw_below_drewN | apply below_drew1 | refine below_set ?_ GE342.out) | exact HB.out)))).mono ?_); rintro e w10 ⟨rfl, hb⟩; have n0_ := Aside0.mk (below_step (by repeat (first | (with_reducible first | exact HB.out | apply below_alloc | apply pw_below_drewN | apply below_drew1) | exact HB.out)) hb); clear HB; have HB := n0_; clear n0_; (try clear hb); (try clear hb2); (try clear hk); (try clear hi))); go_upto_region 3 with (first | (go_at_call 34; (with_reducible refine (palanquinlaw13_awake.calls  true _ A7.out (GV.below HgV_.out (by repeat (first | (with_reducible first | exact HB.out | apply below_alloc | apply pw_below_drewN | apply below_drew1 | refine below_set ?_ GE342.out) | exact HB.out))) (GP.below HgP_.out (by repeat (first | (with_reducible first | exact HB.out | apply below_alloc | apply pw_below_drewN | apply below_drew1 | refine below_set ?_ GE342.out) | exact HB.out)))).mono ?_); rintro e w10 ⟨rfl, hb⟩; have n0_ := Aside0.mk (below_step (by repeat (first | (with_reducible first | exact HB.out | apply below_alloc | apply pw_below_drewN | apply below_drew1) | exact HB.out)) hb); clear HB; have HB := n0_; clear n0_; (try clear hb); (try clear hb2); (try clear hk); (try clear hi))))
    (try simp only [Act.put, List.setIfInBounds_toArray, List.set_cons_zero, List.set_cons_succ])
    go_cut [38] (fun v38 wc => ∃ (kq : Nat) (x38_8 : Bool), v38 = .bool x38_8 ∧ Aside0 (palanquinlaw13_GuePorts.j0 kq a0 a1 a2 a3 a4 a5 x38_8 = some r) ∧ Aside0 (kq ≤ k) ∧ Aside0 (Below w.heap.size w wc))
    case first =>
      have H := HC9.out
      clear HC9
      replace H := Option.bind_eq_some_iff.mp H
      obtain ⟨t331, A110, H⟩ := H
      replace H : (if t331 = true then (if (a3.size : Int) = 4 then (palanquinlaw13_GuePorts.j0 k a0 a1 a2 a3 a4 a5 ((a4.size : Int) != 4)) else (palanquinlaw13_GuePorts.j0 k a0 a1 a2 a3 a4 a5 true)) else (palanquinlaw13_GuePorts.j0 k a0 a1 a2 a3 a4 a5 true)) = some r := H
      have A11 := Aside0.mk A110
      clear A110
      by_cases c12 : t331 = true
      · subst c12
        have H1 : (if (a3.size : Int) = 4 then (palanquinlaw13_GuePorts.j0 k a0 a1 a2 a3 a4 a5 ((a4.size : Int) != 4)) else (palanquinlaw13_GuePorts.j0 k a0 a1 a2 a3 a4 a5 true)) = some r := by rw [if_pos rfl] at H; exact H
        clear H
        have H := H1
        clear H1
        by_cases c13 : (a3.size : Int) = 4
        · rw [if_pos c13] at H
          have c13b0 : ((a3.size : Int) == 4) = true := beq_iff_eq.mpr c13
          have c13b1 : ((a3.size : Int) != 4) = false := bne_eq_false_iff_eq.mpr c13
          clear c13
          (first | rw [c13b0] | (simp only [i64_w, i32_w]; rw [c13b0]) | skip)
          have H' := Aside0.mk H
          clear H
          go_wp2_with (first | (go_at_call 35; (with_reducible refine (palanquinlaw13_few.calls a3 a4 a5 (⟨#[]⟩ : ByteArray) true _ A11.out).mono ?_); rintro e w' ⟨rfl, ⟨nd, rfl⟩⟩; (try first | exact ⟨rfl, _, World.drewN_drewN _ _ _⟩ | exact ⟨rfl, _, Eq.trans (World.drewN_drewN _ _ _) (congrArg (World.drewN _) (Nat.add_assoc _ _ _))⟩)))
          repeat (go_quiet (first | (go_at_call 35; (with_reducible refine (palanquinlaw13_few.calls a3 a4 a5 (⟨#[]⟩ : ByteArray) true _ A11.out).mono ?_); rintro e w' ⟨rfl, ⟨nd, rfl⟩⟩; (try first | exact ⟨rfl, _, World.drewN_drewN _ _ _⟩ | exact ⟨rfl, _, Eq.trans (World.drewN_drewN _ _ _) (congrArg (World.drewN _) (Nat.add_assoc _ _ _))⟩))); try go_wp2_with (first | (go_at_call 35; (with_reducible refine (palanquinlaw13_few.calls a3 a4 a5 (⟨#[]⟩ : ByteArray) true _ A11.out).mono ?_); rintro e w' ⟨rfl, ⟨nd, rfl⟩⟩; (try first | exact ⟨rfl, _, World.drewN_drewN _ _ _⟩ | exact ⟨rfl, _, Eq.trans (World.drewN_drewN _ _ _) (congrArg (World.drewN _) (Nat.add_assoc _ _ _))⟩))))
          go_meet
          case rel => exact ⟨_, (((a4.size : Int) != 4)), (by first | rfl | (simp; done) | (simp [*]; done)), H', ⟨by first | omega | exact Nat.le_refl _⟩, ⟨by repeat (first | (with_reducible first | exact HB.out | apply below_alloc | apply pw_below_drewN | apply below_drew1) | exact HB.out)⟩⟩
        · rw [if_neg c13] at H
          have c13b0 : ((a3.size : Int) == 4) = false := beq_eq_false_iff_ne.mpr c13
          have c13b1 : ((a3.size : Int) != 4) = true := bne_iff_ne.mpr c13
          (first | rw [c13b0] | (simp only [i64_w, i32_w]; rw [c13b0]) | skip)
          have H' := Aside0.mk H
          clear H
          go_wp2_with (first | (go_at_call 35; (with_reducible refine (palanquinlaw13_few.calls a3 a4 a5 (⟨#[]⟩ : ByteArray) true _ A11.out).mono ?_); rintro e w' ⟨rfl, ⟨nd, rfl⟩⟩; (try first | exact ⟨rfl, _, World.drewN_drewN _ _ _⟩ | exact ⟨rfl, _, Eq.trans (World.drewN_drewN _ _ _) (congrArg (World.drewN _) (Nat.add_assoc _ _ _))⟩)))
          repeat (go_quiet (first | (go_at_call 35; (with_reducible refine (palanquinlaw13_few.calls a3 a4 a5 (⟨#[]⟩ : ByteArray) true _ A11.out).mono ?_); rintro e w' ⟨rfl, ⟨nd, rfl⟩⟩; (try first | exact ⟨rfl, _, World.drewN_drewN _ _ _⟩ | exact ⟨rfl, _, Eq.trans (World.drewN_drewN _ _ _) (congrArg (World.drewN _) (Nat.add_assoc _ _ _))⟩))); try go_wp2_with (first | (go_at_call 35; (with_reducible refine (palanquinlaw13_few.calls a3 a4 a5 (⟨#[]⟩ : ByteArray) true _ A11.out).mono ?_); rintro e w' ⟨rfl, ⟨nd, rfl⟩⟩; (try first | exact ⟨rfl, _, World.drewN_drewN _ _ _⟩ | exact ⟨rfl, _, Eq.trans (World.drewN_drewN _ _ _) (congrArg (World.drewN _) (Nat.add_assoc _ _ _))⟩))))
          go_meet
          case rel => exact ⟨_, (true), (by first | rfl | (simp; done) | (simp [*]; done)), H', ⟨by first | omega | exact Nat.le_refl _⟩, ⟨by repeat (first | (with_reducible first | exact HB.out | apply below_alloc | apply pw_below_drewN | apply below_drew1) | exact HB.out)⟩⟩
      · replace c12 := Bool.eq_false_iff.mpr c12
        subst c12
        have H1 : (palanquinlaw13_GuePorts.j0 k a0 a1 a2 a3 a4 a5 true) = some r := by rw [if_neg (show ¬ (false = true) by decide)] at H; exact H
        clear H
        have H := H1
        clear H1
        have H' := Aside0.mk H
        clear H
        go_wp2_with (first | (go_at_call 35; (with_reducible refine (palanquinlaw13_few.calls a3 a4 a5 (⟨#[]⟩ : ByteArray) false _ A11.out).mono ?_); rintro e w' ⟨rfl, ⟨nd, rfl⟩⟩; (try first | exact ⟨rfl, _, World.drewN_drewN _ _ _⟩ | exact ⟨rfl, _, Eq.trans (World.drewN_drewN _ _ _) (congrArg (World.drewN _) (Nat.add_assoc _ _ _))⟩)))
        repeat (go_quiet (first | (go_at_call 35; (with_reducible refine (palanquinlaw13_few.calls a3 a4 a5 (⟨#[]⟩ : ByteArray) false _ A11.out).mono ?_); rintro e w' ⟨rfl, ⟨nd, rfl⟩⟩; (try first | exact ⟨rfl, _, World.drewN_drewN _ _ _⟩ | exact ⟨rfl, _, Eq.trans (World.drewN_drewN _ _ _) (congrArg (World.drewN _) (Nat.add_assoc _ _ _))⟩))); try go_wp2_with (first | (go_at_call 35; (with_reducible refine (palanquinlaw13_few.calls a3 a4 a5 (⟨#[]⟩ : ByteArray) false _ A11.out).mono ?_); rintro e w' ⟨rfl, ⟨nd, rfl⟩⟩; (try first | exact ⟨rfl, _, World.drewN_drewN _ _ _⟩ | exact ⟨rfl, _, Eq.trans (World.drewN_drewN _ _ _) (congrArg (World.drewN _) (Nat.add_assoc _ _ _))⟩))))
        go_meet
        case rel => exact ⟨_, (true), (by first | rfl | (simp; done) | (simp [*]; done)), H', ⟨by first | omega | exact Nat.le_refl _⟩, ⟨by repeat (first | (with_reducible first | exact HB.out | apply below_alloc | apply pw_below_drewN | apply below_drew1) | exact HB.out)⟩⟩
    case rest =>
      clear HC9
      try clear c1
      try clear p2
      try clear c8
      try clear c12
      try clear c13
      try clear c13b0
      try clear c13b1
      obtain ⟨kq, x38_8, rfl, HA, HJ8, HB⟩ := hcut
      cases kq with
      | zero => exact absurd HA.out (by simp [palanquinlaw13_GuePorts.j0])
      | succ kj8 =>
        have H := HA.out
        clear HA
        simp only [palanquinlaw13_GuePorts.j0] at H
        by_cases c14 : x38_8 = true
        · subst c14
          have H1 : (some true) = some r := by rw [if_pos rfl] at H; exact H
          clear H
          have H := H1
          clear H1
          obtain rfl := Option.some.inj H
          go_wp2
          repeat (go_quiet (fail); try go_wp2)
          go_ret
          exact ⟨by first | rfl | (simp [errW_none, errW_some] <;> rfl) | (simp [*, errW_none, errW_some] <;> rfl), by repeat (first | (with_reducible first | exact HB.out | apply below_alloc | apply pw_below_drewN | apply below_drew1) | exact HB.out)⟩
        · replace c14 := Bool.eq_false_iff.mpr c14
          subst c14
          have H1 : ((gue_Put.f (wrap64 (a0)) a2 a3 a4 a5).bind fun bt332 => ((gue_Put.f (wrap64 (a1)) a2 a3 a4 a5).bind fun bt334 => ((gue_Put.f (wrap64 (a0)) a2 a4 a3 a5).bind fun bt336 => (if bt332.2 = bt334.2 then (if bt332.2 = bt336.2 then (palanquinlaw13_GuePorts.j1 kj8 a1 a2 a3 a4 a5 bt332.1 bt332.2 bt334.1 (bt332.1.toList != bt336.1.toList)) else (palanquinlaw13_GuePorts.j1 kj8 a1 a2 a3 a4 a5 bt332.1 bt332.2 bt334.1 true)) else (palanquinlaw13_GuePorts.j1 kj8 a1 a2 a3 a4 a5 bt332.1 bt332.2 bt334.1 true))))) = some r := by rw [if_neg (show ¬ (false = true) by decide)] at H; exact H
          clear H
          have H := H1
          clear H1
          replace H := Option.bind_eq_some_iff.mp H
          obtain ⟨⟨t332, t333⟩, A150, H⟩ := H
          replace H : ((gue_Put.f (wrap64 (a1)) a2 a3 a4 a5).bind fun bt334 => ((gue_Put.f (wrap64 (a0)) a2 a4 a3 a5).bind fun bt336 => (if t333 = bt334.2 then (if t333 = bt336.2 then (palanquinlaw13_GuePorts.j1 kj8 a1 a2 a3 a4 a5 t332 t333 bt334.1 (t332.toList != bt336.1.toList)) else (palanquinlaw13_GuePorts.j1 kj8 a1 a2 a3 a4 a5 t332 t333 bt334.1 true)) else (palanquinlaw13_GuePorts.j1 kj8 a1 a2 a3 a4 a5 t332 t333 bt334.1 true)))) = some r := H
          have A15 := Aside0.mk A150
          clear A150
          replace H := Option.bind_eq_some_iff.mp H
          obtain ⟨⟨t334, t335⟩, A160, H⟩ := H
          replace H : ((gue_Put.f (wrap64 (a0)) a2 a4 a3 a5).bind fun bt336 => (if t333 = t335 then (if t333 = bt336.2 then (palanquinlaw13_GuePorts.j1 kj8 a1 a2 a3 a4 a5 t332 t333 t334 (t332.toList != bt336.1.toList)) else (palanquinlaw13_GuePorts.j1 kj8 a1 a2 a3 a4 a5 t332 t333 t334 true)) else (palanquinlaw13_GuePorts.j1 kj8 a1 a2 a3 a4 a5 t332 t333 t334 true))) = some r := H
          have A16 := Aside0.mk A160
          clear A160
          replace H := Option.bind_eq_some_iff.mp H
          obtain ⟨⟨t336, t337⟩, A170, H⟩ := H
          replace H : (if t333 = t335 then (if t333 = t337 then (palanquinlaw13_GuePorts.j1 kj8 a1 a2 a3 a4 a5 t332 t333 t334 (t332.toList != t336.toList)) else (palanquinlaw13_GuePorts.j1 kj8 a1 a2 a3 a4 a5 t332 t333 t334 true)) else (palanquinlaw13_GuePorts.j1 kj8 a1 a2 a3 a4 a5 t332 t333 t334 true)) = some r := H
          have A17 := Aside0.mk A170
          clear A170
          have HC18 := Aside0.mk H
          clear H
          go_upto_region 8 with (first | (go_at_call 36; (with_reducible refine (gue_Put.calls (wrap64 (a0)) a2 a3 a4 a5 t332 t333 _ A15.out (GV.below HgV_.out (by repeat (first | (with_reducible first | exact HB.out | apply below_alloc | apply pw_below_drewN | apply below_drew1 | refine below_set ?_ GE342.out) | exact HB.out))) (GP.below HgP_.out (by repeat (first | (with_reducible first | exact HB.out | apply below_alloc | apply pw_below_drewN | apply below_drew1 | refine below_set ?_ GE342.out) | exact HB.out)))).mono ?_); rintro e w19 ⟨rfl, hb⟩; have n0_ := Aside0.mk (below_step (by repeat (first | (with_reducible first | exact HB.out | apply below_alloc | apply pw_below_drewN | apply below_drew1) | exact HB.out)) hb); clear HB; have HB := n0_; clear n0_; (try clear hb); (try clear hb2); (try clear hk); (try clear hi)) | (go_at_call 36; (with_reducible refine (gue_Put.calls (wrap64 (a1)) a2 a3 a4 a5 t334 t335 _ A16.out (GV.below HgV_.out (by repeat (first | (with_reducible first | exact HB.out | apply below_alloc | apply pw_below_drewN | apply below_drew1 | refine below_set ?_ GE342.out) | exact HB.out))) (GP.below HgP_.out (by repeat (first | (with_reducible first | exact HB.out | apply below_alloc | apply pw_below_drewN | apply below_drew1 | refine below_set ?_ GE342.out) | exact HB.out)))).mono ?_); rintro e w20 ⟨rfl, hb⟩; have n0_ := Aside0.mk (below_step (by repeat (first | (with_reducible first | exact HB.out | apply below_alloc | apply pw_below_drewN | apply below_drew1) | exact HB.out)) hb); clear HB; have HB := n0_; clear n0_; (try clear hb); (try clear hb2); (try clear hk); (try clear hi)) | (go_at_call 36; (with_reducible refine (gue_Put.calls (wrap64 (a0)) a2 a4 a3 a5 t336 t337 _ A17.out (GV.below HgV_.out (by repeat (first | (with_reducible first | exact HB.out | apply below_alloc | apply pw_below_drewN | apply below_drew1 | refine below_set ?_ GE342.out) | exact HB.out))) (GP.below HgP_.out (by repeat (first | (with_reducible first | exact HB.out | apply below_alloc | apply pw_below_drewN | apply below_drew1 | refine below_set ?_ GE342.out) | exact HB.out)))).mono ?_); rintro e w21 ⟨rfl, hb⟩; have n0_ := Aside0.mk (below_step (by repeat (first | (with_reducible first | exact HB.out | apply below_alloc | apply pw_below_drewN | apply below_drew1) | exact HB.out)) hb); clear HB; have HB := n0_; clear n0_; (try clear hb); (try clear hb2); (try clear hk); (try clear hi)))
          repeat (go_quiet (first | (go_at_call 36; (with_reducible refine (gue_Put.calls (wrap64 (a0)) a2 a3 a4 a5 t332 t333 _ A15.out (GV.below HgV_.out (by repeat (first | (with_reducible first | exact HB.out | apply below_alloc | apply pw_below_drewN | apply below_drew1 | refine below_set ?_ GE342.out) | exact HB.out))) (GP.below HgP_.out (by repeat (first | (with_reducible first | exact HB.out | apply below_alloc | apply pw_below_drewN | apply below_drew1 | refine below_set ?_ GE342.out) | exact HB.out)))).mono ?_); rintro e w19 ⟨rfl, hb⟩; have n0_ := Aside0.mk (below_step (by repeat (first | (with_reducible first | exact HB.out | apply below_alloc | apply pw_below_drewN | apply below_drew1) | exact HB.out)) hb); clear HB; have HB := n0_; clear n0_; (try clear hb); (try clear hb2); (try clear hk); (try clear hi)) | (go_at_call 36; (with_reducible refine (gue_Put.calls (wrap64 (a1)) a2 a3 a4 a5 t334 t335 _ A16.out (GV.below HgV_.out (by repeat (first | (with_reducible first | exact HB.out | apply below_alloc | apply pw_below_drewN | apply below_drew1 | refine below_set ?_ GE342.out) | exact HB.out))) (GP.below HgP_.out (by repeat (first | (with_reducible first | exact HB.out | apply below_alloc | apply pw_below_drewN | apply below_drew1 | refine below_set ?_ GE342.out) | exact HB.out)))).mono ?_); rintro e w20 ⟨rfl, hb⟩; have n0_ := Aside0.mk (below_step (by repeat (first | (with_reducible first | exact HB.out | apply below_alloc | apply pw_below_drewN | apply below_drew1) | exact HB.out)) hb); clear HB; have HB := n0_; clear n0_; (try clear hb); (try clear hb2); (try clear hk); (try clear hi)) | (go_at_call 36; (with_reducible refine (gue_Put.calls (wrap64 (a0)) a2 a4 a3 a5 t336 t337 _ A17.out (GV.below HgV_.out (by repeat (first | (with_reducible first | exact HB.out | apply below_alloc | apply pw_below_drewN | apply below_drew1 | refine below_set ?_ GE342.out) | exact HB.out))) (GP.below HgP_.out (by repeat (first | (with_reducible first | exact HB.out | apply below_alloc | apply pw_below_drewN | apply below_drew1 | refine below_set ?_ GE342.out) | exact HB.out)))).mono ?_); rintro e w21 ⟨rfl, hb⟩; have n0_ := Aside0.mk (below_step (by repeat (first | (with_reducible first | exact HB.out | apply below_alloc | apply pw_below_drewN | apply below_drew1) | exact HB.out)) hb); clear HB; have HB := n0_; clear n0_; (try clear hb); (try clear hb2); (try clear hk); (try clear hi))); go_upto_region 8 with (first | (go_at_call 36; (with_reducible refine (gue_Put.calls (wrap64 (a0)) a2 a3 a4 a5 t332 t333 _ A15.out (GV.below HgV_.out (by repeat (first | (with_reducible first | exact HB.out | apply below_alloc | apply pw_below_drewN | apply below_drew1 | refine below_set ?_ GE342.out) | exact HB.out))) (GP.below HgP_.out (by repeat (first | (with_reducible first | exact HB.out | apply below_alloc | apply pw_below_drewN | apply below_drew1 | refine below_set ?_ GE342.out) | exact HB.out)))).mono ?_); rintro e w19 ⟨rfl, hb⟩; have n0_ := Aside0.mk (below_step (by repeat (first | (with_reducible first | exact HB.out | apply below_alloc | apply pw_below_drewN | apply below_drew1) | exact HB.out)) hb); clear HB; have HB := n0_; clear n0_; (try clear hb); (try clear hb2); (try clear hk); (try clear hi)) | (go_at_call 36; (with_reducible refine (gue_Put.calls (wrap64 (a1)) a2 a3 a4 a5 t334 t335 _ A16.out (GV.below HgV_.out (by repeat (first | (with_reducible first | exact HB.out | apply below_alloc | apply pw_below_drewN | apply below_drew1 | refine below_set ?_ GE342.out) | exact HB.out))) (GP.below HgP_.out (by repeat (first | (with_reducible first | exact HB.out | apply below_alloc | apply pw_below_drewN | apply below_drew1 | refine below_set ?_ GE342.out) | exact HB.out)))).mono ?_); rintro e w20 ⟨rfl, hb⟩; have n0_ := Aside0.mk (below_step (by repeat (first | (with_reducible first | exact HB.out | apply below_alloc | apply pw_below_drewN | apply below_drew1) | exact HB.out)) hb); clear HB; have HB := n0_; clear n0_; (try clear hb); (try clear hb2); (try clear hk); (try clear hi)) | (go_at_call 36; (with_reducible refine (gue_Put.calls (wrap64 (a0)) a2 a4 a3 a5 t336 t337 _ A17.out (GV.below HgV_.out (by repeat (first | (with_reducible first | exact HB.out | apply below_alloc | apply pw_below_drewN | apply below_drew1 | refine below_set ?_ GE342.out) | exact HB.out))) (GP.below HgP_.out (by repeat (first | (with_reducible first | exact HB.out | apply below_alloc | apply pw_below_drewN | apply below_drew1 | refine below_set ?_ GE342.out) | exact HB.out)))).mono ?_); rintro e w21 ⟨rfl, hb⟩; have n0_ := Aside0.mk (below_step (by repeat (first | (with_reducible first | exact HB.out | apply below_alloc | apply pw_below_drewN | apply below_drew1) | exact HB.out)) hb); clear HB; have HB := n0_; clear n0_; (try clear hb); (try clear hb2); (try clear hk); (try clear hi))))
          (try simp only [Act.put, List.setIfInBounds_toArray, List.set_cons_zero, List.set_cons_succ])
          go_cut [84] (fun v84 wc => ∃ (kq : Nat) (x84_17 : Bool), v84 = .bool x84_17 ∧ Aside0 (palanquinlaw13_GuePorts.j1 kq a1 a2 a3 a4 a5 t332 t333 t334 x84_17 = some r) ∧ Aside0 (kq ≤ kj8) ∧ Aside0 (Below w.heap.size w wc))
          case first =>
            have H := HC18.out
            clear HC18
            by_cases c22 : t333 = t335
            · rw [if_pos c22] at H
              have c22b0 : (t333 == t335) = true := beq_iff_eq.mpr c22
              have c22b1 : (t333 != t335) = false := bne_eq_false_iff_eq.mpr c22
              clear c22
              (first | rw [c22b0] | (simp only [i64_w, i32_w]; rw [c22b0]) | skip)
              by_cases c23 : t333 = t337
              · rw [if_pos c23] at H
                have c23b0 : (t333 == t337) = true := beq_iff_eq.mpr c23
                have c23b1 : (t333 != t337) = false := bne_eq_false_iff_eq.mpr c23
                clear c23
                have H' := Aside0.mk H
                clear H
                go_wp2
                repeat (go_quiet (fail); try go_wp2)
                go_meet
                case rel => exact ⟨_, ((t332.toList != t336.toList)), (by first | rfl | (simp; done) | (simp [*]; done)), H', ⟨by have := HJ8.out; first | omega | exact Nat.le_refl _⟩, ⟨by repeat (first | (with_reducible first | exact HB.out | apply below_alloc | apply pw_below_drewN | apply below_drew1) | exact HB.out)⟩⟩
              · rw [if_neg c23] at H
                exact (palanquinlaw13_GuePorts.j1_no _ _ _ _ _ _ _ _ _ _ H hrt_).elim
            · rw [if_neg c22] at H
              exact (palanquinlaw13_GuePorts.j1_no _ _ _ _ _ _ _ _ _ _ H hrt_).elim
          case rest =>
            clear HC18
            try clear c1
            try clear c2
            try clear p2
            try clear p6
            try clear c8
            try clear c12
            try clear c13
            try clear c13b0
            try clear c13b1
            try clear c14
            try clear c22
            try clear c22b0
            try clear c22b1
            try clear c23
            try clear c23b0
            try clear c23b1
            try clear p2
            obtain ⟨kq, x84_17, rfl, HA, HJ17, HB⟩ := hcut
            cases kq with
            | zero => exact absurd HA.out (by simp [palanquinlaw13_GuePorts.j1])
            | succ kj17 =>
              have H := HA.out
              clear HA
              simp only [palanquinlaw13_GuePorts.j1] at H
              by_cases c24 : x84_17 = true
              · subst c24
                have H1 : (some false) = some r := by rw [if_pos rfl] at H; exact H
                exact absurd ((Option.some.inj H1).trans hrt_.out) (by decide)
              · replace c24 := Bool.eq_false_iff.mpr c24
                subst c24
                have H1 : (if t333 = 0 then ((gue_Get.f a3 a4 t334).bind fun bt338 => (if 2 ≤ 6 then (if 6 ≤ (t332.size : Int) then (if 6 ≤ (t334.size : Int) then (if (t332.extract 2 6).toList = (t334.extract 2 6).toList then (if 8 ≤ (t332.size : Int) then (if 8 ≤ (t334.size : Int) then (if (t332.extract 8 t332.size).toList = (t334.extract 8 t334.size).toList then (if a2 = true then (if bt338.2.2.2 = 0 then (if bt338.1 = (wrap64 (a1)) then (some (bt338.2.2.1.toList == a5.toList)) else (some false)) else (some false)) else (if 2 ≤ (t332.size : Int) then (if 2 ≤ (t334.size : Int) then (if (t332.extract 2 t332.size).toList = (t334.extract 2 t334.size).toList then (if bt338.2.2.2 = 0 then (if bt338.1 = (wrap64 (a1)) then (some (bt338.2.2.1.toList == a5.toList)) else (some false)) else (some false)) else (some false)) else (none)) else (none))) else (some false)) else (none)) else (none)) else (some false)) else (none)) else (none)) else (none))) else (if t332.toList = ([] : List UInt8) then (some (t334.toList == ([] : List UInt8))) else (some false))) = some r := by rw [if_neg (show ¬ (false = true) by decide)] at H; exact H
                clear H
                have H := H1
                clear H1
                by_cases c25 : t333 = 0
                · rw [if_pos c25] at H
                  have c25b0 : (t333 == 0) = true := beq_iff_eq.mpr c25
                  have c25b1 : (t333 != 0) = false := bne_eq_false_iff_eq.mpr c25
                  clear c25
                  replace H := Option.bind_eq_some_iff.mp H
                  obtain ⟨⟨t338, t339, t340, t341⟩, A260, H⟩ := H
                  replace H : (if 2 ≤ 6 then (if 6 ≤ (t332.size : Int) then (if 6 ≤ (t334.size : Int) then (if (t332.extract 2 6).toList = (t334.extract 2 6).toList then (if 8 ≤ (t332.size : Int) then (if 8 ≤ (t334.size : Int) then (if (t332.extract 8 t332.size).toList = (t334.extract 8 t334.size).toList then (if a2 = true then (if t341 = 0 then (if t338 = (wrap64 (a1)) then (some (t340.toList == a5.toList)) else (some false)) else (some false)) else (if 2 ≤ (t332.size : Int) then (if 2 ≤ (t334.size : Int) then (if (t332.extract 2 t332.size).toList = (t334.extract 2 t334.size).toList then (if t341 = 0 then (if t338 = (wrap64 (a1)) then (some (t340.toList == a5.toList)) else (some false)) else (some false)) else (some false)) else (none)) else (none))) else (some false)) else (none)) else (none)) else (some false)) else (none)) else (none)) else (none)) = some r := H
                  have A26 := Aside0.mk A260
                  clear A260
                  by_cases c27 : 2 ≤ 6
                  · rw [if_pos c27] at H
                    have c27b0 := eq_true c27
                    have c27b1 : decide (2 ≤ 6) = true := decide_eq_true c27
                    clear c27
                    by_cases c28 : 6 ≤ (t332.size : Int)
                    · rw [if_pos c28] at H
                      have c28b0 := eq_true c28
                      have c28b1 : decide (6 ≤ (t332.size : Int)) = true := decide_eq_true c28
                      clear c28
                      have c29b0 := eq_true (of_decide_eq_true (by first | (with_reducible assumption) | assumption) : 2 ≤ 6)
                      by_cases c30 : 6 ≤ (t334.size : Int)
                      · rw [if_pos c30] at H
                        have c30b0 := eq_true c30
                        have c30b1 : decide (6 ≤ (t334.size : Int)) = true := decide_eq_true c30
                        clear c30
                        by_cases c31 : (t332.extract 2 6).toList = (t334.extract 2 6).toList
                        · rw [if_pos c31] at H
                          have c31b0 : ((t332.extract 2 6).toList == (t334.extract 2 6).toList) = true := beq_iff_eq.mpr c31
                          have c31b1 : ((t332.extract 2 6).toList != (t334.extract 2 6).toList) = false := bne_eq_false_iff_eq.mpr c31
                          clear c31
                          by_cases c32 : 8 ≤ (t332.size : Int)
                          · rw [if_pos c32] at H
                            have c32b0 := eq_true c32
                            have c32b1 : decide (8 ≤ (t332.size : Int)) = true := decide_eq_true c32
                            clear c32
                            by_cases c33 : 8 ≤ (t334.size : Int)
                            · rw [if_pos c33] at H
                              have c33b0 := eq_true c33
                              have c33b1 : decide (8 ≤ (t334.size : Int)) = true := decide_eq_true c33
                              clear c33
                              by_cases c34 : (t332.extract 8 t332.size).toList = (t334.extract 8 t334.size).toList
                              · rw [if_pos c34] at H
                                have c34b0 : ((t332.extract 8 t332.size).toList == (t334.extract 8 t334.size).toList) = true := beq_iff_eq.mpr c34
                                have c34b1 : ((t332.extract 8 t332.size).toList != (t334.extract 8 t334.size).toList) = false := bne_eq_false_iff_eq.mpr c34
                                clear c34
                                by_cases c35 : a2 = true
                                · subst c35
                                  have H1 : (if t341 = 0 then (if t338 = (wrap64 (a1)) then (some (t340.toList == a5.toList)) else (some false)) else (some false)) = some r := by rw [if_pos rfl] at H; exact H
                                  clear H
                                  have H := H1
                                  clear H1
                                  by_cases c36 : t341 = 0
                                  · rw [if_pos c36] at H
                                    have c36b0 : (t341 == 0) = true := beq_iff_eq.mpr c36
                                    have c36b1 : (t341 != 0) = false := bne_eq_false_iff_eq.mpr c36
                                    clear c36
                                    by_cases c37 : t338 = (wrap64 (a1))
                                    · rw [if_pos c37] at H
                                      have c37b0 : (t338 == (wrap64 (a1))) = true := beq_iff_eq.mpr c37
                                      have c37b1 : (t338 != (wrap64 (a1))) = false := bne_eq_false_iff_eq.mpr c37
                                      clear c37
                                      obtain rfl := Option.some.inj H
                                      go_wp2_with (first | (go_at_call 38; (with_reducible refine (gue_Get.calls a3 a4 t334 t338 t339 t340 t341 _ A26.out (GV.below HgV_.out (by repeat (first | (with_reducible first | exact HB.out | apply below_alloc | apply pw_below_drewN | apply below_drew1 | refine below_set ?_ GE342.out) | exact HB.out)))).mono ?_); rintro e w38 ⟨rfl, hb⟩; have n0_ := Aside0.mk (below_step (by repeat (first | (with_reducible first | exact HB.out | apply below_alloc | apply pw_below_drewN | apply below_drew1) | exact HB.out)) hb); clear HB; have HB := n0_; clear n0_; (try clear hb); (try clear hb2); (try clear hk); (try clear hi)) | ((with_reducible refine gate_dst (N := 19) rfl ?_); (try (refine gate_guard (by rfl) ?_; dsimp only)); refine box_event ?hg (N := 19) ?hd (cs := #[.int .i64 0, .bool false]) (t := 55) ?hr ?_; (case hd => rfl); (case hg => rfl); (case hr => first | (go_simp; done) | (go_simp; rfl)); intro gb342 hg w39 hbox hb; have n0_ := Aside0.mk (below_step (by repeat (first | (with_reducible first | exact HB.out | apply below_alloc | apply pw_below_drewN | apply below_drew1) | exact HB.out)) hb); have n1_ := Aside0.mk (hbox); have n2_ := Aside0.mk ((by rw [hg]; exact (below_size (by repeat (first | (with_reducible first | exact HB.out | apply below_alloc | apply pw_below_drewN | apply below_drew1) | exact HB.out))) : w.heap.size ≤ gb342)); have n3_ := Aside0.mk ((by rw [hg]; exact (below_size (by repeat (first | (with_reducible first | exact HB.out | apply below_alloc | apply pw_below_drewN | apply below_drew1) | exact HB.out))) : w.heap.size ≤ gb342)); clear HB; have HB := n0_; have BK342 := n1_; have GW342 := n2_; have GE342 := n3_; clear n0_ n1_ n2_ n3_; clear hb hbox hg; have hcz40_0 : w39.cell? ⟨gb342, 0, none⟩ = some (.int .i64 0) := (blk_cell BK342.out 0).trans rfl; have hcz40_1 : w39.cell? ⟨gb342, 1, none⟩ = some (.bool false) := (blk_cell BK342.out 1).trans rfl; have hfz40_0 := blk_frozen BK342.out 0; have hfz40_1 := blk_frozen BK342.out 1))
                                      try have hcz40_0 : w39.cell? ⟨gb342, 0, none⟩ = some (.int .i64 0) := (blk_cell BK342.out 0).trans rfl
                                      try have hcz40_1 : w39.cell? ⟨gb342, 1, none⟩ = some (.bool false) := (blk_cell BK342.out 1).trans rfl
                                      try have hfz40_0 := blk_frozen BK342.out 0
                                      try have hfz40_1 := blk_frozen BK342.out 1
                                      repeat (go_quiet (first | (go_at_call 38; (with_reducible refine (gue_Get.calls a3 a4 t334 t338 t339 t340 t341 _ A26.out (GV.below HgV_.out (by repeat (first | (with_reducible first | exact HB.out | apply below_alloc | apply pw_below_drewN | apply below_drew1 | refine below_set ?_ GE342.out) | exact HB.out)))).mono ?_); rintro e w38 ⟨rfl, hb⟩; have n0_ := Aside0.mk (below_step (by repeat (first | (with_reducible first | exact HB.out | apply below_alloc | apply pw_below_drewN | apply below_drew1) | exact HB.out)) hb); clear HB; have HB := n0_; clear n0_; (try clear hb); (try clear hb2); (try clear hk); (try clear hi)) | ((with_reducible refine gate_dst (N := 19) rfl ?_); (try (refine gate_guard (by rfl) ?_; dsimp only)); refine box_event ?hg (N := 19) ?hd (cs := #[.int .i64 0, .bool false]) (t := 55) ?hr ?_; (case hd => rfl); (case hg => rfl); (case hr => first | (go_simp; done) | (go_simp; rfl)); intro gb342 hg w39 hbox hb; have n0_ := Aside0.mk (below_step (by repeat (first | (with_reducible first | exact HB.out | apply below_alloc | apply pw_below_drewN | apply below_drew1) | exact HB.out)) hb); have n1_ := Aside0.mk (hbox); have n2_ := Aside0.mk ((by rw [hg]; exact (below_size (by repeat (first | (with_reducible first | exact HB.out | apply below_alloc | apply pw_below_drewN | apply below_drew1) | exact HB.out))) : w.heap.size ≤ gb342)); have n3_ := Aside0.mk ((by rw [hg]; exact (below_size (by repeat (first | (with_reducible first | exact HB.out | apply below_alloc | apply pw_below_drewN | apply below_drew1) | exact HB.out))) : w.heap.size ≤ gb342)); clear HB; have HB := n0_; have BK342 := n1_; have GW342 := n2_; have GE342 := n3_; clear n0_ n1_ n2_ n3_; clear hb hbox hg; try have hcz40_0 : w39.cell? ⟨gb342, 0, none⟩ = some (.int .i64 0) := (blk_cell BK342.out 0).trans rfl; try have hcz40_1 : w39.cell? ⟨gb342, 1, none⟩ = some (.bool false) := (blk_cell BK342.out 1).trans rfl; try have hfz40_0 := blk_frozen BK342.out 0; try have hfz40_1 := blk_frozen BK342.out 1)); try go_wp2_with (first | (go_at_call 38; (with_reducible refine (gue_Get.calls a3 a4 t334 t338 t339 t340 t341 _ A26.out (GV.below HgV_.out (by repeat (first | (with_reducible first | exact HB.out | apply below_alloc | apply pw_below_drewN | apply below_drew1 | refine below_set ?_ GE342.out) | exact HB.out)))).mono ?_); rintro e w38 ⟨rfl, hb⟩; have n0_ := Aside0.mk (below_step (by repeat (first | (with_reducible first | exact HB.out | apply below_alloc | apply pw_below_drewN | apply below_drew1) | exact HB.out)) hb); clear HB; have HB := n0_; clear n0_; (try clear hb); (try clear hb2); (try clear hk); (try clear hi)) | ((with_reducible refine gate_dst (N := 19) rfl ?_); (try (refine gate_guard (by rfl) ?_; dsimp only)); refine box_event ?hg (N := 19) ?hd (cs := #[.int .i64 0, .bool false]) (t := 55) ?hr ?_; (case hd => rfl); (case hg => rfl); (case hr => first | (go_simp; done) | (go_simp; rfl)); intro gb342 hg w39 hbox hb; have n0_ := Aside0.mk (below_step (by repeat (first | (with_reducible first | exact HB.out | apply below_alloc | apply pw_below_drewN | apply below_drew1) | exact HB.out)) hb); have n1_ := Aside0.mk (hbox); have n2_ := Aside0.mk ((by rw [hg]; exact (below_size (by repeat (first | (with_reducible first | exact HB.out | apply below_alloc | apply pw_below_drewN | apply below_drew1) | exact HB.out))) : w.heap.size ≤ gb342)); have n3_ := Aside0.mk ((by rw [hg]; exact (below_size (by repeat (first | (with_reducible first | exact HB.out | apply below_alloc | apply pw_below_drewN | apply below_drew1) | exact HB.out))) : w.heap.size ≤ gb342)); clear HB; have HB := n0_; have BK342 := n1_; have GW342 := n2_; have GE342 := n3_; clear n0_ n1_ n2_ n3_; clear hb hbox hg; try have hcz40_0 : w39.cell? ⟨gb342, 0, none⟩ = some (.int .i64 0) := (blk_cell BK342.out 0).trans rfl; try have hcz40_1 : w39.cell? ⟨gb342, 1, none⟩ = some (.bool false) := (blk_cell BK342.out 1).trans rfl; try have hfz40_0 := blk_frozen BK342.out 0; try have hfz40_1 := blk_frozen BK342.out 1)))
                                      go_ret
                                      exact ⟨by first | rfl | (simp [errW_none, errW_some] <;> rfl) | (simp [*, errW_none, errW_some] <;> rfl), by repeat (first | (with_reducible first | exact HB.out | apply below_alloc | apply pw_below_drewN | apply below_drew1 | refine below_set ?_ GE342.out) | exact HB.out)⟩
                                    · rw [if_neg c37] at H
                                      exact absurd ((Option.some.inj H).trans hrt_.out) (by decide)
                                  · rw [if_neg c36] at H
                                    exact absurd ((Option.some.inj H).trans hrt_.out) (by decide)
                                · replace c35 := Bool.eq_false_iff.mpr c35
                                  subst c35
                                  have H1 : (if 2 ≤ (t332.size : Int) then (if 2 ≤ (t334.size : Int) then (if (t332.extract 2 t332.size).toList = (t334.extract 2 t334.size).toList then (if t341 = 0 then (if t338 = (wrap64 (a1)) then (some (t340.toList == a5.toList)) else (some false)) else (some false)) else (some false)) else (none)) else (none)) = some r := by rw [if_neg (show ¬ (false = true) by decide)] at H; exact H
                                  clear H
                                  have H := H1
                                  clear H1
                                  by_cases c47 : 2 ≤ (t332.size : Int)
                                  · rw [if_pos c47] at H
                                    have c47b0 := eq_true c47
                                    have c47b1 : decide (2 ≤ (t332.size : Int)) = true := decide_eq_true c47
                                    clear c47
                                    by_cases c48 : 2 ≤ (t334.size : Int)
                                    · rw [if_pos c48] at H
                                      have c48b0 := eq_true c48
                                      have c48b1 : decide (2 ≤ (t334.size : Int)) = true := decide_eq_true c48
                                      clear c48
                                      by_cases c49 : (t332.extract 2 t332.size).toList = (t334.extract 2 t334.size).toList
                                      · rw [if_pos c49] at H
                                        have c49b0 : ((t332.extract 2 t332.size).toList == (t334.extract 2 t334.size).toList) = true := beq_iff_eq.mpr c49
                                        have c49b1 : ((t332.extract 2 t332.size).toList != (t334.extract 2 t334.size).toList) = false := bne_eq_false_iff_eq.mpr c49
                                        clear c49
                                        by_cases c50 : t341 = 0
                                        · rw [if_pos c50] at H
                                          have c50b0 : (t341 == 0) = true := beq_iff_eq.mpr c50
                                          have c50b1 : (t341 != 0) = false := bne_eq_false_iff_eq.mpr c50
                                          clear c50
                                          by_cases c51 : t338 = (wrap64 (a1))
                                          · rw [if_pos c51] at H
                                            have c51b0 : (t338 == (wrap64 (a1))) = true := beq_iff_eq.mpr c51
                                            have c51b1 : (t338 != (wrap64 (a1))) = false := bne_eq_false_iff_eq.mpr c51
                                            clear c51
                                            obtain rfl := Option.some.inj H
                                            go_wp2_with (first | (go_at_call 38; (with_reducible refine (gue_Get.calls a3 a4 t334 t338 t339 t340 t341 _ A26.out (GV.below HgV_.out (by repeat (first | (with_reducible first | exact HB.out | apply below_alloc | apply pw_below_drewN | apply below_drew1 | refine below_set ?_ GE342.out) | exact HB.out)))).mono ?_); rintro e w52 ⟨rfl, hb⟩; have n0_ := Aside0.mk (below_step (by repeat (first | (with_reducible first | exact HB.out | apply below_alloc | apply pw_below_drewN | apply below_drew1) | exact HB.out)) hb); clear HB; have HB := n0_; clear n0_; (try clear hb); (try clear hb2); (try clear hk); (try clear hi)) | ((with_reducible refine gate_dst (N := 19) rfl ?_); (try (refine gate_guard (by rfl) ?_; dsimp only)); refine box_event ?hg (N := 19) ?hd (cs := #[.int .i64 0, .bool false]) (t := 55) ?hr ?_; (case hd => rfl); (case hg => rfl); (case hr => first | (go_simp; done) | (go_simp; rfl)); intro gb342 hg w53 hbox hb; have n0_ := Aside0.mk (below_step (by repeat (first | (with_reducible first | exact HB.out | apply below_alloc | apply pw_below_drewN | apply below_drew1) | exact HB.out)) hb); have n1_ := Aside0.mk (hbox); have n2_ := Aside0.mk ((by rw [hg]; exact (below_size (by repeat (first | (with_reducible first | exact HB.out | apply below_alloc | apply pw_below_drewN | apply below_drew1) | exact HB.out))) : w.heap.size ≤ gb342)); have n3_ := Aside0.mk ((by rw [hg]; exact (below_size (by repeat (first | (with_reducible first | exact HB.out | apply below_alloc | apply pw_below_drewN | apply below_drew1) | exact HB.out))) : w.heap.size ≤ gb342)); clear HB; have HB := n0_; have BK342 := n1_; have GW342 := n2_; have GE342 := n3_; clear n0_ n1_ n2_ n3_; clear hb hbox hg; have hcz54_0 : w53.cell? ⟨gb342, 0, none⟩ = some (.int .i64 0) := (blk_cell BK342.out 0).trans rfl; have hcz54_1 : w53.cell? ⟨gb342, 1, none⟩ = some (.bool false) := (blk_cell BK342.out 1).trans rfl; have hfz54_0 := blk_frozen BK342.out 0; have hfz54_1 := blk_frozen BK342.out 1))
                                            try have hcz54_0 : w53.cell? ⟨gb342, 0, none⟩ = some (.int .i64 0) := (blk_cell BK342.out 0).trans rfl
                                            try have hcz54_1 : w53.cell? ⟨gb342, 1, none⟩ = some (.bool false) := (blk_cell BK342.out 1).trans rfl
                                            try have hfz54_0 := blk_frozen BK342.out 0
                                            try have hfz54_1 := blk_frozen BK342.out 1
                                            repeat (go_quiet (first | (go_at_call 38; (with_reducible refine (gue_Get.calls a3 a4 t334 t338 t339 t340 t341 _ A26.out (GV.below HgV_.out (by repeat (first | (with_reducible first | exact HB.out | apply below_alloc | apply pw_below_drewN | apply below_drew1 | refine below_set ?_ GE342.out) | exact HB.out)))).mono ?_); rintro e w52 ⟨rfl, hb⟩; have n0_ := Aside0.mk (below_step (by repeat (first | (with_reducible first | exact HB.out | apply below_alloc | apply pw_below_drewN | apply below_drew1) | exact HB.out)) hb); clear HB; have HB := n0_; clear n0_; (try clear hb); (try clear hb2); (try clear hk); (try clear hi)) | ((with_reducible refine gate_dst (N := 19) rfl ?_); (try (refine gate_guard (by rfl) ?_; dsimp only)); refine box_event ?hg (N := 19) ?hd (cs := #[.int .i64 0, .bool false]) (t := 55) ?hr ?_; (case hd => rfl); (case hg => rfl); (case hr => first | (go_simp; done) | (go_simp; rfl)); intro gb342 hg w53 hbox hb; have n0_ := Aside0.mk (below_step (by repeat (first | (with_reducible first | exact HB.out | apply below_alloc | apply pw_below_drewN | apply below_drew1) | exact HB.out)) hb); have n1_ := Aside0.mk (hbox); have n2_ := Aside0.mk ((by rw [hg]; exact (below_size (by repeat (first | (with_reducible first | exact HB.out | apply below_alloc | apply pw_below_drewN | apply below_drew1) | exact HB.out))) : w.heap.size ≤ gb342)); have n3_ := Aside0.mk ((by rw [hg]; exact (below_size (by repeat (first | (with_reducible first | exact HB.out | apply below_alloc | apply pw_below_drewN | apply below_drew1) | exact HB.out))) : w.heap.size ≤ gb342)); clear HB; have HB := n0_; have BK342 := n1_; have GW342 := n2_; have GE342 := n3_; clear n0_ n1_ n2_ n3_; clear hb hbox hg; try have hcz54_0 : w53.cell? ⟨gb342, 0, none⟩ = some (.int .i64 0) := (blk_cell BK342.out 0).trans rfl; try have hcz54_1 : w53.cell? ⟨gb342, 1, none⟩ = some (.bool false) := (blk_cell BK342.out 1).trans rfl; try have hfz54_0 := blk_frozen BK342.out 0; try have hfz54_1 := blk_frozen BK342.out 1)); try go_wp2_with (first | (go_at_call 38; (with_reducible refine (gue_Get.calls a3 a4 t334 t338 t339 t340 t341 _ A26.out (GV.below HgV_.out (by repeat (first | (with_reducible first | exact HB.out | apply below_alloc | apply pw_below_drewN | apply below_drew1 | refine below_set ?_ GE342.out) | exact HB.out)))).mono ?_); rintro e w52 ⟨rfl, hb⟩; have n0_ := Aside0.mk (below_step (by repeat (first | (with_reducible first | exact HB.out | apply below_alloc | apply pw_below_drewN | apply below_drew1) | exact HB.out)) hb); clear HB; have HB := n0_; clear n0_; (try clear hb); (try clear hb2); (try clear hk); (try clear hi)) | ((with_reducible refine gate_dst (N := 19) rfl ?_); (try (refine gate_guard (by rfl) ?_; dsimp only)); refine box_event ?hg (N := 19) ?hd (cs := #[.int .i64 0, .bool false]) (t := 55) ?hr ?_; (case hd => rfl); (case hg => rfl); (case hr => first | (go_simp; done) | (go_simp; rfl)); intro gb342 hg w53 hbox hb; have n0_ := Aside0.mk (below_step (by repeat (first | (with_reducible first | exact HB.out | apply below_alloc | apply pw_below_drewN | apply below_drew1) | exact HB.out)) hb); have n1_ := Aside0.mk (hbox); have n2_ := Aside0.mk ((by rw [hg]; exact (below_size (by repeat (first | (with_reducible first | exact HB.out | apply below_alloc | apply pw_below_drewN | apply below_drew1) | exact HB.out))) : w.heap.size ≤ gb342)); have n3_ := Aside0.mk ((by rw [hg]; exact (below_size (by repeat (first | (with_reducible first | exact HB.out | apply below_alloc | apply pw_below_drewN | apply below_drew1) | exact HB.out))) : w.heap.size ≤ gb342)); clear HB; have HB := n0_; have BK342 := n1_; have GW342 := n2_; have GE342 := n3_; clear n0_ n1_ n2_ n3_; clear hb hbox hg; try have hcz54_0 : w53.cell? ⟨gb342, 0, none⟩ = some (.int .i64 0) := (blk_cell BK342.out 0).trans rfl; try have hcz54_1 : w53.cell? ⟨gb342, 1, none⟩ = some (.bool false) := (blk_cell BK342.out 1).trans rfl; try have hfz54_0 := blk_frozen BK342.out 0; try have hfz54_1 := blk_frozen BK342.out 1)))
                                            go_ret
                                            exact ⟨by first | rfl | (simp [errW_none, errW_some] <;> rfl) | (simp [*, errW_none, errW_some] <;> rfl), by repeat (first | (with_reducible first | exact HB.out | apply below_alloc | apply pw_below_drewN | apply below_drew1 | refine below_set ?_ GE342.out) | exact HB.out)⟩
                                          · rw [if_neg c51] at H
                                            exact absurd ((Option.some.inj H).trans hrt_.out) (by decide)
                                        · rw [if_neg c50] at H
                                          exact absurd ((Option.some.inj H).trans hrt_.out) (by decide)
                                      · rw [if_neg c49] at H
                                        exact absurd ((Option.some.inj H).trans hrt_.out) (by decide)
                                    · rw [if_neg c48] at H
                                      exact absurd H (by simp)
                                  · rw [if_neg c47] at H
                                    exact absurd H (by simp)
                              · rw [if_neg c34] at H
                                exact absurd ((Option.some.inj H).trans hrt_.out) (by decide)
                            · rw [if_neg c33] at H
                              exact absurd H (by simp)
                          · rw [if_neg c32] at H
                            exact absurd H (by simp)
                        · rw [if_neg c31] at H
                          exact absurd ((Option.some.inj H).trans hrt_.out) (by decide)
                      · rw [if_neg c30] at H
                        exact absurd H (by simp)
                    · rw [if_neg c28] at H
                      exact absurd H (by simp)
                  · rw [if_neg c27] at H
                    exact absurd H (by simp)
                · rw [if_neg c25] at H
                  have c25b0 : (t333 == 0) = false := beq_eq_false_iff_ne.mpr c25
                  have c25b1 : (t333 != 0) = true := bne_iff_ne.mpr c25
                  by_cases c70 : t332.toList = ([] : List UInt8)
                  · rw [if_pos c70] at H
                    have c70b0 : (t332.toList == ([] : List UInt8)) = true := beq_iff_eq.mpr c70
                    have c70b1 : (t332.toList != ([] : List UInt8)) = false := bne_eq_false_iff_eq.mpr c70
                    clear c70
                    obtain rfl := Option.some.inj H
                    go_wp2
                    repeat (go_quiet (fail); try go_wp2)
                    go_ret
                    exact ⟨by first | rfl | (simp [errW_none, errW_some] <;> rfl) | (simp [*, errW_none, errW_some] <;> rfl), by repeat (first | (with_reducible first | exact HB.out | apply below_alloc | apply pw_below_drewN | apply below_drew1) | exact HB.out)⟩
                  · rw [if_neg c70] at H
                    exact absurd ((Option.some.inj H).trans hrt_.out) (by decide)
  · replace c8 := Bool.eq_false_iff.mpr c8
    subst c8
    have H1 : (some false) = some r := by rw [if_neg (show ¬ (false = true) by decide)] at H; exact H
    exact absurd ((Option.some.inj H1).trans hrt_.out) (by decide)

end Go.Proofs.YtcmalglippmocaaDoor.G
end

section
/- The plain law of GuePorts: a datagram's port is told as it was; with another one all else stays, but the sum; between exchanged addresses it is the same. -/
namespace Go.Proofs.YtcmalglippmocaaDoor.Pure
open Go.RowKit Go.Proofs.YtcmalglippmocaaDoorW.PrintWords Go.Proofs.YtcmalglippmocaaDoorW.PrintLast Go.Proofs.YtcmalglippmocaaDoor.G Go.Proofs.YtcmalglippmocaaDoor.Pal
set_option linter.unusedVariables false
theorem raw_2_6 (p : Int) (x : ByteArray) (c : Nat) : bl ((gueRaw p x c).extract 2 6) = nb 2 (u64n 6080) ++ nb 2 (u64n (8 + ((guePay x).size : Int))) := by rw [cut_bl, bl_raw]; rfl
theorem raw_8 (p : Int) (x : ByteArray) (c : Nat) : bl ((gueRaw p x c).extract 8 (gueRaw p x c).size) = bl (guePay x) := by rw [ext_back, bl_raw]; rfl
theorem raw_2 (p : Int) (x : ByteArray) (c : Nat) : bl ((gueRaw p x c).extract 2 (gueRaw p x c).size) = nb 2 (u64n 6080) ++ nb 2 (u64n (8 + ((guePay x).size : Int))) ++ nb 2 (u64n (c : Int)) ++ bl (guePay x) := by rw [ext_back, bl_raw]; rfl
theorem csum_swap {s d : ByteArray} (a b : Int) (hz : s.size = d.size) (he : s.size % 2 = 0) (l : List UInt8) : csum (bl (psB s d a b) ++ l) = csum (bl (psB d s a b) ++ l) := by
  unfold csum
  rw [tot_append, tot_append, psB_swap s d a b hz he, psB_even s d a b (by omega), psB_even d s a b (by omega)]
theorem gueC_swap {s : Bool} {port : Int} {a b x : ByteArray} (hz : a.size = b.size) (he : a.size % 2 = 0) : gueC s port a b x = gueC s port b a x := by
  unfold gueC; rw [csum_swap _ _ hz he]
theorem toList_of {a b : ByteArray} (h : bl a = bl b) : a.toList = b.toList := by rw [bl_inj h]
theorem GuePorts (a0 a1 : Int) (a2 : Bool) (a3 a4 a5 : ByteArray) (h0 : (Lit.int .u16 a0).wf = true) (h1 : (Lit.int .u16 a1).wf = true) (_ : a3.size ≤ 140737488351232) (_ : a4.size ≤ 140737488351232) (_ : a5.size ≤ 140737488351232) :
    ∃ k, palanquinlaw13_GuePorts.f k a0 a1 a2 a3 a4 a5 = some true := by
  refine ⟨1 + 1, ?_⟩
  have p0 : in16 a0 := in_u16 h0
  have p1 : in16 a1 := in_u16 h1
  unfold palanquinlaw13_GuePorts.f
  obtain ⟨t, ht, hf⟩ := few13 a3 a4 a5 ⟨#[]⟩
  rw [awake13, Option.bind_some, if_pos rfl, ht, Option.bind_some]
  cases t with
  | false => rw [if_neg (by decide), palanquinlaw13_GuePorts.j0, if_pos rfl]
  | true =>
    obtain ⟨h1, h2, h3, h4⟩ := hf rfl
    rw [if_pos rfl]
    by_cases z3 : (a3.size : Int) = 4
    case neg => rw [if_neg z3, palanquinlaw13_GuePorts.j0, if_pos rfl]
    rw [if_pos z3]
    by_cases z4 : (a4.size : Int) = 4
    case neg => rw [show ((a4.size : Int) != 4) = true from bne_iff_ne.mpr z4, palanquinlaw13_GuePorts.j0, if_pos rfl]
    rw [show ((a4.size : Int) != 4) = false from bne_eq_false_iff_eq.mpr z4, palanquinlaw13_GuePorts.j0, if_neg (by decide)]
    have w0 : wrap64 a0 = a0 := by unfold wrap64; unfold in16 at p0; omega
    have w1 : wrap64 a1 = a1 := by unfold wrap64; unfold in16 at p1; omega
    rw [w0, w1]
    have bad : ∀ e, e ≠ 0 → (∀ p a b, in16 p → gue_Put.f p a2 a b a5 = some (⟨#[]⟩, e)) → ((gue_Put.f a0 a2 a3 a4 a5).bind fun bt344 => ((gue_Put.f a1 a2 a3 a4 a5).bind fun bt346 => ((gue_Put.f a0 a2 a4 a3 a5).bind fun bt348 => (if bt344.2 = bt346.2 then (if bt344.2 = bt348.2 then (palanquinlaw13_GuePorts.j1 1 a1 a2 a3 a4 a5 bt344.1 bt344.2 bt346.1 (bt344.1.toList != bt348.1.toList)) else (palanquinlaw13_GuePorts.j1 1 a1 a2 a3 a4 a5 bt344.1 bt344.2 bt346.1 true)) else (palanquinlaw13_GuePorts.j1 1 a1 a2 a3 a4 a5 bt344.1 bt344.2 bt346.1 true))))) = some true := fun e he hh => by
      rw [hh a0 a3 a4 p0, hh a1 a3 a4 p1, hh a0 a4 a3 p0]
      simp only [Option.bind_some]
      rw [if_pos trivial, if_pos trivial, bne_self_eq_false, palanquinlaw13_GuePorts.j1, if_neg (by decide), if_neg he, show (⟨#[]⟩ : ByteArray).toList = [] by decide +kernel, if_pos rfl]
      rfl
    by_cases hv : (verOf a5).2.2.2 = 0
    case neg => exact bad _ hv (fun p a b _ => gue_put_no hv)
    by_cases hz : a5.size ≤ 65523
    case neg =>
      have hc : ∀ p, in16 p → udpCheck p 6080 (4 + a5.size) = 4 := fun p hp => by unfold udpCheck; rw [if_pos ⟨hp, by unfold in16; omega⟩, if_neg (by omega)]
      exact bad 4 (by decide) (fun p a b hp => by have := gue_put_bad (s := a2) (a := a) (b := b) hv (by omega) (show udpCheck p 6080 (4 + a5.size) ≠ 0 by rw [hc p hp]; decide); rw [hc p hp] at this; exact this)
    rw [gue_put_ok hv hz p0 h1 h2, gue_put_ok hv hz p1 h1 h2, gue_put_ok hv hz p0 h2 h1]
    simp only [Option.bind_some]
    rw [if_pos trivial, if_pos trivial, gueC_swap (a := a4) (b := a3) (by omega) (by omega), bne_self_eq_false, palanquinlaw13_GuePorts.j1, if_neg (by decide), if_pos rfl,
      gue_get_raw hv hz p1 h1 h2 (gueC_le _ _ _ _ _), right_sealed (by omega), Option.bind_some]
    have zx := raw_size a0 a5 (gueC a2 a0 a3 a4 a5)
    have zy := raw_size a1 a5 (gueC a2 a1 a3 a4 a5)
    rw [if_pos rfl, if_pos (by decide), if_pos (by omega), if_pos (by omega), if_pos (toList_of ((raw_2_6 _ _ _).trans (raw_2_6 _ _ _).symm)), if_pos (by omega), if_pos (by omega), if_pos (toList_of ((raw_8 _ _ _).trans (raw_8 _ _ _).symm))]
    cases a2 with
    | true =>
      rw [if_pos rfl]
      dsimp only
      rw [if_pos rfl, if_pos w1.symm, beq_self_eq_true]
    | false =>
      have c0 : ∀ p, gueC false p a3 a4 a5 = 0 := fun p => rfl
      rw [if_neg (by decide), if_pos (by omega), if_pos (by omega), if_pos (toList_of (by rw [raw_2, raw_2, c0, c0]))]
      dsimp only
      rw [if_pos rfl, if_pos w1.symm, beq_self_eq_true]
end Go.Proofs.YtcmalglippmocaaDoor.Pure
end

section
/- Plain facts for rows: arguments that are structs of one-cell fields, and slices of strings, laid open. No function of the program in it. -/
namespace Go.Proofs.YtcmalglippmocaaDoor.Pal
open Go.RowKit Go.ChangeShapes Go.WideShapes Go.Deep Go.Proofs.YtcmalglippmocaaDoorW.PrintWords
section
variable {H : Type} {enc : TypeId × Value → H} {P : Program} {w : World} {base : Nat} {spare : Nat → Bool} {held : Bool}
theorem open_fields {r : Reach} {b0 : Nat} {t : TypeId} {fs : Array Field} {v : Value} {d : DataW H} {p : List MemPlace} (hs : P.underlying t = some (.struct fs)) (hone : oneCellFields P fs = true)
    (hv : Value.okWide P w r b0 t v) (h : DataW.Trod enc P w base spare held t v d p) :
    ∃ (cs : Array Value), v = .agg cs ∧ cs.size = P.cellsOf t ∧ ∀ (j : Nat) (f : Field) (c : Value), fs[j]? = some f → cs[j]? = some c → ∃ (n : Nat) (y : DataW H × List MemPlace), DataW.trod enc P w base spare held n f.type [c] = some y := by
  obtain ⟨cs, rfl, hsz⟩ := okWide_struct hs hv
  obtain ⟨fuel, hf⟩ := h
  obtain ⟨xs, n, _, _, _, hlen, hF⟩ := DataW.trod_struct hs hf
  refine ⟨cs, rfl, hsz, fun j f c hj hc => ?_⟩
  obtain ⟨o0, k0⟩ := hone_of hone j f hj
  have hj' : j < xs.length := by rw [hlen]; exact (Array.getElem?_eq_some_iff.1 hj).1
  refine ⟨n, xs[j], ?_⟩
  have e := hF j f hj
  rw [o0, k0, List.getElem?_eq_getElem hj'] at e
  have hc' : (Value.cells (.agg cs)).toList.drop j = c :: (Value.cells (.agg cs)).toList.drop (j + 1) := by
    obtain ⟨hlt, rfl⟩ := Array.getElem?_eq_some_iff.1 hc
    show cs.toList.drop j = cs[j] :: cs.toList.drop (j + 1)
    rw [List.drop_eq_getElem_cons (by simpa using hlt), Array.getElem_toList]
  rw [hc'] at e
  simpa using e
theorem leaf_int {n : Nat} {t : TypeId} {k : IntKind} {c : Value} {y : DataW H × List MemPlace} (ht : P.underlying t = some (.int k)) (h : DataW.trod enc P w base spare held n t [c] = some y) : ∃ a, c = .int k a ∧ (Lit.int k a).wf = true := by
  obtain ⟨a, e1, _, h2⟩ := DataW.trod_int ht h
  exact ⟨a, by simpa using e1, h2⟩
theorem leaf_str {n : Nat} {t : TypeId} {c : Value} {y : DataW H × List MemPlace} (ht : P.underlying t = some .string) (h : DataW.trod enc P w base spare held n t [c] = some y) : ∃ a : ByteArray, c = .string a ∧ a.size ≤ maxLen := by
  obtain ⟨a, e1, _, h2⟩ := DataW.trod_string ht h
  exact ⟨a, by simpa using e1, h2⟩
theorem leaf_bool {n : Nat} {t : TypeId} {c : Value} {y : DataW H × List MemPlace} (ht : P.underlying t = some .bool) (h : DataW.trod enc P w base spare held n t [c] = some y) : ∃ a : Bool, c = .bool a := by
  obtain ⟨a, e1, _⟩ := DataW.trod_bool ht h
  exact ⟨a, by simpa using e1⟩
theorem mem_texts {H : Type} {P : Program} {e : TypeId} {s : ByteArray} : ∀ {l : List ByteArray}, s ∈ l → s.size ∈ DataW.weightsAll (H := H) P e (l.map fun s => .lit (.string s.data.toList))
  | x :: l, h => by
    rw [List.map_cons, DataW.weightsAll, List.mem_append]
    rcases List.mem_cons.1 h with rfl | h
    · left; simp [DataW.weights]
    · exact Or.inr (mem_texts h)
theorem open_texts {r : Reach} {b0 : Nat} {t e : TypeId} {v : Value} {d : DataW H} {p : List MemPlace} (ht : P.underlying t = some (.slice e)) (he : P.underlying e = some .string) (hc : P.cellsOf e = 1)
    (hv : Value.okWide P w r b0 t v) (h : DataW.Trod enc P w base spare held t v d p) :
    ∃ (A : Option Addr) (l : List ByteArray) (cap : Nat), v = .slice A l.length cap ∧ l.length ≤ cap ∧ Kd.C Kd.string w A l.length l ∧ (∀ s ∈ l, s.size ∈ DataW.weights P t d) := by
  obtain ⟨A, len, cap, rfl⟩ := okWide_slice ht hv
  obtain ⟨fuel, hf⟩ := h
  rcases open_strs ht he hc hf with ⟨hcs, _⟩ | ⟨a, ln, c, m, Sx, hcs, _, hl, hm, hmm, hdp, hcell⟩
  · simp [Value.cells] at hcs
    obtain ⟨rfl, rfl, rfl⟩ := hcs
    exact ⟨none, [], 0, rfl, Nat.le_refl _, ⟨rfl, by decide, fun h => absurd h (by decide)⟩, fun s hs => nomatch hs⟩
  · simp [Value.cells] at hcs
    obtain ⟨rfl, rfl, rfl⟩ := hcs
    have hlm : len ≤ m := by rw [hmm]; split <;> omega
    refine ⟨some a, (List.range len).map Sx, cap, by simp, by simpa using hl, ⟨by simp, by simp; exact Nat.le_trans hl (Nat.le_trans hm (by decide)), fun _ => ⟨a, rfl, fun j q hj => ?_⟩⟩, fun s hs => ?_⟩
    · rw [List.getElem?_map] at hj
      by_cases hjl : j < len
      · rw [List.getElem?_range hjl] at hj
        obtain rfl : Sx j = q := by simpa using hj
        refine ⟨[.string (Sx j)], rfl, rfl, fun i u hi => ?_⟩
        match i, hi with
        | 0, hi =>
          obtain rfl : Value.string (Sx j) = u := by simpa using hi
          simpa [Kd.string, Kd.scalar] using (hcell j (by omega)).1
        | i + 1, hi => simp at hi
      · rw [List.getElem?_eq_none (by simpa using hjl)] at hj
        simp at hj
    · have hd := congrArg Prod.fst hdp
      dsimp only at hd
      rw [hd, DataW.weights, ht]
      refine List.mem_cons_of_mem _ (List.mem_append.2 (Or.inl ?_))
      have e1 := mem_texts (H := H) (P := P) (e := e) hs
      rwa [List.map_map] at e1
end
end Go.Proofs.YtcmalglippmocaaDoor.Pal
end

section
/- What a row's condition on the program's package-level tables gives: their cells. -/
namespace Go.Proofs.YtcmalglippmocaaDoor.Pal
open Go.ChangeShapes Go.WideShapes Go.ChangeAt Go.WideElems Go.RowKit Go.Proofs.YtcmalglippmocaaDoor.G
set_option maxRecDepth 100000
section
variable {H : Type} {enc : TypeId × Value → H} {P : Program} {w : World} {base : Nat} {spare : Nat → Bool} {held : Bool}
/-- A row of two whole numbers. -/
theorem pair_cells {n : Nat} {t e : TypeId} {cs : List Value} {a b : Int} {p : List MemPlace} (ht : P.underlying t = some (.array 2 e)) (he : P.underlying e = some (.int .i64)) (hc : P.cellsOf e = 1) (hz : P.cellsOf t = 2)
    (h : DataW.trod enc P w base spare held n t cs = some (.agg [.lit (.int .i64 a), .lit (.int .i64 b)], p)) : cs = [.int .i64 a, .int .i64 b] := by
  obtain ⟨xs, m, _, hx, hl, hlen, hel⟩ := DataW.trod_array ht h
  have h0 := hel 0 (by decide)
  have h1 := hel 1 (by decide)
  rw [hc] at h0 h1
  rw [hz] at hl
  match cs, hl with
  | [c0, c1], _ =>
    match xs, hlen with
    | [y0, y1], _ =>
      obtain ⟨k0, e0, x0, _⟩ := DataW.trod_int he (x := y0) (by simpa using h0)
      obtain ⟨k1, e1, x1, _⟩ := DataW.trod_int he (x := y1) (by simpa using h1)
      simp only [Prod.mk.injEq, x0, x1, List.map_cons, List.map_nil, DataW.agg.injEq, List.cons.injEq, DataW.lit.injEq, Lit.int.injEq, true_and, and_true] at hx
      obtain ⟨⟨rfl, rfl⟩, _⟩ := hx
      simp at e0 e1
      rw [e0, e1]
end
section
variable {H : Type} {enc : TypeId × Value → H} {w : World} {base : Nat} {spare : Nat → Bool} {held : Bool}
theorem ver_fields : ∃ f0 f1 f2 : Field, Tryd.prog.underlying 107 = some (.struct #[f0, f1, f2]) ∧ (f0.offset = 0 ∧ f1.offset = 1 ∧ f2.offset = 2) ∧ (Tryd.prog.cellsOf f0.type = 1 ∧ Tryd.prog.cellsOf f1.type = 1 ∧ Tryd.prog.cellsOf f2.type = 1) ∧ Tryd.prog.underlying f0.type = some (.int .i64) ∧ Tryd.prog.underlying f1.type = some (.int .i64) ∧ Tryd.prog.underlying f2.type = some (.int .i64) :=
  ⟨_, _, _, Tryd.underlying107, ⟨rfl, rfl, rfl⟩, ⟨by kernel_rfl, by kernel_rfl, by kernel_rfl⟩, by kernel_rfl, by kernel_rfl, by kernel_rfl⟩
theorem ver_row {n : Nat} {cs : List Value} {a b c : Int} {p : List MemPlace} (h : DataW.trod enc Tryd.prog w base spare held n 107 cs = some (.agg [.lit (.int .i64 a), .lit (.int .i64 b), .lit (.int .i64 c)], p)) : cs = [.int .i64 a, .int .i64 b, .int .i64 c] := by
  obtain ⟨f0, f1, f2, hs, ⟨o0, o1, o2⟩, ⟨z0, z1, z2⟩, t0, t1, t2⟩ := ver_fields
  obtain ⟨xs, m, _, hx, hl, hlen, hF⟩ := DataW.trod_struct hs h
  rw [show Tryd.prog.cellsOf 107 = 3 by kernel_rfl] at hl
  have e0 := hF 0 f0 rfl
  have e1 := hF 1 f1 rfl
  have e2 := hF 2 f2 rfl
  rw [o0, z0] at e0
  rw [o1, z1] at e1
  rw [o2, z2] at e2
  match cs, hl with
  | [c0, c1, c2], _ =>
    match xs, hlen with
    | [y0, y1, y2], _ =>
      obtain ⟨k0, q0, x0, _⟩ := DataW.trod_int t0 (x := y0) (by simpa using e0)
      obtain ⟨k1, q1, x1, _⟩ := DataW.trod_int t1 (x := y1) (by simpa using e1)
      obtain ⟨k2, q2, x2, _⟩ := DataW.trod_int t2 (x := y2) (by simpa using e2)
      simp only [Prod.mk.injEq, x0, x1, x2, List.map_cons, List.map_nil, DataW.agg.injEq, List.cons.injEq, DataW.lit.injEq, Lit.int.injEq, true_and, and_true] at hx
      obtain ⟨⟨rfl, rfl, rfl⟩, _⟩ := hx
      simp at q0 q1 q2
      rw [q0, q1, q2]
theorem ver_rows {n : Nat} {cs : List Value} {p : List MemPlace} (h : DataW.trod enc Tryd.prog w base spare held n 110 cs = some (Rows.laid_palanquin_ipip_versions, p)) : cs = [.int .i64 4, .int .i64 4, .int .i64 2048, .int .i64 6, .int .i64 41, .int .i64 34525] := by
  obtain ⟨xs, m, _, hx, hl, hlen, hel⟩ := DataW.trod_array Tryd.underlying110 h
  have h0 := hel 0 (by decide)
  have h1 := hel 1 (by decide)
  rw [show Tryd.prog.cellsOf 107 = 3 by kernel_rfl] at h0 h1
  rw [show Tryd.prog.cellsOf 110 = 6 by kernel_rfl] at hl
  match cs, hl with
  | [c0, c1, c2, c3, c4, c5], _ =>
    match xs, hlen with
    | [(d0, p0), (d1, p1)], _ =>
      simp only [Rows.laid_palanquin_ipip_versions, Prod.mk.injEq, List.map_cons, List.map_nil, DataW.agg.injEq, List.cons.injEq, and_true] at hx
      obtain ⟨⟨rfl, rfl⟩, _⟩ := hx
      have e0 := ver_row (p := p0) (by simpa using h0)
      have e1 := ver_row (p := p1) (by simpa using h1)
      simp at e0 e1
      obtain ⟨rfl, rfl, rfl⟩ := e0
      obtain ⟨rfl, rfl, rfl⟩ := e1
      rfl
end
theorem tab_of {W : World} {n : String} {g : Nat} {cs : Array Value} {l : List Int} (hg : Tryd.prog.globalNamed n = some g) (hv : W.var? Tryd.prog n = some cs) (hcs : cs.toList = l.map (Value.int .i64)) : TabAt W g l := fun j x hj => by
  rw [World.var?_cell hg hv j, ← Array.getElem?_toList, hcs, List.getElem?_map, hj]
  rfl
theorem gv_of {W : World} {g t : Nat} {cs : Array Value} {f : Nat} {p : List MemPlace} (hg : Tryd.prog.globalNamed "palanquin/ipip.versions" = some g) (ht : (Tryd.prog.globals[g]?).map (·.type) = some t) (hv : W.var? Tryd.prog "palanquin/ipip.versions" = some cs)
    (hd : DataW.trod (fun _ => ()) Tryd.prog W 0 (fun _ => true) false f t cs.toList = some (Rows.laid_palanquin_ipip_versions, p)) : GV W := by
  obtain rfl := Option.some.inj ((show Tryd.prog.globalNamed "palanquin/ipip.versions" = some 0 by kernel_rfl).symm.trans hg)
  obtain rfl := Option.some.inj ((show (Tryd.prog.globals[0]?).map (·.type) = some 110 by kernel_rfl).symm.trans ht)
  exact tab_of hg hv (ver_rows hd)
theorem laid_gv {W : World} (h : laidMetH Tryd.prog [("palanquin/ipip.versions", Rows.laid_palanquin_ipip_versions)] W) : GV W := by
  rw [MakeChecks.laidMetH_plain _ _ _ (by kernel_rfl)] at h
  obtain ⟨ps, ⟨g0, t0, cs0, f0, p0, q0, hg0, ht0, hv0, hd0, _, _⟩, _, _⟩ := h
  exact gv_of hg0 ht0 hv0 hd0
theorem places_rows {H : Type} {enc : TypeId × Value → H} {w : World} {base : Nat} {spare : Nat → Bool} {held : Bool} {n : Nat} {cs : List Value} {p : List MemPlace} (h : DataW.trod enc Tryd.prog w base spare held n 135 cs = some (Rows.laid_palanquin_flow_places, p)) : cs = [.int .i64 6, .int .i64 16, .int .i64 17, .int .i64 6] := by
  obtain ⟨xs, m, _, hx, hl, hlen, hel⟩ := DataW.trod_array Tryd.underlying135 h
  have h0 := hel 0 (by decide)
  have h1 := hel 1 (by decide)
  rw [show Tryd.prog.cellsOf 134 = 2 by kernel_rfl] at h0 h1
  rw [show Tryd.prog.cellsOf 135 = 4 by kernel_rfl] at hl
  match cs, hl with
  | [c0, c1, c2, c3], _ =>
    match xs, hlen with
    | [(d0, p0), (d1, p1)], _ =>
      simp only [Rows.laid_palanquin_flow_places, Prod.mk.injEq, List.map_cons, List.map_nil, DataW.agg.injEq, List.cons.injEq, and_true] at hx
      obtain ⟨⟨rfl, rfl⟩, _⟩ := hx
      have e0 := pair_cells (p := p0) Tryd.underlying134 (by kernel_rfl) (by kernel_rfl) (by kernel_rfl) (by simpa using h0)
      have e1 := pair_cells (p := p1) Tryd.underlying134 (by kernel_rfl) (by kernel_rfl) (by kernel_rfl) (by simpa using h1)
      simp at e0 e1
      obtain ⟨rfl, rfl⟩ := e0
      obtain ⟨rfl, rfl⟩ := e1
      rfl
theorem laid_gp {W : World} (h : laidMetH Tryd.prog [("palanquin/ipip.versions", Rows.laid_palanquin_ipip_versions), ("palanquin/flow.places", Rows.laid_palanquin_flow_places), ("palanquin/flow.least", Rows.laid_palanquin_flow_least)] W) : GV W ∧ GP W := by
  rw [MakeChecks.laidMetH_plain _ _ _ (by kernel_rfl)] at h
  obtain ⟨ps, ⟨g0, t0, cs0, f0, p0, q0, hg0, ht0, hv0, hd0, ⟨g1, t1, cs1, f1, p1, q1, hg1, ht1, hv1, hd1, ⟨g2, t2, cs2, f2, p2, q2, hg2, ht2, hv2, hd2, _, _⟩, _⟩, _⟩, _, _⟩ := h
  refine ⟨gv_of hg0 ht0 hv0 hd0, ?_, ?_⟩
  · obtain rfl := Option.some.inj ((show Tryd.prog.globalNamed "palanquin/flow.places" = some 1 by kernel_rfl).symm.trans hg1)
    obtain rfl := Option.some.inj ((show (Tryd.prog.globals[1]?).map (·.type) = some 135 by kernel_rfl).symm.trans ht1)
    exact tab_of hg1 hv1 (places_rows hd1)
  · obtain rfl := Option.some.inj ((show Tryd.prog.globalNamed "palanquin/flow.least" = some 2 by kernel_rfl).symm.trans hg2)
    obtain rfl := Option.some.inj ((show (Tryd.prog.globals[2]?).map (·.type) = some 134 by kernel_rfl).symm.trans ht2)
    exact tab_of hg2 hv2 (pair_cells Tryd.underlying134 (by kernel_rfl) (by kernel_rfl) (by kernel_rfl) hd2)
end Go.Proofs.YtcmalglippmocaaDoor.Pal
end
