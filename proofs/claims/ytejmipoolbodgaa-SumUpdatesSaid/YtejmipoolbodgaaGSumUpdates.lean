-- Laid by a program of this session (wip/gen/gprint.py) over the translation's print. Lean checks it.
import Derived.Test.YtejmipoolbodgaaG0
import Derived.Test.YtejmipoolbodgaaGlaw02
import Derived.Test.YtejmipoolbodgaaGsum
import Derived.Test.YtejmipoolbodgaaHSum
namespace Go.Proofs.Ytejmipoolbodgaa.G
open Go.RowKit Go.Proofs.YtejmipoolbodgaaW.PrintWords Go.Proofs.YtejmipoolbodgaaW.PrintLast Go.Proofs.YtejmipoolbodgaaW.PrintMore
attribute [local go_sem] max2_int min2_int max_two min_two max_three min_three max_four min_four   -- for this text's walks alone
set_option linter.unusedVariables false
set_option linter.unusedSimpArgs false

/-! ### palanquinlaw02_SumUpdates: function 5 -/
mutual
def palanquinlaw02_SumUpdates.j0 : Nat → ByteArray → Int → Int → Bool → Option (Bool)
  | 0, _, _, _, _ => none
  | k + 1, x0, x1, x2, x32 => if x32 = true then (some true) else (if 0 ≤ (x0.size : Int) then (if ((x0.size : Int) : Int).toNat ≤ 281474976710656 then ((some (List.replicate ((x0.size : Int) : Int).toNat 0 : List Int)).bind fun y165 => (if 0 ≤ (wrap64 (2 * x1)) then (if (wrap64 (2 * x1)) ≤ (x0.size : Int) then ((some (([(x2 / 256) % 256, (x2) % 256] : List Int) : List Int)).bind fun y168 => (if (x0.extract 0 ((wrap64 (2 * x1)) : Int).toNat).size + (strOfNums y168).size ≤ 9223372036854775807 then (if 0 ≤ (wrap64 ((wrap64 (2 * x1)) + 2)) then (if (wrap64 ((wrap64 (2 * x1)) + 2)) ≤ (x0.size : Int) then (if ((x0.extract 0 ((wrap64 (2 * x1)) : Int).toNat) ++ (strOfNums y168)).size + (x0.extract ((wrap64 ((wrap64 (2 * x1)) + 2)) : Int).toNat x0.size).size ≤ 9223372036854775807 then (if x0.toList = (strOfNums y165).toList then (palanquinlaw02_SumUpdates.j1 k x0 x1 x2 (((x0.extract 0 ((wrap64 (2 * x1)) : Int).toNat) ++ (strOfNums y168)) ++ (x0.extract ((wrap64 ((wrap64 (2 * x1)) + 2)) : Int).toNat x0.size)) true) else (palanquinlaw02_SumUpdates.j1 k x0 x1 x2 (((x0.extract 0 ((wrap64 (2 * x1)) : Int).toNat) ++ (strOfNums y168)) ++ (x0.extract ((wrap64 ((wrap64 (2 * x1)) + 2)) : Int).toNat x0.size)) ((((x0.extract 0 ((wrap64 (2 * x1)) : Int).toNat) ++ (strOfNums y168)) ++ (x0.extract ((wrap64 ((wrap64 (2 * x1)) + 2)) : Int).toNat x0.size)).toList == (strOfNums y165).toList))) else (none)) else (none)) else (none)) else (none))) else (none)) else (none))) else (none)) else (none))
def palanquinlaw02_SumUpdates.j1 : Nat → ByteArray → Int → Int → ByteArray → Bool → Option (Bool)
  | 0, _, _, _, _, _ => none
  | k + 1, x0, x1, x2, x8, x62 => if x62 = true then (some true) else (if 0 ≤ (wrap64 (2 * x1)) then (if (wrap64 (2 * x1)) < (x0.size : Int) then (if 0 ≤ (wrap64 ((wrap64 (2 * x1)) + 1)) then (if (wrap64 ((wrap64 (2 * x1)) + 1)) < (x0.size : Int) then ((sum_Sum.f (([x0] : List ByteArray))).bind fun t174 => ((sum_Update.f t174 (Go.bits .or .i64 (wrap64 ((wrap64 (bt x0 (wrap64 (2 * x1)))) * 256)) (wrap64 (bt x0 (wrap64 ((wrap64 (2 * x1)) + 1))))) (wrap64 (x2))).bind fun t175 => ((sum_Sum.f (([x8] : List ByteArray))).bind fun t179 => (if t175 = t179 then ((sum_Update.f t175 (wrap64 (x2)) (Go.bits .or .i64 (wrap64 ((wrap64 (bt x0 (wrap64 (2 * x1)))) * 256)) (wrap64 (bt x0 (wrap64 ((wrap64 (2 * x1)) + 1)))))).bind fun t180 => ((sum_Sum.f (([x0] : List ByteArray))).bind fun t184 => (some (t180 == t184)))) else (some false))))) else (none)) else (none)) else (none)) else (none))
end
def palanquinlaw02_SumUpdates.f (k : Nat) (a0 : ByteArray) (a1 : Int) (a2 : Int) : Option (Bool) := (palanquinlaw02_awake.f).bind fun t164 => (if t164 = true then (if ((a0.size : Int) % 2) = 1 then (palanquinlaw02_SumUpdates.j0 k a0 a1 a2 true) else (if (a0.size : Int) > 5000 then (palanquinlaw02_SumUpdates.j0 k a0 a1 a2 true) else (if a1 < 0 then (palanquinlaw02_SumUpdates.j0 k a0 a1 a2 true) else (palanquinlaw02_SumUpdates.j0 k a0 a1 a2 (decide (a1 ≥ (wrap64 ((a0.size : Int) / 2)))))))) else (some false))
theorem palanquinlaw02_SumUpdates.mono_l : ∀ k, (∀ y0 y1 y2 y3, LeO (palanquinlaw02_SumUpdates.j0 k y0 y1 y2 y3) (palanquinlaw02_SumUpdates.j0 (k + 1) y0 y1 y2 y3)) ∧ (∀ y0 y1 y2 y3 y4, LeO (palanquinlaw02_SumUpdates.j1 k y0 y1 y2 y3 y4) (palanquinlaw02_SumUpdates.j1 (k + 1) y0 y1 y2 y3 y4))
  | 0 => ⟨fun _ _ _ _ r h => by simp [palanquinlaw02_SumUpdates.j0] at h, fun _ _ _ _ _ r h => by simp [palanquinlaw02_SumUpdates.j1] at h⟩
  | k + 1 => by
    obtain ⟨ih0, ih1⟩ := palanquinlaw02_SumUpdates.mono_l k
    refine ⟨?_, ?_⟩
    · intro y0 y1 y2 y3
      unfold palanquinlaw02_SumUpdates.j0
      repeat' first
      | (with_reducible exact ih0 _ _ _ _)
      | (with_reducible exact ih1 _ _ _ _ _)
      | (with_reducible exact LeO.refl _)
      | (with_reducible exact LeO.none _)
      | (with_reducible refine LeO.ite ?_ ?_)
      | (with_reducible refine LeO.bind ?_ (fun _ => ?_))
      | exact ih0 _ _ _ _
      | exact ih1 _ _ _ _ _
      | exact LeO.none _
      | refine LeO.ite ?_ ?_
      | refine LeO.bind ?_ (fun _ => ?_)
    · intro y0 y1 y2 y3 y4
      unfold palanquinlaw02_SumUpdates.j1
      repeat' first
      | (with_reducible exact ih0 _ _ _ _)
      | (with_reducible exact ih1 _ _ _ _ _)
      | (with_reducible exact LeO.refl _)
      | (with_reducible exact LeO.none _)
      | (with_reducible refine LeO.ite ?_ ?_)
      | (with_reducible refine LeO.bind ?_ (fun _ => ?_))
      | exact ih0 _ _ _ _
      | exact ih1 _ _ _ _ _
      | exact LeO.none _
      | refine LeO.ite ?_ ?_
      | refine LeO.bind ?_ (fun _ => ?_)
theorem palanquinlaw02_SumUpdates.mono : ∀ a0 a1 a2 k, LeO (palanquinlaw02_SumUpdates.f k a0 a1 a2) (palanquinlaw02_SumUpdates.f (k + 1) a0 a1 a2) := by
  intro a0 a1 a2 k
  obtain ⟨ih0, ih1⟩ := palanquinlaw02_SumUpdates.mono_l k
  unfold palanquinlaw02_SumUpdates.f
  repeat' first
      | (with_reducible exact ih0 _ _ _ _)
      | (with_reducible exact ih1 _ _ _ _ _)
      | (with_reducible exact LeO.refl _)
      | (with_reducible exact LeO.none _)
      | (with_reducible refine LeO.ite ?_ ?_)
      | (with_reducible refine LeO.bind ?_ (fun _ => ?_))
      | exact ih0 _ _ _ _
      | exact ih1 _ _ _ _ _
      | exact LeO.none _
      | refine LeO.ite ?_ ?_
      | refine LeO.bind ?_ (fun _ => ?_)
def palanquinlaw02_SumUpdates.T6 : Bool × List (List Nat × List Nat) := (true, [([], []), ([], []), ([1], [1]), ([0, 2], [0, 2]), ([], []), ([4], [4]), ([5], [5]), ([], []), ([7], [7]), ([6, 8], [6, 8]), ([9], [9]), ([3, 10], [3, 10]), ([], []), ([], []), ([13], [13]), ([14], [14]), ([12, 15], [12, 15]), ([11, 16], [11, 16]), ([17, 0, 1, 2, 3, 4, 5, 6, 7, 8, 9, 10, 11, 12, 13, 14, 15, 16, 17], [17])])
def palanquinlaw02_SumUpdates.B6 : List Nat := [0, 0, 2, 7, 0, 16, 48, 0, 128, 496, 1008, 2047, 0, 0, 8192, 24576, 61440, 131071, 262143]
theorem palanquinlaw02_SumUpdates.tab6 : rtab .any (opsOf Try.f5 6) = palanquinlaw02_SumUpdates.T6 := by kernel_rfl
theorem palanquinlaw02_SumUpdates.bits6 : waitsOk palanquinlaw02_SumUpdates.T6.2 palanquinlaw02_SumUpdates.B6 = true := by kernel_rfl
def palanquinlaw02_SumUpdates.T9 : Bool × List (List Nat × List Nat) := (true, [([], []), ([], []), ([1], [1]), ([0, 2], [0, 2]), ([3], [3]), ([4], [4]), ([], []), ([], []), ([7], [7]), ([8], [8]), ([6, 9], [6, 9]), ([10], [10]), ([5, 11], [5, 11]), ([12, 0, 1, 2, 3, 4, 5, 6, 7, 8, 9, 10, 11, 12], [12])])
def palanquinlaw02_SumUpdates.B9 : List Nat := [0, 0, 2, 7, 15, 31, 0, 0, 128, 384, 960, 1984, 4095, 8191]
theorem palanquinlaw02_SumUpdates.tab9 : rtab .any (opsOf Try.f5 9) = palanquinlaw02_SumUpdates.T9 := by kernel_rfl
theorem palanquinlaw02_SumUpdates.bits9 : waitsOk palanquinlaw02_SumUpdates.T9.2 palanquinlaw02_SumUpdates.B9 = true := by kernel_rfl
set_option maxHeartbeats 8000000 in
set_option maxRecDepth 100000 in
theorem palanquinlaw02_SumUpdates.calls (k : Nat) (a0 : ByteArray) (a1 : Int) (a2 : Int) (r : Bool) (w : World) (h : palanquinlaw02_SumUpdates.f k a0 a1 a2 = some r) :
    Calls Try.prog 5 #[.string a0, .int .i64 a1, .int .u16 a2] w fun e w' => e = .returned (.bool r) ∧ Below w.heap.size w w' := by
  have HB := Aside0.mk (Below.refl w.heap.size w)
  have H : ((palanquinlaw02_awake.f).bind fun t164 => (if t164 = true then (if ((a0.size : Int) % 2) = 1 then (palanquinlaw02_SumUpdates.j0 k a0 a1 a2 true) else (if (a0.size : Int) > 5000 then (palanquinlaw02_SumUpdates.j0 k a0 a1 a2 true) else (if a1 < 0 then (palanquinlaw02_SumUpdates.j0 k a0 a1 a2 true) else (palanquinlaw02_SumUpdates.j0 k a0 a1 a2 (decide (a1 ≥ (wrap64 ((a0.size : Int) / 2)))))))) else (some false))) = some r := h
  clear h
  replace H := Option.bind_eq_some_iff.mp H
  obtain ⟨t164, A40, H⟩ := H
  replace H : (if t164 = true then (if ((a0.size : Int) % 2) = 1 then (palanquinlaw02_SumUpdates.j0 k a0 a1 a2 true) else (if (a0.size : Int) > 5000 then (palanquinlaw02_SumUpdates.j0 k a0 a1 a2 true) else (if a1 < 0 then (palanquinlaw02_SumUpdates.j0 k a0 a1 a2 true) else (palanquinlaw02_SumUpdates.j0 k a0 a1 a2 (decide (a1 ≥ (wrap64 ((a0.size : Int) / 2)))))))) else (some false)) = some r := H
  have A4 := Aside0.mk A40
  clear A40
  by_cases c5 : t164 = true
  · subst c5
    have H1 : (if ((a0.size : Int) % 2) = 1 then (palanquinlaw02_SumUpdates.j0 k a0 a1 a2 true) else (if (a0.size : Int) > 5000 then (palanquinlaw02_SumUpdates.j0 k a0 a1 a2 true) else (if a1 < 0 then (palanquinlaw02_SumUpdates.j0 k a0 a1 a2 true) else (palanquinlaw02_SumUpdates.j0 k a0 a1 a2 (decide (a1 ≥ (wrap64 ((a0.size : Int) / 2)))))))) = some r := by rw [if_pos rfl] at H; exact H
    clear H
    have H := H1
    clear H1
    have HC6 := Aside0.mk H
    clear H
    go_enter Try.func5, Try.ntmps5
    go_upto_region 3 with (first | ((with_reducible refine gate_callee (f := 36) rfl ?_); refine goesL_ (some 11) rfl rfl Try.func36 (by kernel_rfl) rfl #[] rfl (by (try simp only [List.map_toArray, List.map_cons, List.map_nil]); first | done | rfl | (simp only [List.length_drop, List.length_take]; rfl)) ?_; (with_reducible refine (palanquinlaw02_awake.calls  true _ A4.out).mono ?_); rintro e w7 ⟨rfl, hb⟩; refine ⟨_, rfl, ?_⟩; have n0_ := Aside0.mk (below_step (by repeat (first | (with_reducible first | exact HB.out | apply below_alloc | apply pw_below_drewN | apply below_drew1) | exact HB.out)) hb); clear HB; have HB := n0_; clear n0_; (try clear hb); (try clear hb2); (try clear hk); (try clear hi)))
    (try simp only [Act.put, List.setIfInBounds_toArray, List.set_cons_zero, List.set_cons_succ])
    go_cut [32] (fun v32 wc => ∃ (kq : Nat) (x32_5 : Bool), v32 = .bool x32_5 ∧ Aside0 (palanquinlaw02_SumUpdates.j0 kq a0 a1 a2 x32_5 = some r) ∧ Aside0 (kq ≤ k) ∧ Aside0 (Below w.heap.size w wc))
    case first =>
      have H := HC6.out
      clear HC6
      by_cases c8 : ((a0.size : Int) % 2) = 1
      · rw [if_pos c8] at H
        have c8b0 : (((a0.size : Int) % 2) == 1) = true := beq_iff_eq.mpr c8
        have c8b1 : (((a0.size : Int) % 2) != 1) = false := bne_eq_false_iff_eq.mpr c8
        clear c8
        (first | rw [c8b0] | (simp only [i64_w, i32_w]; rw [c8b0]) | skip)
        have H' := Aside0.mk H
        clear H
        go_wp2
        go_meet
        case rel => exact ⟨_, (true), (by first | rfl | (simp; done) | (simp [*]; done)), H', ⟨by first | omega | exact Nat.le_refl _⟩, ⟨by repeat (first | (with_reducible first | exact HB.out | apply below_alloc | apply pw_below_drewN | apply below_drew1) | exact HB.out)⟩⟩
      · rw [if_neg c8] at H
        have c8b0 : (((a0.size : Int) % 2) == 1) = false := beq_eq_false_iff_ne.mpr c8
        have c8b1 : (((a0.size : Int) % 2) != 1) = true := bne_iff_ne.mpr c8
        (first | rw [c8b0] | (simp only [i64_w, i32_w]; rw [c8b0]) | skip)
        by_cases c9 : (a0.size : Int) > 5000
        · rw [if_pos c9] at H
          have c9b0 : decide (5000 < (a0.size : Int)) = true := decide_eq_true c9
          have c9b1 : decide (5000 < a0.size) = true := decide_eq_true (by omega)
          clear c9
          have H' := Aside0.mk H
          clear H
          go_wp2
          go_meet
          case rel => exact ⟨_, (true), (by first | rfl | (simp; done) | (simp [*]; done)), H', ⟨by first | omega | exact Nat.le_refl _⟩, ⟨by repeat (first | (with_reducible first | exact HB.out | apply below_alloc | apply pw_below_drewN | apply below_drew1) | exact HB.out)⟩⟩
        · rw [if_neg c9] at H
          have c9b0 : decide (5000 < (a0.size : Int)) = false := decide_eq_false c9
          have c9b1 : decide (5000 < a0.size) = false := decide_eq_false (by omega)
          clear c9
          by_cases c10 : a1 < 0
          · rw [if_pos c10] at H
            have c10b0 : decide (a1 < 0) = true := decide_eq_true c10
            clear c10
            have H' := Aside0.mk H
            clear H
            go_wp2
            go_meet
            case rel => exact ⟨_, (true), (by first | rfl | (simp; done) | (simp [*]; done)), H', ⟨by first | omega | exact Nat.le_refl _⟩, ⟨by repeat (first | (with_reducible first | exact HB.out | apply below_alloc | apply pw_below_drewN | apply below_drew1) | exact HB.out)⟩⟩
          · rw [if_neg c10] at H
            have c10b0 : decide (a1 < 0) = false := decide_eq_false c10
            clear c10
            have H' := Aside0.mk H
            clear H
            go_wp2
            go_meet
            case rel => exact ⟨_, (decide (a1 ≥ (wrap64 ((a0.size : Int) / 2)))), (by first | rfl | (simp; done) | (simp [*]; done)), H', ⟨by first | omega | exact Nat.le_refl _⟩, ⟨by repeat (first | (with_reducible first | exact HB.out | apply below_alloc | apply pw_below_drewN | apply below_drew1) | exact HB.out)⟩⟩
    case rest =>
      clear HC6
      try clear c1
      try clear p2
      try clear c3
      try clear c5
      try clear p6
      try clear c8
      try clear c8b0
      try clear c8b1
      try clear c9
      try clear c9b0
      try clear c9b1
      try clear c10
      try clear c10b0
      obtain ⟨kq, x32_5, rfl, HA, HJ5, HB⟩ := hcut
      cases kq with
      | zero => exact absurd HA.out (by simp [palanquinlaw02_SumUpdates.j0])
      | succ kj5 =>
        have H := HA.out
        clear HA
        simp only [palanquinlaw02_SumUpdates.j0] at H
        by_cases c11 : x32_5 = true
        · subst c11
          have H1 : (some true) = some r := by rw [if_pos rfl] at H; exact H
          clear H
          have H := H1
          clear H1
          obtain rfl := Option.some.inj H
          go_wp2
          go_ret
          exact ⟨by first | rfl | (simp [errW_none, errW_some] <;> rfl) | (simp [*, errW_none, errW_some] <;> rfl), by repeat (first | (with_reducible first | exact HB.out | apply below_alloc | apply pw_below_drewN | apply below_drew1) | exact HB.out)⟩
        · replace c11 := Bool.eq_false_iff.mpr c11
          subst c11
          have H1 : (if 0 ≤ (a0.size : Int) then (if ((a0.size : Int) : Int).toNat ≤ 281474976710656 then ((some (List.replicate ((a0.size : Int) : Int).toNat 0 : List Int)).bind fun y165 => (if 0 ≤ (wrap64 (2 * a1)) then (if (wrap64 (2 * a1)) ≤ (a0.size : Int) then ((some (([(a2 / 256) % 256, (a2) % 256] : List Int) : List Int)).bind fun y168 => (if (a0.extract 0 ((wrap64 (2 * a1)) : Int).toNat).size + (strOfNums y168).size ≤ 9223372036854775807 then (if 0 ≤ (wrap64 ((wrap64 (2 * a1)) + 2)) then (if (wrap64 ((wrap64 (2 * a1)) + 2)) ≤ (a0.size : Int) then (if ((a0.extract 0 ((wrap64 (2 * a1)) : Int).toNat) ++ (strOfNums y168)).size + (a0.extract ((wrap64 ((wrap64 (2 * a1)) + 2)) : Int).toNat a0.size).size ≤ 9223372036854775807 then (if a0.toList = (strOfNums y165).toList then (palanquinlaw02_SumUpdates.j1 kj5 a0 a1 a2 (((a0.extract 0 ((wrap64 (2 * a1)) : Int).toNat) ++ (strOfNums y168)) ++ (a0.extract ((wrap64 ((wrap64 (2 * a1)) + 2)) : Int).toNat a0.size)) true) else (palanquinlaw02_SumUpdates.j1 kj5 a0 a1 a2 (((a0.extract 0 ((wrap64 (2 * a1)) : Int).toNat) ++ (strOfNums y168)) ++ (a0.extract ((wrap64 ((wrap64 (2 * a1)) + 2)) : Int).toNat a0.size)) ((((a0.extract 0 ((wrap64 (2 * a1)) : Int).toNat) ++ (strOfNums y168)) ++ (a0.extract ((wrap64 ((wrap64 (2 * a1)) + 2)) : Int).toNat a0.size)).toList == (strOfNums y165).toList))) else (none)) else (none)) else (none)) else (none))) else (none)) else (none))) else (none)) else (none)) = some r := by rw [if_neg (show ¬ (false = true) by decide)] at H; exact H
          clear H
          have H := H1
          clear H1
          by_cases c12 : 0 ≤ (a0.size : Int)
          · rw [if_pos c12] at H
            have c12b0 := eq_true c12
            have c12b1 : decide (0 ≤ (a0.size : Int)) = true := decide_eq_true c12
            clear c12
            by_cases c13 : ((a0.size : Int) : Int).toNat ≤ 281474976710656
            · rw [if_pos c13] at H
              have c13b0 := eq_true c13
              have c13b1 : decide (((a0.size : Int) : Int).toNat ≤ 281474976710656) = true := decide_eq_true c13
              clear c13
              obtain ⟨y165, hy165⟩ : ∃ y_ : List Int, y_ = (List.replicate ((a0.size : Int) : Int).toNat 0) := ⟨_, rfl⟩
              replace H : (if 0 ≤ (wrap64 (2 * a1)) then (if (wrap64 (2 * a1)) ≤ (a0.size : Int) then ((some (([(a2 / 256) % 256, (a2) % 256] : List Int) : List Int)).bind fun y168 => (if (a0.extract 0 ((wrap64 (2 * a1)) : Int).toNat).size + (strOfNums y168).size ≤ 9223372036854775807 then (if 0 ≤ (wrap64 ((wrap64 (2 * a1)) + 2)) then (if (wrap64 ((wrap64 (2 * a1)) + 2)) ≤ (a0.size : Int) then (if ((a0.extract 0 ((wrap64 (2 * a1)) : Int).toNat) ++ (strOfNums y168)).size + (a0.extract ((wrap64 ((wrap64 (2 * a1)) + 2)) : Int).toNat a0.size).size ≤ 9223372036854775807 then (if a0.toList = (strOfNums y165).toList then (palanquinlaw02_SumUpdates.j1 kj5 a0 a1 a2 (((a0.extract 0 ((wrap64 (2 * a1)) : Int).toNat) ++ (strOfNums y168)) ++ (a0.extract ((wrap64 ((wrap64 (2 * a1)) + 2)) : Int).toNat a0.size)) true) else (palanquinlaw02_SumUpdates.j1 kj5 a0 a1 a2 (((a0.extract 0 ((wrap64 (2 * a1)) : Int).toNat) ++ (strOfNums y168)) ++ (a0.extract ((wrap64 ((wrap64 (2 * a1)) + 2)) : Int).toNat a0.size)) ((((a0.extract 0 ((wrap64 (2 * a1)) : Int).toNat) ++ (strOfNums y168)) ++ (a0.extract ((wrap64 ((wrap64 (2 * a1)) + 2)) : Int).toNat a0.size)).toList == (strOfNums y165).toList))) else (none)) else (none)) else (none)) else (none))) else (none)) else (none)) = some r := by first | (rw [hy165]; with_reducible exact H) | (have H2_ := (Option.bind_some _ _).symm.trans H; rw [hy165]; with_reducible exact H2_) | (have H2_ := (Option.bind_some _ _).symm.trans H; with_reducible exact H2_) | with_reducible exact H | (rw [hy165]; exact H) | exact H
              have Ny165 := Aside0.mk hy165
              clear hy165
              obtain ⟨ji14, hji14⟩ : ∃ j_ : Int, (wrap64 (2 * a1)) = j_ := ⟨_, rfl⟩
              replace H : (if 0 ≤ (ji14) then (if (ji14) ≤ (a0.size : Int) then ((some (([(a2 / 256) % 256, (a2) % 256] : List Int) : List Int)).bind fun y168 => (if (a0.extract 0 ((ji14) : Int).toNat).size + (strOfNums y168).size ≤ 9223372036854775807 then (if 0 ≤ (wrap64 ((ji14) + 2)) then (if (wrap64 ((ji14) + 2)) ≤ (a0.size : Int) then (if ((a0.extract 0 ((ji14) : Int).toNat) ++ (strOfNums y168)).size + (a0.extract ((wrap64 ((ji14) + 2)) : Int).toNat a0.size).size ≤ 9223372036854775807 then (if a0.toList = (strOfNums y165).toList then (palanquinlaw02_SumUpdates.j1 kj5 a0 a1 a2 (((a0.extract 0 ((ji14) : Int).toNat) ++ (strOfNums y168)) ++ (a0.extract ((wrap64 ((ji14) + 2)) : Int).toNat a0.size)) true) else (palanquinlaw02_SumUpdates.j1 kj5 a0 a1 a2 (((a0.extract 0 ((ji14) : Int).toNat) ++ (strOfNums y168)) ++ (a0.extract ((wrap64 ((ji14) + 2)) : Int).toNat a0.size)) ((((a0.extract 0 ((ji14) : Int).toNat) ++ (strOfNums y168)) ++ (a0.extract ((wrap64 ((ji14) + 2)) : Int).toNat a0.size)).toList == (strOfNums y165).toList))) else (none)) else (none)) else (none)) else (none))) else (none)) else (none)) = some r := by first | (rw [hji14] at H; exact H) | (simp only [hji14] at H ⊢; exact H)
              have hji14w : (IntKind.i64.wrap (2 * a1)) = ji14 := (i64_w _).trans hji14
              by_cases c15 : 0 ≤ (ji14)
              · rw [if_pos c15] at H
                have c15b0 := eq_true c15
                have c15b1 : decide (0 ≤ (ji14)) = true := decide_eq_true c15
                clear c15
                by_cases c16 : (ji14) ≤ (a0.size : Int)
                · rw [if_pos c16] at H
                  have c16b0 := eq_true c16
                  have c16b1 : decide ((ji14) ≤ (a0.size : Int)) = true := decide_eq_true c16
                  clear c16
                  obtain ⟨y168, hy168⟩ : ∃ y_ : List Int, y_ = (([(a2 / 256) % 256, (a2) % 256] : List Int)) := ⟨_, rfl⟩
                  replace H : (if (a0.extract 0 ((ji14) : Int).toNat).size + (strOfNums y168).size ≤ 9223372036854775807 then (if 0 ≤ (wrap64 ((ji14) + 2)) then (if (wrap64 ((ji14) + 2)) ≤ (a0.size : Int) then (if ((a0.extract 0 ((ji14) : Int).toNat) ++ (strOfNums y168)).size + (a0.extract ((wrap64 ((ji14) + 2)) : Int).toNat a0.size).size ≤ 9223372036854775807 then (if a0.toList = (strOfNums y165).toList then (palanquinlaw02_SumUpdates.j1 kj5 a0 a1 a2 (((a0.extract 0 ((ji14) : Int).toNat) ++ (strOfNums y168)) ++ (a0.extract ((wrap64 ((ji14) + 2)) : Int).toNat a0.size)) true) else (palanquinlaw02_SumUpdates.j1 kj5 a0 a1 a2 (((a0.extract 0 ((ji14) : Int).toNat) ++ (strOfNums y168)) ++ (a0.extract ((wrap64 ((ji14) + 2)) : Int).toNat a0.size)) ((((a0.extract 0 ((ji14) : Int).toNat) ++ (strOfNums y168)) ++ (a0.extract ((wrap64 ((ji14) + 2)) : Int).toNat a0.size)).toList == (strOfNums y165).toList))) else (none)) else (none)) else (none)) else (none)) = some r := by first | (rw [hy168]; with_reducible exact H) | (have H2_ := (Option.bind_some _ _).symm.trans H; rw [hy168]; with_reducible exact H2_) | (have H2_ := (Option.bind_some _ _).symm.trans H; with_reducible exact H2_) | with_reducible exact H | (rw [hy168]; exact H) | exact H
                  have Ny168 := Aside0.mk hy168
                  clear hy168
                  by_cases c17 : (a0.extract 0 ((ji14) : Int).toNat).size + (strOfNums y168).size ≤ 9223372036854775807
                  · rw [if_pos c17] at H
                    have c17b0 := eq_true c17
                    have c17b1 : decide ((a0.extract 0 ((ji14) : Int).toNat).size + (strOfNums y168).size ≤ 9223372036854775807) = true := decide_eq_true c17
                    try have c17b2 : (9223372036854775807 < (a0.extract 0 ((ji14) : Int).toNat).size + (strOfNums y168).size) = False := eq_false (Nat.not_lt.2 c17)
                    try have c17b5 : (9223372036854775807 < ((ji14) : Int).toNat + (strOfNums y168).size) = False := eq_false (by have h_ := c17; simp only [ByteArray.size_append, ByteArray.size_extract] at h_; simp only [eq_iff_iff, iff_true] at *; omega)
                    try have c17b6 : (((ji14) : Int).toNat + (strOfNums y168).size ≤ 9223372036854775807) = True := eq_true (by have h_ := c17; simp only [ByteArray.size_append, ByteArray.size_extract] at h_; simp only [eq_iff_iff, iff_true] at *; omega)
                    obtain ⟨ji18, hji18⟩ : ∃ j_ : Int, (wrap64 ((ji14) + 2)) = j_ := ⟨_, rfl⟩
                    replace H : (if 0 ≤ (ji18) then (if (ji18) ≤ (a0.size : Int) then (if ((a0.extract 0 ((ji14) : Int).toNat) ++ (strOfNums y168)).size + (a0.extract ((ji18) : Int).toNat a0.size).size ≤ 9223372036854775807 then (if a0.toList = (strOfNums y165).toList then (palanquinlaw02_SumUpdates.j1 kj5 a0 a1 a2 (((a0.extract 0 ((ji14) : Int).toNat) ++ (strOfNums y168)) ++ (a0.extract ((ji18) : Int).toNat a0.size)) true) else (palanquinlaw02_SumUpdates.j1 kj5 a0 a1 a2 (((a0.extract 0 ((ji14) : Int).toNat) ++ (strOfNums y168)) ++ (a0.extract ((ji18) : Int).toNat a0.size)) ((((a0.extract 0 ((ji14) : Int).toNat) ++ (strOfNums y168)) ++ (a0.extract ((ji18) : Int).toNat a0.size)).toList == (strOfNums y165).toList))) else (none)) else (none)) else (none)) = some r := by first | (rw [hji18] at H; exact H) | (simp only [hji18] at H ⊢; exact H)
                    have hji18w : (IntKind.i64.wrap ((ji14) + 2)) = ji18 := (i64_w _).trans hji18
                    by_cases c19 : 0 ≤ (ji18)
                    · rw [if_pos c19] at H
                      have c19b0 := eq_true c19
                      have c19b1 : decide (0 ≤ (ji18)) = true := decide_eq_true c19
                      clear c19
                      by_cases c20 : (ji18) ≤ (a0.size : Int)
                      · rw [if_pos c20] at H
                        have c20b0 := eq_true c20
                        have c20b1 : decide ((ji18) ≤ (a0.size : Int)) = true := decide_eq_true c20
                        clear c20
                        by_cases c21 : ((a0.extract 0 ((ji14) : Int).toNat) ++ (strOfNums y168)).size + (a0.extract ((ji18) : Int).toNat a0.size).size ≤ 9223372036854775807
                        · rw [if_pos c21] at H
                          have c21b0 := eq_true c21
                          have c21b1 : decide (((a0.extract 0 ((ji14) : Int).toNat) ++ (strOfNums y168)).size + (a0.extract ((ji18) : Int).toNat a0.size).size ≤ 9223372036854775807) = true := decide_eq_true c21
                          try have c21b2 : (9223372036854775807 < ((a0.extract 0 ((ji14) : Int).toNat) ++ (strOfNums y168)).size + (a0.extract ((ji18) : Int).toNat a0.size).size) = False := eq_false (Nat.not_lt.2 c21)
                          try have c21b3 : (9223372036854775807 < ((a0.extract 0 ((ji14)).toNat).size) + ((strOfNums y168).size) + (a0.extract ((ji18) : Int).toNat a0.size).size) = False := eq_false (by have h_ := c21; simp only [ByteArray.size_append] at h_; omega)
                          try have c21b4 : (((a0.extract 0 ((ji14)).toNat).size) + ((strOfNums y168).size) + (a0.extract ((ji18) : Int).toNat a0.size).size ≤ 9223372036854775807) = True := eq_true (by have h_ := c21; simp only [ByteArray.size_append] at h_; omega)
                          try have c21b5 : (9223372036854775807 < (((ji14)).toNat) + ((strOfNums y168).size) + (a0.size - ((ji18) : Int).toNat)) = False := eq_false (by have h_ := c21; simp only [ByteArray.size_append, ByteArray.size_extract] at h_; simp only [eq_iff_iff, iff_true] at *; omega)
                          try have c21b6 : ((((ji14)).toNat) + ((strOfNums y168).size) + (a0.size - ((ji18) : Int).toNat) ≤ 9223372036854775807) = True := eq_true (by have h_ := c21; simp only [ByteArray.size_append, ByteArray.size_extract] at h_; simp only [eq_iff_iff, iff_true] at *; omega)
                          have HC22 := Aside0.mk H
                          clear H
                          try go_wp2_with (first | ((with_reducible refine gate_dst (N := 35) rfl ?_); (try (refine gate_guard (by rfl) ?_; dsimp only)); refine Kd.R_make (Kd.int .u8) _ 5 rfl (N := 35) rfl 25 _ _ rfl (a0.size : Int) rfl rfl Try.underlying25 (.int .u8 0) 1 info5 rfl (by decide) (by omega) 0 (ok := fun _ => True) (okp := fun _ => True) rfl (fun _ hk => hk) trivial (of_decide_eq_true (by first | (with_reducible assumption) | assumption)) (Nat.le_trans (Nat.mul_le_mul_right _ (of_decide_eq_true (by first | (with_reducible assumption) | assumption) : (a0.size : Int).toNat ≤ 281474976710656)) (by omega)) (Below.refl _ _) (Nat.le_refl _) ?_; intro v166 w23 ho24 hb hg_ hnew_; clear hg_ hnew_; (first | rw [← Ny165.out] at ho24 | (simp only [Int.reduceToNat] at ho24; rw [← Ny165.out] at ho24)); have n0_ := Aside0.mk (Kd.R_lower ho24 (below_size (by repeat (first | (with_reducible first | exact HB.out | apply below_alloc | apply pw_below_drewN | apply below_drew1) | exact HB.out)))); have n1_ := Aside0.mk (below_step (by repeat (first | (with_reducible first | exact HB.out | apply below_alloc | apply pw_below_drewN | apply below_drew1) | exact HB.out)) hb); clear HB; have HO167 := n0_; have HB := n1_; clear n0_ n1_; clear hb ho24; have hcv25 := own_string (P := Try.prog) Try.underlying25 Try.underlying5 Try.underlying9 (Kd.own_of_R HO167.out)))
                          have n0_ := Aside0.mk (Kd.R_drew HO167.out)
                          have n1_ := Aside0.mk (below_drew1 HB.out)
                          clear HO167
                          clear HB
                          have HO167 := n0_
                          have HB := n1_
                          clear n0_ n1_
                          refine start_ (n := 19) (S := fun w' => True) (ds := []) #[false, false, false, false, false, false, false, false, false, false, false, false, false, false, false, false, false, false, false] (by kernel_rfl) rfl rfl trivial (fun hHeld => ?_); refine with_tabW palanquinlaw02_SumUpdates.tab6 palanquinlaw02_SumUpdates.bits6 (fun HT_ HW_ => ?_)
                          generalize w23.drew = w26 at HO167 HB hHeld ⊢
                          refine pure_ (i := 0) (N := some 37) (v := ?_) (a' := ?_) #[true, false, false, false, false, false, false, false, false, false, false, false, false, false, false, false, false, false, false] rfl rfl (any_of HT_.out (by kernel_rfl)) (fun _ _ _ h => h) (Or.inl ⟨by rfl, ?_⟩) ?_ ?_
                          rotate_left
                          · intro w'
                            go_simp
                            with_reducible rfl
                          rotate_left
                          · simp only [Act.put, List.setIfInBounds_toArray, List.set_cons_zero, List.set_cons_succ, i64_w, i32_w]
                            rfl
                          refine pure_ (i := 1) (N := some 38) (v := ?_) (a' := ?_) #[true, true, false, false, false, false, false, false, false, false, false, false, false, false, false, false, false, false, false] rfl rfl (any_of HT_.out (by kernel_rfl)) (fun _ _ _ h => h) (Or.inl ⟨by rfl, ?_⟩) ?_ ?_
                          rotate_left
                          · intro w'
                            go_simp
                            with_reducible rfl
                          rotate_left
                          · simp only [Act.put, List.setIfInBounds_toArray, List.set_cons_zero, List.set_cons_succ, i64_w, i32_w]
                            rfl
                          refine pure_ (i := 2) (N := some 39) (v := ?_) (a' := ?_) #[true, true, true, false, false, false, false, false, false, false, false, false, false, false, false, false, false, false, false] rfl rfl (any_of HT_.out (by kernel_rfl)) (fun _ _ _ h => h) (Or.inl ⟨by rfl, ?_⟩) ?_ ?_
                          rotate_left
                          · intro w'
                            go_simp
                            with_reducible rfl
                          rotate_left
                          · simp only [Act.put, List.setIfInBounds_toArray, List.set_cons_zero, List.set_cons_succ, i64_w, i32_w]
                            rfl
                          refine pure_ (i := 3) (N := some 40) (v := ?_) (a' := ?_) #[true, true, true, true, false, false, false, false, false, false, false, false, false, false, false, false, false, false, false] rfl rfl (any_of HT_.out (by kernel_rfl)) (fun _ _ _ h => h) (Or.inl ⟨by rfl, ?_⟩) ?_ ?_
                          rotate_left
                          · intro w'
                            go_simp
                            with_reducible rfl
                          rotate_left
                          · simp only [Act.put, List.setIfInBounds_toArray, List.set_cons_zero, List.set_cons_succ, i64_w, i32_w]
                            rfl
                          refine pure_ (i := 4) (N := some 41) (v := ?_) (a' := ?_) #[true, true, true, true, true, false, false, false, false, false, false, false, false, false, false, false, false, false, false] rfl rfl (any_of HT_.out (by kernel_rfl)) (fun _ _ _ h => h) (Or.inl ⟨by rfl, ?_⟩) ?_ ?_
                          rotate_left
                          · intro w'
                            go_simp
                            with_reducible rfl
                          rotate_left
                          · simp only [Act.put, List.setIfInBounds_toArray, List.set_cons_zero, List.set_cons_succ, i64_w, i32_w]
                            rfl
                          refine pure_ (i := 5) (N := some 42) (v := ?_) (a' := ?_) #[true, true, true, true, true, true, false, false, false, false, false, false, false, false, false, false, false, false, false] rfl rfl (any_of HT_.out (by kernel_rfl)) (fun _ _ _ h => h) (Or.inl ⟨by rfl, ?_⟩) ?_ ?_
                          rotate_left
                          · intro w'
                            go_simp
                            with_reducible rfl
                          rotate_left
                          · simp only [Act.put, List.setIfInBounds_toArray, List.set_cons_zero, List.set_cons_succ, i64_w, i32_w]
                            rfl
                          refine pure_ (i := 6) (N := some 43) (v := ?_) (a' := ?_) #[true, true, true, true, true, true, true, false, false, false, false, false, false, false, false, false, false, false, false] rfl rfl (any_of HT_.out (by kernel_rfl)) (fun _ _ _ h => h) (Or.inl ⟨by rfl, ?_⟩) ?_ ?_
                          rotate_left
                          · intro w'
                            go_simp
                            with_reducible rfl
                          rotate_left
                          · simp only [Act.put, List.setIfInBounds_toArray, List.set_cons_zero, List.set_cons_succ, i64_w, i32_w]
                            rfl
                          refine pure_ (i := 7) (N := some 44) (v := ?_) (a' := ?_) #[true, true, true, true, true, true, true, true, false, false, false, false, false, false, false, false, false, false, false] rfl rfl (any_of HT_.out (by kernel_rfl)) (fun _ _ _ h => h) (Or.inl ⟨by rfl, ?_⟩) ?_ ?_
                          rotate_left
                          · intro w'
                            go_simp
                            with_reducible rfl
                          rotate_left
                          · simp only [Act.put, List.setIfInBounds_toArray, List.set_cons_zero, List.set_cons_succ, i64_w, i32_w]
                            rfl
                          refine pure_ (i := 8) (N := some 45) (v := ?_) (a' := ?_) #[true, true, true, true, true, true, true, true, true, false, false, false, false, false, false, false, false, false, false] rfl rfl (any_of HT_.out (by kernel_rfl)) (fun _ _ _ h => h) (Or.inl ⟨by rfl, ?_⟩) ?_ ?_
                          rotate_left
                          · intro w'
                            go_simp
                            with_reducible rfl
                          rotate_left
                          · simp only [Act.put, List.setIfInBounds_toArray, List.set_cons_zero, List.set_cons_succ, i64_w, i32_w]
                            rfl
                          refine pure_ (i := 12) (N := some 49) (v := ?_) (a' := ?_) #[true, true, true, true, true, true, true, true, true, false, false, false, true, false, false, false, false, false, false] rfl rfl (any_of HT_.out (by kernel_rfl)) (fun _ _ _ h => h) (Or.inl ⟨by rfl, ?_⟩) ?_ ?_
                          rotate_left
                          · intro w'
                            go_simp
                            with_reducible rfl
                          rotate_left
                          · simp only [Act.put, List.setIfInBounds_toArray, List.set_cons_zero, List.set_cons_succ, i64_w, i32_w]
                            rfl
                          refine pure_ (i := 13) (N := some 50) (v := ?_) (a' := ?_) #[true, true, true, true, true, true, true, true, true, false, false, false, true, true, false, false, false, false, false] rfl rfl (any_of HT_.out (by kernel_rfl)) (fun _ _ _ h => h) (Or.inl ⟨by rfl, ?_⟩) ?_ ?_
                          rotate_left
                          · intro w'
                            go_simp
                            with_reducible rfl
                          rotate_left
                          · simp only [Act.put, List.setIfInBounds_toArray, List.set_cons_zero, List.set_cons_succ, i64_w, i32_w]
                            rfl
                          refine pure_ (i := 14) (N := some 51) (v := ?_) (a' := ?_) #[true, true, true, true, true, true, true, true, true, false, false, false, true, true, true, false, false, false, false] rfl rfl (any_of HT_.out (by kernel_rfl)) (fun _ _ _ h => h) (Or.inl ⟨by rfl, ?_⟩) ?_ ?_
                          rotate_left
                          · intro w'
                            go_simp
                            with_reducible rfl
                          rotate_left
                          · simp only [Act.put, List.setIfInBounds_toArray, List.set_cons_zero, List.set_cons_succ, i64_w, i32_w]
                            rfl
                          refine pure_ (i := 15) (N := some 52) (v := ?_) (a' := ?_) #[true, true, true, true, true, true, true, true, true, false, false, false, true, true, true, true, false, false, false] rfl rfl (any_of HT_.out (by kernel_rfl)) (fun _ _ _ h => h) (Or.inl ⟨by rfl, ?_⟩) ?_ ?_
                          rotate_left
                          · intro w'
                            go_simp
                            with_reducible rfl
                          rotate_left
                          · simp only [Act.put, List.setIfInBounds_toArray, List.set_cons_zero, List.set_cons_succ, i64_w, i32_w]
                            rfl
                          refine pure_ (i := 16) (N := some 53) (v := ?_) (a' := ?_) #[true, true, true, true, true, true, true, true, true, false, false, false, true, true, true, true, true, false, false] rfl rfl (any_of HT_.out (by kernel_rfl)) (fun _ _ _ h => h) (Or.inl ⟨by rfl, ?_⟩) ?_ ?_
                          rotate_left
                          · intro w'
                            go_simp
                            with_reducible rfl
                          rotate_left
                          · simp only [Act.put, List.setIfInBounds_toArray, List.set_cons_zero, List.set_cons_succ, i64_w, i32_w]
                            rfl
                          refine one_ (i := 9) (N := some 46) #[true, true, true, true, true, true, true, true, true, true, false, false, true, true, true, true, true, false, false] rfl rfl (one_of HT_.out (by kernel_rfl)) (by decide) (fun K hK => ?_)
                          refine Kd.R_lit_step (Kd.int .u8) _ 5 ?hg (N := 46) ?hd (xs := ([(a2 / 256) % 256, (a2) % 256] : List Int)) (inner := [.int .u8 ((a2 / 256) % 256), .int .u8 ((a2) % 256)]) (ok := fun _ => True) (okp := fun _ => True) ?hr ?hp (fun _ hk => hk) trivial (Below.refl _ _) (Nat.le_refl _) (by simp) ?_; (case hd => rfl); (case hg => rfl); (case hr => first | (go_simp; done) | (go_simp; rfl)); (case hp => exact (Reps.one (show Kd.M (Kd.int .u8) _ _ _ ((a2 / 256) % 256) [.int .u8 ((a2 / 256) % 256)] from rfl) (Reps.one (show Kd.M (Kd.int .u8) _ _ _ ((a2) % 256) [.int .u8 ((a2) % 256)] from rfl) (Reps.none _ _))))
                          intro v169 w27 ho28 hb hg_ hnew_
                          clear hg_ hnew_
                          (first | rw [← Ny168.out] at ho28 | (simp only [Int.reduceToNat] at ho28; rw [← Ny168.out] at ho28))
                          have n0_ := Aside0.mk (Kd.R_elder' (by (with_reducible repeat (first | apply Kd.R_alloc | apply Kd.R_drewN | apply Kd.R_drew)); exact HO167.out) (Kd.R_base ho28) hb)
                          have n1_ := Aside0.mk (Kd.R_lower (Kd.R_new' ho28 (Kd.R_lt (by (with_reducible repeat (first | apply Kd.R_alloc | apply Kd.R_drewN | apply Kd.R_drew)); exact HO167.out))) (below_size (by repeat (first | (with_reducible first | exact HB.out | apply below_alloc | apply pw_below_drewN | apply below_drew1) | exact HB.out))))
                          have n2_ := Aside0.mk (below_step (by repeat (first | (with_reducible first | exact HB.out | apply below_alloc | apply pw_below_drewN | apply below_drew1) | exact HB.out)) hb)
                          clear HO167
                          clear HB
                          have HO167 := n0_
                          have HO170 := n1_
                          have HB := n2_
                          clear n0_ n1_ n2_
                          clear hb ho28
                          refine hK.out _ _ trivial (fun hHeld => ?_)
                          clear hK K
                          refine norm_ (a' := ?_) ?_ ?_
                          rotate_left
                          · show Act.put _ (some 46) _ = _
                            simp only [Act.put, List.setIfInBounds_toArray, List.set_cons_zero, List.set_cons_succ, i64_w, i32_w]
                            rfl
                          refine one_ (i := 10) (N := some 47) #[true, true, true, true, true, true, true, true, true, true, true, false, true, true, true, true, true, false, false] rfl rfl (one_of HT_.out (by kernel_rfl)) (by decide) (fun K hK => ?_)
                          have hcv29 := own_string (P := Try.prog) Try.underlying25 Try.underlying5 Try.underlying9 (Kd.own_of_R HO170.out)
                          refine value_ (w1 := ?_) (v := ?_) (by rfl) rfl ?_ ?_
                          rotate_left 2
                          · go_simp
                            constructor
                            · rfl
                            · rfl
                          clear hcv29
                          refine hK.out _ _ trivial (fun hHeld => ?_)
                          clear hK K
                          refine norm_ (a' := ?_) ?_ ?_
                          rotate_left
                          · show Act.put _ (some 47) _ = _
                            simp only [Act.put, List.setIfInBounds_toArray, List.set_cons_zero, List.set_cons_succ, i64_w, i32_w]
                            rfl
                          refine pure_ (i := 11) (N := some 48) (v := ?_) (a' := ?_) #[true, true, true, true, true, true, true, true, true, true, true, true, true, true, true, true, true, false, false] rfl rfl (any_of HT_.out (by kernel_rfl)) (fun _ _ _ h => h) (Or.inl ⟨by rfl, ?_⟩) ?_ ?_
                          rotate_left
                          · intro w'
                            go_simp
                            with_reducible rfl
                          rotate_left
                          · simp only [Act.put, List.setIfInBounds_toArray, List.set_cons_zero, List.set_cons_succ, i64_w, i32_w]
                            rfl
                          refine pure_ (i := 17) (N := some 54) (v := ?_) (a' := ?_) #[true, true, true, true, true, true, true, true, true, true, true, true, true, true, true, true, true, true, false] rfl rfl (any_of HT_.out (by kernel_rfl)) (fun _ _ _ h => h) (Or.inl ⟨by rfl, ?_⟩) ?_ ?_
                          rotate_left
                          · intro w'
                            go_simp
                            with_reducible rfl
                          rotate_left
                          · simp only [Act.put, List.setIfInBounds_toArray, List.set_cons_zero, List.set_cons_succ, i64_w, i32_w]
                            rfl
                          refine pure_ (i := 18) (N := some 8) (v := ?_) (a' := ?_) #[true, true, true, true, true, true, true, true, true, true, true, true, true, true, true, true, true, true, true] rfl rfl (any_of HT_.out (by kernel_rfl)) (fun _ _ _ h => h) (Or.inl ⟨by rfl, ?_⟩) ?_ ?_
                          rotate_left
                          · intro w'
                            go_simp
                            with_reducible rfl
                          rotate_left
                          · simp only [Act.put, List.setIfInBounds_toArray, List.set_cons_zero, List.set_cons_succ, i64_w, i32_w]
                            rfl
                          refine done_ (done_of HT_.out (by kernel_rfl)) ?_
                          go_upto_region 7 with (fail)
                          go_cut [62] (fun v62 wc => ∃ (kq : Nat) (x62_21 : Bool), v62 = .bool x62_21 ∧ Aside0 (palanquinlaw02_SumUpdates.j1 kq a0 a1 a2 (((a0.extract 0 ((ji14) : Int).toNat) ++ (strOfNums y168)) ++ (a0.extract ((ji18) : Int).toNat a0.size)) x62_21 = some r) ∧ Aside0 (kq ≤ kj5) ∧ Aside0 (Below w.heap.size w wc))
                          case first =>
                            have H := HC22.out
                            clear HC22
                            by_cases c30 : a0.toList = (strOfNums y165).toList
                            · rw [if_pos c30] at H
                              have c30b0 : (a0.toList == (strOfNums y165).toList) = true := beq_iff_eq.mpr c30
                              have c30b1 : (a0.toList != (strOfNums y165).toList) = false := bne_eq_false_iff_eq.mpr c30
                              clear c30
                              (first | rw [c30b0] | (simp only [i64_w, i32_w]; rw [c30b0]) | skip)
                              have H' := Aside0.mk H
                              clear H
                              go_wp2
                              go_meet
                              case rel => exact ⟨_, (true), (by first | rfl | (simp; done) | (simp [*]; done)), H', ⟨by have := HJ5.out; first | omega | exact Nat.le_refl _⟩, ⟨by repeat (first | (with_reducible first | exact HB.out | apply below_alloc | apply pw_below_drewN | apply below_drew1) | exact HB.out)⟩⟩
                            · rw [if_neg c30] at H
                              have c30b0 : (a0.toList == (strOfNums y165).toList) = false := beq_eq_false_iff_ne.mpr c30
                              have c30b1 : (a0.toList != (strOfNums y165).toList) = true := bne_iff_ne.mpr c30
                              (first | rw [c30b0] | (simp only [i64_w, i32_w]; rw [c30b0]) | skip)
                              have H' := Aside0.mk H
                              clear H
                              go_wp2
                              go_meet
                              case rel => exact ⟨_, (((((a0.extract 0 ((ji14) : Int).toNat) ++ (strOfNums y168)) ++ (a0.extract ((ji18) : Int).toNat a0.size)).toList == (strOfNums y165).toList)), (by first | rfl | (simp; done) | (simp only [← hji14, ← hji18] <;> (first | rfl | simp)) | (simp [*]; done)), H', ⟨by have := HJ5.out; first | omega | exact Nat.le_refl _⟩, ⟨by repeat (first | (with_reducible first | exact HB.out | apply below_alloc | apply pw_below_drewN | apply below_drew1) | exact HB.out)⟩⟩
                          case rest =>
                            clear HC22
                            try clear c1
                            try clear c2
                            try clear p2
                            try clear hcv2
                            try clear c3
                            try clear c5
                            try clear p6
                            try clear c8
                            try clear c8b0
                            try clear c8b1
                            try clear c9
                            try clear c9b0
                            try clear c9b1
                            try clear c10
                            try clear c10b0
                            try clear c11
                            try clear c12
                            try clear c12b0
                            try clear c12b1
                            try clear c13
                            try clear c13b0
                            try clear c13b1
                            try clear c15
                            try clear c15b0
                            try clear c15b1
                            try clear c16
                            try clear c16b0
                            try clear c16b1
                            try clear c17
                            try clear c17b0
                            try clear c17b1
                            try clear c17b2
                            try clear c19
                            try clear c19b0
                            try clear c19b1
                            try clear c20
                            try clear c20b0
                            try clear c20b1
                            try clear c21
                            try clear c21b0
                            try clear c21b1
                            try clear c21b2
                            try clear hcv25
                            try clear hcv29
                            try clear c30
                            try clear c30b0
                            try clear c30b1
                            try clear p2
                            try clear p6
                            obtain ⟨kq, x62_21, rfl, HA, HJ21, HB⟩ := hcut
                            cases kq with
                            | zero => exact absurd HA.out (by simp [palanquinlaw02_SumUpdates.j1])
                            | succ kj21 =>
                              have H := HA.out
                              clear HA
                              simp only [palanquinlaw02_SumUpdates.j1] at H
                              by_cases c31 : x62_21 = true
                              · subst c31
                                have H1 : (some true) = some r := by rw [if_pos rfl] at H; exact H
                                clear H
                                have H := H1
                                clear H1
                                obtain rfl := Option.some.inj H
                                go_wp2
                                go_ret
                                exact ⟨by first | rfl | (simp [errW_none, errW_some] <;> rfl) | (simp only [← hji14, ← hji18]; first | rfl | (simp [errW_none, errW_some] <;> rfl)) | (simp [*, errW_none, errW_some] <;> rfl), by repeat (first | (with_reducible first | exact HB.out | apply below_alloc | apply pw_below_drewN | apply below_drew1) | exact HB.out)⟩
                              · replace c31 := Bool.eq_false_iff.mpr c31
                                subst c31
                                have H1 : (if 0 ≤ (wrap64 (2 * a1)) then (if (wrap64 (2 * a1)) < (a0.size : Int) then (if 0 ≤ (wrap64 ((wrap64 (2 * a1)) + 1)) then (if (wrap64 ((wrap64 (2 * a1)) + 1)) < (a0.size : Int) then ((sum_Sum.f (([a0] : List ByteArray))).bind fun t174 => ((sum_Update.f t174 (Go.bits .or .i64 (wrap64 ((wrap64 (bt a0 (wrap64 (2 * a1)))) * 256)) (wrap64 (bt a0 (wrap64 ((wrap64 (2 * a1)) + 1))))) (wrap64 (a2))).bind fun t175 => ((sum_Sum.f (([(((a0.extract 0 ((ji14) : Int).toNat) ++ (strOfNums y168)) ++ (a0.extract ((ji18) : Int).toNat a0.size))] : List ByteArray))).bind fun t179 => (if t175 = t179 then ((sum_Update.f t175 (wrap64 (a2)) (Go.bits .or .i64 (wrap64 ((wrap64 (bt a0 (wrap64 (2 * a1)))) * 256)) (wrap64 (bt a0 (wrap64 ((wrap64 (2 * a1)) + 1)))))).bind fun t180 => ((sum_Sum.f (([a0] : List ByteArray))).bind fun t184 => (some (t180 == t184)))) else (some false))))) else (none)) else (none)) else (none)) else (none)) = some r := by rw [if_neg (show ¬ (false = true) by decide)] at H; exact H
                                clear H
                                have H := H1
                                clear H1
                                obtain ⟨ji32, hji32⟩ : ∃ j_ : Int, (wrap64 (2 * a1)) = j_ := ⟨_, rfl⟩
                                try clear hji14w
                                try clear hji14
                                replace H : (if 0 ≤ (ji32) then (if (ji32) < (a0.size : Int) then (if 0 ≤ (wrap64 ((ji32) + 1)) then (if (wrap64 ((ji32) + 1)) < (a0.size : Int) then ((sum_Sum.f (([a0] : List ByteArray))).bind fun t174 => ((sum_Update.f t174 (Go.bits .or .i64 (wrap64 ((wrap64 (bt a0 (ji32))) * 256)) (wrap64 (bt a0 (wrap64 ((ji32) + 1))))) (wrap64 (a2))).bind fun t175 => ((sum_Sum.f (([(((a0.extract 0 ((ji14) : Int).toNat) ++ (strOfNums y168)) ++ (a0.extract ((ji18) : Int).toNat a0.size))] : List ByteArray))).bind fun t179 => (if t175 = t179 then ((sum_Update.f t175 (wrap64 (a2)) (Go.bits .or .i64 (wrap64 ((wrap64 (bt a0 (ji32))) * 256)) (wrap64 (bt a0 (wrap64 ((ji32) + 1)))))).bind fun t180 => ((sum_Sum.f (([a0] : List ByteArray))).bind fun t184 => (some (t180 == t184)))) else (some false))))) else (none)) else (none)) else (none)) else (none)) = some r := by first | (rw [hji32] at H; exact H) | (simp only [hji32] at H ⊢; exact H)
                                have hji32w : (IntKind.i64.wrap (2 * a1)) = ji32 := (i64_w _).trans hji32
                                by_cases c33 : 0 ≤ (ji32)
                                · rw [if_pos c33] at H
                                  have c33b0 : decide (0 ≤ (ji32)) = true := decide_eq_true c33
                                  clear c33
                                  by_cases c34 : (ji32) < (a0.size : Int)
                                  · rw [if_pos c34] at H
                                    have c34b0 : decide ((ji32) < (a0.size : Int)) = true := decide_eq_true c34
                                    clear c34
                                    obtain ⟨ji36, hji36⟩ : ∃ j_ : Int, (wrap64 ((ji32) + 1)) = j_ := ⟨_, rfl⟩
                                    replace H : (if 0 ≤ (ji36) then (if (ji36) < (a0.size : Int) then ((sum_Sum.f (([a0] : List ByteArray))).bind fun t174 => ((sum_Update.f t174 (Go.bits .or .i64 (wrap64 ((wrap64 (bt a0 (ji32))) * 256)) (wrap64 (bt a0 (ji36)))) (wrap64 (a2))).bind fun t175 => ((sum_Sum.f (([(((a0.extract 0 ((ji14) : Int).toNat) ++ (strOfNums y168)) ++ (a0.extract ((ji18) : Int).toNat a0.size))] : List ByteArray))).bind fun t179 => (if t175 = t179 then ((sum_Update.f t175 (wrap64 (a2)) (Go.bits .or .i64 (wrap64 ((wrap64 (bt a0 (ji32))) * 256)) (wrap64 (bt a0 (ji36))))).bind fun t180 => ((sum_Sum.f (([a0] : List ByteArray))).bind fun t184 => (some (t180 == t184)))) else (some false))))) else (none)) else (none)) = some r := by first | (rw [hji36] at H; exact H) | (simp only [hji36] at H ⊢; exact H)
                                    have hji36w : (IntKind.i64.wrap ((ji32) + 1)) = ji36 := (i64_w _).trans hji36
                                    by_cases c37 : 0 ≤ (ji36)
                                    · rw [if_pos c37] at H
                                      have c37b0 : decide (0 ≤ (ji36)) = true := decide_eq_true c37
                                      clear c37
                                      by_cases c38 : (ji36) < (a0.size : Int)
                                      · rw [if_pos c38] at H
                                        have c38b0 : decide ((ji36) < (a0.size : Int)) = true := decide_eq_true c38
                                        clear c38
                                        obtain ⟨y171, hy171⟩ : ∃ y_ : List ByteArray, y_ = (([a0] : List ByteArray)) := ⟨_, rfl⟩
                                        replace H : ((sum_Sum.f y171).bind fun t174 => ((sum_Update.f t174 (Go.bits .or .i64 (wrap64 ((wrap64 (bt a0 (ji32))) * 256)) (wrap64 (bt a0 (ji36)))) (wrap64 (a2))).bind fun t175 => ((sum_Sum.f (([(((a0.extract 0 ((ji14) : Int).toNat) ++ (strOfNums y168)) ++ (a0.extract ((ji18) : Int).toNat a0.size))] : List ByteArray))).bind fun t179 => (if t175 = t179 then ((sum_Update.f t175 (wrap64 (a2)) (Go.bits .or .i64 (wrap64 ((wrap64 (bt a0 (ji32))) * 256)) (wrap64 (bt a0 (ji36))))).bind fun t180 => ((sum_Sum.f (([a0] : List ByteArray))).bind fun t184 => (some (t180 == t184)))) else (some false))))) = some r := by first | (rw [hy171]; with_reducible exact H) | (have H2_ := (Option.bind_some _ _).symm.trans H; rw [hy171]; with_reducible exact H2_) | (have H2_ := (Option.bind_some _ _).symm.trans H; with_reducible exact H2_) | with_reducible exact H | (rw [hy171]; exact H) | exact H
                                        have Ny171 := Aside0.mk hy171
                                        clear hy171
                                        replace H := Option.bind_eq_some_iff.mp H
                                        obtain ⟨t174, A400, H⟩ := H
                                        replace H : ((sum_Update.f t174 (Go.bits .or .i64 (wrap64 ((wrap64 (bt a0 (ji32))) * 256)) (wrap64 (bt a0 (ji36)))) (wrap64 (a2))).bind fun t175 => ((sum_Sum.f (([(((a0.extract 0 ((ji14) : Int).toNat) ++ (strOfNums y168)) ++ (a0.extract ((ji18) : Int).toNat a0.size))] : List ByteArray))).bind fun t179 => (if t175 = t179 then ((sum_Update.f t175 (wrap64 (a2)) (Go.bits .or .i64 (wrap64 ((wrap64 (bt a0 (ji32))) * 256)) (wrap64 (bt a0 (ji36))))).bind fun t180 => ((sum_Sum.f (([a0] : List ByteArray))).bind fun t184 => (some (t180 == t184)))) else (some false)))) = some r := H
                                        have A40 := Aside0.mk A400
                                        clear A400
                                        replace H := Option.bind_eq_some_iff.mp H
                                        obtain ⟨t175, A410, H⟩ := H
                                        replace H : ((sum_Sum.f (([(((a0.extract 0 ((ji14) : Int).toNat) ++ (strOfNums y168)) ++ (a0.extract ((ji18) : Int).toNat a0.size))] : List ByteArray))).bind fun t179 => (if t175 = t179 then ((sum_Update.f t175 (wrap64 (a2)) (Go.bits .or .i64 (wrap64 ((wrap64 (bt a0 (ji32))) * 256)) (wrap64 (bt a0 (ji36))))).bind fun t180 => ((sum_Sum.f (([a0] : List ByteArray))).bind fun t184 => (some (t180 == t184)))) else (some false))) = some r := H
                                        have A41 := Aside0.mk A410
                                        clear A410
                                        obtain ⟨y176, hy176⟩ : ∃ y_ : List ByteArray, y_ = (([(((a0.extract 0 ((ji14) : Int).toNat) ++ (strOfNums y168)) ++ (a0.extract ((ji18) : Int).toNat a0.size))] : List ByteArray)) := ⟨_, rfl⟩
                                        replace H : ((sum_Sum.f y176).bind fun t179 => (if t175 = t179 then ((sum_Update.f t175 (wrap64 (a2)) (Go.bits .or .i64 (wrap64 ((wrap64 (bt a0 (ji32))) * 256)) (wrap64 (bt a0 (ji36))))).bind fun t180 => ((sum_Sum.f (([a0] : List ByteArray))).bind fun t184 => (some (t180 == t184)))) else (some false))) = some r := by first | (rw [hy176]; with_reducible exact H) | (have H2_ := (Option.bind_some _ _).symm.trans H; rw [hy176]; with_reducible exact H2_) | (have H2_ := (Option.bind_some _ _).symm.trans H; with_reducible exact H2_) | with_reducible exact H | (rw [hy176]; exact H) | exact H
                                        have Ny176 := Aside0.mk hy176
                                        clear hy176
                                        replace H := Option.bind_eq_some_iff.mp H
                                        obtain ⟨t179, A420, H⟩ := H
                                        replace H : (if t175 = t179 then ((sum_Update.f t175 (wrap64 (a2)) (Go.bits .or .i64 (wrap64 ((wrap64 (bt a0 (ji32))) * 256)) (wrap64 (bt a0 (ji36))))).bind fun t180 => ((sum_Sum.f (([a0] : List ByteArray))).bind fun t184 => (some (t180 == t184)))) else (some false)) = some r := H
                                        have A42 := Aside0.mk A420
                                        clear A420
                                        by_cases c43 : t175 = t179
                                        · rw [if_pos c43] at H
                                          have c43b0 : (t175 == t179) = true := beq_iff_eq.mpr c43
                                          have c43b1 : (t175 != t179) = false := bne_eq_false_iff_eq.mpr c43
                                          clear c43
                                          replace H := Option.bind_eq_some_iff.mp H
                                          obtain ⟨t180, A440, H⟩ := H
                                          replace H : ((sum_Sum.f (([a0] : List ByteArray))).bind fun t184 => (some (t180 == t184))) = some r := H
                                          have A44 := Aside0.mk A440
                                          clear A440
                                          obtain ⟨y181, hy181⟩ : ∃ y_ : List ByteArray, y_ = (([a0] : List ByteArray)) := ⟨_, rfl⟩
                                          replace H : ((sum_Sum.f y181).bind fun t184 => (some (t180 == t184))) = some r := by first | (rw [hy181]; with_reducible exact H) | (have H2_ := (Option.bind_some _ _).symm.trans H; rw [hy181]; with_reducible exact H2_) | (have H2_ := (Option.bind_some _ _).symm.trans H; with_reducible exact H2_) | with_reducible exact H | (rw [hy181]; exact H) | exact H
                                          have Ny181 := Aside0.mk hy181
                                          clear hy181
                                          replace H := Option.bind_eq_some_iff.mp H
                                          obtain ⟨t184, A450, H⟩ := H
                                          replace H : (some (t180 == t184)) = some r := H
                                          have A45 := Aside0.mk A450
                                          clear A450
                                          obtain rfl := Option.some.inj H
                                          try go_wp2
                                          have n0_ := Aside0.mk (below_drew1 HB.out)
                                          clear HB
                                          have HB := n0_
                                          clear n0_
                                          have p35 : 0 ≤ ((ji32) : Int) := of_decide_eq_true (by first | (with_reducible assumption) | assumption)
                                          have q35 : (ji32) < (a0.size : Int) := of_decide_eq_true (by first | (with_reducible assumption) | assumption)
                                          have hx35 := bt_at a0 (ji32)
                                          replace p35 := eq_true p35
                                          replace q35 := eq_true q35
                                          have p39 : 0 ≤ ((ji36) : Int) := of_decide_eq_true (by first | (with_reducible assumption) | assumption)
                                          have q39 : (ji36) < (a0.size : Int) := of_decide_eq_true (by first | (with_reducible assumption) | assumption)
                                          have hx39 := bt_at a0 (ji36)
                                          replace p39 := eq_true p39
                                          replace q39 := eq_true q39
                                          refine start_ (n := 14) (S := fun w' => True) (ds := []) #[false, false, false, false, false, false, false, false, false, false, false, false, false, false] (by kernel_rfl) rfl rfl trivial (fun hHeld => ?_); refine with_tabW palanquinlaw02_SumUpdates.tab9 palanquinlaw02_SumUpdates.bits9 (fun HT_ HW_ => ?_)
                                          generalize wc.drew = w46 at HB hHeld ⊢
                                          refine pure_ (i := 0) (N := some 63) (v := ?_) (a' := ?_) #[true, false, false, false, false, false, false, false, false, false, false, false, false, false] rfl rfl (any_of HT_.out (by kernel_rfl)) (fun _ _ _ h => h) (Or.inl ⟨by rfl, ?_⟩) ?_ ?_
                                          rotate_left
                                          · intro w'
                                            go_simp
                                            with_reducible rfl
                                          rotate_left
                                          · simp only [Act.put, List.setIfInBounds_toArray, List.set_cons_zero, List.set_cons_succ, i64_w, i32_w]
                                            rfl
                                          refine pure_ (i := 1) (N := some 64) (v := ?_) (a' := ?_) #[true, true, false, false, false, false, false, false, false, false, false, false, false, false] rfl rfl (any_of HT_.out (by kernel_rfl)) (fun _ _ _ h => h) (Or.inl ⟨by rfl, ?_⟩) ?_ ?_
                                          rotate_left
                                          · intro w'
                                            go_simp
                                            with_reducible rfl
                                          rotate_left
                                          · simp only [Act.put, List.setIfInBounds_toArray, List.set_cons_zero, List.set_cons_succ, i64_w, i32_w]
                                            rfl
                                          refine pure_ (i := 2) (N := some 65) (v := ?_) (a' := ?_) #[true, true, true, false, false, false, false, false, false, false, false, false, false, false] rfl rfl (any_of HT_.out (by kernel_rfl)) (fun _ _ _ h => h) (Or.inl ⟨by rfl, ?_⟩) ?_ ?_
                                          rotate_left
                                          · intro w'
                                            go_simp
                                            with_reducible rfl
                                          rotate_left
                                          · simp only [Act.put, List.setIfInBounds_toArray, List.set_cons_zero, List.set_cons_succ, i64_w, i32_w]
                                            rfl
                                          refine pure_ (i := 6) (N := some 69) (v := ?_) (a' := ?_) #[true, true, true, false, false, false, true, false, false, false, false, false, false, false] rfl rfl (any_of HT_.out (by kernel_rfl)) (fun _ _ _ h => h) (Or.inl ⟨by rfl, ?_⟩) ?_ ?_
                                          rotate_left
                                          · intro w'
                                            go_simp
                                            with_reducible rfl
                                          rotate_left
                                          · simp only [Act.put, List.setIfInBounds_toArray, List.set_cons_zero, List.set_cons_succ, i64_w, i32_w]
                                            rfl
                                          refine pure_ (i := 7) (N := some 70) (v := ?_) (a' := ?_) #[true, true, true, false, false, false, true, true, false, false, false, false, false, false] rfl rfl (any_of HT_.out (by kernel_rfl)) (fun _ _ _ h => h) (Or.inl ⟨by rfl, ?_⟩) ?_ ?_
                                          rotate_left
                                          · intro w'
                                            go_simp
                                            with_reducible rfl
                                          rotate_left
                                          · simp only [Act.put, List.setIfInBounds_toArray, List.set_cons_zero, List.set_cons_succ, i64_w, i32_w]
                                            rfl
                                          refine pure_ (i := 8) (N := some 71) (v := ?_) (a' := ?_) #[true, true, true, false, false, false, true, true, true, false, false, false, false, false] rfl rfl (any_of HT_.out (by kernel_rfl)) (fun _ _ _ h => h) (Or.inl ⟨by rfl, ?_⟩) ?_ ?_
                                          rotate_left
                                          · intro w'
                                            go_simp
                                            with_reducible rfl
                                          rotate_left
                                          · simp only [Act.put, List.setIfInBounds_toArray, List.set_cons_zero, List.set_cons_succ, i64_w, i32_w]
                                            rfl
                                          refine pure_ (i := 9) (N := some 72) (v := ?_) (a' := ?_) #[true, true, true, false, false, false, true, true, true, true, false, false, false, false] rfl rfl (any_of HT_.out (by kernel_rfl)) (fun _ _ _ h => h) (Or.inl ⟨by rfl, ?_⟩) ?_ ?_
                                          rotate_left
                                          · intro w'
                                            go_simp
                                            with_reducible rfl
                                          rotate_left
                                          · simp only [Act.put, List.setIfInBounds_toArray, List.set_cons_zero, List.set_cons_succ, i64_w, i32_w]
                                            rfl
                                          refine take_ (i := 3) (N := some 66) (v := ?_) (a' := ?_) #[true, true, true, true, false, false, true, true, true, true, false, false, false, false] rfl rfl (take_ofW HT_.out HW_.out (by kernel_rfl)) (fun _ _ _ h => h) (Or.inl ⟨by rfl, ?_⟩) hHeld ?_ ?_
                                          rotate_left
                                          · intro w' _
                                            go_simp
                                            with_reducible rfl
                                          rotate_left
                                          · simp only [Act.put, List.setIfInBounds_toArray, List.set_cons_zero, List.set_cons_succ, i64_w, i32_w]
                                            rfl
                                          refine pure_ (i := 4) (N := some 67) (v := ?_) (a' := ?_) #[true, true, true, true, true, false, true, true, true, true, false, false, false, false] rfl rfl (any_of HT_.out (by kernel_rfl)) (fun _ _ _ h => h) (Or.inl ⟨by rfl, ?_⟩) ?_ ?_
                                          rotate_left
                                          · intro w'
                                            go_simp
                                            with_reducible rfl
                                          rotate_left
                                          · simp only [Act.put, List.setIfInBounds_toArray, List.set_cons_zero, List.set_cons_succ, i64_w, i32_w]
                                            rfl
                                          refine pure_ (i := 5) (N := some 68) (v := ?_) (a' := ?_) #[true, true, true, true, true, true, true, true, true, true, false, false, false, false] rfl rfl (any_of HT_.out (by kernel_rfl)) (fun _ _ _ h => h) (Or.inl ⟨by rfl, ?_⟩) ?_ ?_
                                          rotate_left
                                          · intro w'
                                            go_simp
                                            with_reducible rfl
                                          rotate_left
                                          · simp only [Act.put, List.setIfInBounds_toArray, List.set_cons_zero, List.set_cons_succ, i64_w, i32_w]
                                            rfl
                                          refine take_ (i := 10) (N := some 73) (v := ?_) (a' := ?_) #[true, true, true, true, true, true, true, true, true, true, true, false, false, false] rfl rfl (take_ofW HT_.out HW_.out (by kernel_rfl)) (fun _ _ _ h => h) (Or.inl ⟨by rfl, ?_⟩) hHeld ?_ ?_
                                          rotate_left
                                          · intro w' _
                                            go_simp
                                            with_reducible rfl
                                          rotate_left
                                          · simp only [Act.put, List.setIfInBounds_toArray, List.set_cons_zero, List.set_cons_succ, i64_w, i32_w]
                                            rfl
                                          refine pure_ (i := 11) (N := some 74) (v := ?_) (a' := ?_) #[true, true, true, true, true, true, true, true, true, true, true, true, false, false] rfl rfl (any_of HT_.out (by kernel_rfl)) (fun _ _ _ h => h) (Or.inl ⟨by rfl, ?_⟩) ?_ ?_
                                          rotate_left
                                          · intro w'
                                            go_simp
                                            with_reducible rfl
                                          rotate_left
                                          · simp only [Act.put, List.setIfInBounds_toArray, List.set_cons_zero, List.set_cons_succ, i64_w, i32_w]
                                            rfl
                                          refine pure_ (i := 12) (N := some 75) (v := ?_) (a' := ?_) #[true, true, true, true, true, true, true, true, true, true, true, true, true, false] rfl rfl (any_of HT_.out (by kernel_rfl)) (fun _ _ _ h => h) (Or.inl ⟨by rfl, ?_⟩) ?_ ?_
                                          rotate_left
                                          · intro w'
                                            go_simp
                                            with_reducible rfl
                                          rotate_left
                                          · simp only [Act.put, List.setIfInBounds_toArray, List.set_cons_zero, List.set_cons_succ, i64_w, i32_w]
                                            rfl
                                          refine pure_ (i := 13) (N := some 9) (v := ?_) (a' := ?_) #[true, true, true, true, true, true, true, true, true, true, true, true, true, true] rfl rfl (any_of HT_.out (by kernel_rfl)) (fun _ _ _ h => h) (Or.inl ⟨by rfl, ?_⟩) ?_ ?_
                                          rotate_left
                                          · intro w'
                                            go_simp
                                            with_reducible rfl
                                          rotate_left
                                          · simp only [Act.put, List.setIfInBounds_toArray, List.set_cons_zero, List.set_cons_succ, i64_w, i32_w]
                                            rfl
                                          refine done_ (done_of HT_.out (by kernel_rfl)) ?_
                                          try go_wp2_with (first | ((with_reducible refine gate_dst (N := 77) rfl ?_); (try (refine gate_guard (by rfl) ?_; dsimp only)); refine Kd.R_lit Kd.string _ 9 ?hg (N := 77) ?hd (xs := ([a0] : List ByteArray)) (inner := [.string a0]) (ok := fun _ => True) (okp := fun _ => True) ?hr ?hp (fun _ hk => hk) trivial (Below.refl _ _) (Nat.le_refl _) (by simp) ?_; (case hd => rfl); (case hg => rfl); (case hr => first | (go_simp; done) | (go_simp; rfl)); (case hp => exact (Reps.one (show Kd.M Kd.string _ _ _ a0 [.string a0] from rfl) (Reps.none _ _))); intro v172 w47 ho48 hb hg_ hnew_; clear hg_ hnew_; (first | rw [← Ny171.out] at ho48 | (simp only [Int.reduceToNat] at ho48; rw [← Ny171.out] at ho48)); have n0_ := Aside0.mk (Kd.R_lower ho48 (below_size (by repeat (first | (with_reducible first | exact HB.out | apply below_alloc | apply pw_below_drewN | apply below_drew1) | exact HB.out)))); have n1_ := Aside0.mk (below_step (by repeat (first | (with_reducible first | exact HB.out | apply below_alloc | apply pw_below_drewN | apply below_drew1) | exact HB.out)) hb); clear HB; have HO173 := n0_; have HB := n1_; clear n0_ n1_; clear hb ho48; obtain ⟨Ao49, co49, eo49⟩ := Kd.R_slice HO173.out; subst eo49) | ((with_reducible refine gate_callee (f := 37) rfl ?_); refine goesL_ (some 78) rfl rfl Try.func37 (by kernel_rfl) rfl #[.slice Ao49 y171.length co49] rfl (by (try simp only [List.map_toArray, List.map_cons, List.map_nil]); first | done | rfl | (simp only [List.length_drop, List.length_take]; rfl)) ?_; (with_reducible refine (sum_Sum.calls _ _ y171 t174 _ ?side1 ?side2 A40.out).mono ?_); (case side1 => repeat (first | exact (Kd.R_reads' HO173.out).2.2 | (with_reducible refine Kd.C_alloc ?_ _) | (with_reducible refine Kd.C_drewN ?_ _) | (with_reducible refine Kd.C_drew ?_))); (case side2 => exact (Kd.R_reads' HO173.out).2.1); rintro e w50 ⟨rfl, hb⟩; refine ⟨_, rfl, ?_⟩; have n0_ := Aside0.mk (Kd.R_below (by (with_reducible repeat (first | apply Kd.R_alloc | apply Kd.R_drewN | apply Kd.R_drew)); exact HO173.out) hb); have n1_ := Aside0.mk (below_step (by repeat (first | (with_reducible first | exact HB.out | apply below_alloc | apply pw_below_drewN | apply below_drew1) | exact HB.out)) hb); clear HO173; clear HB; have HO173 := n0_; have HB := n1_; clear n0_ n1_; (try clear hb); (try clear hb2); (try clear hk); (try clear hi)) | ((with_reducible refine gate_callee (f := 39) rfl ?_); refine goesL_ (some 82) rfl rfl Try.func39 (by kernel_rfl) rfl #[.int .i64 t174, .int .i64 (Go.bits .or .i64 (wrap64 ((wrap64 (bt a0 (ji32))) * 256)) (wrap64 (bt a0 (ji36)))), .int .i64 (wrap64 (a2))] rfl (by (try simp only [List.map_toArray, List.map_cons, List.map_nil]); first | done | (simp only [hji32, hji36]; rfl) | rfl | (simp only [List.length_drop, List.length_take]; rfl)) ?_; (with_reducible refine (sum_Update.calls t174 (Go.bits .or .i64 (wrap64 ((wrap64 (bt a0 (ji32))) * 256)) (wrap64 (bt a0 (ji36)))) (wrap64 (a2)) t175 _ A41.out).mono ?_); rintro e w51 ⟨rfl, hb⟩; refine ⟨_, rfl, ?_⟩; have n0_ := Aside0.mk (Kd.R_below (by (with_reducible repeat (first | apply Kd.R_alloc | apply Kd.R_drewN | apply Kd.R_drew)); exact HO173.out) hb); have n1_ := Aside0.mk (below_step (by repeat (first | (with_reducible first | exact HB.out | apply below_alloc | apply pw_below_drewN | apply below_drew1) | exact HB.out)) hb); clear HO173; clear HB; have HO173 := n0_; have HB := n1_; clear n0_ n1_; (try clear hb); (try clear hb2); (try clear hk); (try clear hi)) | ((with_reducible refine gate_dst (N := 85) rfl ?_); (try (refine gate_guard (by rfl) ?_; dsimp only)); refine Kd.R_lit Kd.string _ 9 ?hg (N := 85) ?hd (xs := ([(((a0.extract 0 ((ji14) : Int).toNat) ++ (strOfNums y168)) ++ (a0.extract ((ji18) : Int).toNat a0.size))] : List ByteArray)) (inner := [.string (((a0.extract 0 ((ji14) : Int).toNat) ++ (strOfNums y168)) ++ (a0.extract ((ji18) : Int).toNat a0.size))]) (ok := fun _ => True) (okp := fun _ => True) ?hr ?hp (fun _ hk => hk) trivial (Below.refl _ _) (Nat.le_refl _) (by simp) ?_; (case hd => rfl); (case hg => rfl); (case hr => first | (go_simp; done) | (go_simp; rfl)); (case hp => exact (Reps.one (show Kd.M Kd.string _ _ _ (((a0.extract 0 ((ji14) : Int).toNat) ++ (strOfNums y168)) ++ (a0.extract ((ji18) : Int).toNat a0.size)) [.string (((a0.extract 0 ((ji14) : Int).toNat) ++ (strOfNums y168)) ++ (a0.extract ((ji18) : Int).toNat a0.size))] from rfl) (Reps.none _ _))); intro v177 w52 ho53 hb hg_ hnew_; clear hg_ hnew_; (first | rw [← Ny176.out] at ho53 | (simp only [Int.reduceToNat] at ho53; rw [← Ny176.out] at ho53)); have n0_ := Aside0.mk (Kd.R_elder' (by (with_reducible repeat (first | apply Kd.R_alloc | apply Kd.R_drewN | apply Kd.R_drew)); exact HO173.out) (Kd.R_base ho53) hb); have n1_ := Aside0.mk (Kd.R_lower (Kd.R_new' ho53 (Kd.R_lt (by (with_reducible repeat (first | apply Kd.R_alloc | apply Kd.R_drewN | apply Kd.R_drew)); exact HO173.out))) (below_size (by repeat (first | (with_reducible first | exact HB.out | apply below_alloc | apply pw_below_drewN | apply below_drew1) | exact HB.out)))); have n2_ := Aside0.mk (below_step (by repeat (first | (with_reducible first | exact HB.out | apply below_alloc | apply pw_below_drewN | apply below_drew1) | exact HB.out)) hb); clear HO173; clear HB; have HO173 := n0_; have HO178 := n1_; have HB := n2_; clear n0_ n1_ n2_; clear hb ho53; obtain ⟨Ao54, co54, eo54⟩ := Kd.R_slice HO178.out; subst eo54) | ((with_reducible refine gate_callee (f := 37) rfl ?_); refine goesL_ (some 86) rfl rfl Try.func37 (by kernel_rfl) rfl #[.slice Ao54 y176.length co54] rfl (by (try simp only [List.map_toArray, List.map_cons, List.map_nil]); first | done | rfl | (simp only [List.length_drop, List.length_take]; rfl)) ?_; (with_reducible refine (sum_Sum.calls _ _ y176 t179 _ ?side1 ?side2 A42.out).mono ?_); (case side1 => repeat (first | exact (Kd.R_reads' HO178.out).2.2 | (with_reducible refine Kd.C_alloc ?_ _) | (with_reducible refine Kd.C_drewN ?_ _) | (with_reducible refine Kd.C_drew ?_))); (case side2 => exact (Kd.R_reads' HO178.out).2.1); rintro e w55 ⟨rfl, hb⟩; refine ⟨_, rfl, ?_⟩; have n0_ := Aside0.mk (Kd.R_below (by (with_reducible repeat (first | apply Kd.R_alloc | apply Kd.R_drewN | apply Kd.R_drew)); exact HO173.out) hb); have n1_ := Aside0.mk (Kd.R_below (by (with_reducible repeat (first | apply Kd.R_alloc | apply Kd.R_drewN | apply Kd.R_drew)); exact HO178.out) hb); have n2_ := Aside0.mk (below_step (by repeat (first | (with_reducible first | exact HB.out | apply below_alloc | apply pw_below_drewN | apply below_drew1) | exact HB.out)) hb); clear HO173; clear HO178; clear HB; have HO173 := n0_; have HO178 := n1_; have HB := n2_; clear n0_ n1_ n2_; (try clear hb); (try clear hb2); (try clear hk); (try clear hi)) | (go_at_call 39; (with_reducible refine (sum_Update.calls t175 (wrap64 (a2)) (Go.bits .or .i64 (wrap64 ((wrap64 (bt a0 (ji32))) * 256)) (wrap64 (bt a0 (ji36)))) t180 _ A44.out).mono ?_); rintro e w56 ⟨rfl, hb⟩; have n0_ := Aside0.mk (Kd.R_below (by (with_reducible repeat (first | apply Kd.R_alloc | apply Kd.R_drewN | apply Kd.R_drew)); exact HO173.out) hb); have n1_ := Aside0.mk (Kd.R_below (by (with_reducible repeat (first | apply Kd.R_alloc | apply Kd.R_drewN | apply Kd.R_drew)); exact HO178.out) hb); have n2_ := Aside0.mk (below_step (by repeat (first | (with_reducible first | exact HB.out | apply below_alloc | apply pw_below_drewN | apply below_drew1) | exact HB.out)) hb); clear HO173; clear HO178; clear HB; have HO173 := n0_; have HO178 := n1_; have HB := n2_; clear n0_ n1_ n2_; (try clear hb); (try clear hb2); (try clear hk); (try clear hi)) | ((with_reducible refine gate_dst (N := 95) rfl ?_); (try (refine gate_guard (by rfl) ?_; dsimp only)); refine Kd.R_lit Kd.string _ 9 ?hg (N := 95) ?hd (xs := ([a0] : List ByteArray)) (inner := [.string a0]) (ok := fun _ => True) (okp := fun _ => True) ?hr ?hp (fun _ hk => hk) trivial (Below.refl _ _) (Nat.le_refl _) (by simp) ?_; (case hd => rfl); (case hg => rfl); (case hr => first | (go_simp; done) | (go_simp; rfl)); (case hp => exact (Reps.one (show Kd.M Kd.string _ _ _ a0 [.string a0] from rfl) (Reps.none _ _))); intro v182 w57 ho58 hb hg_ hnew_; clear hg_ hnew_; (first | rw [← Ny181.out] at ho58 | (simp only [Int.reduceToNat] at ho58; rw [← Ny181.out] at ho58)); have n0_ := Aside0.mk (Kd.R_elder' (by (with_reducible repeat (first | apply Kd.R_alloc | apply Kd.R_drewN | apply Kd.R_drew)); exact HO173.out) (Kd.R_base ho58) hb); have n1_ := Aside0.mk (Kd.R_elder' (by (with_reducible repeat (first | apply Kd.R_alloc | apply Kd.R_drewN | apply Kd.R_drew)); exact HO178.out) (Kd.R_base ho58) hb); have n2_ := Aside0.mk (Kd.R_lower (Kd.R_new' (Kd.R_new' ho58 (Kd.R_lt (by (with_reducible repeat (first | apply Kd.R_alloc | apply Kd.R_drewN | apply Kd.R_drew)); exact HO173.out))) (Kd.R_lt (by (with_reducible repeat (first | apply Kd.R_alloc | apply Kd.R_drewN | apply Kd.R_drew)); exact HO178.out))) (below_size (by repeat (first | (with_reducible first | exact HB.out | apply below_alloc | apply pw_below_drewN | apply below_drew1) | exact HB.out)))); have n3_ := Aside0.mk (below_step (by repeat (first | (with_reducible first | exact HB.out | apply below_alloc | apply pw_below_drewN | apply below_drew1) | exact HB.out)) hb); clear HO173; clear HO178; clear HB; have HO173 := n0_; have HO178 := n1_; have HO183 := n2_; have HB := n3_; clear n0_ n1_ n2_ n3_; clear hb ho58; obtain ⟨Ao59, co59, eo59⟩ := Kd.R_slice HO183.out; subst eo59) | (go_at_call 37; (with_reducible refine (sum_Sum.calls _ _ y181 t184 _ ?side1 ?side2 A45.out).mono ?_); (case side1 => repeat (first | exact (Kd.R_reads' HO183.out).2.2 | (with_reducible refine Kd.C_alloc ?_ _) | (with_reducible refine Kd.C_drewN ?_ _) | (with_reducible refine Kd.C_drew ?_))); (case side2 => exact (Kd.R_reads' HO183.out).2.1); rintro e w60 ⟨rfl, hb⟩; have n0_ := Aside0.mk (Kd.R_below (by (with_reducible repeat (first | apply Kd.R_alloc | apply Kd.R_drewN | apply Kd.R_drew)); exact HO173.out) hb); have n1_ := Aside0.mk (Kd.R_below (by (with_reducible repeat (first | apply Kd.R_alloc | apply Kd.R_drewN | apply Kd.R_drew)); exact HO178.out) hb); have n2_ := Aside0.mk (Kd.R_below (by (with_reducible repeat (first | apply Kd.R_alloc | apply Kd.R_drewN | apply Kd.R_drew)); exact HO183.out) hb); have n3_ := Aside0.mk (below_step (by repeat (first | (with_reducible first | exact HB.out | apply below_alloc | apply pw_below_drewN | apply below_drew1) | exact HB.out)) hb); clear HO173; clear HO178; clear HO183; clear HB; have HO173 := n0_; have HO178 := n1_; have HO183 := n2_; have HB := n3_; clear n0_ n1_ n2_ n3_; (try clear hb); (try clear hb2); (try clear hk); (try clear hi)))
                                          go_ret
                                          exact ⟨by first | rfl | (simp [errW_none, errW_some] <;> rfl) | (simp only [← hji14, ← hji18, ← hji32, ← hji36]; first | rfl | (simp [errW_none, errW_some] <;> rfl)) | (simp [*, errW_none, errW_some] <;> rfl), by repeat (first | (with_reducible first | exact HB.out | apply below_alloc | apply pw_below_drewN | apply below_drew1) | exact HB.out)⟩
                                        · rw [if_neg c43] at H
                                          have c43b0 : (t175 == t179) = false := beq_eq_false_iff_ne.mpr c43
                                          have c43b1 : (t175 != t179) = true := bne_iff_ne.mpr c43
                                          obtain rfl := Option.some.inj H
                                          try go_wp2
                                          have n0_ := Aside0.mk (below_drew1 HB.out)
                                          clear HB
                                          have HB := n0_
                                          clear n0_
                                          have p35 : 0 ≤ ((ji32) : Int) := of_decide_eq_true (by first | (with_reducible assumption) | assumption)
                                          have q35 : (ji32) < (a0.size : Int) := of_decide_eq_true (by first | (with_reducible assumption) | assumption)
                                          have hx35 := bt_at a0 (ji32)
                                          replace p35 := eq_true p35
                                          replace q35 := eq_true q35
                                          have p39 : 0 ≤ ((ji36) : Int) := of_decide_eq_true (by first | (with_reducible assumption) | assumption)
                                          have q39 : (ji36) < (a0.size : Int) := of_decide_eq_true (by first | (with_reducible assumption) | assumption)
                                          have hx39 := bt_at a0 (ji36)
                                          replace p39 := eq_true p39
                                          replace q39 := eq_true q39
                                          refine start_ (n := 14) (S := fun w' => True) (ds := []) #[false, false, false, false, false, false, false, false, false, false, false, false, false, false] (by kernel_rfl) rfl rfl trivial (fun hHeld => ?_); refine with_tabW palanquinlaw02_SumUpdates.tab9 palanquinlaw02_SumUpdates.bits9 (fun HT_ HW_ => ?_)
                                          generalize wc.drew = w61 at HB hHeld ⊢
                                          refine pure_ (i := 0) (N := some 63) (v := ?_) (a' := ?_) #[true, false, false, false, false, false, false, false, false, false, false, false, false, false] rfl rfl (any_of HT_.out (by kernel_rfl)) (fun _ _ _ h => h) (Or.inl ⟨by rfl, ?_⟩) ?_ ?_
                                          rotate_left
                                          · intro w'
                                            go_simp
                                            with_reducible rfl
                                          rotate_left
                                          · simp only [Act.put, List.setIfInBounds_toArray, List.set_cons_zero, List.set_cons_succ, i64_w, i32_w]
                                            rfl
                                          refine pure_ (i := 1) (N := some 64) (v := ?_) (a' := ?_) #[true, true, false, false, false, false, false, false, false, false, false, false, false, false] rfl rfl (any_of HT_.out (by kernel_rfl)) (fun _ _ _ h => h) (Or.inl ⟨by rfl, ?_⟩) ?_ ?_
                                          rotate_left
                                          · intro w'
                                            go_simp
                                            with_reducible rfl
                                          rotate_left
                                          · simp only [Act.put, List.setIfInBounds_toArray, List.set_cons_zero, List.set_cons_succ, i64_w, i32_w]
                                            rfl
                                          refine pure_ (i := 2) (N := some 65) (v := ?_) (a' := ?_) #[true, true, true, false, false, false, false, false, false, false, false, false, false, false] rfl rfl (any_of HT_.out (by kernel_rfl)) (fun _ _ _ h => h) (Or.inl ⟨by rfl, ?_⟩) ?_ ?_
                                          rotate_left
                                          · intro w'
                                            go_simp
                                            with_reducible rfl
                                          rotate_left
                                          · simp only [Act.put, List.setIfInBounds_toArray, List.set_cons_zero, List.set_cons_succ, i64_w, i32_w]
                                            rfl
                                          refine pure_ (i := 6) (N := some 69) (v := ?_) (a' := ?_) #[true, true, true, false, false, false, true, false, false, false, false, false, false, false] rfl rfl (any_of HT_.out (by kernel_rfl)) (fun _ _ _ h => h) (Or.inl ⟨by rfl, ?_⟩) ?_ ?_
                                          rotate_left
                                          · intro w'
                                            go_simp
                                            with_reducible rfl
                                          rotate_left
                                          · simp only [Act.put, List.setIfInBounds_toArray, List.set_cons_zero, List.set_cons_succ, i64_w, i32_w]
                                            rfl
                                          refine pure_ (i := 7) (N := some 70) (v := ?_) (a' := ?_) #[true, true, true, false, false, false, true, true, false, false, false, false, false, false] rfl rfl (any_of HT_.out (by kernel_rfl)) (fun _ _ _ h => h) (Or.inl ⟨by rfl, ?_⟩) ?_ ?_
                                          rotate_left
                                          · intro w'
                                            go_simp
                                            with_reducible rfl
                                          rotate_left
                                          · simp only [Act.put, List.setIfInBounds_toArray, List.set_cons_zero, List.set_cons_succ, i64_w, i32_w]
                                            rfl
                                          refine pure_ (i := 8) (N := some 71) (v := ?_) (a' := ?_) #[true, true, true, false, false, false, true, true, true, false, false, false, false, false] rfl rfl (any_of HT_.out (by kernel_rfl)) (fun _ _ _ h => h) (Or.inl ⟨by rfl, ?_⟩) ?_ ?_
                                          rotate_left
                                          · intro w'
                                            go_simp
                                            with_reducible rfl
                                          rotate_left
                                          · simp only [Act.put, List.setIfInBounds_toArray, List.set_cons_zero, List.set_cons_succ, i64_w, i32_w]
                                            rfl
                                          refine pure_ (i := 9) (N := some 72) (v := ?_) (a' := ?_) #[true, true, true, false, false, false, true, true, true, true, false, false, false, false] rfl rfl (any_of HT_.out (by kernel_rfl)) (fun _ _ _ h => h) (Or.inl ⟨by rfl, ?_⟩) ?_ ?_
                                          rotate_left
                                          · intro w'
                                            go_simp
                                            with_reducible rfl
                                          rotate_left
                                          · simp only [Act.put, List.setIfInBounds_toArray, List.set_cons_zero, List.set_cons_succ, i64_w, i32_w]
                                            rfl
                                          refine take_ (i := 3) (N := some 66) (v := ?_) (a' := ?_) #[true, true, true, true, false, false, true, true, true, true, false, false, false, false] rfl rfl (take_ofW HT_.out HW_.out (by kernel_rfl)) (fun _ _ _ h => h) (Or.inl ⟨by rfl, ?_⟩) hHeld ?_ ?_
                                          rotate_left
                                          · intro w' _
                                            go_simp
                                            with_reducible rfl
                                          rotate_left
                                          · simp only [Act.put, List.setIfInBounds_toArray, List.set_cons_zero, List.set_cons_succ, i64_w, i32_w]
                                            rfl
                                          refine pure_ (i := 4) (N := some 67) (v := ?_) (a' := ?_) #[true, true, true, true, true, false, true, true, true, true, false, false, false, false] rfl rfl (any_of HT_.out (by kernel_rfl)) (fun _ _ _ h => h) (Or.inl ⟨by rfl, ?_⟩) ?_ ?_
                                          rotate_left
                                          · intro w'
                                            go_simp
                                            with_reducible rfl
                                          rotate_left
                                          · simp only [Act.put, List.setIfInBounds_toArray, List.set_cons_zero, List.set_cons_succ, i64_w, i32_w]
                                            rfl
                                          refine pure_ (i := 5) (N := some 68) (v := ?_) (a' := ?_) #[true, true, true, true, true, true, true, true, true, true, false, false, false, false] rfl rfl (any_of HT_.out (by kernel_rfl)) (fun _ _ _ h => h) (Or.inl ⟨by rfl, ?_⟩) ?_ ?_
                                          rotate_left
                                          · intro w'
                                            go_simp
                                            with_reducible rfl
                                          rotate_left
                                          · simp only [Act.put, List.setIfInBounds_toArray, List.set_cons_zero, List.set_cons_succ, i64_w, i32_w]
                                            rfl
                                          refine take_ (i := 10) (N := some 73) (v := ?_) (a' := ?_) #[true, true, true, true, true, true, true, true, true, true, true, false, false, false] rfl rfl (take_ofW HT_.out HW_.out (by kernel_rfl)) (fun _ _ _ h => h) (Or.inl ⟨by rfl, ?_⟩) hHeld ?_ ?_
                                          rotate_left
                                          · intro w' _
                                            go_simp
                                            with_reducible rfl
                                          rotate_left
                                          · simp only [Act.put, List.setIfInBounds_toArray, List.set_cons_zero, List.set_cons_succ, i64_w, i32_w]
                                            rfl
                                          refine pure_ (i := 11) (N := some 74) (v := ?_) (a' := ?_) #[true, true, true, true, true, true, true, true, true, true, true, true, false, false] rfl rfl (any_of HT_.out (by kernel_rfl)) (fun _ _ _ h => h) (Or.inl ⟨by rfl, ?_⟩) ?_ ?_
                                          rotate_left
                                          · intro w'
                                            go_simp
                                            with_reducible rfl
                                          rotate_left
                                          · simp only [Act.put, List.setIfInBounds_toArray, List.set_cons_zero, List.set_cons_succ, i64_w, i32_w]
                                            rfl
                                          refine pure_ (i := 12) (N := some 75) (v := ?_) (a' := ?_) #[true, true, true, true, true, true, true, true, true, true, true, true, true, false] rfl rfl (any_of HT_.out (by kernel_rfl)) (fun _ _ _ h => h) (Or.inl ⟨by rfl, ?_⟩) ?_ ?_
                                          rotate_left
                                          · intro w'
                                            go_simp
                                            with_reducible rfl
                                          rotate_left
                                          · simp only [Act.put, List.setIfInBounds_toArray, List.set_cons_zero, List.set_cons_succ, i64_w, i32_w]
                                            rfl
                                          refine pure_ (i := 13) (N := some 9) (v := ?_) (a' := ?_) #[true, true, true, true, true, true, true, true, true, true, true, true, true, true] rfl rfl (any_of HT_.out (by kernel_rfl)) (fun _ _ _ h => h) (Or.inl ⟨by rfl, ?_⟩) ?_ ?_
                                          rotate_left
                                          · intro w'
                                            go_simp
                                            with_reducible rfl
                                          rotate_left
                                          · simp only [Act.put, List.setIfInBounds_toArray, List.set_cons_zero, List.set_cons_succ, i64_w, i32_w]
                                            rfl
                                          refine done_ (done_of HT_.out (by kernel_rfl)) ?_
                                          try go_wp2_with (first | ((with_reducible refine gate_dst (N := 77) rfl ?_); (try (refine gate_guard (by rfl) ?_; dsimp only)); refine Kd.R_lit Kd.string _ 9 ?hg (N := 77) ?hd (xs := ([a0] : List ByteArray)) (inner := [.string a0]) (ok := fun _ => True) (okp := fun _ => True) ?hr ?hp (fun _ hk => hk) trivial (Below.refl _ _) (Nat.le_refl _) (by simp) ?_; (case hd => rfl); (case hg => rfl); (case hr => first | (go_simp; done) | (go_simp; rfl)); (case hp => exact (Reps.one (show Kd.M Kd.string _ _ _ a0 [.string a0] from rfl) (Reps.none _ _))); intro v172 w62 ho63 hb hg_ hnew_; clear hg_ hnew_; (first | rw [← Ny171.out] at ho63 | (simp only [Int.reduceToNat] at ho63; rw [← Ny171.out] at ho63)); have n0_ := Aside0.mk (Kd.R_lower ho63 (below_size (by repeat (first | (with_reducible first | exact HB.out | apply below_alloc | apply pw_below_drewN | apply below_drew1) | exact HB.out)))); have n1_ := Aside0.mk (below_step (by repeat (first | (with_reducible first | exact HB.out | apply below_alloc | apply pw_below_drewN | apply below_drew1) | exact HB.out)) hb); clear HB; have HO173 := n0_; have HB := n1_; clear n0_ n1_; clear hb ho63; obtain ⟨Ao64, co64, eo64⟩ := Kd.R_slice HO173.out; subst eo64) | ((with_reducible refine gate_callee (f := 37) rfl ?_); refine goesL_ (some 78) rfl rfl Try.func37 (by kernel_rfl) rfl #[.slice Ao64 y171.length co64] rfl (by (try simp only [List.map_toArray, List.map_cons, List.map_nil]); first | done | rfl | (simp only [List.length_drop, List.length_take]; rfl)) ?_; (with_reducible refine (sum_Sum.calls _ _ y171 t174 _ ?side1 ?side2 A40.out).mono ?_); (case side1 => repeat (first | exact (Kd.R_reads' HO173.out).2.2 | (with_reducible refine Kd.C_alloc ?_ _) | (with_reducible refine Kd.C_drewN ?_ _) | (with_reducible refine Kd.C_drew ?_))); (case side2 => exact (Kd.R_reads' HO173.out).2.1); rintro e w65 ⟨rfl, hb⟩; refine ⟨_, rfl, ?_⟩; have n0_ := Aside0.mk (Kd.R_below (by (with_reducible repeat (first | apply Kd.R_alloc | apply Kd.R_drewN | apply Kd.R_drew)); exact HO173.out) hb); have n1_ := Aside0.mk (below_step (by repeat (first | (with_reducible first | exact HB.out | apply below_alloc | apply pw_below_drewN | apply below_drew1) | exact HB.out)) hb); clear HO173; clear HB; have HO173 := n0_; have HB := n1_; clear n0_ n1_; (try clear hb); (try clear hb2); (try clear hk); (try clear hi)) | ((with_reducible refine gate_callee (f := 39) rfl ?_); refine goesL_ (some 82) rfl rfl Try.func39 (by kernel_rfl) rfl #[.int .i64 t174, .int .i64 (Go.bits .or .i64 (wrap64 ((wrap64 (bt a0 (ji32))) * 256)) (wrap64 (bt a0 (ji36)))), .int .i64 (wrap64 (a2))] rfl (by (try simp only [List.map_toArray, List.map_cons, List.map_nil]); first | done | (simp only [hji32, hji36]; rfl) | rfl | (simp only [List.length_drop, List.length_take]; rfl)) ?_; (with_reducible refine (sum_Update.calls t174 (Go.bits .or .i64 (wrap64 ((wrap64 (bt a0 (ji32))) * 256)) (wrap64 (bt a0 (ji36)))) (wrap64 (a2)) t175 _ A41.out).mono ?_); rintro e w66 ⟨rfl, hb⟩; refine ⟨_, rfl, ?_⟩; have n0_ := Aside0.mk (Kd.R_below (by (with_reducible repeat (first | apply Kd.R_alloc | apply Kd.R_drewN | apply Kd.R_drew)); exact HO173.out) hb); have n1_ := Aside0.mk (below_step (by repeat (first | (with_reducible first | exact HB.out | apply below_alloc | apply pw_below_drewN | apply below_drew1) | exact HB.out)) hb); clear HO173; clear HB; have HO173 := n0_; have HB := n1_; clear n0_ n1_; (try clear hb); (try clear hb2); (try clear hk); (try clear hi)) | ((with_reducible refine gate_dst (N := 85) rfl ?_); (try (refine gate_guard (by rfl) ?_; dsimp only)); refine Kd.R_lit Kd.string _ 9 ?hg (N := 85) ?hd (xs := ([(((a0.extract 0 ((ji14) : Int).toNat) ++ (strOfNums y168)) ++ (a0.extract ((ji18) : Int).toNat a0.size))] : List ByteArray)) (inner := [.string (((a0.extract 0 ((ji14) : Int).toNat) ++ (strOfNums y168)) ++ (a0.extract ((ji18) : Int).toNat a0.size))]) (ok := fun _ => True) (okp := fun _ => True) ?hr ?hp (fun _ hk => hk) trivial (Below.refl _ _) (Nat.le_refl _) (by simp) ?_; (case hd => rfl); (case hg => rfl); (case hr => first | (go_simp; done) | (go_simp; rfl)); (case hp => exact (Reps.one (show Kd.M Kd.string _ _ _ (((a0.extract 0 ((ji14) : Int).toNat) ++ (strOfNums y168)) ++ (a0.extract ((ji18) : Int).toNat a0.size)) [.string (((a0.extract 0 ((ji14) : Int).toNat) ++ (strOfNums y168)) ++ (a0.extract ((ji18) : Int).toNat a0.size))] from rfl) (Reps.none _ _))); intro v177 w67 ho68 hb hg_ hnew_; clear hg_ hnew_; (first | rw [← Ny176.out] at ho68 | (simp only [Int.reduceToNat] at ho68; rw [← Ny176.out] at ho68)); have n0_ := Aside0.mk (Kd.R_elder' (by (with_reducible repeat (first | apply Kd.R_alloc | apply Kd.R_drewN | apply Kd.R_drew)); exact HO173.out) (Kd.R_base ho68) hb); have n1_ := Aside0.mk (Kd.R_lower (Kd.R_new' ho68 (Kd.R_lt (by (with_reducible repeat (first | apply Kd.R_alloc | apply Kd.R_drewN | apply Kd.R_drew)); exact HO173.out))) (below_size (by repeat (first | (with_reducible first | exact HB.out | apply below_alloc | apply pw_below_drewN | apply below_drew1) | exact HB.out)))); have n2_ := Aside0.mk (below_step (by repeat (first | (with_reducible first | exact HB.out | apply below_alloc | apply pw_below_drewN | apply below_drew1) | exact HB.out)) hb); clear HO173; clear HB; have HO173 := n0_; have HO178 := n1_; have HB := n2_; clear n0_ n1_ n2_; clear hb ho68; obtain ⟨Ao69, co69, eo69⟩ := Kd.R_slice HO178.out; subst eo69) | ((with_reducible refine gate_callee (f := 37) rfl ?_); refine goesL_ (some 86) rfl rfl Try.func37 (by kernel_rfl) rfl #[.slice Ao69 y176.length co69] rfl (by (try simp only [List.map_toArray, List.map_cons, List.map_nil]); first | done | rfl | (simp only [List.length_drop, List.length_take]; rfl)) ?_; (with_reducible refine (sum_Sum.calls _ _ y176 t179 _ ?side1 ?side2 A42.out).mono ?_); (case side1 => repeat (first | exact (Kd.R_reads' HO178.out).2.2 | (with_reducible refine Kd.C_alloc ?_ _) | (with_reducible refine Kd.C_drewN ?_ _) | (with_reducible refine Kd.C_drew ?_))); (case side2 => exact (Kd.R_reads' HO178.out).2.1); rintro e w70 ⟨rfl, hb⟩; refine ⟨_, rfl, ?_⟩; have n0_ := Aside0.mk (Kd.R_below (by (with_reducible repeat (first | apply Kd.R_alloc | apply Kd.R_drewN | apply Kd.R_drew)); exact HO173.out) hb); have n1_ := Aside0.mk (Kd.R_below (by (with_reducible repeat (first | apply Kd.R_alloc | apply Kd.R_drewN | apply Kd.R_drew)); exact HO178.out) hb); have n2_ := Aside0.mk (below_step (by repeat (first | (with_reducible first | exact HB.out | apply below_alloc | apply pw_below_drewN | apply below_drew1) | exact HB.out)) hb); clear HO173; clear HO178; clear HB; have HO173 := n0_; have HO178 := n1_; have HB := n2_; clear n0_ n1_ n2_; (try clear hb); (try clear hb2); (try clear hk); (try clear hi)))
                                          go_ret
                                          exact ⟨by first | rfl | (simp [errW_none, errW_some] <;> rfl) | (simp only [← hji14, ← hji18, ← hji32, ← hji36]; first | rfl | (simp [errW_none, errW_some] <;> rfl)) | (simp [*, errW_none, errW_some] <;> rfl), by repeat (first | (with_reducible first | exact HB.out | apply below_alloc | apply pw_below_drewN | apply below_drew1) | exact HB.out)⟩
                                      · rw [if_neg c38] at H
                                        exact absurd H (by simp)
                                    · rw [if_neg c37] at H
                                      exact absurd H (by simp)
                                  · rw [if_neg c34] at H
                                    exact absurd H (by simp)
                                · rw [if_neg c33] at H
                                  exact absurd H (by simp)
                        · rw [if_neg c21] at H
                          exact absurd H (by simp)
                      · rw [if_neg c20] at H
                        exact absurd H (by simp)
                    · rw [if_neg c19] at H
                      exact absurd H (by simp)
                  · rw [if_neg c17] at H
                    exact absurd H (by simp)
                · rw [if_neg c16] at H
                  exact absurd H (by simp)
              · rw [if_neg c15] at H
                exact absurd H (by simp)
            · rw [if_neg c13] at H
              exact absurd H (by simp)
          · rw [if_neg c12] at H
            exact absurd H (by simp)
  · replace c5 := Bool.eq_false_iff.mpr c5
    subst c5
    have H1 : (some false) = some r := by rw [if_neg (show ¬ (false = true) by decide)] at H; exact H
    clear H
    have H := H1
    clear H1
    obtain rfl := Option.some.inj H
    go_enter Try.func5, Try.ntmps5
    go_wp2_with (first | ((with_reducible refine gate_callee (f := 36) rfl ?_); refine goesL_ (some 11) rfl rfl Try.func36 (by kernel_rfl) rfl #[] rfl (by (try simp only [List.map_toArray, List.map_cons, List.map_nil]); first | done | rfl | (simp only [List.length_drop, List.length_take]; rfl)) ?_; (with_reducible refine (palanquinlaw02_awake.calls  false _ A4.out).mono ?_); rintro e w71 ⟨rfl, hb⟩; refine ⟨_, rfl, ?_⟩; have n0_ := Aside0.mk (below_step (by repeat (first | (with_reducible first | exact HB.out | apply below_alloc | apply pw_below_drewN | apply below_drew1) | exact HB.out)) hb); clear HB; have HB := n0_; clear n0_; (try clear hb); (try clear hb2); (try clear hk); (try clear hi)))
    go_ret
    exact ⟨by first | rfl | (simp [errW_none, errW_some] <;> rfl) | (simp [*, errW_none, errW_some] <;> rfl), by repeat (first | (with_reducible first | exact HB.out | apply below_alloc | apply pw_below_drewN | apply below_drew1) | exact HB.out)⟩

/-- THE ONE PURE STATEMENT of palanquinlaw02_SumUpdates: yours. -/
def palanquinlaw02_SumUpdates.Pure : Prop := ∀ (a0 : ByteArray) (a1 : Int) (a2 : Int), a0.size ≤ 140737488351232 → (Lit.int .i64 a1).wf = true → (Lit.int .u16 a2).wf = true → ∃ k, palanquinlaw02_SumUpdates.f k a0 a1 a2 = some true
theorem palanquinlaw02_SumUpdates.walk (P : palanquinlaw02_SumUpdates.Pure) (a0 : ByteArray) (a1 : Int) (a2 : Int) (w : World) (w0 : a0.size ≤ 140737488351232) (w1 : (Lit.int .i64 a1).wf = true) (w2 : (Lit.int .u16 a2).wf = true) :
    Calls Try.prog 5 #[.string a0, .int .i64 a1, .int .u16 a2] w fun e w' => e = .returned (.bool true) ∧ Below w.heap.size w w' := by
  obtain ⟨k, h⟩ := P a0 a1 a2 w0 w1 w2
  refine (palanquinlaw02_SumUpdates.calls k a0 a1 a2 true w h).mono ?_
  rintro e w' ⟨rfl, hd⟩
  exact ⟨rfl, hd⟩

end Go.Proofs.Ytejmipoolbodgaa.G
