/- Texts of this session, joined: each is a section. -/
import Derived.Test.YtejmipoolbodgaaMFrbg1
import Derived.Test.YtejmipoolbodgaaMFrbg2
import Derived.Test.YtejmipoolbodgaaMFrbg7
import Derived.Test.YtejmipoolbodgaaMFragCuts1
import Derived.Test.YtejmipoolbodgaaMFragCuts3
import Derived.Test.YtejmipoolbodgaaMFrbg4
import Derived.Test.YtejmipoolbodgaaMFragCuts2
import Derived.Test.YtejmipoolbodgaaMFrbg3
import Derived.Test.YtejmipoolbodgaaMFrbg6
set_option linter.unusedVariables false
set_option linter.unusedSimpArgs false
section
namespace Go.Proofs.Ytejmipoolbodgaa.G
open Go.RowKit Go.Proofs.YtejmipoolbodgaaW.PrintWords Go.Proofs.YtejmipoolbodgaaW.PrintLast Go.Proofs.YtejmipoolbodgaaW.PrintMore
attribute [local go_sem] max2_int min2_int max_two min_two max_three min_three max_four min_four   -- for this text's walks alone
set_option linter.unusedVariables false
set_option linter.unusedSimpArgs false

mutual
def palanquinlaw15_FragCuts.j0 : Nat → ByteArray → Int → Int → Int → Bool → Option (Bool)
 | 0, _, _, _, _, _ => none
 | k + 1, x0, x1, x2, x3, x51 => if x51 = true then (some true) else ((frag_Cut.f x0 x1).bind fun bt918 => ((palanquinref15_Cut.f k x0 x1).bind fun bt922 => (if x1 > x3 then (palanquinlaw15_FragCuts.j1 k x1 x2 x3 bt918.1 bt918.2 bt922.1 bt922.2 (wrap64 (x1 - x3))) else (palanquinlaw15_FragCuts.j1 k x1 x2 x3 bt918.1 bt918.2 bt922.1 bt922.2 0))))
def palanquinlaw15_FragCuts.j1 : Nat → Int → Int → Int → List ByteArray → Int → List ByteArray → Int → Int → Option (Bool)
 | 0, _, _, _, _, _, _, _, _ => none
 | k + 1, x1, x2, x3, x9, x10, x11, x12, x13 => (palanquinref15_Texts.f k x9 x11).bind fun t926 => (if t926 = true then (if x10 = x12 then (if x1 < 0 then ((frag_Usable.f x1 x3).bind fun t927 => (some (t927 == x13))) else ((frag_Part.f x2 x1).bind fun t928 => ((palanquinref15_Part.f x2 x1).bind fun t929 => (if t928 = t929 then ((frag_Usable.f x1 x3).bind fun t930 => (some (t930 == x13))) else (some false))))) else (some false)) else (some false))
end
def palanquinlaw15_FragCuts.f (k : Nat) (a0 : ByteArray) (a1 : Int) (a2 : Int) (a3 : Int) : Option (Bool) := (palanquinlaw15_awake.f k).bind fun t917 => (if t917 = true then (if (a0.size : Int) > 70000 then (palanquinlaw15_FragCuts.j0 k a0 a1 a2 a3 true) else (if (a0.size : Int) > 3000 then (if a1 < 400 then (palanquinlaw15_FragCuts.j0 k a0 a1 a2 a3 true) else (if a2 < 0 then (palanquinlaw15_FragCuts.j0 k a0 a1 a2 a3 true) else (if a2 > 1048576 then (palanquinlaw15_FragCuts.j0 k a0 a1 a2 a3 true) else (if a1 < (-1099511627776) then (palanquinlaw15_FragCuts.j0 k a0 a1 a2 a3 true) else (if a1 > 1099511627776 then (palanquinlaw15_FragCuts.j0 k a0 a1 a2 a3 true) else (if a3 < (-1099511627776) then (palanquinlaw15_FragCuts.j0 k a0 a1 a2 a3 true) else (palanquinlaw15_FragCuts.j0 k a0 a1 a2 a3 (decide (a3 > 1099511627776))))))))) else (if a2 < 0 then (palanquinlaw15_FragCuts.j0 k a0 a1 a2 a3 true) else (if a2 > 1048576 then (palanquinlaw15_FragCuts.j0 k a0 a1 a2 a3 true) else (if a1 < (-1099511627776) then (palanquinlaw15_FragCuts.j0 k a0 a1 a2 a3 true) else (if a1 > 1099511627776 then (palanquinlaw15_FragCuts.j0 k a0 a1 a2 a3 true) else (if a3 < (-1099511627776) then (palanquinlaw15_FragCuts.j0 k a0 a1 a2 a3 true) else (palanquinlaw15_FragCuts.j0 k a0 a1 a2 a3 (decide (a3 > 1099511627776)))))))))) else (some false))
theorem palanquinlaw15_FragCuts.mono_l : ∀ k, (∀ y0 y1 y2 y3 y4, LeO (palanquinlaw15_FragCuts.j0 k y0 y1 y2 y3 y4) (palanquinlaw15_FragCuts.j0 (k + 1) y0 y1 y2 y3 y4)) ∧ (∀ y0 y1 y2 y3 y4 y5 y6 y7, LeO (palanquinlaw15_FragCuts.j1 k y0 y1 y2 y3 y4 y5 y6 y7) (palanquinlaw15_FragCuts.j1 (k + 1) y0 y1 y2 y3 y4 y5 y6 y7))
 | 0 => ⟨fun _ _ _ _ _ r h => by simp [palanquinlaw15_FragCuts.j0] at h, fun _ _ _ _ _ _ _ _ r h => by simp [palanquinlaw15_FragCuts.j1] at h⟩
 | k + 1 => by
  obtain ⟨ih0, ih1⟩ := palanquinlaw15_FragCuts.mono_l k
  refine ⟨?_, ?_⟩
  ·intro y0 y1 y2 y3 y4
   unfold palanquinlaw15_FragCuts.j0
   repeat' first
   | (with_reducible exact ih0 _ _ _ _ _)
   | (with_reducible exact ih1 _ _ _ _ _ _ _ _)
   | (with_reducible exact palanquinlaw15_awake.mono _)
   | (with_reducible exact palanquinref15_Cut.mono _ _ _)
   | (with_reducible exact palanquinref15_Texts.mono _ _ _)
   | (with_reducible exact LeO.refl _)
   | (with_reducible exact LeO.none _)
   | (with_reducible refine LeO.ite ?_ ?_)
   | (with_reducible refine LeO.bind ?_ (fun _ => ?_))
   | exact ih0 _ _ _ _ _
   | exact ih1 _ _ _ _ _ _ _ _
   | exact palanquinlaw15_awake.mono _
   | exact palanquinref15_Cut.mono _ _ _
   | exact palanquinref15_Texts.mono _ _ _
   | exact LeO.none _
   | refine LeO.ite ?_ ?_
   | refine LeO.bind ?_ (fun _ => ?_)
  ·intro y0 y1 y2 y3 y4 y5 y6 y7
   unfold palanquinlaw15_FragCuts.j1
   repeat' first
   | (with_reducible exact ih0 _ _ _ _ _)
   | (with_reducible exact ih1 _ _ _ _ _ _ _ _)
   | (with_reducible exact palanquinlaw15_awake.mono _)
   | (with_reducible exact palanquinref15_Cut.mono _ _ _)
   | (with_reducible exact palanquinref15_Texts.mono _ _ _)
   | (with_reducible exact LeO.refl _)
   | (with_reducible exact LeO.none _)
   | (with_reducible refine LeO.ite ?_ ?_)
   | (with_reducible refine LeO.bind ?_ (fun _ => ?_))
   | exact ih0 _ _ _ _ _
   | exact ih1 _ _ _ _ _ _ _ _
   | exact palanquinlaw15_awake.mono _
   | exact palanquinref15_Cut.mono _ _ _
   | exact palanquinref15_Texts.mono _ _ _
   | exact LeO.none _
   | refine LeO.ite ?_ ?_
   | refine LeO.bind ?_ (fun _ => ?_)
theorem palanquinlaw15_FragCuts.mono : ∀ a0 a1 a2 a3 k, LeO (palanquinlaw15_FragCuts.f k a0 a1 a2 a3) (palanquinlaw15_FragCuts.f (k + 1) a0 a1 a2 a3) := by
 intro a0 a1 a2 a3 k
 obtain ⟨ih0, ih1⟩ := palanquinlaw15_FragCuts.mono_l k
 unfold palanquinlaw15_FragCuts.f
 repeat' first
   | (with_reducible exact ih0 _ _ _ _ _)
   | (with_reducible exact ih1 _ _ _ _ _ _ _ _)
   | (with_reducible exact palanquinlaw15_awake.mono _)
   | (with_reducible exact palanquinref15_Cut.mono _ _ _)
   | (with_reducible exact palanquinref15_Texts.mono _ _ _)
   | (with_reducible exact LeO.refl _)
   | (with_reducible exact LeO.none _)
   | (with_reducible refine LeO.ite ?_ ?_)
   | (with_reducible refine LeO.bind ?_ (fun _ => ?_))
   | exact ih0 _ _ _ _ _
   | exact ih1 _ _ _ _ _ _ _ _
   | exact palanquinlaw15_awake.mono _
   | exact palanquinref15_Cut.mono _ _ _
   | exact palanquinref15_Texts.mono _ _ _
   | exact LeO.none _
   | refine LeO.ite ?_ ?_
   | refine LeO.bind ?_ (fun _ => ?_)
set_option maxHeartbeats 8000000 in
set_option maxRecDepth 100000 in
theorem palanquinlaw15_FragCuts.calls (k : Nat) (a0 : ByteArray) (a1 : Int) (a2 : Int) (a3 : Int) (r : Bool) (w : World) (h : palanquinlaw15_FragCuts.f k a0 a1 a2 a3 = some r) (hrt_ : Aside0 (r = true)) :
  Calls Try.prog 35 #[.string a0, .int .i64 a1, .int .i64 a2, .int .i64 a3] w fun e w' => e = .returned (.bool r) ∧ Below w.heap.size w w' := by
 have HB := mA (Below.refl w.heap.size w)
 have H : ((palanquinlaw15_awake.f k).bind fun t917 => (if t917 = true then (if (a0.size : Int) > 70000 then (palanquinlaw15_FragCuts.j0 k a0 a1 a2 a3 true) else (if (a0.size : Int) > 3000 then (if a1 < 400 then (palanquinlaw15_FragCuts.j0 k a0 a1 a2 a3 true) else (if a2 < 0 then (palanquinlaw15_FragCuts.j0 k a0 a1 a2 a3 true) else (if a2 > 1048576 then (palanquinlaw15_FragCuts.j0 k a0 a1 a2 a3 true) else (if a1 < (-1099511627776) then (palanquinlaw15_FragCuts.j0 k a0 a1 a2 a3 true) else (if a1 > 1099511627776 then (palanquinlaw15_FragCuts.j0 k a0 a1 a2 a3 true) else (if a3 < (-1099511627776) then (palanquinlaw15_FragCuts.j0 k a0 a1 a2 a3 true) else (palanquinlaw15_FragCuts.j0 k a0 a1 a2 a3 (decide (a3 > 1099511627776))))))))) else (if a2 < 0 then (palanquinlaw15_FragCuts.j0 k a0 a1 a2 a3 true) else (if a2 > 1048576 then (palanquinlaw15_FragCuts.j0 k a0 a1 a2 a3 true) else (if a1 < (-1099511627776) then (palanquinlaw15_FragCuts.j0 k a0 a1 a2 a3 true) else (if a1 > 1099511627776 then (palanquinlaw15_FragCuts.j0 k a0 a1 a2 a3 true) else (if a3 < (-1099511627776) then (palanquinlaw15_FragCuts.j0 k a0 a1 a2 a3 true) else (palanquinlaw15_FragCuts.j0 k a0 a1 a2 a3 (decide (a3 > 1099511627776)))))))))) else (some false))) = some r := h
 clear h
 replace H := Option.bind_eq_some_iff.mp H
 obtain ⟨t917, A50, H⟩ := H
 replace H : (if t917 = true then (if (a0.size : Int) > 70000 then (palanquinlaw15_FragCuts.j0 k a0 a1 a2 a3 true) else (if (a0.size : Int) > 3000 then (if a1 < 400 then (palanquinlaw15_FragCuts.j0 k a0 a1 a2 a3 true) else (if a2 < 0 then (palanquinlaw15_FragCuts.j0 k a0 a1 a2 a3 true) else (if a2 > 1048576 then (palanquinlaw15_FragCuts.j0 k a0 a1 a2 a3 true) else (if a1 < (-1099511627776) then (palanquinlaw15_FragCuts.j0 k a0 a1 a2 a3 true) else (if a1 > 1099511627776 then (palanquinlaw15_FragCuts.j0 k a0 a1 a2 a3 true) else (if a3 < (-1099511627776) then (palanquinlaw15_FragCuts.j0 k a0 a1 a2 a3 true) else (palanquinlaw15_FragCuts.j0 k a0 a1 a2 a3 (decide (a3 > 1099511627776))))))))) else (if a2 < 0 then (palanquinlaw15_FragCuts.j0 k a0 a1 a2 a3 true) else (if a2 > 1048576 then (palanquinlaw15_FragCuts.j0 k a0 a1 a2 a3 true) else (if a1 < (-1099511627776) then (palanquinlaw15_FragCuts.j0 k a0 a1 a2 a3 true) else (if a1 > 1099511627776 then (palanquinlaw15_FragCuts.j0 k a0 a1 a2 a3 true) else (if a3 < (-1099511627776) then (palanquinlaw15_FragCuts.j0 k a0 a1 a2 a3 true) else (palanquinlaw15_FragCuts.j0 k a0 a1 a2 a3 (decide (a3 > 1099511627776)))))))))) else (some false)) = some r := H
 have A5 := mA A50
 clear A50
 by_cases c6 : t917 = true
 ·subst c6
  have H1 : (if (a0.size : Int) > 70000 then (palanquinlaw15_FragCuts.j0 k a0 a1 a2 a3 true) else (if (a0.size : Int) > 3000 then (if a1 < 400 then (palanquinlaw15_FragCuts.j0 k a0 a1 a2 a3 true) else (if a2 < 0 then (palanquinlaw15_FragCuts.j0 k a0 a1 a2 a3 true) else (if a2 > 1048576 then (palanquinlaw15_FragCuts.j0 k a0 a1 a2 a3 true) else (if a1 < (-1099511627776) then (palanquinlaw15_FragCuts.j0 k a0 a1 a2 a3 true) else (if a1 > 1099511627776 then (palanquinlaw15_FragCuts.j0 k a0 a1 a2 a3 true) else (if a3 < (-1099511627776) then (palanquinlaw15_FragCuts.j0 k a0 a1 a2 a3 true) else (palanquinlaw15_FragCuts.j0 k a0 a1 a2 a3 (decide (a3 > 1099511627776))))))))) else (if a2 < 0 then (palanquinlaw15_FragCuts.j0 k a0 a1 a2 a3 true) else (if a2 > 1048576 then (palanquinlaw15_FragCuts.j0 k a0 a1 a2 a3 true) else (if a1 < (-1099511627776) then (palanquinlaw15_FragCuts.j0 k a0 a1 a2 a3 true) else (if a1 > 1099511627776 then (palanquinlaw15_FragCuts.j0 k a0 a1 a2 a3 true) else (if a3 < (-1099511627776) then (palanquinlaw15_FragCuts.j0 k a0 a1 a2 a3 true) else (palanquinlaw15_FragCuts.j0 k a0 a1 a2 a3 (decide (a3 > 1099511627776)))))))))) = some r := by rw [if_pos rfl] at H; exact H
  clear H
  have H := H1
  clear H1
  have HC7 := mA H
  clear H
  go_enter Try.func35, Try.ntmps35
  go_upto_region 3 with (first | ((with_reducible refine gate_callee (f := 113) rfl ?_); refine goesL_ (some 14) rfl rfl Try.func113 (by kernel_rfl) rfl #[] rfl (by (try simp only [List.map_toArray, List.map_cons, List.map_nil]); first | done | rfl | (simp only [List.length_drop, List.length_take]; rfl)) ?_; (with_reducible refine (palanquinlaw15_awake.calls k  true _ A5.out).mono ?_); rintro e w8 ⟨rfl, hb⟩; refine ⟨_, rfl, ?_⟩; have n0_ := mA (bP (by repeat (first | (with_reducible first | exact HB.out | apply bA | apply bN | apply bD) | exact HB.out)) hb); clear HB; have HB := n0_; clear n0_; (try clear hb); (try clear hb2); (try clear hk); (try clear hi)))
  (try simp only [Act.put, List.setIfInBounds_toArray, List.set_cons_zero, List.set_cons_succ])
  go_cut [51] (fun v51 wc => ∃ (kq : Nat) (x51_6 : Bool), v51 = .bool x51_6 ∧ Aside0 (palanquinlaw15_FragCuts.j0 kq a0 a1 a2 a3 x51_6 = some r) ∧ Aside0 (kq ≤ k) ∧ Aside0 (Below w.heap.size w wc))
  case first =>
   have H := HC7.out
   clear HC7
   by_cases c9 : (a0.size : Int) > 70000
   ·rw [if_pos c9] at H
    have c9b0 : decide (70000 < (a0.size : Int)) = true := decide_eq_true c9
    have c9b1 : decide (70000 < a0.size) = true := decide_eq_true (by omega)
    clear c9
    (first | rw [c9b0] | (simp only [i64_w, i32_w]; rw [c9b0]) | skip)
    have H' := mA H
    clear H
    go_wp2
    go_meet
    case rel => exact ⟨_, (true), (by first | rfl | (simp; done) | (simp [*]; done)), H', ⟨by first | omega | exact Nat.le_refl _⟩, ⟨by repeat (first | (with_reducible first | exact HB.out | apply bA | apply bN | apply bD) | exact HB.out)⟩⟩
   ·rw [if_neg c9] at H
    have c9b0 : decide (70000 < (a0.size : Int)) = false := decide_eq_false c9
    have c9b1 : decide (70000 < a0.size) = false := decide_eq_false (by omega)
    clear c9
    (first | rw [c9b0] | (simp only [i64_w, i32_w]; rw [c9b0]) | skip)
    by_cases c10 : (a0.size : Int) > 3000
    ·rw [if_pos c10] at H
     have c10b0 : decide (3000 < (a0.size : Int)) = true := decide_eq_true c10
     have c10b1 : decide (3000 < a0.size) = true := decide_eq_true (by omega)
     clear c10
     by_cases c11 : a1 < 400
     ·rw [if_pos c11] at H
      have c11b0 : decide (a1 < 400) = true := decide_eq_true c11
      clear c11
      have H' := mA H
      clear H
      go_wp2
      go_meet
      case rel => exact ⟨_, (true), (by first | rfl | (simp; done) | (simp [*]; done)), H', ⟨by first | omega | exact Nat.le_refl _⟩, ⟨by repeat (first | (with_reducible first | exact HB.out | apply bA | apply bN | apply bD) | exact HB.out)⟩⟩
     ·rw [if_neg c11] at H
      have c11b0 : decide (a1 < 400) = false := decide_eq_false c11
      clear c11
      by_cases c12 : a2 < 0
      ·rw [if_pos c12] at H
       have c12b0 : decide (a2 < 0) = true := decide_eq_true c12
       clear c12
       have H' := mA H
       clear H
       go_wp2
       go_meet
       case rel => exact ⟨_, (true), (by first | rfl | (simp; done) | (simp [*]; done)), H', ⟨by first | omega | exact Nat.le_refl _⟩, ⟨by repeat (first | (with_reducible first | exact HB.out | apply bA | apply bN | apply bD) | exact HB.out)⟩⟩
      ·rw [if_neg c12] at H
       have c12b0 : decide (a2 < 0) = false := decide_eq_false c12
       clear c12
       by_cases c13 : a2 > 1048576
       ·rw [if_pos c13] at H
        have c13b0 : decide (1048576 < a2) = true := decide_eq_true c13
        clear c13
        have H' := mA H
        clear H
        go_wp2
        go_meet
        case rel => exact ⟨_, (true), (by first | rfl | (simp; done) | (simp [*]; done)), H', ⟨by first | omega | exact Nat.le_refl _⟩, ⟨by repeat (first | (with_reducible first | exact HB.out | apply bA | apply bN | apply bD) | exact HB.out)⟩⟩
       ·rw [if_neg c13] at H
        have c13b0 : decide (1048576 < a2) = false := decide_eq_false c13
        clear c13
        by_cases c14 : a1 < (-1099511627776)
        ·rw [if_pos c14] at H
         have c14b0 : decide (a1 < (-1099511627776)) = true := decide_eq_true c14
         clear c14
         have H' := mA H
         clear H
         go_wp2
         go_meet
         case rel => exact ⟨_, (true), (by first | rfl | (simp; done) | (simp [*]; done)), H', ⟨by first | omega | exact Nat.le_refl _⟩, ⟨by repeat (first | (with_reducible first | exact HB.out | apply bA | apply bN | apply bD) | exact HB.out)⟩⟩
        ·rw [if_neg c14] at H
         have c14b0 : decide (a1 < (-1099511627776)) = false := decide_eq_false c14
         clear c14
         by_cases c15 : a1 > 1099511627776
         ·rw [if_pos c15] at H
          have c15b0 : decide (1099511627776 < a1) = true := decide_eq_true c15
          clear c15
          have H' := mA H
          clear H
          go_wp2
          go_meet
          case rel => exact ⟨_, (true), (by first | rfl | (simp; done) | (simp [*]; done)), H', ⟨by first | omega | exact Nat.le_refl _⟩, ⟨by repeat (first | (with_reducible first | exact HB.out | apply bA | apply bN | apply bD) | exact HB.out)⟩⟩
         ·rw [if_neg c15] at H
          have c15b0 : decide (1099511627776 < a1) = false := decide_eq_false c15
          clear c15
          by_cases c16 : a3 < (-1099511627776)
          ·rw [if_pos c16] at H
           have c16b0 : decide (a3 < (-1099511627776)) = true := decide_eq_true c16
           clear c16
           have H' := mA H
           clear H
           go_wp2
           go_meet
           case rel => exact ⟨_, (true), (by first | rfl | (simp; done) | (simp [*]; done)), H', ⟨by first | omega | exact Nat.le_refl _⟩, ⟨by repeat (first | (with_reducible first | exact HB.out | apply bA | apply bN | apply bD) | exact HB.out)⟩⟩
          ·rw [if_neg c16] at H
           have c16b0 : decide (a3 < (-1099511627776)) = false := decide_eq_false c16
           clear c16
           have H' := mA H
           clear H
           go_wp2
           go_meet
           case rel => exact ⟨_, (decide (a3 > 1099511627776)), (by first | rfl | (simp; done) | (simp [*]; done)), H', ⟨by first | omega | exact Nat.le_refl _⟩, ⟨by repeat (first | (with_reducible first | exact HB.out | apply bA | apply bN | apply bD) | exact HB.out)⟩⟩
    ·rw [if_neg c10] at H
     have c10b0 : decide (3000 < (a0.size : Int)) = false := decide_eq_false c10
     have c10b1 : decide (3000 < a0.size) = false := decide_eq_false (by omega)
     clear c10
     by_cases c17 : a2 < 0
     ·rw [if_pos c17] at H
      have c17b0 : decide (a2 < 0) = true := decide_eq_true c17
      clear c17
      have H' := mA H
      clear H
      go_wp2
      go_meet
      case rel => exact ⟨_, (true), (by first | rfl | (simp; done) | (simp [*]; done)), H', ⟨by first | omega | exact Nat.le_refl _⟩, ⟨by repeat (first | (with_reducible first | exact HB.out | apply bA | apply bN | apply bD) | exact HB.out)⟩⟩
     ·rw [if_neg c17] at H
      have c17b0 : decide (a2 < 0) = false := decide_eq_false c17
      clear c17
      by_cases c18 : a2 > 1048576
      ·rw [if_pos c18] at H
       have c18b0 : decide (1048576 < a2) = true := decide_eq_true c18
       clear c18
       have H' := mA H
       clear H
       go_wp2
       go_meet
       case rel => exact ⟨_, (true), (by first | rfl | (simp; done) | (simp [*]; done)), H', ⟨by first | omega | exact Nat.le_refl _⟩, ⟨by repeat (first | (with_reducible first | exact HB.out | apply bA | apply bN | apply bD) | exact HB.out)⟩⟩
      ·rw [if_neg c18] at H
       have c18b0 : decide (1048576 < a2) = false := decide_eq_false c18
       clear c18
       by_cases c19 : a1 < (-1099511627776)
       ·rw [if_pos c19] at H
        have c19b0 : decide (a1 < (-1099511627776)) = true := decide_eq_true c19
        clear c19
        have H' := mA H
        clear H
        go_wp2
        go_meet
        case rel => exact ⟨_, (true), (by first | rfl | (simp; done) | (simp [*]; done)), H', ⟨by first | omega | exact Nat.le_refl _⟩, ⟨by repeat (first | (with_reducible first | exact HB.out | apply bA | apply bN | apply bD) | exact HB.out)⟩⟩
       ·rw [if_neg c19] at H
        have c19b0 : decide (a1 < (-1099511627776)) = false := decide_eq_false c19
        clear c19
        by_cases c20 : a1 > 1099511627776
        ·rw [if_pos c20] at H
         have c20b0 : decide (1099511627776 < a1) = true := decide_eq_true c20
         clear c20
         have H' := mA H
         clear H
         go_wp2
         go_meet
         case rel => exact ⟨_, (true), (by first | rfl | (simp; done) | (simp [*]; done)), H', ⟨by first | omega | exact Nat.le_refl _⟩, ⟨by repeat (first | (with_reducible first | exact HB.out | apply bA | apply bN | apply bD) | exact HB.out)⟩⟩
        ·rw [if_neg c20] at H
         have c20b0 : decide (1099511627776 < a1) = false := decide_eq_false c20
         clear c20
         by_cases c21 : a3 < (-1099511627776)
         ·rw [if_pos c21] at H
          have c21b0 : decide (a3 < (-1099511627776)) = true := decide_eq_true c21
          clear c21
          have H' := mA H
          clear H
          go_wp2
          go_meet
          case rel => exact ⟨_, (true), (by first | rfl | (simp; done) | (simp [*]; done)), H', ⟨by first | omega | exact Nat.le_refl _⟩, ⟨by repeat (first | (with_reducible first | exact HB.out | apply bA | apply bN | apply bD) | exact HB.out)⟩⟩
         ·rw [if_neg c21] at H
          have c21b0 : decide (a3 < (-1099511627776)) = false := decide_eq_false c21
          clear c21
          have H' := mA H
          clear H
          go_wp2
          go_meet
          case rel => exact ⟨_, (decide (a3 > 1099511627776)), (by first | rfl | (simp; done) | (simp [*]; done)), H', ⟨by first | omega | exact Nat.le_refl _⟩, ⟨by repeat (first | (with_reducible first | exact HB.out | apply bA | apply bN | apply bD) | exact HB.out)⟩⟩
  case rest =>
   clear HC7
   try clear c1
   try clear c2
   try clear p2
   try clear c3
   try clear c6
   try clear c9
   try clear c9b0
   try clear c9b1
   try clear c10
   try clear c10b0
   try clear c10b1
   try clear c11
   try clear c11b0
   try clear c12
   try clear c12b0
   try clear c13
   try clear c13b0
   try clear c14
   try clear c14b0
   try clear c15
   try clear c15b0
   try clear c16
   try clear c16b0
   try clear c17
   try clear c17b0
   try clear c18
   try clear c18b0
   try clear c19
   try clear c19b0
   try clear c20
   try clear c20b0
   try clear c21
   try clear c21b0
   obtain ⟨kq, x51_6, rfl, HA, HJ6, HB⟩ := hcut
   cases kq with
   | zero => exact absurd HA.out (by simp [palanquinlaw15_FragCuts.j0])
   | succ kj6 =>
    have H := HA.out
    clear HA
    simp only [palanquinlaw15_FragCuts.j0] at H
    by_cases c22 : x51_6 = true
    ·subst c22
     have H1 : (some true) = some r := by rw [if_pos rfl] at H; exact H
     clear H
     have H := H1
     clear H1
     obtain rfl := Option.some.inj H
     go_wp2
     go_ret
     exact ⟨by first | rfl | (simp [errW_none, errW_some] <;> rfl) | (simp [*, errW_none, errW_some] <;> rfl), by repeat (first | (with_reducible first | exact HB.out | apply bA | apply bN | apply bD) | exact HB.out)⟩
    ·replace c22 := Bool.eq_false_iff.mpr c22
     subst c22
     have H1 : ((frag_Cut.f a0 a1).bind fun bt918 => ((palanquinref15_Cut.f kj6 a0 a1).bind fun bt922 => (if a1 > a3 then (palanquinlaw15_FragCuts.j1 kj6 a1 a2 a3 bt918.1 bt918.2 bt922.1 bt922.2 (wrap64 (a1 - a3))) else (palanquinlaw15_FragCuts.j1 kj6 a1 a2 a3 bt918.1 bt918.2 bt922.1 bt922.2 0)))) = some r := by rw [if_neg (show ¬ (false = true) by decide)] at H; exact H
     clear H
     have H := H1
     clear H1
     replace H := Option.bind_eq_some_iff.mp H
     obtain ⟨⟨t918, t919⟩, A230, H⟩ := H
     replace H : ((palanquinref15_Cut.f kj6 a0 a1).bind fun bt922 => (if a1 > a3 then (palanquinlaw15_FragCuts.j1 kj6 a1 a2 a3 t918 t919 bt922.1 bt922.2 (wrap64 (a1 - a3))) else (palanquinlaw15_FragCuts.j1 kj6 a1 a2 a3 t918 t919 bt922.1 bt922.2 0))) = some r := H
     have A23 := mA A230
     clear A230
     replace H := Option.bind_eq_some_iff.mp H
     obtain ⟨⟨t922, t923⟩, A240, H⟩ := H
     replace H : (if a1 > a3 then (palanquinlaw15_FragCuts.j1 kj6 a1 a2 a3 t918 t919 t922 t923 (wrap64 (a1 - a3))) else (palanquinlaw15_FragCuts.j1 kj6 a1 a2 a3 t918 t919 t922 t923 0)) = some r := H
     have A24 := mA A240
     clear A240
     have HC25 := mA H
     clear H
     go_upto_if 66 with (first | ((with_reducible refine gate_callee (f := 114) rfl ?_); refine goesL_ (some 55) rfl rfl Try.func114 (by kernel_rfl) rfl #[.string a0, .int .i64 a1] rfl (by (try simp only [List.map_toArray, List.map_cons, List.map_nil]); first | done | rfl | (simp only [List.length_drop, List.length_take]; rfl)) ?_; (with_reducible refine (frag_Cut.calls a0 a1 t918 t919 _ A23.out).mono ?_); rintro e w26 ⟨v920, rfl, ho0, hb⟩; refine ⟨_, rfl, ?_⟩; have n0_ := mA (Kd.R_lower ho0 (below_size (by repeat (first | (with_reducible first | exact HB.out | apply bA | apply bN | apply bD) | exact HB.out)))); have n1_ := mA (bP (by repeat (first | (with_reducible first | exact HB.out | apply bA | apply bN | apply bD) | exact HB.out)) hb); clear HB; have HO921 := n0_; have HB := n1_; clear n0_ n1_; (try clear hb); (try clear hb2); (try clear hk); (try clear hi); (try clear ho0)) | ((with_reducible refine gate_callee (f := 116) rfl ?_); refine goesL_ (some 61) rfl rfl Try.func116 (by kernel_rfl) rfl #[.string a0, .int .i64 a1] rfl (by (try simp only [List.map_toArray, List.map_cons, List.map_nil]); first | done | rfl | (simp only [List.length_drop, List.length_take]; rfl)) ?_; (with_reducible refine (palanquinref15_Cut.calls kj6 a0 a1 t922 t923 _ A24.out).mono ?_); rintro e w27 ⟨v924, rfl, ho0, hb⟩; refine ⟨_, rfl, ?_⟩; have n0_ := mA (Kd.R_elder' (by (with_reducible repeat (first | apply Kd.R_alloc | apply Kd.R_drewN | apply Kd.R_drew)); exact HO921.out) (Kd.R_base ho0) hb); have n1_ := mA (Kd.R_lower (Kd.R_new' ho0 (Kd.R_lt (by (with_reducible repeat (first | apply Kd.R_alloc | apply Kd.R_drewN | apply Kd.R_drew)); exact HO921.out))) (below_size (by repeat (first | (with_reducible first | exact HB.out | apply bA | apply bN | apply bD) | exact HB.out)))); have n2_ := mA (bP (by repeat (first | (with_reducible first | exact HB.out | apply bA | apply bN | apply bD) | exact HB.out)) hb); clear HO921; clear HB; have HO921 := n0_; have HO925 := n1_; have HB := n2_; clear n0_ n1_ n2_; (try clear hb); (try clear hb2); (try clear hk); (try clear hi); (try clear ho0)))
     (try simp only [Act.put, List.setIfInBounds_toArray, List.set_cons_zero, List.set_cons_succ])
     go_cut [13] (fun v13 wc => ∃ (kq : Nat) (x13_24 : Int), v13 = .int .i64 x13_24 ∧ Aside0 (palanquinlaw15_FragCuts.j1 kq a1 a2 a3 t918 t919 t922 t923 x13_24 = some r) ∧ Aside0 (kq ≤ kj6) ∧ Aside0 (Kd.R Kd.string 9 wc w.heap.size (fun k_ => some k_ ≠ (v924 : Value).ownBlock) v920 t918) ∧ Aside0 (Kd.R Kd.string 9 wc w.heap.size (fun k_ => some k_ ≠ (v920 : Value).ownBlock) v924 t922) ∧ Aside0 (Below w.heap.size w wc))
     case first =>
      have H := HC25.out
      clear HC25
      by_cases c28 : a1 > a3
      ·rw [if_pos c28] at H
       have c28b0 : decide (a3 < a1) = true := decide_eq_true c28
       clear c28
       (first | rw [c28b0] | (simp only [i64_w, i32_w]; rw [c28b0]) | skip)
       have H' := mA H
       clear H
       go_wp2
       go_meet
       case rel => exact ⟨_, (wrap64 (a1 - a3)), (by first | rfl | (simp; done) | (simp [*]; done)), H', ⟨by have := HJ6.out; first | omega | exact Nat.le_refl _⟩, ⟨by (with_reducible repeat (first | apply Kd.R_alloc | apply Kd.R_drewN | apply Kd.R_drew)); exact Kd.R_mono HO921.out (fun _ hk => hk.2)⟩, ⟨by (with_reducible repeat (first | apply Kd.R_alloc | apply Kd.R_drewN | apply Kd.R_drew)); exact Kd.R_mono HO925.out (fun _ hk => hk.2)⟩, ⟨by repeat (first | (with_reducible first | exact HB.out | apply bA | apply bN | apply bD) | exact HB.out)⟩⟩
      ·rw [if_neg c28] at H
       have c28b0 : decide (a3 < a1) = false := decide_eq_false c28
       clear c28
       (first | rw [c28b0] | (simp only [i64_w, i32_w]; rw [c28b0]) | skip)
       have H' := mA H
       clear H
       go_wp2
       go_meet
       case rel => exact ⟨_, (0), (by first | rfl | (simp; done) | (simp [*]; done)), H', ⟨by have := HJ6.out; first | omega | exact Nat.le_refl _⟩, ⟨by (with_reducible repeat (first | apply Kd.R_alloc | apply Kd.R_drewN | apply Kd.R_drew)); exact Kd.R_mono HO921.out (fun _ hk => hk.2)⟩, ⟨by (with_reducible repeat (first | apply Kd.R_alloc | apply Kd.R_drewN | apply Kd.R_drew)); exact Kd.R_mono HO925.out (fun _ hk => hk.2)⟩, ⟨by repeat (first | (with_reducible first | exact HB.out | apply bA | apply bN | apply bD) | exact HB.out)⟩⟩
     case rest =>
      clear HC25
      try clear c1
      try clear c2
      try clear p2
      try clear c3
      try clear c6
      try clear p6
      try clear c9
      try clear c9b0
      try clear c9b1
      try clear c10
      try clear c10b0
      try clear c10b1
      try clear c11
      try clear c11b0
      try clear c12
      try clear c12b0
      try clear c13
      try clear c13b0
      try clear c14
      try clear c14b0
      try clear c15
      try clear c15b0
      try clear c16
      try clear c16b0
      try clear c17
      try clear c17b0
      try clear c18
      try clear c18b0
      try clear c19
      try clear c19b0
      try clear c20
      try clear c20b0
      try clear c21
      try clear c21b0
      try clear c22
      try clear c28
      try clear c28b0
      try clear p2
      obtain ⟨kq, x13_24, rfl, HA, HJ24, HO_9, HO_11, HB⟩ := hcut
      cases kq with
      | zero => exact absurd HA.out (by simp [palanquinlaw15_FragCuts.j1])
      | succ kj24 =>
       have H := HA.out
       clear HA
       simp only [palanquinlaw15_FragCuts.j1] at H
       replace H := Option.bind_eq_some_iff.mp H
       obtain ⟨t926, A290, H⟩ := H
       replace H : (if t926 = true then (if t919 = t923 then (if a1 < 0 then ((frag_Usable.f a1 a3).bind fun t927 => (some (t927 == x13_24))) else ((frag_Part.f a2 a1).bind fun t928 => ((palanquinref15_Part.f a2 a1).bind fun t929 => (if t928 = t929 then ((frag_Usable.f a1 a3).bind fun t930 => (some (t930 == x13_24))) else (some false))))) else (some false)) else (some false)) = some r := H
       have A29 := mA A290
       clear A290
       by_cases c30 : t926 = true
       ·subst c30
        have H1 : (if t919 = t923 then (if a1 < 0 then ((frag_Usable.f a1 a3).bind fun t927 => (some (t927 == x13_24))) else ((frag_Part.f a2 a1).bind fun t928 => ((palanquinref15_Part.f a2 a1).bind fun t929 => (if t928 = t929 then ((frag_Usable.f a1 a3).bind fun t930 => (some (t930 == x13_24))) else (some false))))) else (some false)) = some r := by rw [if_pos rfl] at H; exact H
        clear H
        have H := H1
        clear H1
        by_cases c31 : t919 = t923
        ·rw [if_pos c31] at H
         have c31b0 : (t919 == t923) = true := beq_iff_eq.mpr c31
         have c31b1 : (t919 != t923) = false := bne_eq_false_iff_eq.mpr c31
         clear c31
         by_cases c32 : a1 < 0
         ·rw [if_pos c32] at H
          have c32b0 : decide (a1 < 0) = true := decide_eq_true c32
          clear c32
          replace H := Option.bind_eq_some_iff.mp H
          obtain ⟨t927, A330, H⟩ := H
          replace H : (some (t927 == x13_24)) = some r := H
          have A33 := mA A330
          clear A330
          obtain rfl := Option.some.inj H
          obtain ⟨Ao34, co34, eo34⟩ := Kd.R_slice HO_9.out
          subst eo34
          obtain ⟨Ao35, co35, eo35⟩ := Kd.R_slice HO_11.out
          subst eo35
          go_wp2_with (first | ((with_reducible refine gate_callee (f := 117) rfl ?_); refine goesL_ (some 72) rfl rfl Try.func117 (by kernel_rfl) rfl #[.slice Ao34 t918.length co34, .slice Ao35 t922.length co35] rfl (by (try simp only [List.map_toArray, List.map_cons, List.map_nil]); first | done | rfl | (simp only [List.length_drop, List.length_take]; rfl)) ?_; (with_reducible refine (palanquinref15_Texts.calls kj24 _ _ t918 _ _ t922 true _ ?side1 ?side2 ?side3 ?side4 A29.out).mono ?_); (case side1 => repeat (first | exact (Kd.R_reads' HO_9.out).2.2 | (with_reducible refine Kd.C_alloc ?_ _) | (with_reducible refine Kd.C_drewN ?_ _) | (with_reducible refine Kd.C_drew ?_))); (case side2 => exact (Kd.R_reads' HO_9.out).2.1); (case side3 => repeat (first | exact (Kd.R_reads' HO_11.out).2.2 | (with_reducible refine Kd.C_alloc ?_ _) | (with_reducible refine Kd.C_drewN ?_ _) | (with_reducible refine Kd.C_drew ?_))); (case side4 => exact (Kd.R_reads' HO_11.out).2.1); rintro e w' ⟨rfl, ⟨nd, rfl⟩⟩; refine ⟨_, rfl, ?_⟩) | (go_at_call 119; (with_reducible refine (frag_Usable.calls a1 a3 t927 _ A33.out).mono ?_); rintro e w36 ⟨rfl, hb⟩; have n0_ := mA (Kd.R_below (by (with_reducible repeat (first | apply Kd.R_alloc | apply Kd.R_drewN | apply Kd.R_drew)); exact HO_9.out) hb); have n1_ := mA (Kd.R_below (by (with_reducible repeat (first | apply Kd.R_alloc | apply Kd.R_drewN | apply Kd.R_drew)); exact HO_11.out) hb); have n2_ := mA (bP (by repeat (first | (with_reducible first | exact HB.out | apply bA | apply bN | apply bD) | exact HB.out)) hb); clear HO_9; clear HO_11; clear HB; have HO_9 := n0_; have HO_11 := n1_; have HB := n2_; clear n0_ n1_ n2_; (try clear hb); (try clear hb2); (try clear hk); (try clear hi)))
          go_ret
          exact ⟨by first | rfl | (simp [errW_none, errW_some] <;> rfl) | (simp [*, errW_none, errW_some] <;> rfl), by repeat (first | (with_reducible first | exact HB.out | apply bA | apply bN | apply bD) | exact HB.out)⟩
         ·rw [if_neg c32] at H
          have c32b0 : decide (a1 < 0) = false := decide_eq_false c32
          clear c32
          replace H := Option.bind_eq_some_iff.mp H
          obtain ⟨t928, A370, H⟩ := H
          replace H : ((palanquinref15_Part.f a2 a1).bind fun t929 => (if t928 = t929 then ((frag_Usable.f a1 a3).bind fun t930 => (some (t930 == x13_24))) else (some false))) = some r := H
          have A37 := mA A370
          clear A370
          replace H := Option.bind_eq_some_iff.mp H
          obtain ⟨t929, A380, H⟩ := H
          replace H : (if t928 = t929 then ((frag_Usable.f a1 a3).bind fun t930 => (some (t930 == x13_24))) else (some false)) = some r := H
          have A38 := mA A380
          clear A380
          by_cases c39 : t928 = t929
          ·rw [if_pos c39] at H
           have c39b0 : (t928 == t929) = true := beq_iff_eq.mpr c39
           have c39b1 : (t928 != t929) = false := bne_eq_false_iff_eq.mpr c39
           clear c39
           replace H := Option.bind_eq_some_iff.mp H
           obtain ⟨t930, A400, H⟩ := H
           replace H : (some (t930 == x13_24)) = some r := H
           have A40 := mA A400
           clear A400
           obtain rfl := Option.some.inj H
           obtain ⟨Ao41, co41, eo41⟩ := Kd.R_slice HO_9.out
           subst eo41
           obtain ⟨Ao42, co42, eo42⟩ := Kd.R_slice HO_11.out
           subst eo42
           go_wp2_with (first | ((with_reducible refine gate_callee (f := 117) rfl ?_); refine goesL_ (some 72) rfl rfl Try.func117 (by kernel_rfl) rfl #[.slice Ao41 t918.length co41, .slice Ao42 t922.length co42] rfl (by (try simp only [List.map_toArray, List.map_cons, List.map_nil]); first | done | rfl | (simp only [List.length_drop, List.length_take]; rfl)) ?_; (with_reducible refine (palanquinref15_Texts.calls kj24 _ _ t918 _ _ t922 true _ ?side1 ?side2 ?side3 ?side4 A29.out).mono ?_); (case side1 => repeat (first | exact (Kd.R_reads' HO_9.out).2.2 | (with_reducible refine Kd.C_alloc ?_ _) | (with_reducible refine Kd.C_drewN ?_ _) | (with_reducible refine Kd.C_drew ?_))); (case side2 => exact (Kd.R_reads' HO_9.out).2.1); (case side3 => repeat (first | exact (Kd.R_reads' HO_11.out).2.2 | (with_reducible refine Kd.C_alloc ?_ _) | (with_reducible refine Kd.C_drewN ?_ _) | (with_reducible refine Kd.C_drew ?_))); (case side4 => exact (Kd.R_reads' HO_11.out).2.1); rintro e w' ⟨rfl, ⟨nd, rfl⟩⟩; refine ⟨_, rfl, ?_⟩) | (go_at_call 115; (with_reducible refine (frag_Part.calls a2 a1 t928 _ A37.out).mono ?_); rintro e w43 ⟨rfl, hb⟩; have n0_ := mA (Kd.R_below (by (with_reducible repeat (first | apply Kd.R_alloc | apply Kd.R_drewN | apply Kd.R_drew)); exact HO_9.out) hb); have n1_ := mA (Kd.R_below (by (with_reducible repeat (first | apply Kd.R_alloc | apply Kd.R_drewN | apply Kd.R_drew)); exact HO_11.out) hb); have n2_ := mA (bP (by repeat (first | (with_reducible first | exact HB.out | apply bA | apply bN | apply bD) | exact HB.out)) hb); clear HO_9; clear HO_11; clear HB; have HO_9 := n0_; have HO_11 := n1_; have HB := n2_; clear n0_ n1_ n2_; (try clear hb); (try clear hb2); (try clear hk); (try clear hi)) | (go_at_call 118; (with_reducible refine (palanquinref15_Part.calls a2 a1 t929 _ A38.out).mono ?_); rintro e w' ⟨rfl, ⟨nd, rfl⟩⟩) | (go_at_call 119; (with_reducible refine (frag_Usable.calls a1 a3 t930 _ A40.out).mono ?_); rintro e w44 ⟨rfl, hb⟩; have n0_ := mA (Kd.R_below (by (with_reducible repeat (first | apply Kd.R_alloc | apply Kd.R_drewN | apply Kd.R_drew)); exact HO_9.out) hb); have n1_ := mA (Kd.R_below (by (with_reducible repeat (first | apply Kd.R_alloc | apply Kd.R_drewN | apply Kd.R_drew)); exact HO_11.out) hb); have n2_ := mA (bP (by repeat (first | (with_reducible first | exact HB.out | apply bA | apply bN | apply bD) | exact HB.out)) hb); clear HO_9; clear HO_11; clear HB; have HO_9 := n0_; have HO_11 := n1_; have HB := n2_; clear n0_ n1_ n2_; (try clear hb); (try clear hb2); (try clear hk); (try clear hi)))
           go_ret
           exact ⟨by first | rfl | (simp [errW_none, errW_some] <;> rfl) | (simp [*, errW_none, errW_some] <;> rfl), by repeat (first | (with_reducible first | exact HB.out | apply bA | apply bN | apply bD) | exact HB.out)⟩
          ·rw [if_neg c39] at H
           exact absurd ((Option.some.inj H).trans hrt_.out) (by decide)
        ·rw [if_neg c31] at H
         exact absurd ((Option.some.inj H).trans hrt_.out) (by decide)
       ·replace c30 := Bool.eq_false_iff.mpr c30
        subst c30
        have H1 : (some false) = some r := by rw [if_neg (show ¬ (false = true) by decide)] at H; exact H
        exact absurd ((Option.some.inj H1).trans hrt_.out) (by decide)
 ·replace c6 := Bool.eq_false_iff.mpr c6
  subst c6
  have H1 : (some false) = some r := by rw [if_neg (show ¬ (false = true) by decide)] at H; exact H
  exact absurd ((Option.some.inj H1).trans hrt_.out) (by decide)
/-- THE ONE PURE STATEMENT of palanquinlaw15_FragCuts: yours. -/
def palanquinlaw15_FragCuts.Pure : Prop := ∀ (a0 : ByteArray) (a1 : Int) (a2 : Int) (a3 : Int), a0.size ≤ 140737488351232 → (Lit.int .i64 a1).wf = true → (Lit.int .i64 a2).wf = true → (Lit.int .i64 a3).wf = true → ∃ k, palanquinlaw15_FragCuts.f k a0 a1 a2 a3 = some true
theorem palanquinlaw15_FragCuts.walk (P : palanquinlaw15_FragCuts.Pure) (a0 : ByteArray) (a1 : Int) (a2 : Int) (a3 : Int) (w : World) (w0 : a0.size ≤ 140737488351232) (w1 : (Lit.int .i64 a1).wf = true) (w2 : (Lit.int .i64 a2).wf = true) (w3 : (Lit.int .i64 a3).wf = true) :
  Calls Try.prog 35 #[.string a0, .int .i64 a1, .int .i64 a2, .int .i64 a3] w fun e w' => e = .returned (.bool true) ∧ Below w.heap.size w w' := by
 obtain ⟨k, h⟩ := P a0 a1 a2 a3 w0 w1 w2 w3
 refine (palanquinlaw15_FragCuts.calls k a0 a1 a2 a3 true w h ⟨rfl⟩).mono ?_
 rintro e w' ⟨rfl, hd⟩
 exact ⟨rfl, hd⟩

end Go.Proofs.Ytejmipoolbodgaa.G
end

section
/- Plain theory: the document's Get of an IPv4 packet is the program's. -/
namespace Go.Proofs.Ytejmipoolbodgaa.Pure
open Go.RowKit Go.Proofs.YtejmipoolbodgaaW.PrintWords Go.Proofs.YtejmipoolbodgaaW.PrintLast Go.Proofs.Ytejmipoolbodgaa.G Go.Proofs.Ytejmipoolbodgaa.Pal
theorem bt4_one (s : ByteArray) (i : Nat) (h : i < s.size) : bt s (i : Int) = ((be (bl (s.extract i (i + 1))) : Nat) : Int) := by
  have e : ((bl s).take (i + 1)).drop i = [(bl s)[i]'(by rw [bl_length]; exact h)] := by
    rw [List.drop_take, show i + 1 - i = 1 by omega, List.drop_eq_getElem_cons (by rw [bl_length]; exact h)]; rfl
  rw [bt_bl s i h, cut4, e]
  simp [be]
theorem r4a (B : Nat) (h : B < 256) : Int.tdiv (B : Int) 16 % 256 = ((B / 16 : Nat) : Int) := by rw [Int.tdiv_eq_ediv_of_nonneg (by omega)]; omega
theorem r4b (B : Nat) (h : B < 256) : wrap64 (wrap64 (Int.tmod (B : Int) 16) * 4) = ((4 * (B % 16) : Nat) : Int) := by
  have e : wrap64 (Int.tmod (B : Int) 16) = ((B % 16 : Nat) : Int) := by rw [Int.tmod_eq_emod_of_nonneg (by omega)]; unfold wrap64; omega
  rw [e]
  have : B % 16 < 16 := Nat.mod_lt _ (by decide)
  generalize B % 16 = m at this ⊢
  unfold wrap64; omega
theorem r4c (F : Nat) (h : F < 32768) : Int.tmod (F : Int) 8192 = ((F % 8192 : Nat) : Int) := by rw [Int.tmod_eq_emod_of_nonneg (by omega)]; omega
theorem r4d (F : Nat) (h : F < 32768) : (wrap64 (Int.tdiv (F : Int) 16384) == 1) = (F / 16384 % 2 == 1) := by
  have e : wrap64 (Int.tdiv (F : Int) 16384) = ((F / 16384 : Nat) : Int) := by rw [Int.tdiv_eq_ediv_of_nonneg (by omega)]; unfold wrap64; omega
  rw [e, Bool.eq_iff_iff, beq_iff_eq, beq_iff_eq]; omega
theorem r4e (F : Nat) (h : F < 32768) : (Int.tmod (wrap64 (Int.tdiv (F : Int) 8192)) 2 == 1) = (F / 8192 % 2 == 1) := by
  have e : wrap64 (Int.tdiv (F : Int) 8192) = ((F / 8192 : Nat) : Int) := by rw [Int.tdiv_eq_ediv_of_nonneg (by omega)]; unfold wrap64; omega
  rw [e, Int.tmod_eq_emod_of_nonneg (by omega), Bool.eq_iff_iff, beq_iff_eq, beq_iff_eq]; omega
theorem w4_small (x : Nat) (h : x < 65536) : wrap64 (x : Int) = (x : Int) := by unfold wrap64; omega
theorem at4 (s : ByteArray) (i : Nat) (hi : i ≤ 100) (h : i + 2 ≤ s.size) (k : Nat) (hk : 2 < k) : palanquinref05_at.f k s (i : Int) 2 = some ((be (bl (s.extract i (i + 2))) : Nat) : Int) := by
  unfold palanquinref05_at.f
  have hw : wrap64 ((i : Int) + 2) = ((i + 2 : Nat) : Int) := by unfold wrap64; omega
  have hz : (s.extract i (i + 2)).size = 2 := by simp only [ByteArray.size_extract]; omega
  have hb : be (bl (s.extract i (i + 2))) < 65536 := be_lt_of _ 2 (by rw [bl_length, hz]; exact Nat.le_refl _)
  rw [hw, if_pos (by omega), if_pos (by omega), if_pos (by omega), Int.toNat_natCast, Int.toNat_natCast, value_is _ (by rw [hz]; decide) k (by rw [hz]; exact hk), Option.bind_some, w4_small _ hb]
theorem ref_get4 (s : ByteArray) (hs : s.size ≤ 140737488351232) (k : Nat) (hk : 6000 < k) : palanquinref05_Get.f (k + 1) s = ip4_Get.f s := by
  unfold palanquinref05_Get.f ip4_Get.f
  rw [if_pos hs]
  by_cases h20 : s.size < 20
  · have he : ip4Err s = 2 := if_pos h20
    rw [if_pos (by omega), he, if_neg (by decide)]
  have z : ∀ i j, (bl (s.extract i j)).length = min j s.size - i := fun i j => by rw [bl_length]; simp only [ByteArray.size_extract]
  have b0 : be (bl (s.extract 0 1)) < 256 := be_lt_of _ 1 (by rw [z]; omega)
  have b1 : be (bl (s.extract 1 2)) < 256 := be_lt_of _ 1 (by rw [z]; omega)
  have b8 : be (bl (s.extract 8 9)) < 256 := be_lt_of _ 1 (by rw [z]; omega)
  have b9 : be (bl (s.extract 9 10)) < 256 := be_lt_of _ 1 (by rw [z]; omega)
  have e0 : bt s 0 = ((be (bl (s.extract 0 1)) : Nat) : Int) := bt4_one s 0 (by omega)
  have e1 : bt s 1 = ((be (bl (s.extract 1 2)) : Nat) : Int) := bt4_one s 1 (by omega)
  have e8 : bt s 8 = ((be (bl (s.extract 8 9)) : Nat) : Int) := bt4_one s 8 (by omega)
  have e9 : bt s 9 = ((be (bl (s.extract 9 10)) : Nat) : Int) := bt4_one s 9 (by omega)
  rw [if_neg (by omega), if_pos (by omega), e0, r4a _ b0, r4b _ b0]
  by_cases hv : be (bl (s.extract 0 1)) / 16 = 4
  case neg =>
    have he : ip4Err s = 3 := by unfold ip4Err; rw [if_neg h20, if_neg hv]
    rw [if_neg (by omega), he, if_neg (by decide)]
  rw [if_pos (by omega), show 4 * (be (bl (s.extract 0 1)) % 16) = hl4 s from rfl]
  have hmax : hl4 s ≤ 60 := by unfold hl4; omega
  have bad : ip4Err s = 4 → palanquinref05_Get.j0 (k + 1) s ((hl4 s : Nat) : Int) true 0 0 0 0 0 false false (⟨#[]⟩ : ByteArray) (⟨#[]⟩ : ByteArray) (⟨#[]⟩ : ByteArray) = some (if ip4Err s = 0 then (((be (bl (s.extract 1 2)) : Nat) : Int), ((be (bl (s.extract 4 6)) : Nat) : Int), ((be (bl (s.extract 6 8)) % 8192 : Nat) : Int), ((be (bl (s.extract 8 9)) : Nat) : Int), ((be (bl (s.extract 9 10)) : Nat) : Int), (be (bl (s.extract 6 8)) / 16384 % 2 == 1), (be (bl (s.extract 6 8)) / 8192 % 2 == 1), s.extract 12 16, s.extract 16 20, s.extract 20 (hl4 s), s.extract (hl4 s) s.size, 0) else (0, 0, 0, 0, 0, false, false, ⟨#[]⟩, ⟨#[]⟩, ⟨#[]⟩, ⟨#[]⟩, ip4Err s)) := fun he => by
    rw [palanquinref05_Get.j0, if_pos rfl, he, if_neg (by decide)]
  by_cases hl : 20 ≤ hl4 s
  case neg => rw [if_pos (by omega)]; exact bad (by unfold ip4Err; rw [if_neg h20, if_pos hv, if_neg (fun h => hl h.1)])
  rw [if_neg (by omega)]
  by_cases hm : hl4 s ≤ s.size
  case neg => rw [if_pos (by omega)]; exact bad (by unfold ip4Err; rw [if_neg h20, if_pos hv, if_neg (fun h => hm h.2.1)])
  have a2 := at4 s 2 (by decide) (by omega) (k + 1) (by omega)
  rw [show ((2 : Nat) : Int) = 2 from rfl] at a2
  rw [if_neg (by omega), a2, Option.bind_some]
  by_cases hT : be (bl (s.extract 2 4)) = s.size
  case neg =>
    have hT' : ((((be (bl (s.extract 2 (2 + 2))) : Nat) : Int)) != (s.size : Int)) = true := bne_iff_ne.mpr (fun h => hT (by exact_mod_cast h))
    rw [hT']; exact bad (by unfold ip4Err; rw [if_neg h20, if_pos hv, if_neg (fun h => hT h.2.2)])
  have hT' : ((((be (bl (s.extract 2 (2 + 2))) : Nat) : Int)) != (s.size : Int)) = false := bne_eq_false_iff_eq.mpr (by exact_mod_cast hT)
  rw [hT', palanquinref05_Get.j0, if_neg (by decide), if_pos (by omega), if_pos (by omega), Int.toNat_natCast, R2.ref_sum _ (by simp only [ByteArray.size_extract]; omega) k (by omega), Option.bind_some]
  by_cases hc : csum (bl (s.extract 0 (hl4 s))) = 0
  case neg =>
    have he : ip4Err s = 5 := by unfold ip4Err; rw [if_neg h20, if_pos hv, if_pos ⟨hl, hm, hT⟩, if_neg hc]
    rw [if_neg (by omega), he, if_neg (by decide)]
  have a6 := at4 s 6 (by decide) (by omega) k (by omega)
  have a4 := at4 s 4 (by decide) (by omega) k (by omega)
  rw [show ((6 : Nat) : Int) = 6 from rfl, show 6 + 2 = 8 from rfl] at a6
  rw [show ((4 : Nat) : Int) = 4 from rfl, show 4 + 2 = 6 from rfl] at a4
  rw [if_pos (by omega), a6, Option.bind_some]
  by_cases hf : be (bl (s.extract 6 8)) / 32768 = 0
  case neg =>
    have he : ip4Err s = 9 := by unfold ip4Err; rw [if_neg h20, if_pos hv, if_pos ⟨hl, hm, hT⟩, if_pos hc, if_neg hf]
    rw [if_pos (by omega), he, if_neg (by decide)]
  have he : ip4Err s = 0 := by unfold ip4Err; rw [if_neg h20, if_pos hv, if_pos ⟨hl, hm, hT⟩, if_pos hc, if_pos hf]
  have hF : be (bl (s.extract 6 8)) < 32768 := by omega
  rw [if_neg (by omega), if_pos (by omega), a4, Option.bind_some, if_pos (by omega), if_pos (by omega), if_pos (by decide), if_pos (by omega), if_pos (by decide), if_pos (by omega), if_pos (by omega), he, if_pos rfl, e1, e8, e9, w4_small _ (by omega), w4_small _ (by omega), w4_small _ (by omega), r4c _ hF, r4d _ hF, r4e _ hF]
end Go.Proofs.Ytejmipoolbodgaa.Pure
end

section
/- Plain theory: the document's Cut of a packet is the program's. -/
namespace Go.Proofs.Ytejmipoolbodgaa.Pure
open Go.RowKit Go.Proofs.YtejmipoolbodgaaW.PrintWords Go.Proofs.YtejmipoolbodgaaW.PrintLast Go.Proofs.Ytejmipoolbodgaa.G Go.Proofs.Ytejmipoolbodgaa.Pal
set_option linter.unusedVariables false
theorem toNat_sub (m : Int) (h : Nat) (hm : 0 ≤ m) : (m - (h : Int)).toNat = m.toNat - h := by omega
theorem wrap_hl (a b : Nat) (h : a = b - 20) (h2 : 20 ≤ b) (h3 : b ≤ 60) : wrap64 (20 + (a : Int)) = (b : Int) := by unfold wrap64; omega
theorem piece_ok {s : ByteArray} (he : ip4Err s = 0) {z i : Nat} (ho : hOff s + i * z / 8 ≤ 8191) : ok4 (hTos s : Int) (hId s : Int) ((hOff s + i * z / 8 : Nat) : Int) (hTtl s : Int) (hProto s : Int) (hSrc s) (hDst s) (hOpt s) ∧ 20 + (hOpt s).size + (partP (hPay s) z i).size ≤ 65535 := by
  obtain ⟨⟨o1, o2, o3, o4, o5, o6, o7, o8, o9⟩, h2, h3, h4⟩ := got4_ok he
  have h := sized4 he
  have hp := partP_size (hPay s) z i
  exact ⟨⟨o1, o2, ⟨Int.natCast_nonneg _, by omega⟩, o4, o5, o6, o7, o8, o9⟩, by omega⟩
theorem part_mid (P : ByteArray) (z i : Nat) (h : i * z + z < P.size) : (P.extract (i * z) P.size).extract 0 z = partP P z i := by
  unfold partP
  rw [ext_ext _ _ _ _ _ (Nat.zero_le _) (by omega), Nat.add_zero, Nat.min_eq_left (by omega)]
theorem part_end (P : ByteArray) (z i : Nat) (h : P.size ≤ i * z + z) : P.extract (i * z) P.size = partP P z i := by
  unfold partP
  rw [Nat.min_eq_right h]
theorem part_rest (P : ByteArray) (z i : Nat) (h : i * z + z ≤ P.size) : (P.extract (i * z) P.size).extract z (P.extract (i * z) P.size).size = P.extract ((i + 1) * z) P.size := by
  have e : (P.extract (i * z) P.size).size = P.size - i * z := by simp only [ByteArray.size_extract]; omega
  rw [e, ext_ext _ _ _ _ _ (by omega) (by omega), Nat.succ_mul, show i * z + (P.size - i * z) = P.size by omega]
theorem cut_arith (F z i S : Nat) (hF : F ≤ 8191) (hz : z ≤ 65536) (hz8 : z % 8 = 0) (ho : F + i * z / 8 ≤ 8191) (hS : S ≤ 65535) (hr : i * z ≤ S) :
    wrap64 (((F + i * z / 8 : Nat) : Int) + wrap64 (Int.tdiv (z : Int) 8)) = ((F + (i + 1) * z / 8 : Nat) : Int) := by
  have e1 : Int.tdiv (z : Int) 8 = ((z / 8 : Nat) : Int) := by rw [Int.tdiv_eq_ediv_of_nonneg (by omega)]; omega
  rw [e1, Nat.succ_mul]
  generalize i * z = q at ho hr ⊢
  have e2 : wrap64 ((z / 8 : Nat) : Int) = ((z / 8 : Nat) : Int) := by unfold wrap64; omega
  rw [e2]
  have e3 : (q + z) / 8 = q / 8 + z / 8 := by omega
  rw [e3]; unfold wrap64; omega
/-- The document's loop. -/
theorem cut_loop {s : ByteArray} (he : ip4Err s = 0) {z : Nat} (hz : 0 < z) (hz8 : z % 8 = 0) (hz2 : z ≤ 65536) (hp0 : 0 < (hPay s).size) :
    ∀ (n i k : Nat) (mf : Bool), i + n = ((hPay s).size - 1) / z → hOff s + i * z / 8 ≤ 8191 → 6004 + n ≤ k →
      palanquinref15_Cut.l0 k (z : Int) ((List.range i).map (pieceF s z)) ((hPay s).extract (i * z) (hPay s).size) (hTos s : Int) (hId s : Int) (hOff s : Int) (hTtl s : Int) (hProto s : Int) (hDF s) (hMF s) (hSrc s) (hDst s) (hOpt s) (hTos s : Int) (hId s : Int) ((hOff s + i * z / 8 : Nat) : Int) (hTtl s : Int) (hProto s : Int) (hDF s) mf (hSrc s) (hDst s) (hOpt s)
        = some (if 8191 < hOff s + ((hPay s).size - 1) / z * z / 8 then [] else (List.range (cntP (hPay s) z)).map (pieceF s z), if 8191 < hOff s + ((hPay s).size - 1) / z * z / 8 then 4 else 0) := by
  have h4 := sized4 he
  have HE := Aside0.mk he
  clear he
  have hN : ((hPay s).size - 1) / z * z ≤ (hPay s).size - 1 := Nat.div_mul_le_self _ _
  have hN2 : (hPay s).size - 1 < ((hPay s).size - 1) / z * z + z := by have := Nat.lt_div_mul_add (a := (hPay s).size - 1) hz; omega
  have hcnt := cntP_last (hPay s) hz hp0
  intro n
  induction n with
  | zero =>
    intro i k mf hi ho hk
    obtain ⟨k, rfl⟩ : ∃ j, k = j + 1 := ⟨k - 1, by omega⟩
    have hiN : i = ((hPay s).size - 1) / z := by omega
    rw [← hiN] at hN hN2 hcnt ⊢
    have esz : ((hPay s).extract (i * z) (hPay s).size).size = (hPay s).size - i * z := by simp only [ByteArray.size_extract]; omega
    obtain ⟨o1, o2⟩ := piece_ok HE.out (z := z) (i := i) ho
    have psz := partP_size (hPay s) z i
    have hi6 : i ≤ 65535 := by have : i * 1 ≤ i * z := Nat.mul_le_mul_left _ hz; omega
    have hput : palanquinref05_Put.f k (hTos s : Int) (hId s : Int) ((hOff s + i * z / 8 : Nat) : Int) (hTtl s : Int) (hProto s : Int) (hDF s) (hMF s) (hSrc s) (hDst s) (hOpt s) ((hPay s).extract (i * z) (hPay s).size) = some (pieceF s z i, 0) := by
      rw [part_end _ _ _ (by omega), ref_put4 _ _ _ _ _ _ _ _ _ _ _ (by have := o1.2.2.2.2.2.1; omega) (by have := o1.2.2.2.2.2.2.1; omega) (by omega) (by omega) k (by omega)]
      exact piece_some s z i o1 o2 _ (by rw [decide_eq_false (by omega), Bool.or_false])
    rw [palanquinref15_Cut.l0, if_neg (by rw [esz]; omega), hput, Option.bind_some, if_pos (by rw [List.length_map, List.length_range]; omega), if_neg (by omega), if_neg (by omega), hcnt, List.range_succ, List.map_append]
    rfl
  | succ n ih =>
    intro i k mf hi ho hk
    obtain ⟨k, rfl⟩ : ∃ j, k = j + 1 := ⟨k - 1, by omega⟩
    have hlt : (i + 1) * z ≤ ((hPay s).size - 1) / z * z := Nat.mul_le_mul_right z (by omega)
    have hlt3 : i * z + z ≤ ((hPay s).size - 1) / z * z := by rw [← Nat.succ_mul]; exact hlt
    have hlt2 : i * z + z ≤ (hPay s).size - 1 := Nat.le_trans hlt3 hN
    have esz : ((hPay s).extract (i * z) (hPay s).size).size = (hPay s).size - i * z := by simp only [ByteArray.size_extract]; omega
    obtain ⟨o1, o2⟩ := piece_ok HE.out (z := z) (i := i) ho
    have psz := partP_size (hPay s) z i
    have hi6 : i ≤ 65535 := by have : i * 1 ≤ i * z := Nat.mul_le_mul_left _ hz; omega
    have hput : palanquinref05_Put.f k (hTos s : Int) (hId s : Int) ((hOff s + i * z / 8 : Nat) : Int) (hTtl s : Int) (hProto s : Int) (hDF s) true (hSrc s) (hDst s) (hOpt s) (((hPay s).extract (i * z) (hPay s).size).extract 0 z) = some (pieceF s z i, 0) := by
      rw [part_mid _ _ _ (by omega), ref_put4 _ _ _ _ _ _ _ _ _ _ _ (by have := o1.2.2.2.2.2.1; omega) (by have := o1.2.2.2.2.2.2.1; omega) (by omega) (by omega) k (by omega)]
      exact piece_some s z i o1 o2 _ (by rw [decide_eq_true (by omega), Bool.or_true])
    have har := cut_arith (hOff s) z i (hPay s).size h4.2.2.2.2.2.2 hz2 hz8 ho (by omega) (by omega)
    rw [palanquinref15_Cut.l0, if_pos (by rw [esz]; omega), if_pos (by omega), if_pos (by rw [esz]; omega), Int.toNat_natCast, hput, Option.bind_some, if_pos (by rw [List.length_map, List.length_range]; omega), har, part_rest _ _ _ (by omega)]
    by_cases hov : 8191 < hOff s + (i + 1) * z / 8
    · have h8 : (i + 1) * z / 8 ≤ ((hPay s).size - 1) / z * z / 8 := Nat.div_le_div_right hlt
      have c1 : ((hOff s + (i + 1) * z / 8 : Nat) : Int) > 8191 := Int.ofNat_lt.mpr hov
      have c2 : 8191 < hOff s + ((hPay s).size - 1) / z * z / 8 := Nat.lt_of_lt_of_le hov (Nat.add_le_add_left h8 _)
      rw [if_pos c1, if_pos c2, if_pos c2]
    · have c1 : ¬ ((hOff s + (i + 1) * z / 8 : Nat) : Int) > 8191 := fun hh => hov (Int.ofNat_lt.mp hh)
      rw [if_neg c1]
      have := ih (i + 1) k true (by omega) (Nat.le_of_not_lt hov) (by omega)
      rw [List.range_succ, List.map_append] at this
      exact this
theorem refPart_is (h m : Int) (hh : 0 ≤ h ∧ h ≤ 1099511627776) (hm : 0 ≤ m ∧ m ≤ 1099511627776) : palanquinref15_Part.f h m = some (((m - h).toNat / 8 * 8 : Nat) : Int) := by
  unfold palanquinref15_Part.f
  by_cases c : m > h
  · obtain ⟨d, hd⟩ := Int.eq_ofNat_of_zero_le (show 0 ≤ m - h by omega)
    have e1 : wrap64 (m - h) = (d : Int) := by unfold wrap64; omega
    rw [if_pos c, e1, Int.tdiv_eq_ediv_of_nonneg (by omega), hd, Int.toNat_natCast]
    have e2 : wrap64 ((d : Int) / 8) = ((d / 8 : Nat) : Int) := by unfold wrap64; omega
    rw [e2]
    refine congrArg some ?_
    unfold wrap64; omega
  · rw [if_neg c, show (m - h).toNat = 0 by omega]; rfl
theorem ref_cut (s : ByteArray) (hs : s.size ≤ 140737488351232) (m : Int) (hm : -1099511627776 ≤ m ∧ m ≤ 1099511627776) (k : Nat) (hk : 80000 ≤ k) : palanquinref15_Cut.f k s m = some (cutL s m, cutErr s m) := by
  obtain ⟨k, rfl⟩ : ∃ j, k = j + 1 := ⟨k - 1, by omega⟩
  unfold palanquinref15_Cut.f
  rw [ref_get4 s hs k (by omega)]
  by_cases he : ip4Err s = 0
  case neg =>
    rw [get4_err hs he, Option.bind_some]
    dsimp +instances only
    rw [if_neg he, cutL_bad (by rw [cutErr_bad he]; exact he), cutErr_bad he]
  rw [get4_f s hs he, Option.bind_some]
  dsimp +instances only
  rw [if_pos rfl]
  have h4 := sized4 he
  have HE := Aside0.mk he
  clear he
  by_cases h28 : m < 28
  · have e := cutErr_range HE.out (show ¬ (28 ≤ m ∧ m ≤ 65535) by omega)
    rw [if_pos h28, palanquinref15_Cut.j0, if_pos rfl, cutL_bad (by rw [e]; decide), e]
  rw [if_neg h28]
  by_cases h65 : m > 65535
  · have e := cutErr_range HE.out (show ¬ (28 ≤ m ∧ m ≤ 65535) by omega)
    rw [decide_eq_true h65, palanquinref15_Cut.j0, if_pos rfl, cutL_bad (by rw [e]; decide), e]
  have EE := Aside0.mk (cutErr_in HE.out (show 28 ≤ m ∧ m ≤ 65535 by omega))
  have m0 : 0 ≤ m ∧ m ≤ 65535 := by omega
  rw [decide_eq_false h65, palanquinref15_Cut.j0, if_neg (by decide)]
  by_cases hl : (s.size : Int) ≤ m
  · have e := EE.out
    rw [if_pos hl] at e
    rw [if_pos hl, e]
    unfold cutL
    rw [if_pos e, if_pos hl]
  rw [if_neg hl]
  by_cases hd : hDF s = true
  · have e := EE.out
    rw [if_neg hl, if_pos hd] at e
    rw [if_pos hd, cutL_bad (by rw [e]; decide), e]
  rw [if_neg hd]
  have eh : wrap64 (20 + ((hOpt s).size : Int)) = (hl4 s : Int) := wrap_hl _ _ h4.2.2.2.2.1 h4.2.1 h4.2.2.2.1
  have ez0 : (m - (hl4 s : Int)).toNat = m.toNat - hl4 s := toNat_sub m _ m0.1
  have ez : (m - (hl4 s : Int)).toNat / 8 * 8 = nF s m.toNat := by unfold nF; rw [ez0]
  have hb : (0 : Int) ≤ (hl4 s : Int) ∧ (hl4 s : Int) ≤ 1099511627776 := by have := h4.2.2.2.1; omega
  have mb : 0 ≤ m ∧ m ≤ 1099511627776 := by omega
  rw [eh, refPart_is _ _ hb mb, Option.bind_some, ez]
  by_cases hz : nF s m.toNat = 0
  · have e := EE.out
    rw [if_neg hl, if_neg hd, if_pos hz] at e
    rw [if_pos (Int.natCast_eq_zero.mpr hz), cutL_bad (by rw [e]; decide), e]
  rw [if_neg (fun hh => hz (Int.natCast_eq_zero.mp hh))]
  have hz1 : 0 < nF s m.toNat := Nat.pos_of_ne_zero hz
  have hle := nF_le s m.toNat hz1
  have hm16 : m.toNat ≤ 65535 := by omega
  have hp0 : 0 < (hPay s).size := by omega
  have hz2 : nF s m.toNat ≤ 65536 := by omega
  have hN : ((hPay s).size - 1) / nF s m.toNat ≤ (hPay s).size - 1 := Nat.div_le_self _ _
  have hN2 : ((hPay s).size - 1) / nF s m.toNat ≤ 65535 := Nat.le_trans hN (by have := h4.1; have := h4.2.2.2.2.2.1; omega)
  have hk2 : 6004 + ((hPay s).size - 1) / nF s m.toNat ≤ k := by
    generalize ((hPay s).size - 1) / nF s m.toNat = q at hN2 ⊢
    clear hN
    omega
  have lp := cut_loop HE.out hz1 (nF_eight s m.toNat) hz2 hp0 (((hPay s).size - 1) / nF s m.toNat) 0 k (hMF s) (Nat.zero_add _) (by rw [Nat.zero_mul]; exact h4.2.2.2.2.2.2) hk2
  rw [Nat.zero_mul] at lp
  have e0 : (hPay s).extract 0 (hPay s).size = hPay s := ByteArray.ext (by rw [ByteArray.data_extract]; exact Array.extract_eq_self_of_le (Nat.le_refl _))
  rw [e0] at lp
  refine Eq.trans lp ?_
  have e := EE.out
  rw [if_neg hl, if_neg hd, if_neg hz] at e
  by_cases hov : 8191 < hOff s + ((hPay s).size - 1) / nF s m.toNat * nF s m.toNat / 8
  · rw [if_pos hov] at e
    rw [if_pos hov, if_pos hov, cutL_bad (by rw [e]; decide), e]
  · rw [if_neg hov] at e
    rw [if_neg hov, if_neg hov, e]
    unfold cutL
    rw [if_pos e, if_neg hl]
end Go.Proofs.Ytejmipoolbodgaa.Pure
end

section
/- Plain law of FragCuts: any packet's pieces are just the document's; so is how much fits. -/
namespace Go.Proofs.Ytejmipoolbodgaa.Pure
open Go.RowKit Go.Proofs.YtejmipoolbodgaaW.PrintWords Go.Proofs.YtejmipoolbodgaaW.PrintLast Go.Proofs.Ytejmipoolbodgaa.G Go.Proofs.Ytejmipoolbodgaa.Pal
set_option linter.unusedVariables false
theorem texts_self (L : List ByteArray) (hL : L.length ≤ 100000) : ∀ (n i k : Nat), i + n = L.length → n < k → palanquinref15_Texts.l0 k L L (i : Int) = some true := by
  intro n
  induction n with
  | zero =>
    intro i k hi hk
    obtain ⟨k, rfl⟩ : ∃ j, k = j + 1 := ⟨k - 1, by omega⟩
    rw [palanquinref15_Texts.l0, if_neg (by omega)]
  | succ n ih =>
    intro i k hi hk
    obtain ⟨k, rfl⟩ : ∃ j, k = j + 1 := ⟨k - 1, by omega⟩
    rw [palanquinref15_Texts.l0, if_pos (by omega), if_pos (by omega), if_pos (by omega), if_pos rfl, show wrap64 ((i : Int) + 1) = ((i + 1 : Nat) : Int) by unfold wrap64; omega]
    exact ih (i + 1) k (by omega) (by omega)
theorem usable_is (m z : Int) (hm : -1099511627776 ≤ m ∧ m ≤ 1099511627776) (hz : -1099511627776 ≤ z ∧ z ≤ 1099511627776) : frag_Usable.f m z = some (if m > z then wrap64 (m - z) else 0) := by
  unfold frag_Usable.f mx
  have e : wrap64 (m - z) = m - z := by unfold wrap64; omega
  rw [e]
  refine congrArg some ?_
  split <;> split <;> omega
theorem part_same (h m : Int) (hh : 0 ≤ h ∧ h ≤ 1048576) (hm : 0 ≤ m ∧ m ≤ 1099511627776) : frag_Part.f h m = palanquinref15_Part.f h m := by
  rw [refPart_is h m (by omega) hm]
  unfold frag_Part.f
  have e : mx 0 (wrap64 (m - h)) = ((m - h).toNat : Int) := by
    have : wrap64 (m - h) = m - h := by unfold wrap64; omega
    rw [this]; unfold mx; split <;> omega
  rw [e, andNot7 _ (by omega)]
theorem FragCuts : palanquinlaw15_FragCuts.Pure := by
  intro s a1 a2 a3 hs _ _ _
  refine ⟨90001 + 1, ?_⟩
  unfold palanquinlaw15_FragCuts.f
  have skip : palanquinlaw15_FragCuts.j0 (90001 + 1) s a1 a2 a3 true = some true := by rw [palanquinlaw15_FragCuts.j0, if_pos rfl]
  rw [awake15 _ (by decide), Option.bind_some, if_pos rfl]
  by_cases h7 : (s.size : Int) > 70000
  · rw [if_pos h7]; exact skip
  rw [if_neg h7]
  have chain : (if a2 < 0 then (palanquinlaw15_FragCuts.j0 (90001 + 1) s a1 a2 a3 true) else (if a2 > 1048576 then (palanquinlaw15_FragCuts.j0 (90001 + 1) s a1 a2 a3 true) else (if a1 < (-1099511627776) then (palanquinlaw15_FragCuts.j0 (90001 + 1) s a1 a2 a3 true) else (if a1 > 1099511627776 then (palanquinlaw15_FragCuts.j0 (90001 + 1) s a1 a2 a3 true) else (if a3 < (-1099511627776) then (palanquinlaw15_FragCuts.j0 (90001 + 1) s a1 a2 a3 true) else (palanquinlaw15_FragCuts.j0 (90001 + 1) s a1 a2 a3 (decide (a3 > 1099511627776)))))))) = some true := by
    by_cases b1 : a2 < 0
    · rw [if_pos b1]; exact skip
    rw [if_neg b1]
    by_cases b2 : a2 > 1048576
    · rw [if_pos b2]; exact skip
    rw [if_neg b2]
    by_cases b3 : a1 < -1099511627776
    · rw [if_pos b3]; exact skip
    rw [if_neg b3]
    by_cases b4 : a1 > 1099511627776
    · rw [if_pos b4]; exact skip
    rw [if_neg b4]
    by_cases b5 : a3 < -1099511627776
    · rw [if_pos b5]; exact skip
    rw [if_neg b5]
    by_cases b6 : a3 > 1099511627776
    · rw [decide_eq_true b6]; exact skip
    rw [decide_eq_false b6, palanquinlaw15_FragCuts.j0, if_neg (by decide), cut_f hs, Option.bind_some, ref_cut s hs a1 (by omega) 90001 (by decide), Option.bind_some]
    dsimp +instances only
    have hlen := cutL_len (s := s) a1
    have fin : ∀ u, u = (if a1 > a3 then wrap64 (a1 - a3) else 0) → palanquinlaw15_FragCuts.j1 90001 a1 a2 a3 (cutL s a1) (cutErr s a1) (cutL s a1) (cutErr s a1) u = some true := by
      intro u hu
      rw [palanquinlaw15_FragCuts.j1]
      have ht : palanquinref15_Texts.f 90000 (cutL s a1) (cutL s a1) = some true := by
        unfold palanquinref15_Texts.f
        rw [if_pos rfl]
        exact texts_self _ (by omega) (cutL s a1).length 0 90000 (by omega) (by omega)
      rw [ht, Option.bind_some, if_pos rfl, if_pos rfl, usable_is a1 a3 (by omega) (by omega), ← hu]
      by_cases hn : a1 < 0
      · rw [if_pos hn, Option.bind_some, beq_self_eq_true]
      · rw [if_neg hn, part_same a2 a1 (by omega) (by omega), refPart_is a2 a1 (by omega) (by omega), Option.bind_some, Option.bind_some, if_pos rfl, Option.bind_some, beq_self_eq_true]
    by_cases hu : a1 > a3
    · rw [if_pos hu]
      exact fin _ (by rw [if_pos hu])
    · rw [if_neg hu]
      exact fin _ (by rw [if_neg hu])
  by_cases h3 : (s.size : Int) > 3000
  · rw [if_pos h3]
    by_cases h4 : a1 < 400
    · rw [if_pos h4]; exact skip
    · rw [if_neg h4]; exact chain
  · rw [if_neg h3]; exact chain
end Go.Proofs.Ytejmipoolbodgaa.Pure
end
