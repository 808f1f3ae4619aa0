-- Laid by a program of this session (wip/gen/gprint.py) over the translation's print. Lean checks it.
import Derived.Test.YtejmipoolbodgaaG0
import Derived.Test.YtejmipoolbodgaaGEq3
import Derived.Test.YtejmipoolbodgaaGlaw08
import Derived.Test.YtejmipoolbodgaaGref08
import Derived.Test.YtejmipoolbodgaaHUdp
import Derived.Test.YtejmipoolbodgaaPAls
namespace Go.Proofs.Ytejmipoolbodgaa.G
open Go.RowKit Go.Proofs.YtejmipoolbodgaaW.PrintWords Go.Proofs.YtejmipoolbodgaaW.PrintLast Go.Proofs.YtejmipoolbodgaaW.PrintMore
attribute [local go_sem] max2_int min2_int max_two min_two max_three min_three max_four min_four   -- for this text's walks alone
set_option linter.unusedVariables false
set_option linter.unusedSimpArgs false

attribute [local go_sem high] eqA102
/-! ### palanquinlaw08_UdpTells: function 20 -/
def palanquinlaw08_UdpTells.j0 : Nat → Int → ByteArray → Bool → Int → Int → ByteArray → Option (Bool)
 | 0, _, _, _, _, _, _ => none
 | k + 1, x1, x2, x27, x465000, x465001, x465002 => if x27 = true then (some true) else ((udp_Put.f x465000 x465001 x465002 x1).bind fun bt466 => ((palanquinref08_Put.f k x465000 x465001 x465002 x1).bind fun bt468 => ((udp_Get.f x2).bind fun bt470 => ((palanquinref08_Get.f k x2).bind fun bt476 => (if bt466.1.toList = bt468.1.toList then (if bt466.2 = bt468.2 then ((udp_Check.f x465000 x465001 x465002).bind fun t482 => ((palanquinref08_Check.f k x465000 x465001 x465002).bind fun t483 => (if t482 = t483 then (if (bt470.1 == bt476.1 && (bt470.2.1 == bt476.2.1 && (bt470.2.2.1.toList == bt476.2.2.1.toList))) = true then (if bt470.2.2.2.1 = bt476.2.2.2.1 then (some (bt470.2.2.2.2 == bt476.2.2.2.2)) else (some false)) else (some false)) else (some false)))) else (some false)) else (some false))))))
def palanquinlaw08_UdpTells.f (k : Nat) (a0_0 : Int) (a0_1 : Int) (a0_2 : ByteArray) (a1 : Int) (a2 : ByteArray) : Option (Bool) := (palanquinlaw08_awake.f).bind fun t465 => (if t465 = true then (if (a0_2.size : Int) > 70000 then (palanquinlaw08_UdpTells.j0 k a1 a2 true a0_0 a0_1 a0_2) else (palanquinlaw08_UdpTells.j0 k a1 a2 (decide ((a2.size : Int) > 70000)) a0_0 a0_1 a0_2)) else (some false))
theorem palanquinlaw08_UdpTells.mono_l : ∀ k, (∀ y0 y1 y2 y3 y4 y5, LeO (palanquinlaw08_UdpTells.j0 k y0 y1 y2 y3 y4 y5) (palanquinlaw08_UdpTells.j0 (k + 1) y0 y1 y2 y3 y4 y5))
 | 0 => fun _ _ _ _ _ _ r h => by simp [palanquinlaw08_UdpTells.j0] at h
 | k + 1 => by
  have ih0 := palanquinlaw08_UdpTells.mono_l k
  ·intro y0 y1 y2 y3 y4 y5
   unfold palanquinlaw08_UdpTells.j0
   repeat' first
   | (with_reducible exact ih0 _ _ _ _ _ _)
   | (with_reducible exact palanquinref08_Check.mono _ _ _ _)
   | (with_reducible exact palanquinref08_Get.mono _ _)
   | (with_reducible exact palanquinref08_Put.mono _ _ _ _ _)
   | (with_reducible exact LeO.refl _)
   | (with_reducible exact LeO.none _)
   | (with_reducible refine LeO.ite ?_ ?_)
   | (with_reducible refine LeO.bind ?_ (fun _ => ?_))
   | exact ih0 _ _ _ _ _ _
   | exact palanquinref08_Check.mono _ _ _ _
   | exact palanquinref08_Get.mono _ _
   | exact palanquinref08_Put.mono _ _ _ _ _
   | exact LeO.none _
   | refine LeO.ite ?_ ?_
   | refine LeO.bind ?_ (fun _ => ?_)
theorem palanquinlaw08_UdpTells.mono : ∀ a0 a1 a2 a3 a4 k, LeO (palanquinlaw08_UdpTells.f k a0 a1 a2 a3 a4) (palanquinlaw08_UdpTells.f (k + 1) a0 a1 a2 a3 a4) := by
 intro a0 a1 a2 a3 a4 k
 have ih0 := palanquinlaw08_UdpTells.mono_l k
 unfold palanquinlaw08_UdpTells.f
 repeat' first
   | (with_reducible exact ih0 _ _ _ _ _ _)
   | (with_reducible exact palanquinref08_Check.mono _ _ _ _)
   | (with_reducible exact palanquinref08_Get.mono _ _)
   | (with_reducible exact palanquinref08_Put.mono _ _ _ _ _)
   | (with_reducible exact LeO.refl _)
   | (with_reducible exact LeO.none _)
   | (with_reducible refine LeO.ite ?_ ?_)
   | (with_reducible refine LeO.bind ?_ (fun _ => ?_))
   | exact ih0 _ _ _ _ _ _
   | exact palanquinref08_Check.mono _ _ _ _
   | exact palanquinref08_Get.mono _ _
   | exact palanquinref08_Put.mono _ _ _ _ _
   | exact LeO.none _
   | refine LeO.ite ?_ ?_
   | refine LeO.bind ?_ (fun _ => ?_)
def palanquinlaw08_UdpTells.T9 : Bool × List (List Nat × List Nat) := (true, [([], []), ([], []), ([0, 1], [0, 1]), ([2], [2]), ([3], [3]), ([3], [3]), ([4, 5, 3], [3, 4, 5]), ([3, 6], [3, 6]), ([7, 3], [7]), ([8], [8]), ([9, 8, 8], [8, 9]), ([8], [8]), ([11, 10, 8], [8, 11]), ([10, 12, 8], [8, 10, 12]), ([8, 13], [8, 13]), ([14, 12], [14]), ([15], [15]), ([15], [15]), ([16, 17, 15], [15, 16, 17]), ([15, 18], [15, 18]), ([19, 15], [19]), ([20], [20]), ([20], [20]), ([21, 22, 20], [20, 21, 22]), ([20, 23], [20, 23]), ([24, 20], [24]), ([25], [25]), ([25], [25]), ([26, 27, 25], [25, 26, 27]), ([25, 28], [25, 28]), ([29, 25, 0, 1, 2, 3, 4, 5, 6, 7, 8, 9, 10, 11, 12, 13, 14, 15, 16, 17, 18, 19, 20, 21, 22, 23, 24, 25, 26, 27, 28, 29], [29])])
def palanquinlaw08_UdpTells.B9 : List Nat := [0, 0, 3, 7, 15, 15, 63, 127, 255, 511, 1023, 511, 4095, 8191, 16383, 32767, 65535, 65535, 262143, 524287, 1048575, 2097151, 2097151, 8388607, 16777215, 33554431, 67108863, 67108863, 268435455, 536870911, 1073741823]
theorem palanquinlaw08_UdpTells.tab9 : rtab .any (opsOf Try.f20 9) = palanquinlaw08_UdpTells.T9 := by kernel_rfl
theorem palanquinlaw08_UdpTells.bits9 : waitsOk palanquinlaw08_UdpTells.T9.2 palanquinlaw08_UdpTells.B9 = true := by kernel_rfl
set_option maxHeartbeats 8000000 in
set_option maxRecDepth 100000 in
theorem palanquinlaw08_UdpTells.calls (k : Nat) (a0_0 : Int) (a0_1 : Int) (a0_2 : ByteArray) (a1 : Int) (a2 : ByteArray) (r : Bool) (w : World) (h : palanquinlaw08_UdpTells.f k a0_0 a0_1 a0_2 a1 a2 = some r) :
  Calls Try.prog 20 #[.agg #[.int .i64 a0_0, .int .i64 a0_1, .string a0_2], .int .i64 a1, .string a2] w fun e w' => e = .returned (.bool r) ∧ Below w.heap.size w w' := by
 have hu102 := Try.underlying102
 have HB := mA (Below.refl w.heap.size w)
 have H : ((palanquinlaw08_awake.f).bind fun t465 => (if t465 = true then (if (a0_2.size : Int) > 70000 then (palanquinlaw08_UdpTells.j0 k a1 a2 true a0_0 a0_1 a0_2) else (palanquinlaw08_UdpTells.j0 k a1 a2 (decide ((a2.size : Int) > 70000)) a0_0 a0_1 a0_2)) else (some false))) = some r := h
 clear h
 replace H := Option.bind_eq_some_iff.mp H
 obtain ⟨t465, A40, H⟩ := H
 replace H : (if t465 = true then (if (a0_2.size : Int) > 70000 then (palanquinlaw08_UdpTells.j0 k a1 a2 true a0_0 a0_1 a0_2) else (palanquinlaw08_UdpTells.j0 k a1 a2 (decide ((a2.size : Int) > 70000)) a0_0 a0_1 a0_2)) else (some false)) = some r := H
 have A4 := mA A40
 clear A40
 by_cases c5 : t465 = true
 ·subst c5
  have H1 : (if (a0_2.size : Int) > 70000 then (palanquinlaw08_UdpTells.j0 k a1 a2 true a0_0 a0_1 a0_2) else (palanquinlaw08_UdpTells.j0 k a1 a2 (decide ((a2.size : Int) > 70000)) a0_0 a0_1 a0_2)) = some r := by rw [if_pos rfl] at H; exact H
  clear H
  have H := H1
  clear H1
  have HC6 := mA H
  clear H
  go_enter Try.func20, Try.ntmps20
  go_upto_region 3 with (first | ((with_reducible refine gate_dst (N := 3) rfl ?_); (try (refine gate_guard (by rfl) ?_; dsimp only)); refine box_event ?hg (N := 3) ?hd (cs := #[.int .i64 a0_0, .int .i64 a0_1, .string a0_2]) (t := 102) ?hr ?_; (case hd => rfl); (case hg => rfl); (case hr => first | (go_simp; done) | (go_simp; rfl)); intro gb464 hg w7 hbox hb; have n0_ := mA (bP (by repeat (first | (with_reducible first | exact HB.out | apply bA | apply bN | apply bD) | exact HB.out)) hb); have n1_ := mA (hbox); have n2_ := mA ((by rw [hg]; exact (below_size (by repeat (first | (with_reducible first | exact HB.out | apply bA | apply bN | apply bD) | exact HB.out))) : w.heap.size ≤ gb464)); have n3_ := mA ((by rw [hg]; exact (below_size (by repeat (first | (with_reducible first | exact HB.out | apply bA | apply bN | apply bD) | exact HB.out))) : w.heap.size ≤ gb464)); clear HB; have HB := n0_; have BK464 := n1_; have GW464 := n2_; have GE464 := n3_; clear n0_ n1_ n2_ n3_; clear hb hbox hg) | ((with_reducible refine gate_callee (f := 89) rfl ?_); refine goesL_ (some 17) rfl rfl Try.func89 (by kernel_rfl) rfl #[] rfl (by (try simp only [List.map_toArray, List.map_cons, List.map_nil]); first | done | rfl | (simp only [List.length_drop, List.length_take]; rfl)) ?_; (with_reducible refine (palanquinlaw08_awake.calls  true _ A4.out).mono ?_); rintro e w8 ⟨rfl, hb⟩; refine ⟨_, rfl, ?_⟩; have n0_ := mA (blk_below (g := gb464) (o := .cells #[.int .i64 a0_0, .int .i64 a0_1, .string a0_2] 102 (0, 0)) (by (with_reducible repeat (first | apply kN | apply kD | apply kA)); exact BK464.out) hb); have n1_ := mA (bP (by repeat (first | (with_reducible first | exact HB.out | apply bA | apply bN | apply bD | refine bS ?_ GE464.out) | exact HB.out)) hb); clear BK464; clear HB; have BK464 := n0_; have HB := n1_; clear n0_ n1_; (try clear hb); (try clear hb2); (try clear hk); (try clear hi)))
  (try simp only [Act.put, List.setIfInBounds_toArray, List.set_cons_zero, List.set_cons_succ])
  go_cut [27] (fun v27 wc => ∃ (kq : Nat) (x27_5 : Bool), v27 = .bool x27_5 ∧ Aside0 (palanquinlaw08_UdpTells.j0 kq a1 a2 x27_5 a0_0 a0_1 a0_2 = some r) ∧ Aside0 (kq ≤ k) ∧ Aside0 (wc.heap[gb464]? = some (.cells #[.int .i64 a0_0, .int .i64 a0_1, .string a0_2] 102 (0, 0))) ∧ Aside0 (Below w.heap.size w wc))
  case first =>
   have H := HC6.out
   clear HC6
   by_cases c9 : (a0_2.size : Int) > 70000
   ·rw [if_pos c9] at H
    have c9b0 : decide (70000 < (a0_2.size : Int)) = true := decide_eq_true c9
    have c9b1 : decide (70000 < a0_2.size) = true := decide_eq_true (by omega)
    clear c9
    (first | rw [c9b0] | (simp only [i64_w, i32_w]; rw [c9b0]) | skip)
    have H' := mA H
    clear H
    have hcz10_0 : w8.cell? ⟨gb464, 0, none⟩ = some (.int .i64 a0_0) := (zC BK464.out 0).trans rfl
    have hcz10_1 : w8.cell? ⟨gb464, 1, none⟩ = some (.int .i64 a0_1) := (zC BK464.out 1).trans rfl
    have hcz10_2 : w8.cell? ⟨gb464, 2, none⟩ = some (.string a0_2) := (zC BK464.out 2).trans rfl
    have hfz10_0 := zF BK464.out 0
    have hfz10_1 := zF BK464.out 1
    have hfz10_2 := zF BK464.out 2
    go_wp2
    go_meet
    case rel => exact ⟨_, (true), (by first | rfl | (simp; done) | (simp [*]; done)), H', ⟨by first | omega | exact Nat.le_refl _⟩, ⟨by (with_reducible repeat (first | apply kN | apply kD | apply kA)); exact BK464.out⟩, ⟨by repeat (first | (with_reducible first | exact HB.out | apply bA | apply bN | apply bD | refine bS ?_ GE464.out) | exact HB.out)⟩⟩
   ·rw [if_neg c9] at H
    have c9b0 : decide (70000 < (a0_2.size : Int)) = false := decide_eq_false c9
    have c9b1 : decide (70000 < a0_2.size) = false := decide_eq_false (by omega)
    clear c9
    (first | rw [c9b0] | (simp only [i64_w, i32_w]; rw [c9b0]) | skip)
    have H' := mA H
    clear H
    have hcz11_0 : w8.cell? ⟨gb464, 0, none⟩ = some (.int .i64 a0_0) := (zC BK464.out 0).trans rfl
    have hcz11_1 : w8.cell? ⟨gb464, 1, none⟩ = some (.int .i64 a0_1) := (zC BK464.out 1).trans rfl
    have hcz11_2 : w8.cell? ⟨gb464, 2, none⟩ = some (.string a0_2) := (zC BK464.out 2).trans rfl
    have hfz11_0 := zF BK464.out 0
    have hfz11_1 := zF BK464.out 1
    have hfz11_2 := zF BK464.out 2
    go_wp2
    go_meet
    case rel => exact ⟨_, (decide ((a2.size : Int) > 70000)), (by first | rfl | (simp; done) | (simp [*]; done)), H', ⟨by first | omega | exact Nat.le_refl _⟩, ⟨by (with_reducible repeat (first | apply kN | apply kD | apply kA)); exact BK464.out⟩, ⟨by repeat (first | (with_reducible first | exact HB.out | apply bA | apply bN | apply bD | refine bS ?_ GE464.out) | exact HB.out)⟩⟩
  case rest =>
   clear HC6
   try clear c2
   try clear p2
   try clear c5
   try clear c8
   try clear c9
   try clear c9b0
   try clear c9b1
   try clear hcz10_0
   try clear hcz10_1
   try clear hcz10_2
   try clear hcz11_0
   try clear hcz11_1
   try clear hcz11_2
   try clear hfz10_0
   try clear hfz10_1
   try clear hfz10_2
   try clear hfz11_0
   try clear hfz11_1
   try clear hfz11_2
   obtain ⟨kq, x27_5, rfl, HA, HJ5, BK464, HB⟩ := hcut
   cases kq with
   | zero => exact absurd HA.out (by simp [palanquinlaw08_UdpTells.j0])
   | succ kj5 =>
    have H := HA.out
    clear HA
    simp only [palanquinlaw08_UdpTells.j0] at H
    by_cases c12 : x27_5 = true
    ·subst c12
     have H1 : (some true) = some r := by rw [if_pos rfl] at H; exact H
     clear H
     have H := H1
     clear H1
     obtain rfl := Option.some.inj H
     go_wp2
     go_ret
     exact ⟨by first | rfl | (simp [errW_none, errW_some] <;> rfl) | (simp [*, errW_none, errW_some] <;> rfl), by repeat (first | (with_reducible first | exact HB.out | apply bA | apply bN | apply bD | refine bS ?_ GE464.out) | exact HB.out)⟩
    ·replace c12 := Bool.eq_false_iff.mpr c12
     subst c12
     have H1 : ((udp_Put.f a0_0 a0_1 a0_2 a1).bind fun bt466 => ((palanquinref08_Put.f kj5 a0_0 a0_1 a0_2 a1).bind fun bt468 => ((udp_Get.f a2).bind fun bt470 => ((palanquinref08_Get.f kj5 a2).bind fun bt476 => (if bt466.1.toList = bt468.1.toList then (if bt466.2 = bt468.2 then ((udp_Check.f a0_0 a0_1 a0_2).bind fun t482 => ((palanquinref08_Check.f kj5 a0_0 a0_1 a0_2).bind fun t483 => (if t482 = t483 then (if (bt470.1 == bt476.1 && (bt470.2.1 == bt476.2.1 && (bt470.2.2.1.toList == bt476.2.2.1.toList))) = true then (if bt470.2.2.2.1 = bt476.2.2.2.1 then (some (bt470.2.2.2.2 == bt476.2.2.2.2)) else (some false)) else (some false)) else (some false)))) else (some false)) else (some false)))))) = some r := by rw [if_neg (show ¬ (false = true) by decide)] at H; exact H
     clear H
     have H := H1
     clear H1
     replace H := Option.bind_eq_some_iff.mp H
     obtain ⟨⟨t466, t467⟩, A130, H⟩ := H
     replace H : ((palanquinref08_Put.f kj5 a0_0 a0_1 a0_2 a1).bind fun bt468 => ((udp_Get.f a2).bind fun bt470 => ((palanquinref08_Get.f kj5 a2).bind fun bt476 => (if t466.toList = bt468.1.toList then (if t467 = bt468.2 then ((udp_Check.f a0_0 a0_1 a0_2).bind fun t482 => ((palanquinref08_Check.f kj5 a0_0 a0_1 a0_2).bind fun t483 => (if t482 = t483 then (if (bt470.1 == bt476.1 && (bt470.2.1 == bt476.2.1 && (bt470.2.2.1.toList == bt476.2.2.1.toList))) = true then (if bt470.2.2.2.1 = bt476.2.2.2.1 then (some (bt470.2.2.2.2 == bt476.2.2.2.2)) else (some false)) else (some false)) else (some false)))) else (some false)) else (some false))))) = some r := H
     have A13 := mA A130
     clear A130
     replace H := Option.bind_eq_some_iff.mp H
     obtain ⟨⟨t468, t469⟩, A140, H⟩ := H
     replace H : ((udp_Get.f a2).bind fun bt470 => ((palanquinref08_Get.f kj5 a2).bind fun bt476 => (if t466.toList = t468.toList then (if t467 = t469 then ((udp_Check.f a0_0 a0_1 a0_2).bind fun t482 => ((palanquinref08_Check.f kj5 a0_0 a0_1 a0_2).bind fun t483 => (if t482 = t483 then (if (bt470.1 == bt476.1 && (bt470.2.1 == bt476.2.1 && (bt470.2.2.1.toList == bt476.2.2.1.toList))) = true then (if bt470.2.2.2.1 = bt476.2.2.2.1 then (some (bt470.2.2.2.2 == bt476.2.2.2.2)) else (some false)) else (some false)) else (some false)))) else (some false)) else (some false)))) = some r := H
     have A14 := mA A140
     clear A140
     replace H := Option.bind_eq_some_iff.mp H
     obtain ⟨⟨t470, t471, t472, t473, t474⟩, A150, H⟩ := H
     replace H : ((palanquinref08_Get.f kj5 a2).bind fun bt476 => (if t466.toList = t468.toList then (if t467 = t469 then ((udp_Check.f a0_0 a0_1 a0_2).bind fun t482 => ((palanquinref08_Check.f kj5 a0_0 a0_1 a0_2).bind fun t483 => (if t482 = t483 then (if (t470 == bt476.1 && (t471 == bt476.2.1 && (t472.toList == bt476.2.2.1.toList))) = true then (if t473 = bt476.2.2.2.1 then (some (t474 == bt476.2.2.2.2)) else (some false)) else (some false)) else (some false)))) else (some false)) else (some false))) = some r := H
     have A15 := mA A150
     clear A150
     replace H := Option.bind_eq_some_iff.mp H
     obtain ⟨⟨t476, t477, t478, t479, t480⟩, A160, H⟩ := H
     replace H : (if t466.toList = t468.toList then (if t467 = t469 then ((udp_Check.f a0_0 a0_1 a0_2).bind fun t482 => ((palanquinref08_Check.f kj5 a0_0 a0_1 a0_2).bind fun t483 => (if t482 = t483 then (if (t470 == t476 && (t471 == t477 && (t472.toList == t478.toList))) = true then (if t473 = t479 then (some (t474 == t480)) else (some false)) else (some false)) else (some false)))) else (some false)) else (some false)) = some r := H
     have A16 := mA A160
     clear A160
     by_cases c17 : t466.toList = t468.toList
     ·rw [if_pos c17] at H
      have c17b0 : (t466.toList == t468.toList) = true := beq_iff_eq.mpr c17
      have c17b1 : (t466.toList != t468.toList) = false := bne_eq_false_iff_eq.mpr c17
      clear c17
      by_cases c18 : t467 = t469
      ·rw [if_pos c18] at H
       have c18b0 : (t467 == t469) = true := beq_iff_eq.mpr c18
       have c18b1 : (t467 != t469) = false := bne_eq_false_iff_eq.mpr c18
       clear c18
       replace H := Option.bind_eq_some_iff.mp H
       obtain ⟨t482, A190, H⟩ := H
       replace H : ((palanquinref08_Check.f kj5 a0_0 a0_1 a0_2).bind fun t483 => (if t482 = t483 then (if (t470 == t476 && (t471 == t477 && (t472.toList == t478.toList))) = true then (if t473 = t479 then (some (t474 == t480)) else (some false)) else (some false)) else (some false))) = some r := H
       have A19 := mA A190
       clear A190
       replace H := Option.bind_eq_some_iff.mp H
       obtain ⟨t483, A200, H⟩ := H
       replace H : (if t482 = t483 then (if (t470 == t476 && (t471 == t477 && (t472.toList == t478.toList))) = true then (if t473 = t479 then (some (t474 == t480)) else (some false)) else (some false)) else (some false)) = some r := H
       have A20 := mA A200
       clear A200
       by_cases c21 : t482 = t483
       ·rw [if_pos c21] at H
        have c21b0 : (t482 == t483) = true := beq_iff_eq.mpr c21
        have c21b1 : (t482 != t483) = false := bne_eq_false_iff_eq.mpr c21
        clear c21
        by_cases c22 : (t470 == t476 && (t471 == t477 && (t472.toList == t478.toList))) = true
        ·rw [if_pos c22] at H
         have c22b0 : (t470 == t476 && (t471 == t477 && (t472.toList == t478.toList))) = true := c22
         (try (have c22b1 : decide (t470 = t476 && (t471 == t477 && (t472.toList == t478.toList))) = true := by simpa using c22))
         (try (have c22b2 : (t470 == t476 && (t471 == t477 && (t472.toList == t478.toList))) = true := by simpa using c22))
         (try (have c22b3 : ((t470 = t476 ∧ (t471 = t477 ∧ (t472.toList = t478.toList)))) = True := by simpa using c22))
         clear c22
         by_cases c23 : t473 = t479
         ·rw [if_pos c23] at H
          have c23b0 : (t473 == t479) = true := beq_iff_eq.mpr c23
          have c23b1 : (t473 != t479) = false := bne_eq_false_iff_eq.mpr c23
          clear c23
          obtain rfl := Option.some.inj H
          have hcz24_0 : wc.cell? ⟨gb464, 0, none⟩ = some (.int .i64 a0_0) := (zC BK464.out 0).trans rfl
          have hcz24_1 : wc.cell? ⟨gb464, 1, none⟩ = some (.int .i64 a0_1) := (zC BK464.out 1).trans rfl
          have hcz24_2 : wc.cell? ⟨gb464, 2, none⟩ = some (.string a0_2) := (zC BK464.out 2).trans rfl
          have hfz24_0 := zF BK464.out 0
          have hfz24_1 := zF BK464.out 1
          have hfz24_2 := zF BK464.out 2
          try go_wp2_with (first | ((with_reducible refine gate_callee (f := 90) rfl ?_); refine goesL_ (some 31) rfl rfl Try.func90 (by kernel_rfl) rfl #[.agg #[.int .i64 a0_0, .int .i64 a0_1, .string a0_2], .int .i64 a1] rfl (by (try simp only [List.map_toArray, List.map_cons, List.map_nil]); first | done | rfl | (simp only [List.length_drop, List.length_take]; rfl)) ?_; (with_reducible refine (udp_Put.calls a0_0 a0_1 a0_2 a1 t466 t467 _ A13.out).mono ?_); rintro e w25 ⟨rfl, hb⟩; refine ⟨_, rfl, ?_⟩; have n0_ := mA (blk_below (g := gb464) (o := .cells #[.int .i64 a0_0, .int .i64 a0_1, .string a0_2] 102 (0, 0)) (by (with_reducible repeat (first | apply kN | apply kD | apply kA)); exact BK464.out) hb); have n1_ := mA (bP (by repeat (first | (with_reducible first | exact HB.out | apply bA | apply bN | apply bD | refine bS ?_ GE464.out) | exact HB.out)) hb); clear BK464; clear HB; have BK464 := n0_; have HB := n1_; clear n0_ n1_; (try clear hb); (try clear hb2); (try clear hk); (try clear hi); have hcz26_0 : w25.cell? ⟨gb464, 0, none⟩ = some (.int .i64 a0_0) := (zC BK464.out 0).trans rfl; have hcz26_1 : w25.cell? ⟨gb464, 1, none⟩ = some (.int .i64 a0_1) := (zC BK464.out 1).trans rfl; have hcz26_2 : w25.cell? ⟨gb464, 2, none⟩ = some (.string a0_2) := (zC BK464.out 2).trans rfl; have hfz26_0 := zF BK464.out 0; have hfz26_1 := zF BK464.out 1; have hfz26_2 := zF BK464.out 2) | ((with_reducible refine gate_callee (f := 91) rfl ?_); refine goesL_ (some 37) rfl rfl Try.func91 (by kernel_rfl) rfl #[.agg #[.int .i64 a0_0, .int .i64 a0_1, .string a0_2], .int .i64 a1] rfl (by (try simp only [List.map_toArray, List.map_cons, List.map_nil]); first | done | rfl | (simp only [List.length_drop, List.length_take]; rfl)) ?_; (with_reducible refine (palanquinref08_Put.calls kj5 a0_0 a0_1 a0_2 a1 t468 t469 _ A14.out).mono ?_); rintro e w27 ⟨rfl, hb⟩; refine ⟨_, rfl, ?_⟩; have n0_ := mA (blk_below (g := gb464) (o := .cells #[.int .i64 a0_0, .int .i64 a0_1, .string a0_2] 102 (0, 0)) (by (with_reducible repeat (first | apply kN | apply kD | apply kA)); exact BK464.out) hb); have n1_ := mA (bP (by repeat (first | (with_reducible first | exact HB.out | apply bA | apply bN | apply bD | refine bS ?_ GE464.out) | exact HB.out)) hb); clear BK464; clear HB; have BK464 := n0_; have HB := n1_; clear n0_ n1_; (try clear hb); (try clear hb2); (try clear hk); (try clear hi)) | ((with_reducible refine gate_callee (f := 92) rfl ?_); refine goesL_ (some 42) rfl rfl Try.func92 (by kernel_rfl) rfl #[.string a2] rfl (by (try simp only [List.map_toArray, List.map_cons, List.map_nil]); first | done | rfl | (simp only [List.length_drop, List.length_take]; rfl)) ?_; (with_reducible refine (udp_Get.calls a2 t470 t471 t472 t473 t474 _ A15.out).mono ?_); rintro e w28 ⟨rfl, hb⟩; refine ⟨_, rfl, ?_⟩; have n0_ := mA (blk_below (g := gb464) (o := .cells #[.int .i64 a0_0, .int .i64 a0_1, .string a0_2] 102 (0, 0)) (by (with_reducible repeat (first | apply kN | apply kD | apply kA)); exact BK464.out) hb); have n1_ := mA (bP (by repeat (first | (with_reducible first | exact HB.out | apply bA | apply bN | apply bD | refine bS ?_ GE464.out) | exact HB.out)) hb); clear BK464; clear HB; have BK464 := n0_; have HB := n1_; clear n0_ n1_; (try clear hb); (try clear hb2); (try clear hk); (try clear hi)) | ((with_reducible refine gate_dst (N := 11) rfl ?_); (try (refine gate_guard (by rfl) ?_; dsimp only)); refine box_event ?hg (N := 11) ?hd (cs := #[.int .i64 0, .int .i64 0, .string (⟨#[]⟩ : ByteArray)]) (t := 102) ?hr ?_; (case hd => rfl); (case hg => rfl); (case hr => first | (go_simp; done) | (go_simp; rfl)); intro gb475 hg w29 hbox hb; have n0_ := mA (blk_below (g := gb464) (o := .cells #[.int .i64 a0_0, .int .i64 a0_1, .string a0_2] 102 (0, 0)) (by (with_reducible repeat (first | apply kN | apply kD | apply kA)); exact BK464.out) hb); have n1_ := mA (bP (by repeat (first | (with_reducible first | exact HB.out | apply bA | apply bN | apply bD | refine bS ?_ GE464.out) | exact HB.out)) hb); have n2_ := mA (hbox); have n3_ := mA ((by rw [hg]; exact (below_size (by repeat (first | (with_reducible first | exact HB.out | apply bA | apply bN | apply bD | refine bS ?_ GE464.out) | exact HB.out))) : w.heap.size ≤ gb475)); have n4_ := mA ((by rw [hg]; exact (below_size (by repeat (first | (with_reducible first | exact HB.out | apply bA | apply bN | apply bD | refine bS ?_ GE464.out) | exact HB.out))) : w.heap.size ≤ gb475)); have n5_ := mA ((by rw [hg]; exact Nat.ne_of_lt (blk_lt (g := gb464) (o := .cells #[.int .i64 a0_0, .int .i64 a0_1, .string a0_2] 102 (0, 0)) (by (with_reducible repeat (first | apply kN | apply kD | apply kA)); exact BK464.out)) : gb464 ≠ gb475)); have n6_ := mA ((by rw [hg]; exact Nat.ne_of_gt (blk_lt (g := gb464) (o := .cells #[.int .i64 a0_0, .int .i64 a0_1, .string a0_2] 102 (0, 0)) (by (with_reducible repeat (first | apply kN | apply kD | apply kA)); exact BK464.out)) : gb475 ≠ gb464)); clear BK464; clear HB; have BK464 := n0_; have HB := n1_; have BK475 := n2_; have GW475 := n3_; have GE475 := n4_; have NB464_475 := n5_; have NB475_464 := n6_; clear n0_ n1_ n2_ n3_ n4_ n5_ n6_; clear hb hbox hg; have hnb30 := NB475_464.out; have hnc30 := NB464_475.out; have hcz31_0 : w29.cell? ⟨gb475, 0, none⟩ = some (.int .i64 0) := (zC BK475.out 0).trans rfl; have hcz31_1 : w29.cell? ⟨gb475, 1, none⟩ = some (.int .i64 0) := (zC BK475.out 1).trans rfl; have hcz31_2 : w29.cell? ⟨gb475, 2, none⟩ = some (.string (⟨#[]⟩ : ByteArray)) := (zC BK475.out 2).trans rfl; have hfz31_0 := zF BK475.out 0; have hfz31_1 := zF BK475.out 1; have hfz31_2 := zF BK475.out 2) | ((with_reducible refine gate_callee (f := 93) rfl ?_); refine goesL_ (some 48) rfl rfl Try.func93 (by kernel_rfl) rfl #[.string a2] rfl (by (try simp only [List.map_toArray, List.map_cons, List.map_nil]); first | done | rfl | (simp only [List.length_drop, List.length_take]; rfl)) ?_; (with_reducible refine (palanquinref08_Get.calls kj5 a2 t476 t477 t478 t479 t480 _ A16.out).mono ?_); rintro e w32 ⟨rfl, hb⟩; refine ⟨_, rfl, ?_⟩; have n0_ := mA (blk_below (g := gb464) (o := .cells #[.int .i64 a0_0, .int .i64 a0_1, .string a0_2] 102 (0, 0)) (by (with_reducible repeat (first | apply kN | apply kD | apply kA)); refine blk_far ?_ NB464_475.out _; (with_reducible repeat (first | apply kN | apply kD | apply kA)); refine blk_far ?_ NB464_475.out _; (with_reducible repeat (first | apply kN | apply kD | apply kA)); refine blk_far ?_ NB464_475.out _; (with_reducible repeat (first | apply kN | apply kD | apply kA)); exact BK464.out) hb); have n1_ := mA (blk_below (g := gb475) (o := .cells #[.int .i64 t470, .int .i64 t471, .string t472] 102 (0, 0)) (by (with_reducible repeat (first | apply kN | apply kD | apply kA)); refine blk_put (cs := #[.int .i64 t470, .int .i64 t471, .string (⟨#[]⟩ : ByteArray)]) ?_ 2 _ rfl; (with_reducible repeat (first | apply kN | apply kD | apply kA)); refine blk_put (cs := #[.int .i64 t470, .int .i64 0, .string (⟨#[]⟩ : ByteArray)]) ?_ 1 _ rfl; (with_reducible repeat (first | apply kN | apply kD | apply kA)); refine blk_put (cs := #[.int .i64 0, .int .i64 0, .string (⟨#[]⟩ : ByteArray)]) ?_ 0 _ rfl; (with_reducible repeat (first | apply kN | apply kD | apply kA)); exact BK475.out) hb); have n2_ := mA (bP (by repeat (first | (with_reducible first | exact HB.out | apply bA | apply bN | apply bD | refine bS ?_ GE464.out | refine bS ?_ GE475.out) | exact HB.out)) hb); clear BK464; clear BK475; clear HB; have BK464 := n0_; have BK475 := n1_; have HB := n2_; clear n0_ n1_ n2_; (try clear hb); (try clear hb2); (try clear hk); (try clear hi)) | ((with_reducible refine gate_dst (N := 14) rfl ?_); (try (refine gate_guard (by rfl) ?_; dsimp only)); refine box_event ?hg (N := 14) ?hd (cs := #[.int .i64 0, .int .i64 0, .string (⟨#[]⟩ : ByteArray)]) (t := 102) ?hr ?_; (case hd => rfl); (case hg => rfl); (case hr => first | (go_simp; done) | (go_simp; rfl)); intro gb481 hg w33 hbox hb; have n0_ := mA (blk_below (g := gb464) (o := .cells #[.int .i64 a0_0, .int .i64 a0_1, .string a0_2] 102 (0, 0)) (by (with_reducible repeat (first | apply kN | apply kD | apply kA)); exact BK464.out) hb); have n1_ := mA (blk_below (g := gb475) (o := .cells #[.int .i64 t470, .int .i64 t471, .string t472] 102 (0, 0)) (by (with_reducible repeat (first | apply kN | apply kD | apply kA)); exact BK475.out) hb); have n2_ := mA (bP (by repeat (first | (with_reducible first | exact HB.out | apply bA | apply bN | apply bD | refine bS ?_ GE464.out | refine bS ?_ GE475.out) | exact HB.out)) hb); have n3_ := mA (hbox); have n4_ := mA ((by rw [hg]; exact (below_size (by repeat (first | (with_reducible first | exact HB.out | apply bA | apply bN | apply bD | refine bS ?_ GE464.out | refine bS ?_ GE475.out) | exact HB.out))) : w.heap.size ≤ gb481)); have n5_ := mA ((by rw [hg]; exact (below_size (by repeat (first | (with_reducible first | exact HB.out | apply bA | apply bN | apply bD | refine bS ?_ GE464.out | refine bS ?_ GE475.out) | exact HB.out))) : w.heap.size ≤ gb481)); have n6_ := mA ((by rw [hg]; exact Nat.ne_of_lt (blk_lt (g := gb464) (o := .cells #[.int .i64 a0_0, .int .i64 a0_1, .string a0_2] 102 (0, 0)) (by (with_reducible repeat (first | apply kN | apply kD | apply kA)); exact BK464.out)) : gb464 ≠ gb481)); have n7_ := mA ((by rw [hg]; exact Nat.ne_of_gt (blk_lt (g := gb464) (o := .cells #[.int .i64 a0_0, .int .i64 a0_1, .string a0_2] 102 (0, 0)) (by (with_reducible repeat (first | apply kN | apply kD | apply kA)); exact BK464.out)) : gb481 ≠ gb464)); have n8_ := mA ((by rw [hg]; exact Nat.ne_of_lt (blk_lt (g := gb475) (o := .cells #[.int .i64 t470, .int .i64 t471, .string t472] 102 (0, 0)) (by (with_reducible repeat (first | apply kN | apply kD | apply kA)); exact BK475.out)) : gb475 ≠ gb481)); have n9_ := mA ((by rw [hg]; exact Nat.ne_of_gt (blk_lt (g := gb475) (o := .cells #[.int .i64 t470, .int .i64 t471, .string t472] 102 (0, 0)) (by (with_reducible repeat (first | apply kN | apply kD | apply kA)); exact BK475.out)) : gb481 ≠ gb475)); clear BK464; clear BK475; clear HB; have BK464 := n0_; have BK475 := n1_; have HB := n2_; have BK481 := n3_; have GW481 := n4_; have GE481 := n5_; have NB464_481 := n6_; have NB481_464 := n7_; have NB475_481 := n8_; have NB481_475 := n9_; clear n0_ n1_ n2_ n3_ n4_ n5_ n6_ n7_ n8_ n9_; clear hb hbox hg; have hnb34 := NB481_464.out; have hnc34 := NB464_481.out; have hnb35 := NB481_475.out; have hnc35 := NB475_481.out; have hcz36_0 : w33.cell? ⟨gb481, 0, none⟩ = some (.int .i64 0) := (zC BK481.out 0).trans rfl; have hcz36_1 : w33.cell? ⟨gb481, 1, none⟩ = some (.int .i64 0) := (zC BK481.out 1).trans rfl; have hcz36_2 : w33.cell? ⟨gb481, 2, none⟩ = some (.string (⟨#[]⟩ : ByteArray)) := (zC BK481.out 2).trans rfl; have hfz36_0 := zF BK481.out 0; have hfz36_1 := zF BK481.out 1; have hfz36_2 := zF BK481.out 2))
          have n0_ : Aside0 ((((w33.setCell ⟨gb481, 0, none⟩ (.int .i64 t476)).setCell ⟨gb481, 1, none⟩ (.int .i64 t477)).setCell ⟨gb481, 2, none⟩ (.string t478)).heap[gb464]? = some (.cells #[.int .i64 a0_0, .int .i64 a0_1, .string a0_2] 102 (0, 0))) := ⟨by (with_reducible repeat (first | apply kN | apply kD | apply kA)); refine blk_far ?_ NB464_481.out _; (with_reducible repeat (first | apply kN | apply kD | apply kA)); refine blk_far ?_ NB464_481.out _; (with_reducible repeat (first | apply kN | apply kD | apply kA)); refine blk_far ?_ NB464_481.out _; (with_reducible repeat (first | apply kN | apply kD | apply kA)); exact BK464.out⟩
          have n1_ : Aside0 ((((w33.setCell ⟨gb481, 0, none⟩ (.int .i64 t476)).setCell ⟨gb481, 1, none⟩ (.int .i64 t477)).setCell ⟨gb481, 2, none⟩ (.string t478)).heap[gb475]? = some (.cells #[.int .i64 t470, .int .i64 t471, .string t472] 102 (0, 0))) := ⟨by (with_reducible repeat (first | apply kN | apply kD | apply kA)); refine blk_far ?_ NB475_481.out _; (with_reducible repeat (first | apply kN | apply kD | apply kA)); refine blk_far ?_ NB475_481.out _; (with_reducible repeat (first | apply kN | apply kD | apply kA)); refine blk_far ?_ NB475_481.out _; (with_reducible repeat (first | apply kN | apply kD | apply kA)); exact BK475.out⟩
          have n2_ : Aside0 ((((w33.setCell ⟨gb481, 0, none⟩ (.int .i64 t476)).setCell ⟨gb481, 1, none⟩ (.int .i64 t477)).setCell ⟨gb481, 2, none⟩ (.string t478)).heap[gb481]? = some (.cells #[.int .i64 t476, .int .i64 t477, .string t478] 102 (0, 0))) := ⟨by (with_reducible repeat (first | apply kN | apply kD | apply kA)); refine blk_put (cs := #[.int .i64 t476, .int .i64 t477, .string (⟨#[]⟩ : ByteArray)]) ?_ 2 _ rfl; (with_reducible repeat (first | apply kN | apply kD | apply kA)); refine blk_put (cs := #[.int .i64 t476, .int .i64 0, .string (⟨#[]⟩ : ByteArray)]) ?_ 1 _ rfl; (with_reducible repeat (first | apply kN | apply kD | apply kA)); refine blk_put (cs := #[.int .i64 0, .int .i64 0, .string (⟨#[]⟩ : ByteArray)]) ?_ 0 _ rfl; (with_reducible repeat (first | apply kN | apply kD | apply kA)); exact BK481.out⟩
          have n3_ : Aside0 (Below w.heap.size w (((w33.setCell ⟨gb481, 0, none⟩ (.int .i64 t476)).setCell ⟨gb481, 1, none⟩ (.int .i64 t477)).setCell ⟨gb481, 2, none⟩ (.string t478))) := ⟨by repeat (first | (with_reducible first | exact HB.out | apply bA | apply bN | apply bD | refine bS ?_ GE464.out | refine bS ?_ GE475.out | refine bS ?_ GE481.out) | exact HB.out)⟩
          (try clear BK464)
          (try clear BK475)
          (try clear BK481)
          (try clear HB)
          generalize (((w33.setCell ⟨gb481, 0, none⟩ (.int .i64 t476)).setCell ⟨gb481, 1, none⟩ (.int .i64 t477)).setCell ⟨gb481, 2, none⟩ (.string t478)) = w37 at n0_ n1_ n2_ n3_ ⊢
          have BK464 := n0_
          have BK475 := n1_
          have BK481 := n2_
          have HB := n3_
          clear n0_ n1_ n2_ n3_
          have n0_ := mA (kD BK464.out)
          have n1_ := mA (kD BK475.out)
          have n2_ := mA (kD BK481.out)
          have n3_ := mA (bD HB.out)
          clear BK464
          clear BK475
          clear BK481
          clear HB
          have BK464 := n0_
          have BK475 := n1_
          have BK481 := n2_
          have HB := n3_
          clear n0_ n1_ n2_ n3_
          refine start_ (n := 31) (S := fun w' => w'.cell? ⟨gb464, 0, none⟩ = some (.int .i64 a0_0) ∧ w'.cell? ⟨gb464, 1, none⟩ = some (.int .i64 a0_1) ∧ w'.cell? ⟨gb464, 2, none⟩ = some (.string a0_2) ∧ w'.cell? ⟨gb475, 0, none⟩ = some (.int .i64 t470) ∧ w'.cell? ⟨gb475, 1, none⟩ = some (.int .i64 t471) ∧ w'.cell? ⟨gb475, 2, none⟩ = some (.string t472) ∧ w'.cell? ⟨gb481, 0, none⟩ = some (.int .i64 t476) ∧ w'.cell? ⟨gb481, 1, none⟩ = some (.int .i64 t477) ∧ w'.cell? ⟨gb481, 2, none⟩ = some (.string t478)) (ds := []) #[false, false, false, false, false, false, false, false, false, false, false, false, false, false, false, false, false, false, false, false, false, false, false, false, false, false, false, false, false, false, false] (by kernel_rfl) rfl rfl ⟨(zC BK464.out 0).trans rfl, (zC BK464.out 1).trans rfl, (zC BK464.out 2).trans rfl, (zC BK475.out 0).trans rfl, (zC BK475.out 1).trans rfl, (zC BK475.out 2).trans rfl, (zC BK481.out 0).trans rfl, (zC BK481.out 1).trans rfl, (zC BK481.out 2).trans rfl⟩ (fun hHeld => ?_); refine with_tabW palanquinlaw08_UdpTells.tab9 palanquinlaw08_UdpTells.bits9 (fun HT_ HW_ => ?_)
          generalize w37.drew = w38 at BK464 BK475 BK481 HB hHeld ⊢
          refine pure_ (i := 0) (N := some 52) (v := ?_) (a' := ?_) #[true, false, false, false, false, false, false, false, false, false, false, false, false, false, false, false, false, false, false, false, false, false, false, false, false, false, false, false, false, false, false] rfl rfl (any_of HT_.out (by kernel_rfl)) (fun _ _ _ h => h) (Or.inl ⟨by rfl, ?_⟩) ?_ ?_
          rotate_left
          ·intro w'
           go_simp
           with_reducible rfl
          rotate_left
          ·simp only [Act.put, List.setIfInBounds_toArray, List.set_cons_zero, List.set_cons_succ, i64_w, i32_w]
           rfl
          refine pure_ (i := 1) (N := some 53) (v := ?_) (a' := ?_) #[true, true, false, false, false, false, false, false, false, false, false, false, false, false, false, false, false, false, false, false, false, false, false, false, false, false, false, false, false, false, false] rfl rfl (any_of HT_.out (by kernel_rfl)) (fun _ _ _ h => h) (Or.inl ⟨by rfl, ?_⟩) ?_ ?_
          rotate_left
          ·intro w'
           go_simp
           with_reducible rfl
          rotate_left
          ·simp only [Act.put, List.setIfInBounds_toArray, List.set_cons_zero, List.set_cons_succ, i64_w, i32_w]
           rfl
          refine pure_ (i := 2) (N := some 54) (v := ?_) (a' := ?_) #[true, true, true, false, false, false, false, false, false, false, false, false, false, false, false, false, false, false, false, false, false, false, false, false, false, false, false, false, false, false, false] rfl rfl (any_of HT_.out (by kernel_rfl)) (fun _ _ _ h => h) (Or.inl ⟨by rfl, ?_⟩) ?_ ?_
          rotate_left
          ·intro w'
           go_simp
           with_reducible rfl
          rotate_left
          ·simp only [Act.put, List.setIfInBounds_toArray, List.set_cons_zero, List.set_cons_succ, i64_w, i32_w]
           rfl
          refine pure_ (i := 3) (N := some 55) (v := ?_) (a' := ?_) #[true, true, true, true, false, false, false, false, false, false, false, false, false, false, false, false, false, false, false, false, false, false, false, false, false, false, false, false, false, false, false] rfl rfl (any_of HT_.out (by kernel_rfl)) (fun _ _ _ h => h) (Or.inl ⟨by rfl, ?_⟩) ?_ ?_
          rotate_left
          ·intro w'
           go_simp
           with_reducible rfl
          rotate_left
          ·simp only [Act.put, List.setIfInBounds_toArray, List.set_cons_zero, List.set_cons_succ, i64_w, i32_w]
           rfl
          refine pure_ (i := 4) (N := some 56) (v := ?_) (a' := ?_) #[true, true, true, true, true, false, false, false, false, false, false, false, false, false, false, false, false, false, false, false, false, false, false, false, false, false, false, false, false, false, false] rfl rfl (any_of HT_.out (by kernel_rfl)) (fun _ _ _ h => h) (Or.inl ⟨by rfl, ?_⟩) ?_ ?_
          rotate_left
          ·intro w'
           go_simp
           with_reducible rfl
          rotate_left
          ·simp only [Act.put, List.setIfInBounds_toArray, List.set_cons_zero, List.set_cons_succ, i64_w, i32_w]
           rfl
          refine pure_ (i := 5) (N := some 57) (v := ?_) (a' := ?_) #[true, true, true, true, true, true, false, false, false, false, false, false, false, false, false, false, false, false, false, false, false, false, false, false, false, false, false, false, false, false, false] rfl rfl (any_of HT_.out (by kernel_rfl)) (fun _ _ _ h => h) (Or.inl ⟨by rfl, ?_⟩) ?_ ?_
          rotate_left
          ·intro w'
           go_simp
           with_reducible rfl
          rotate_left
          ·simp only [Act.put, List.setIfInBounds_toArray, List.set_cons_zero, List.set_cons_succ, i64_w, i32_w]
           rfl
          refine pure_ (i := 6) (N := some 58) (v := ?_) (a' := ?_) #[true, true, true, true, true, true, true, false, false, false, false, false, false, false, false, false, false, false, false, false, false, false, false, false, false, false, false, false, false, false, false] rfl rfl (any_of HT_.out (by kernel_rfl)) (fun _ _ _ h => h) (Or.inl ⟨by rfl, ?_⟩) ?_ ?_
          rotate_left
          ·intro w'
           go_simp
           with_reducible rfl
          rotate_left
          ·simp only [Act.put, List.setIfInBounds_toArray, List.set_cons_zero, List.set_cons_succ, i64_w, i32_w]
           rfl
          refine pure_ (i := 7) (N := some 59) (v := ?_) (a' := ?_) #[true, true, true, true, true, true, true, true, false, false, false, false, false, false, false, false, false, false, false, false, false, false, false, false, false, false, false, false, false, false, false] rfl rfl (any_of HT_.out (by kernel_rfl)) (fun _ _ _ h => h) (Or.inl ⟨by rfl, ?_⟩) ?_ ?_
          rotate_left
          ·intro w'
           go_simp
           with_reducible rfl
          rotate_left
          ·simp only [Act.put, List.setIfInBounds_toArray, List.set_cons_zero, List.set_cons_succ, i64_w, i32_w]
           rfl
          refine pure_ (i := 8) (N := some 60) (v := ?_) (a' := ?_) #[true, true, true, true, true, true, true, true, true, false, false, false, false, false, false, false, false, false, false, false, false, false, false, false, false, false, false, false, false, false, false] rfl rfl (any_of HT_.out (by kernel_rfl)) (fun _ _ _ h => h) (Or.inl ⟨by rfl, ?_⟩) ?_ ?_
          rotate_left
          ·intro w'
           go_simp
           with_reducible rfl
          rotate_left
          ·simp only [Act.put, List.setIfInBounds_toArray, List.set_cons_zero, List.set_cons_succ, i64_w, i32_w]
           rfl
          refine take_ (i := 9) (N := some 61) (v := ?_) (a' := ?_) #[true, true, true, true, true, true, true, true, true, true, false, false, false, false, false, false, false, false, false, false, false, false, false, false, false, false, false, false, false, false, false] rfl rfl (take_ofW HT_.out HW_.out (by kernel_rfl)) (fun _ _ _ h => h) (Or.inl ⟨by rfl, ?_⟩) hHeld ?_ ?_
          rotate_left
          ·rintro w' ⟨s0, s1, s2, s3, s4, s5, s6, s7, s8⟩
           go_simp
           with_reducible rfl
          rotate_left
          ·simp only [Act.put, List.setIfInBounds_toArray, List.set_cons_zero, List.set_cons_succ, i64_w, i32_w]
           rfl
          refine take_ (i := 11) (N := some 63) (v := ?_) (a' := ?_) #[true, true, true, true, true, true, true, true, true, true, false, true, false, false, false, false, false, false, false, false, false, false, false, false, false, false, false, false, false, false, false] rfl rfl (take_ofW HT_.out HW_.out (by kernel_rfl)) (fun _ _ _ h => h) (Or.inl ⟨by rfl, ?_⟩) hHeld ?_ ?_
          rotate_left
          ·rintro w' ⟨s0, s1, s2, s3, s4, s5, s6, s7, s8⟩
           go_simp
           with_reducible rfl
          rotate_left
          ·simp only [Act.put, List.setIfInBounds_toArray, List.set_cons_zero, List.set_cons_succ, i64_w, i32_w]
           rfl
          refine one_ (i := 10) (N := some 62) #[true, true, true, true, true, true, true, true, true, true, true, true, false, false, false, false, false, false, false, false, false, false, false, false, false, false, false, false, false, false, false] rfl rfl (one_of HT_.out (by kernel_rfl)) (by decide) (fun K hK => ?_)
          refine goes_ Try.func94 (by kernel_rfl) rfl #[.agg #[.int .i64 a0_0, .int .i64 a0_1, .string a0_2]] (by rfl) rfl rfl (by (try simp only [List.map_toArray, List.map_cons, List.map_nil]); first | done | rfl | (simp only [List.length_drop, List.length_take]; rfl)) ?_
          with_reducible refine (udp_Check.calls a0_0 a0_1 a0_2 t482 _ A19.out).mono ?_
          rintro e w39 ⟨rfl, hb⟩
          refine ⟨_, rfl, ?_⟩
          have n0_ := mA (blk_below (g := gb464) (o := .cells #[.int .i64 a0_0, .int .i64 a0_1, .string a0_2] 102 (0, 0)) (by (with_reducible repeat (first | apply kN | apply kD | apply kA)); exact BK464.out) hb)
          have n1_ := mA (blk_below (g := gb475) (o := .cells #[.int .i64 t470, .int .i64 t471, .string t472] 102 (0, 0)) (by (with_reducible repeat (first | apply kN | apply kD | apply kA)); exact BK475.out) hb)
          have n2_ := mA (blk_below (g := gb481) (o := .cells #[.int .i64 t476, .int .i64 t477, .string t478] 102 (0, 0)) (by (with_reducible repeat (first | apply kN | apply kD | apply kA)); exact BK481.out) hb)
          have n3_ := mA (bP (by repeat (first | (with_reducible first | exact HB.out | apply bA | apply bN | apply bD | refine bS ?_ GE464.out | refine bS ?_ GE475.out | refine bS ?_ GE481.out) | exact HB.out)) hb)
          clear BK464
          clear BK475
          clear BK481
          clear HB
          have BK464 := n0_
          have BK475 := n1_
          have BK481 := n2_
          have HB := n3_
          clear n0_ n1_ n2_ n3_
          (try clear hb)
          (try clear hb2)
          (try clear hk)
          (try clear hi)
          refine hK.out _ _ ⟨(zC BK464.out 0).trans rfl, (zC BK464.out 1).trans rfl, (zC BK464.out 2).trans rfl, (zC BK475.out 0).trans rfl, (zC BK475.out 1).trans rfl, (zC BK475.out 2).trans rfl, (zC BK481.out 0).trans rfl, (zC BK481.out 1).trans rfl, (zC BK481.out 2).trans rfl⟩ (fun hHeld => ?_)
          clear hK K
          refine norm_ (a' := ?_) ?_ ?_
          rotate_left
          ·show Act.put _ (some 62) _ = _
           simp only [Act.put, List.setIfInBounds_toArray, List.set_cons_zero, List.set_cons_succ, i64_w, i32_w]
           rfl
          refine one_ (i := 12) (N := some 64) #[true, true, true, true, true, true, true, true, true, true, true, true, true, false, false, false, false, false, false, false, false, false, false, false, false, false, false, false, false, false, false] rfl rfl (one_of HT_.out (by kernel_rfl)) (by decide) (fun K hK => ?_)
          refine goes_ Try.func95 (by kernel_rfl) rfl #[.agg #[.int .i64 a0_0, .int .i64 a0_1, .string a0_2]] (by rfl) rfl rfl (by (try simp only [List.map_toArray, List.map_cons, List.map_nil]); first | done | rfl | (simp only [List.length_drop, List.length_take]; rfl)) ?_
          with_reducible refine (palanquinref08_Check.calls kj5 a0_0 a0_1 a0_2 t483 _ A20.out).mono ?_
          rintro e w40 ⟨rfl, hb⟩
          refine ⟨_, rfl, ?_⟩
          have n0_ := mA (blk_below (g := gb464) (o := .cells #[.int .i64 a0_0, .int .i64 a0_1, .string a0_2] 102 (0, 0)) (by (with_reducible repeat (first | apply kN | apply kD | apply kA)); exact BK464.out) hb)
          have n1_ := mA (blk_below (g := gb475) (o := .cells #[.int .i64 t470, .int .i64 t471, .string t472] 102 (0, 0)) (by (with_reducible repeat (first | apply kN | apply kD | apply kA)); exact BK475.out) hb)
          have n2_ := mA (blk_below (g := gb481) (o := .cells #[.int .i64 t476, .int .i64 t477, .string t478] 102 (0, 0)) (by (with_reducible repeat (first | apply kN | apply kD | apply kA)); exact BK481.out) hb)
          have n3_ := mA (bP (by repeat (first | (with_reducible first | exact HB.out | apply bA | apply bN | apply bD | refine bS ?_ GE464.out | refine bS ?_ GE475.out | refine bS ?_ GE481.out) | exact HB.out)) hb)
          clear BK464
          clear BK475
          clear BK481
          clear HB
          have BK464 := n0_
          have BK475 := n1_
          have BK481 := n2_
          have HB := n3_
          clear n0_ n1_ n2_ n3_
          (try clear hb)
          (try clear hb2)
          (try clear hk)
          (try clear hi)
          refine hK.out _ _ ⟨(zC BK464.out 0).trans rfl, (zC BK464.out 1).trans rfl, (zC BK464.out 2).trans rfl, (zC BK475.out 0).trans rfl, (zC BK475.out 1).trans rfl, (zC BK475.out 2).trans rfl, (zC BK481.out 0).trans rfl, (zC BK481.out 1).trans rfl, (zC BK481.out 2).trans rfl⟩ (fun hHeld => ?_)
          clear hK K
          refine norm_ (a' := ?_) ?_ ?_
          rotate_left
          ·show Act.put _ (some 64) _ = _
           simp only [Act.put, List.setIfInBounds_toArray, List.set_cons_zero, List.set_cons_succ, i64_w, i32_w]
           rfl
          refine pure_ (i := 13) (N := some 65) (v := ?_) (a' := ?_) #[true, true, true, true, true, true, true, true, true, true, true, true, true, true, false, false, false, false, false, false, false, false, false, false, false, false, false, false, false, false, false] rfl rfl (any_of HT_.out (by kernel_rfl)) (fun _ _ _ h => h) (Or.inl ⟨by rfl, ?_⟩) ?_ ?_
          rotate_left
          ·intro w'
           go_simp
           with_reducible rfl
          rotate_left
          ·simp only [Act.put, List.setIfInBounds_toArray, List.set_cons_zero, List.set_cons_succ, i64_w, i32_w]
           rfl
          refine pure_ (i := 14) (N := some 66) (v := ?_) (a' := ?_) #[true, true, true, true, true, true, true, true, true, true, true, true, true, true, true, false, false, false, false, false, false, false, false, false, false, false, false, false, false, false, false] rfl rfl (any_of HT_.out (by kernel_rfl)) (fun _ _ _ h => h) (Or.inl ⟨by rfl, ?_⟩) ?_ ?_
          rotate_left
          ·intro w'
           go_simp
           with_reducible rfl
          rotate_left
          ·simp only [Act.put, List.setIfInBounds_toArray, List.set_cons_zero, List.set_cons_succ, i64_w, i32_w]
           rfl
          refine pure_ (i := 15) (N := some 67) (v := ?_) (a' := ?_) #[true, true, true, true, true, true, true, true, true, true, true, true, true, true, true, true, false, false, false, false, false, false, false, false, false, false, false, false, false, false, false] rfl rfl (any_of HT_.out (by kernel_rfl)) (fun _ _ _ h => h) (Or.inl ⟨by rfl, ?_⟩) ?_ ?_
          rotate_left
          ·intro w'
           go_simp
           with_reducible rfl
          rotate_left
          ·simp only [Act.put, List.setIfInBounds_toArray, List.set_cons_zero, List.set_cons_succ, i64_w, i32_w]
           rfl
          refine take_ (i := 16) (N := some 68) (v := ?_) (a' := ?_) #[true, true, true, true, true, true, true, true, true, true, true, true, true, true, true, true, true, false, false, false, false, false, false, false, false, false, false, false, false, false, false] rfl rfl (take_ofW HT_.out HW_.out (by kernel_rfl)) (fun _ _ _ h => h) (Or.inl ⟨by rfl, ?_⟩) hHeld ?_ ?_
          rotate_left
          ·rintro w' ⟨s0, s1, s2, s3, s4, s5, s6, s7, s8⟩
           go_simp
           with_reducible rfl
          rotate_left
          ·simp only [Act.put, List.setIfInBounds_toArray, List.set_cons_zero, List.set_cons_succ, i64_w, i32_w]
           rfl
          refine take_ (i := 17) (N := some 69) (v := ?_) (a' := ?_) #[true, true, true, true, true, true, true, true, true, true, true, true, true, true, true, true, true, true, false, false, false, false, false, false, false, false, false, false, false, false, false] rfl rfl (take_ofW HT_.out HW_.out (by kernel_rfl)) (fun _ _ _ h => h) (Or.inl ⟨by rfl, ?_⟩) hHeld ?_ ?_
          rotate_left
          ·rintro w' ⟨s0, s1, s2, s3, s4, s5, s6, s7, s8⟩
           go_simp
           with_reducible rfl
          rotate_left
          ·simp only [Act.put, List.setIfInBounds_toArray, List.set_cons_zero, List.set_cons_succ, i64_w, i32_w]
           rfl
          refine pure_ (i := 18) (N := some 70) (v := ?_) (a' := ?_) #[true, true, true, true, true, true, true, true, true, true, true, true, true, true, true, true, true, true, true, false, false, false, false, false, false, false, false, false, false, false, false] rfl rfl (any_of HT_.out (by kernel_rfl)) (fun _ _ _ h => h) (Or.inl ⟨by rfl, ?_⟩) ?_ ?_
          rotate_left
          ·intro w'
           go_simp
           with_reducible rfl
          rotate_left
          ·simp only [Act.put, List.setIfInBounds_toArray, List.set_cons_zero, List.set_cons_succ, i64_w, i32_w]
           rfl
          refine pure_ (i := 19) (N := some 71) (v := ?_) (a' := ?_) #[true, true, true, true, true, true, true, true, true, true, true, true, true, true, true, true, true, true, true, true, false, false, false, false, false, false, false, false, false, false, false] rfl rfl (any_of HT_.out (by kernel_rfl)) (fun _ _ _ h => h) (Or.inl ⟨by rfl, ?_⟩) ?_ ?_
          rotate_left
          ·intro w'
           go_simp
           with_reducible rfl
          rotate_left
          ·simp only [Act.put, List.setIfInBounds_toArray, List.set_cons_zero, List.set_cons_succ, i64_w, i32_w]
           rfl
          refine pure_ (i := 20) (N := some 72) (v := ?_) (a' := ?_) #[true, true, true, true, true, true, true, true, true, true, true, true, true, true, true, true, true, true, true, true, true, false, false, false, false, false, false, false, false, false, false] rfl rfl (any_of HT_.out (by kernel_rfl)) (fun _ _ _ h => h) (Or.inl ⟨by rfl, ?_⟩) ?_ ?_
          rotate_left
          ·intro w'
           go_simp
           with_reducible rfl
          rotate_left
          ·simp only [Act.put, List.setIfInBounds_toArray, List.set_cons_zero, List.set_cons_succ, i64_w, i32_w]
           rfl
          refine pure_ (i := 21) (N := some 73) (v := ?_) (a' := ?_) #[true, true, true, true, true, true, true, true, true, true, true, true, true, true, true, true, true, true, true, true, true, true, false, false, false, false, false, false, false, false, false] rfl rfl (any_of HT_.out (by kernel_rfl)) (fun _ _ _ h => h) (Or.inl ⟨by rfl, ?_⟩) ?_ ?_
          rotate_left
          ·intro w'
           go_simp
           with_reducible rfl
          rotate_left
          ·simp only [Act.put, List.setIfInBounds_toArray, List.set_cons_zero, List.set_cons_succ, i64_w, i32_w]
           rfl
          refine pure_ (i := 22) (N := some 74) (v := ?_) (a' := ?_) #[true, true, true, true, true, true, true, true, true, true, true, true, true, true, true, true, true, true, true, true, true, true, true, false, false, false, false, false, false, false, false] rfl rfl (any_of HT_.out (by kernel_rfl)) (fun _ _ _ h => h) (Or.inl ⟨by rfl, ?_⟩) ?_ ?_
          rotate_left
          ·intro w'
           go_simp
           with_reducible rfl
          rotate_left
          ·simp only [Act.put, List.setIfInBounds_toArray, List.set_cons_zero, List.set_cons_succ, i64_w, i32_w]
           rfl
          refine pure_ (i := 23) (N := some 75) (v := ?_) (a' := ?_) #[true, true, true, true, true, true, true, true, true, true, true, true, true, true, true, true, true, true, true, true, true, true, true, true, false, false, false, false, false, false, false] rfl rfl (any_of HT_.out (by kernel_rfl)) (fun _ _ _ h => h) (Or.inl ⟨by rfl, ?_⟩) ?_ ?_
          rotate_left
          ·intro w'
           go_simp
           with_reducible rfl
          rotate_left
          ·simp only [Act.put, List.setIfInBounds_toArray, List.set_cons_zero, List.set_cons_succ, i64_w, i32_w]
           rfl
          refine pure_ (i := 24) (N := some 76) (v := ?_) (a' := ?_) #[true, true, true, true, true, true, true, true, true, true, true, true, true, true, true, true, true, true, true, true, true, true, true, true, true, false, false, false, false, false, false] rfl rfl (any_of HT_.out (by kernel_rfl)) (fun _ _ _ h => h) (Or.inl ⟨by rfl, ?_⟩) ?_ ?_
          rotate_left
          ·intro w'
           go_simp
           with_reducible rfl
          rotate_left
          ·simp only [Act.put, List.setIfInBounds_toArray, List.set_cons_zero, List.set_cons_succ, i64_w, i32_w]
           rfl
          refine pure_ (i := 25) (N := some 77) (v := ?_) (a' := ?_) #[true, true, true, true, true, true, true, true, true, true, true, true, true, true, true, true, true, true, true, true, true, true, true, true, true, true, false, false, false, false, false] rfl rfl (any_of HT_.out (by kernel_rfl)) (fun _ _ _ h => h) (Or.inl ⟨by rfl, ?_⟩) ?_ ?_
          rotate_left
          ·intro w'
           go_simp
           with_reducible rfl
          rotate_left
          ·simp only [Act.put, List.setIfInBounds_toArray, List.set_cons_zero, List.set_cons_succ, i64_w, i32_w]
           rfl
          refine pure_ (i := 26) (N := some 78) (v := ?_) (a' := ?_) #[true, true, true, true, true, true, true, true, true, true, true, true, true, true, true, true, true, true, true, true, true, true, true, true, true, true, true, false, false, false, false] rfl rfl (any_of HT_.out (by kernel_rfl)) (fun _ _ _ h => h) (Or.inl ⟨by rfl, ?_⟩) ?_ ?_
          rotate_left
          ·intro w'
           go_simp
           with_reducible rfl
          rotate_left
          ·simp only [Act.put, List.setIfInBounds_toArray, List.set_cons_zero, List.set_cons_succ, i64_w, i32_w]
           rfl
          refine pure_ (i := 27) (N := some 79) (v := ?_) (a' := ?_) #[true, true, true, true, true, true, true, true, true, true, true, true, true, true, true, true, true, true, true, true, true, true, true, true, true, true, true, true, false, false, false] rfl rfl (any_of HT_.out (by kernel_rfl)) (fun _ _ _ h => h) (Or.inl ⟨by rfl, ?_⟩) ?_ ?_
          rotate_left
          ·intro w'
           go_simp
           with_reducible rfl
          rotate_left
          ·simp only [Act.put, List.setIfInBounds_toArray, List.set_cons_zero, List.set_cons_succ, i64_w, i32_w]
           rfl
          refine pure_ (i := 28) (N := some 80) (v := ?_) (a' := ?_) #[true, true, true, true, true, true, true, true, true, true, true, true, true, true, true, true, true, true, true, true, true, true, true, true, true, true, true, true, true, false, false] rfl rfl (any_of HT_.out (by kernel_rfl)) (fun _ _ _ h => h) (Or.inl ⟨by rfl, ?_⟩) ?_ ?_
          rotate_left
          ·intro w'
           go_simp
           with_reducible rfl
          rotate_left
          ·simp only [Act.put, List.setIfInBounds_toArray, List.set_cons_zero, List.set_cons_succ, i64_w, i32_w]
           rfl
          refine pure_ (i := 29) (N := some 81) (v := ?_) (a' := ?_) #[true, true, true, true, true, true, true, true, true, true, true, true, true, true, true, true, true, true, true, true, true, true, true, true, true, true, true, true, true, true, false] rfl rfl (any_of HT_.out (by kernel_rfl)) (fun _ _ _ h => h) (Or.inl ⟨by rfl, ?_⟩) ?_ ?_
          rotate_left
          ·intro w'
           go_simp
           with_reducible rfl
          rotate_left
          ·simp only [Act.put, List.setIfInBounds_toArray, List.set_cons_zero, List.set_cons_succ, i64_w, i32_w]
           rfl
          refine pure_ (i := 30) (N := some 6) (v := ?_) (a' := ?_) #[true, true, true, true, true, true, true, true, true, true, true, true, true, true, true, true, true, true, true, true, true, true, true, true, true, true, true, true, true, true, true] rfl rfl (any_of HT_.out (by kernel_rfl)) (fun _ _ _ h => h) (Or.inl ⟨by rfl, ?_⟩) ?_ ?_
          rotate_left
          ·intro w'
           go_simp
           with_reducible rfl
          rotate_left
          ·simp only [Act.put, List.setIfInBounds_toArray, List.set_cons_zero, List.set_cons_succ, i64_w, i32_w]
           rfl
          refine done_ (done_of HT_.out (by kernel_rfl)) ?_
          try go_wp2
          go_ret
          exact ⟨by first | rfl | (simp [errW_none, errW_some] <;> rfl) | (simp [*, errW_none, errW_some] <;> rfl), by repeat (first | (with_reducible first | exact HB.out | apply bA | apply bN | apply bD | refine bS ?_ GE464.out | refine bS ?_ GE475.out | refine bS ?_ GE481.out) | exact HB.out)⟩
         ·rw [if_neg c23] at H
          have c23b0 : (t473 == t479) = false := beq_eq_false_iff_ne.mpr c23
          have c23b1 : (t473 != t479) = true := bne_iff_ne.mpr c23
          obtain rfl := Option.some.inj H
          have hcz41_0 : wc.cell? ⟨gb464, 0, none⟩ = some (.int .i64 a0_0) := (zC BK464.out 0).trans rfl
          have hcz41_1 : wc.cell? ⟨gb464, 1, none⟩ = some (.int .i64 a0_1) := (zC BK464.out 1).trans rfl
          have hcz41_2 : wc.cell? ⟨gb464, 2, none⟩ = some (.string a0_2) := (zC BK464.out 2).trans rfl
          have hfz41_0 := zF BK464.out 0
          have hfz41_1 := zF BK464.out 1
          have hfz41_2 := zF BK464.out 2
          try go_wp2_with (first | ((with_reducible refine gate_callee (f := 90) rfl ?_); refine goesL_ (some 31) rfl rfl Try.func90 (by kernel_rfl) rfl #[.agg #[.int .i64 a0_0, .int .i64 a0_1, .string a0_2], .int .i64 a1] rfl (by (try simp only [List.map_toArray, List.map_cons, List.map_nil]); first | done | rfl | (simp only [List.length_drop, List.length_take]; rfl)) ?_; (with_reducible refine (udp_Put.calls a0_0 a0_1 a0_2 a1 t466 t467 _ A13.out).mono ?_); rintro e w42 ⟨rfl, hb⟩; refine ⟨_, rfl, ?_⟩; have n0_ := mA (blk_below (g := gb464) (o := .cells #[.int .i64 a0_0, .int .i64 a0_1, .string a0_2] 102 (0, 0)) (by (with_reducible repeat (first | apply kN | apply kD | apply kA)); exact BK464.out) hb); have n1_ := mA (bP (by repeat (first | (with_reducible first | exact HB.out | apply bA | apply bN | apply bD | refine bS ?_ GE464.out) | exact HB.out)) hb); clear BK464; clear HB; have BK464 := n0_; have HB := n1_; clear n0_ n1_; (try clear hb); (try clear hb2); (try clear hk); (try clear hi); have hcz43_0 : w42.cell? ⟨gb464, 0, none⟩ = some (.int .i64 a0_0) := (zC BK464.out 0).trans rfl; have hcz43_1 : w42.cell? ⟨gb464, 1, none⟩ = some (.int .i64 a0_1) := (zC BK464.out 1).trans rfl; have hcz43_2 : w42.cell? ⟨gb464, 2, none⟩ = some (.string a0_2) := (zC BK464.out 2).trans rfl; have hfz43_0 := zF BK464.out 0; have hfz43_1 := zF BK464.out 1; have hfz43_2 := zF BK464.out 2) | ((with_reducible refine gate_callee (f := 91) rfl ?_); refine goesL_ (some 37) rfl rfl Try.func91 (by kernel_rfl) rfl #[.agg #[.int .i64 a0_0, .int .i64 a0_1, .string a0_2], .int .i64 a1] rfl (by (try simp only [List.map_toArray, List.map_cons, List.map_nil]); first | done | rfl | (simp only [List.length_drop, List.length_take]; rfl)) ?_; (with_reducible refine (palanquinref08_Put.calls kj5 a0_0 a0_1 a0_2 a1 t468 t469 _ A14.out).mono ?_); rintro e w44 ⟨rfl, hb⟩; refine ⟨_, rfl, ?_⟩; have n0_ := mA (blk_below (g := gb464) (o := .cells #[.int .i64 a0_0, .int .i64 a0_1, .string a0_2] 102 (0, 0)) (by (with_reducible repeat (first | apply kN | apply kD | apply kA)); exact BK464.out) hb); have n1_ := mA (bP (by repeat (first | (with_reducible first | exact HB.out | apply bA | apply bN | apply bD | refine bS ?_ GE464.out) | exact HB.out)) hb); clear BK464; clear HB; have BK464 := n0_; have HB := n1_; clear n0_ n1_; (try clear hb); (try clear hb2); (try clear hk); (try clear hi)) | ((with_reducible refine gate_callee (f := 92) rfl ?_); refine goesL_ (some 42) rfl rfl Try.func92 (by kernel_rfl) rfl #[.string a2] rfl (by (try simp only [List.map_toArray, List.map_cons, List.map_nil]); first | done | rfl | (simp only [List.length_drop, List.length_take]; rfl)) ?_; (with_reducible refine (udp_Get.calls a2 t470 t471 t472 t473 t474 _ A15.out).mono ?_); rintro e w45 ⟨rfl, hb⟩; refine ⟨_, rfl, ?_⟩; have n0_ := mA (blk_below (g := gb464) (o := .cells #[.int .i64 a0_0, .int .i64 a0_1, .string a0_2] 102 (0, 0)) (by (with_reducible repeat (first | apply kN | apply kD | apply kA)); exact BK464.out) hb); have n1_ := mA (bP (by repeat (first | (with_reducible first | exact HB.out | apply bA | apply bN | apply bD | refine bS ?_ GE464.out) | exact HB.out)) hb); clear BK464; clear HB; have BK464 := n0_; have HB := n1_; clear n0_ n1_; (try clear hb); (try clear hb2); (try clear hk); (try clear hi)) | ((with_reducible refine gate_dst (N := 11) rfl ?_); (try (refine gate_guard (by rfl) ?_; dsimp only)); refine box_event ?hg (N := 11) ?hd (cs := #[.int .i64 0, .int .i64 0, .string (⟨#[]⟩ : ByteArray)]) (t := 102) ?hr ?_; (case hd => rfl); (case hg => rfl); (case hr => first | (go_simp; done) | (go_simp; rfl)); intro gb475 hg w46 hbox hb; have n0_ := mA (blk_below (g := gb464) (o := .cells #[.int .i64 a0_0, .int .i64 a0_1, .string a0_2] 102 (0, 0)) (by (with_reducible repeat (first | apply kN | apply kD | apply kA)); exact BK464.out) hb); have n1_ := mA (bP (by repeat (first | (with_reducible first | exact HB.out | apply bA | apply bN | apply bD | refine bS ?_ GE464.out) | exact HB.out)) hb); have n2_ := mA (hbox); have n3_ := mA ((by rw [hg]; exact (below_size (by repeat (first | (with_reducible first | exact HB.out | apply bA | apply bN | apply bD | refine bS ?_ GE464.out) | exact HB.out))) : w.heap.size ≤ gb475)); have n4_ := mA ((by rw [hg]; exact (below_size (by repeat (first | (with_reducible first | exact HB.out | apply bA | apply bN | apply bD | refine bS ?_ GE464.out) | exact HB.out))) : w.heap.size ≤ gb475)); have n5_ := mA ((by rw [hg]; exact Nat.ne_of_lt (blk_lt (g := gb464) (o := .cells #[.int .i64 a0_0, .int .i64 a0_1, .string a0_2] 102 (0, 0)) (by (with_reducible repeat (first | apply kN | apply kD | apply kA)); exact BK464.out)) : gb464 ≠ gb475)); have n6_ := mA ((by rw [hg]; exact Nat.ne_of_gt (blk_lt (g := gb464) (o := .cells #[.int .i64 a0_0, .int .i64 a0_1, .string a0_2] 102 (0, 0)) (by (with_reducible repeat (first | apply kN | apply kD | apply kA)); exact BK464.out)) : gb475 ≠ gb464)); clear BK464; clear HB; have BK464 := n0_; have HB := n1_; have BK475 := n2_; have GW475 := n3_; have GE475 := n4_; have NB464_475 := n5_; have NB475_464 := n6_; clear n0_ n1_ n2_ n3_ n4_ n5_ n6_; clear hb hbox hg; have hnb47 := NB475_464.out; have hnc47 := NB464_475.out; have hcz48_0 : w46.cell? ⟨gb475, 0, none⟩ = some (.int .i64 0) := (zC BK475.out 0).trans rfl; have hcz48_1 : w46.cell? ⟨gb475, 1, none⟩ = some (.int .i64 0) := (zC BK475.out 1).trans rfl; have hcz48_2 : w46.cell? ⟨gb475, 2, none⟩ = some (.string (⟨#[]⟩ : ByteArray)) := (zC BK475.out 2).trans rfl; have hfz48_0 := zF BK475.out 0; have hfz48_1 := zF BK475.out 1; have hfz48_2 := zF BK475.out 2) | ((with_reducible refine gate_callee (f := 93) rfl ?_); refine goesL_ (some 48) rfl rfl Try.func93 (by kernel_rfl) rfl #[.string a2] rfl (by (try simp only [List.map_toArray, List.map_cons, List.map_nil]); first | done | rfl | (simp only [List.length_drop, List.length_take]; rfl)) ?_; (with_reducible refine (palanquinref08_Get.calls kj5 a2 t476 t477 t478 t479 t480 _ A16.out).mono ?_); rintro e w49 ⟨rfl, hb⟩; refine ⟨_, rfl, ?_⟩; have n0_ := mA (blk_below (g := gb464) (o := .cells #[.int .i64 a0_0, .int .i64 a0_1, .string a0_2] 102 (0, 0)) (by (with_reducible repeat (first | apply kN | apply kD | apply kA)); refine blk_far ?_ NB464_475.out _; (with_reducible repeat (first | apply kN | apply kD | apply kA)); refine blk_far ?_ NB464_475.out _; (with_reducible repeat (first | apply kN | apply kD | apply kA)); refine blk_far ?_ NB464_475.out _; (with_reducible repeat (first | apply kN | apply kD | apply kA)); exact BK464.out) hb); have n1_ := mA (blk_below (g := gb475) (o := .cells #[.int .i64 t470, .int .i64 t471, .string t472] 102 (0, 0)) (by (with_reducible repeat (first | apply kN | apply kD | apply kA)); refine blk_put (cs := #[.int .i64 t470, .int .i64 t471, .string (⟨#[]⟩ : ByteArray)]) ?_ 2 _ rfl; (with_reducible repeat (first | apply kN | apply kD | apply kA)); refine blk_put (cs := #[.int .i64 t470, .int .i64 0, .string (⟨#[]⟩ : ByteArray)]) ?_ 1 _ rfl; (with_reducible repeat (first | apply kN | apply kD | apply kA)); refine blk_put (cs := #[.int .i64 0, .int .i64 0, .string (⟨#[]⟩ : ByteArray)]) ?_ 0 _ rfl; (with_reducible repeat (first | apply kN | apply kD | apply kA)); exact BK475.out) hb); have n2_ := mA (bP (by repeat (first | (with_reducible first | exact HB.out | apply bA | apply bN | apply bD | refine bS ?_ GE464.out | refine bS ?_ GE475.out) | exact HB.out)) hb); clear BK464; clear BK475; clear HB; have BK464 := n0_; have BK475 := n1_; have HB := n2_; clear n0_ n1_ n2_; (try clear hb); (try clear hb2); (try clear hk); (try clear hi)) | ((with_reducible refine gate_dst (N := 14) rfl ?_); (try (refine gate_guard (by rfl) ?_; dsimp only)); refine box_event ?hg (N := 14) ?hd (cs := #[.int .i64 0, .int .i64 0, .string (⟨#[]⟩ : ByteArray)]) (t := 102) ?hr ?_; (case hd => rfl); (case hg => rfl); (case hr => first | (go_simp; done) | (go_simp; rfl)); intro gb481 hg w50 hbox hb; have n0_ := mA (blk_below (g := gb464) (o := .cells #[.int .i64 a0_0, .int .i64 a0_1, .string a0_2] 102 (0, 0)) (by (with_reducible repeat (first | apply kN | apply kD | apply kA)); exact BK464.out) hb); have n1_ := mA (blk_below (g := gb475) (o := .cells #[.int .i64 t470, .int .i64 t471, .string t472] 102 (0, 0)) (by (with_reducible repeat (first | apply kN | apply kD | apply kA)); exact BK475.out) hb); have n2_ := mA (bP (by repeat (first | (with_reducible first | exact HB.out | apply bA | apply bN | apply bD | refine bS ?_ GE464.out | refine bS ?_ GE475.out) | exact HB.out)) hb); have n3_ := mA (hbox); have n4_ := mA ((by rw [hg]; exact (below_size (by repeat (first | (with_reducible first | exact HB.out | apply bA | apply bN | apply bD | refine bS ?_ GE464.out | refine bS ?_ GE475.out) | exact HB.out))) : w.heap.size ≤ gb481)); have n5_ := mA ((by rw [hg]; exact (below_size (by repeat (first | (with_reducible first | exact HB.out | apply bA | apply bN | apply bD | refine bS ?_ GE464.out | refine bS ?_ GE475.out) | exact HB.out))) : w.heap.size ≤ gb481)); have n6_ := mA ((by rw [hg]; exact Nat.ne_of_lt (blk_lt (g := gb464) (o := .cells #[.int .i64 a0_0, .int .i64 a0_1, .string a0_2] 102 (0, 0)) (by (with_reducible repeat (first | apply kN | apply kD | apply kA)); exact BK464.out)) : gb464 ≠ gb481)); have n7_ := mA ((by rw [hg]; exact Nat.ne_of_gt (blk_lt (g := gb464) (o := .cells #[.int .i64 a0_0, .int .i64 a0_1, .string a0_2] 102 (0, 0)) (by (with_reducible repeat (first | apply kN | apply kD | apply kA)); exact BK464.out)) : gb481 ≠ gb464)); have n8_ := mA ((by rw [hg]; exact Nat.ne_of_lt (blk_lt (g := gb475) (o := .cells #[.int .i64 t470, .int .i64 t471, .string t472] 102 (0, 0)) (by (with_reducible repeat (first | apply kN | apply kD | apply kA)); exact BK475.out)) : gb475 ≠ gb481)); have n9_ := mA ((by rw [hg]; exact Nat.ne_of_gt (blk_lt (g := gb475) (o := .cells #[.int .i64 t470, .int .i64 t471, .string t472] 102 (0, 0)) (by (with_reducible repeat (first | apply kN | apply kD | apply kA)); exact BK475.out)) : gb481 ≠ gb475)); clear BK464; clear BK475; clear HB; have BK464 := n0_; have BK475 := n1_; have HB := n2_; have BK481 := n3_; have GW481 := n4_; have GE481 := n5_; have NB464_481 := n6_; have NB481_464 := n7_; have NB475_481 := n8_; have NB481_475 := n9_; clear n0_ n1_ n2_ n3_ n4_ n5_ n6_ n7_ n8_ n9_; clear hb hbox hg; have hnb51 := NB481_464.out; have hnc51 := NB464_481.out; have hnb52 := NB481_475.out; have hnc52 := NB475_481.out; have hcz53_0 : w50.cell? ⟨gb481, 0, none⟩ = some (.int .i64 0) := (zC BK481.out 0).trans rfl; have hcz53_1 : w50.cell? ⟨gb481, 1, none⟩ = some (.int .i64 0) := (zC BK481.out 1).trans rfl; have hcz53_2 : w50.cell? ⟨gb481, 2, none⟩ = some (.string (⟨#[]⟩ : ByteArray)) := (zC BK481.out 2).trans rfl; have hfz53_0 := zF BK481.out 0; have hfz53_1 := zF BK481.out 1; have hfz53_2 := zF BK481.out 2))
          have n0_ : Aside0 ((((w50.setCell ⟨gb481, 0, none⟩ (.int .i64 t476)).setCell ⟨gb481, 1, none⟩ (.int .i64 t477)).setCell ⟨gb481, 2, none⟩ (.string t478)).heap[gb464]? = some (.cells #[.int .i64 a0_0, .int .i64 a0_1, .string a0_2] 102 (0, 0))) := ⟨by (with_reducible repeat (first | apply kN | apply kD | apply kA)); refine blk_far ?_ NB464_481.out _; (with_reducible repeat (first | apply kN | apply kD | apply kA)); refine blk_far ?_ NB464_481.out _; (with_reducible repeat (first | apply kN | apply kD | apply kA)); refine blk_far ?_ NB464_481.out _; (with_reducible repeat (first | apply kN | apply kD | apply kA)); exact BK464.out⟩
          have n1_ : Aside0 ((((w50.setCell ⟨gb481, 0, none⟩ (.int .i64 t476)).setCell ⟨gb481, 1, none⟩ (.int .i64 t477)).setCell ⟨gb481, 2, none⟩ (.string t478)).heap[gb475]? = some (.cells #[.int .i64 t470, .int .i64 t471, .string t472] 102 (0, 0))) := ⟨by (with_reducible repeat (first | apply kN | apply kD | apply kA)); refine blk_far ?_ NB475_481.out _; (with_reducible repeat (first | apply kN | apply kD | apply kA)); refine blk_far ?_ NB475_481.out _; (with_reducible repeat (first | apply kN | apply kD | apply kA)); refine blk_far ?_ NB475_481.out _; (with_reducible repeat (first | apply kN | apply kD | apply kA)); exact BK475.out⟩
          have n2_ : Aside0 ((((w50.setCell ⟨gb481, 0, none⟩ (.int .i64 t476)).setCell ⟨gb481, 1, none⟩ (.int .i64 t477)).setCell ⟨gb481, 2, none⟩ (.string t478)).heap[gb481]? = some (.cells #[.int .i64 t476, .int .i64 t477, .string t478] 102 (0, 0))) := ⟨by (with_reducible repeat (first | apply kN | apply kD | apply kA)); refine blk_put (cs := #[.int .i64 t476, .int .i64 t477, .string (⟨#[]⟩ : ByteArray)]) ?_ 2 _ rfl; (with_reducible repeat (first | apply kN | apply kD | apply kA)); refine blk_put (cs := #[.int .i64 t476, .int .i64 0, .string (⟨#[]⟩ : ByteArray)]) ?_ 1 _ rfl; (with_reducible repeat (first | apply kN | apply kD | apply kA)); refine blk_put (cs := #[.int .i64 0, .int .i64 0, .string (⟨#[]⟩ : ByteArray)]) ?_ 0 _ rfl; (with_reducible repeat (first | apply kN | apply kD | apply kA)); exact BK481.out⟩
          have n3_ : Aside0 (Below w.heap.size w (((w50.setCell ⟨gb481, 0, none⟩ (.int .i64 t476)).setCell ⟨gb481, 1, none⟩ (.int .i64 t477)).setCell ⟨gb481, 2, none⟩ (.string t478))) := ⟨by repeat (first | (with_reducible first | exact HB.out | apply bA | apply bN | apply bD | refine bS ?_ GE464.out | refine bS ?_ GE475.out | refine bS ?_ GE481.out) | exact HB.out)⟩
          (try clear BK464)
          (try clear BK475)
          (try clear BK481)
          (try clear HB)
          generalize (((w50.setCell ⟨gb481, 0, none⟩ (.int .i64 t476)).setCell ⟨gb481, 1, none⟩ (.int .i64 t477)).setCell ⟨gb481, 2, none⟩ (.string t478)) = w54 at n0_ n1_ n2_ n3_ ⊢
          have BK464 := n0_
          have BK475 := n1_
          have BK481 := n2_
          have HB := n3_
          clear n0_ n1_ n2_ n3_
          have n0_ := mA (kD BK464.out)
          have n1_ := mA (kD BK475.out)
          have n2_ := mA (kD BK481.out)
          have n3_ := mA (bD HB.out)
          clear BK464
          clear BK475
          clear BK481
          clear HB
          have BK464 := n0_
          have BK475 := n1_
          have BK481 := n2_
          have HB := n3_
          clear n0_ n1_ n2_ n3_
          refine start_ (n := 31) (S := fun w' => w'.cell? ⟨gb464, 0, none⟩ = some (.int .i64 a0_0) ∧ w'.cell? ⟨gb464, 1, none⟩ = some (.int .i64 a0_1) ∧ w'.cell? ⟨gb464, 2, none⟩ = some (.string a0_2) ∧ w'.cell? ⟨gb475, 0, none⟩ = some (.int .i64 t470) ∧ w'.cell? ⟨gb475, 1, none⟩ = some (.int .i64 t471) ∧ w'.cell? ⟨gb475, 2, none⟩ = some (.string t472) ∧ w'.cell? ⟨gb481, 0, none⟩ = some (.int .i64 t476) ∧ w'.cell? ⟨gb481, 1, none⟩ = some (.int .i64 t477) ∧ w'.cell? ⟨gb481, 2, none⟩ = some (.string t478)) (ds := []) #[false, false, false, false, false, false, false, false, false, false, false, false, false, false, false, false, false, false, false, false, false, false, false, false, false, false, false, false, false, false, false] (by kernel_rfl) rfl rfl ⟨(zC BK464.out 0).trans rfl, (zC BK464.out 1).trans rfl, (zC BK464.out 2).trans rfl, (zC BK475.out 0).trans rfl, (zC BK475.out 1).trans rfl, (zC BK475.out 2).trans rfl, (zC BK481.out 0).trans rfl, (zC BK481.out 1).trans rfl, (zC BK481.out 2).trans rfl⟩ (fun hHeld => ?_); refine with_tabW palanquinlaw08_UdpTells.tab9 palanquinlaw08_UdpTells.bits9 (fun HT_ HW_ => ?_)
          generalize w54.drew = w55 at BK464 BK475 BK481 HB hHeld ⊢
          refine pure_ (i := 0) (N := some 52) (v := ?_) (a' := ?_) #[true, false, false, false, false, false, false, false, false, false, false, false, false, false, false, false, false, false, false, false, false, false, false, false, false, false, false, false, false, false, false] rfl rfl (any_of HT_.out (by kernel_rfl)) (fun _ _ _ h => h) (Or.inl ⟨by rfl, ?_⟩) ?_ ?_
          rotate_left
          ·intro w'
           go_simp
           with_reducible rfl
          rotate_left
          ·simp only [Act.put, List.setIfInBounds_toArray, List.set_cons_zero, List.set_cons_succ, i64_w, i32_w]
           rfl
          refine pure_ (i := 1) (N := some 53) (v := ?_) (a' := ?_) #[true, true, false, false, false, false, false, false, false, false, false, false, false, false, false, false, false, false, false, false, false, false, false, false, false, false, false, false, false, false, false] rfl rfl (any_of HT_.out (by kernel_rfl)) (fun _ _ _ h => h) (Or.inl ⟨by rfl, ?_⟩) ?_ ?_
          rotate_left
          ·intro w'
           go_simp
           with_reducible rfl
          rotate_left
          ·simp only [Act.put, List.setIfInBounds_toArray, List.set_cons_zero, List.set_cons_succ, i64_w, i32_w]
           rfl
          refine pure_ (i := 2) (N := some 54) (v := ?_) (a' := ?_) #[true, true, true, false, false, false, false, false, false, false, false, false, false, false, false, false, false, false, false, false, false, false, false, false, false, false, false, false, false, false, false] rfl rfl (any_of HT_.out (by kernel_rfl)) (fun _ _ _ h => h) (Or.inl ⟨by rfl, ?_⟩) ?_ ?_
          rotate_left
          ·intro w'
           go_simp
           with_reducible rfl
          rotate_left
          ·simp only [Act.put, List.setIfInBounds_toArray, List.set_cons_zero, List.set_cons_succ, i64_w, i32_w]
           rfl
          refine pure_ (i := 3) (N := some 55) (v := ?_) (a' := ?_) #[true, true, true, true, false, false, false, false, false, false, false, false, false, false, false, false, false, false, false, false, false, false, false, false, false, false, false, false, false, false, false] rfl rfl (any_of HT_.out (by kernel_rfl)) (fun _ _ _ h => h) (Or.inl ⟨by rfl, ?_⟩) ?_ ?_
          rotate_left
          ·intro w'
           go_simp
           with_reducible rfl
          rotate_left
          ·simp only [Act.put, List.setIfInBounds_toArray, List.set_cons_zero, List.set_cons_succ, i64_w, i32_w]
           rfl
          refine pure_ (i := 4) (N := some 56) (v := ?_) (a' := ?_) #[true, true, true, true, true, false, false, false, false, false, false, false, false, false, false, false, false, false, false, false, false, false, false, false, false, false, false, false, false, false, false] rfl rfl (any_of HT_.out (by kernel_rfl)) (fun _ _ _ h => h) (Or.inl ⟨by rfl, ?_⟩) ?_ ?_
          rotate_left
          ·intro w'
           go_simp
           with_reducible rfl
          rotate_left
          ·simp only [Act.put, List.setIfInBounds_toArray, List.set_cons_zero, List.set_cons_succ, i64_w, i32_w]
           rfl
          refine pure_ (i := 5) (N := some 57) (v := ?_) (a' := ?_) #[true, true, true, true, true, true, false, false, false, false, false, false, false, false, false, false, false, false, false, false, false, false, false, false, false, false, false, false, false, false, false] rfl rfl (any_of HT_.out (by kernel_rfl)) (fun _ _ _ h => h) (Or.inl ⟨by rfl, ?_⟩) ?_ ?_
          rotate_left
          ·intro w'
           go_simp
           with_reducible rfl
          rotate_left
          ·simp only [Act.put, List.setIfInBounds_toArray, List.set_cons_zero, List.set_cons_succ, i64_w, i32_w]
           rfl
          refine pure_ (i := 6) (N := some 58) (v := ?_) (a' := ?_) #[true, true, true, true, true, true, true, false, false, false, false, false, false, false, false, false, false, false, false, false, false, false, false, false, false, false, false, false, false, false, false] rfl rfl (any_of HT_.out (by kernel_rfl)) (fun _ _ _ h => h) (Or.inl ⟨by rfl, ?_⟩) ?_ ?_
          rotate_left
          ·intro w'
           go_simp
           with_reducible rfl
          rotate_left
          ·simp only [Act.put, List.setIfInBounds_toArray, List.set_cons_zero, List.set_cons_succ, i64_w, i32_w]
           rfl
          refine pure_ (i := 7) (N := some 59) (v := ?_) (a' := ?_) #[true, true, true, true, true, true, true, true, false, false, false, false, false, false, false, false, false, false, false, false, false, false, false, false, false, false, false, false, false, false, false] rfl rfl (any_of HT_.out (by kernel_rfl)) (fun _ _ _ h => h) (Or.inl ⟨by rfl, ?_⟩) ?_ ?_
          rotate_left
          ·intro w'
           go_simp
           with_reducible rfl
          rotate_left
          ·simp only [Act.put, List.setIfInBounds_toArray, List.set_cons_zero, List.set_cons_succ, i64_w, i32_w]
           rfl
          refine pure_ (i := 8) (N := some 60) (v := ?_) (a' := ?_) #[true, true, true, true, true, true, true, true, true, false, false, false, false, false, false, false, false, false, false, false, false, false, false, false, false, false, false, false, false, false, false] rfl rfl (any_of HT_.out (by kernel_rfl)) (fun _ _ _ h => h) (Or.inl ⟨by rfl, ?_⟩) ?_ ?_
          rotate_left
          ·intro w'
           go_simp
           with_reducible rfl
          rotate_left
          ·simp only [Act.put, List.setIfInBounds_toArray, List.set_cons_zero, List.set_cons_succ, i64_w, i32_w]
           rfl
          refine take_ (i := 9) (N := some 61) (v := ?_) (a' := ?_) #[true, true, true, true, true, true, true, true, true, true, false, false, false, false, false, false, false, false, false, false, false, false, false, false, false, false, false, false, false, false, false] rfl rfl (take_ofW HT_.out HW_.out (by kernel_rfl)) (fun _ _ _ h => h) (Or.inl ⟨by rfl, ?_⟩) hHeld ?_ ?_
          rotate_left
          ·rintro w' ⟨s0, s1, s2, s3, s4, s5, s6, s7, s8⟩
           go_simp
           with_reducible rfl
          rotate_left
          ·simp only [Act.put, List.setIfInBounds_toArray, List.set_cons_zero, List.set_cons_succ, i64_w, i32_w]
           rfl
          refine take_ (i := 11) (N := some 63) (v := ?_) (a' := ?_) #[true, true, true, true, true, true, true, true, true, true, false, true, false, false, false, false, false, false, false, false, false, false, false, false, false, false, false, false, false, false, false] rfl rfl (take_ofW HT_.out HW_.out (by kernel_rfl)) (fun _ _ _ h => h) (Or.inl ⟨by rfl, ?_⟩) hHeld ?_ ?_
          rotate_left
          ·rintro w' ⟨s0, s1, s2, s3, s4, s5, s6, s7, s8⟩
           go_simp
           with_reducible rfl
          rotate_left
          ·simp only [Act.put, List.setIfInBounds_toArray, List.set_cons_zero, List.set_cons_succ, i64_w, i32_w]
           rfl
          refine one_ (i := 10) (N := some 62) #[true, true, true, true, true, true, true, true, true, true, true, true, false, false, false, false, false, false, false, false, false, false, false, false, false, false, false, false, false, false, false] rfl rfl (one_of HT_.out (by kernel_rfl)) (by decide) (fun K hK => ?_)
          refine goes_ Try.func94 (by kernel_rfl) rfl #[.agg #[.int .i64 a0_0, .int .i64 a0_1, .string a0_2]] (by rfl) rfl rfl (by (try simp only [List.map_toArray, List.map_cons, List.map_nil]); first | done | rfl | (simp only [List.length_drop, List.length_take]; rfl)) ?_
          with_reducible refine (udp_Check.calls a0_0 a0_1 a0_2 t482 _ A19.out).mono ?_
          rintro e w56 ⟨rfl, hb⟩
          refine ⟨_, rfl, ?_⟩
          have n0_ := mA (blk_below (g := gb464) (o := .cells #[.int .i64 a0_0, .int .i64 a0_1, .string a0_2] 102 (0, 0)) (by (with_reducible repeat (first | apply kN | apply kD | apply kA)); exact BK464.out) hb)
          have n1_ := mA (blk_below (g := gb475) (o := .cells #[.int .i64 t470, .int .i64 t471, .string t472] 102 (0, 0)) (by (with_reducible repeat (first | apply kN | apply kD | apply kA)); exact BK475.out) hb)
          have n2_ := mA (blk_below (g := gb481) (o := .cells #[.int .i64 t476, .int .i64 t477, .string t478] 102 (0, 0)) (by (with_reducible repeat (first | apply kN | apply kD | apply kA)); exact BK481.out) hb)
          have n3_ := mA (bP (by repeat (first | (with_reducible first | exact HB.out | apply bA | apply bN | apply bD | refine bS ?_ GE464.out | refine bS ?_ GE475.out | refine bS ?_ GE481.out) | exact HB.out)) hb)
          clear BK464
          clear BK475
          clear BK481
          clear HB
          have BK464 := n0_
          have BK475 := n1_
          have BK481 := n2_
          have HB := n3_
          clear n0_ n1_ n2_ n3_
          (try clear hb)
          (try clear hb2)
          (try clear hk)
          (try clear hi)
          refine hK.out _ _ ⟨(zC BK464.out 0).trans rfl, (zC BK464.out 1).trans rfl, (zC BK464.out 2).trans rfl, (zC BK475.out 0).trans rfl, (zC BK475.out 1).trans rfl, (zC BK475.out 2).trans rfl, (zC BK481.out 0).trans rfl, (zC BK481.out 1).trans rfl, (zC BK481.out 2).trans rfl⟩ (fun hHeld => ?_)
          clear hK K
          refine norm_ (a' := ?_) ?_ ?_
          rotate_left
          ·show Act.put _ (some 62) _ = _
           simp only [Act.put, List.setIfInBounds_toArray, List.set_cons_zero, List.set_cons_succ, i64_w, i32_w]
           rfl
          refine one_ (i := 12) (N := some 64) #[true, true, true, true, true, true, true, true, true, true, true, true, true, false, false, false, false, false, false, false, false, false, false, false, false, false, false, false, false, false, false] rfl rfl (one_of HT_.out (by kernel_rfl)) (by decide) (fun K hK => ?_)
          refine goes_ Try.func95 (by kernel_rfl) rfl #[.agg #[.int .i64 a0_0, .int .i64 a0_1, .string a0_2]] (by rfl) rfl rfl (by (try simp only [List.map_toArray, List.map_cons, List.map_nil]); first | done | rfl | (simp only [List.length_drop, List.length_take]; rfl)) ?_
          with_reducible refine (palanquinref08_Check.calls kj5 a0_0 a0_1 a0_2 t483 _ A20.out).mono ?_
          rintro e w57 ⟨rfl, hb⟩
          refine ⟨_, rfl, ?_⟩
          have n0_ := mA (blk_below (g := gb464) (o := .cells #[.int .i64 a0_0, .int .i64 a0_1, .string a0_2] 102 (0, 0)) (by (with_reducible repeat (first | apply kN | apply kD | apply kA)); exact BK464.out) hb)
          have n1_ := mA (blk_below (g := gb475) (o := .cells #[.int .i64 t470, .int .i64 t471, .string t472] 102 (0, 0)) (by (with_reducible repeat (first | apply kN | apply kD | apply kA)); exact BK475.out) hb)
          have n2_ := mA (blk_below (g := gb481) (o := .cells #[.int .i64 t476, .int .i64 t477, .string t478] 102 (0, 0)) (by (with_reducible repeat (first | apply kN | apply kD | apply kA)); exact BK481.out) hb)
          have n3_ := mA (bP (by repeat (first | (with_reducible first | exact HB.out | apply bA | apply bN | apply bD | refine bS ?_ GE464.out | refine bS ?_ GE475.out | refine bS ?_ GE481.out) | exact HB.out)) hb)
          clear BK464
          clear BK475
          clear BK481
          clear HB
          have BK464 := n0_
          have BK475 := n1_
          have BK481 := n2_
          have HB := n3_
          clear n0_ n1_ n2_ n3_
          (try clear hb)
          (try clear hb2)
          (try clear hk)
          (try clear hi)
          refine hK.out _ _ ⟨(zC BK464.out 0).trans rfl, (zC BK464.out 1).trans rfl, (zC BK464.out 2).trans rfl, (zC BK475.out 0).trans rfl, (zC BK475.out 1).trans rfl, (zC BK475.out 2).trans rfl, (zC BK481.out 0).trans rfl, (zC BK481.out 1).trans rfl, (zC BK481.out 2).trans rfl⟩ (fun hHeld => ?_)
          clear hK K
          refine norm_ (a' := ?_) ?_ ?_
          rotate_left
          ·show Act.put _ (some 64) _ = _
           simp only [Act.put, List.setIfInBounds_toArray, List.set_cons_zero, List.set_cons_succ, i64_w, i32_w]
           rfl
          refine pure_ (i := 13) (N := some 65) (v := ?_) (a' := ?_) #[true, true, true, true, true, true, true, true, true, true, true, true, true, true, false, false, false, false, false, false, false, false, false, false, false, false, false, false, false, false, false] rfl rfl (any_of HT_.out (by kernel_rfl)) (fun _ _ _ h => h) (Or.inl ⟨by rfl, ?_⟩) ?_ ?_
          rotate_left
          ·intro w'
           go_simp
           with_reducible rfl
          rotate_left
          ·simp only [Act.put, List.setIfInBounds_toArray, List.set_cons_zero, List.set_cons_succ, i64_w, i32_w]
           rfl
          refine pure_ (i := 14) (N := some 66) (v := ?_) (a' := ?_) #[true, true, true, true, true, true, true, true, true, true, true, true, true, true, true, false, false, false, false, false, false, false, false, false, false, false, false, false, false, false, false] rfl rfl (any_of HT_.out (by kernel_rfl)) (fun _ _ _ h => h) (Or.inl ⟨by rfl, ?_⟩) ?_ ?_
          rotate_left
          ·intro w'
           go_simp
           with_reducible rfl
          rotate_left
          ·simp only [Act.put, List.setIfInBounds_toArray, List.set_cons_zero, List.set_cons_succ, i64_w, i32_w]
           rfl
          refine pure_ (i := 15) (N := some 67) (v := ?_) (a' := ?_) #[true, true, true, true, true, true, true, true, true, true, true, true, true, true, true, true, false, false, false, false, false, false, false, false, false, false, false, false, false, false, false] rfl rfl (any_of HT_.out (by kernel_rfl)) (fun _ _ _ h => h) (Or.inl ⟨by rfl, ?_⟩) ?_ ?_
          rotate_left
          ·intro w'
           go_simp
           with_reducible rfl
          rotate_left
          ·simp only [Act.put, List.setIfInBounds_toArray, List.set_cons_zero, List.set_cons_succ, i64_w, i32_w]
           rfl
          refine take_ (i := 16) (N := some 68) (v := ?_) (a' := ?_) #[true, true, true, true, true, true, true, true, true, true, true, true, true, true, true, true, true, false, false, false, false, false, false, false, false, false, false, false, false, false, false] rfl rfl (take_ofW HT_.out HW_.out (by kernel_rfl)) (fun _ _ _ h => h) (Or.inl ⟨by rfl, ?_⟩) hHeld ?_ ?_
          rotate_left
          ·rintro w' ⟨s0, s1, s2, s3, s4, s5, s6, s7, s8⟩
           go_simp
           with_reducible rfl
          rotate_left
          ·simp only [Act.put, List.setIfInBounds_toArray, List.set_cons_zero, List.set_cons_succ, i64_w, i32_w]
           rfl
          refine take_ (i := 17) (N := some 69) (v := ?_) (a' := ?_) #[true, true, true, true, true, true, true, true, true, true, true, true, true, true, true, true, true, true, false, false, false, false, false, false, false, false, false, false, false, false, false] rfl rfl (take_ofW HT_.out HW_.out (by kernel_rfl)) (fun _ _ _ h => h) (Or.inl ⟨by rfl, ?_⟩) hHeld ?_ ?_
          rotate_left
          ·rintro w' ⟨s0, s1, s2, s3, s4, s5, s6, s7, s8⟩
           go_simp
           with_reducible rfl
          rotate_left
          ·simp only [Act.put, List.setIfInBounds_toArray, List.set_cons_zero, List.set_cons_succ, i64_w, i32_w]
           rfl
          refine pure_ (i := 18) (N := some 70) (v := ?_) (a' := ?_) #[true, true, true, true, true, true, true, true, true, true, true, true, true, true, true, true, true, true, true, false, false, false, false, false, false, false, false, false, false, false, false] rfl rfl (any_of HT_.out (by kernel_rfl)) (fun _ _ _ h => h) (Or.inl ⟨by rfl, ?_⟩) ?_ ?_
          rotate_left
          ·intro w'
           go_simp
           with_reducible rfl
          rotate_left
          ·simp only [Act.put, List.setIfInBounds_toArray, List.set_cons_zero, List.set_cons_succ, i64_w, i32_w]
           rfl
          refine pure_ (i := 19) (N := some 71) (v := ?_) (a' := ?_) #[true, true, true, true, true, true, true, true, true, true, true, true, true, true, true, true, true, true, true, true, false, false, false, false, false, false, false, false, false, false, false] rfl rfl (any_of HT_.out (by kernel_rfl)) (fun _ _ _ h => h) (Or.inl ⟨by rfl, ?_⟩) ?_ ?_
          rotate_left
          ·intro w'
           go_simp
           with_reducible rfl
          rotate_left
          ·simp only [Act.put, List.setIfInBounds_toArray, List.set_cons_zero, List.set_cons_succ, i64_w, i32_w]
           rfl
          refine pure_ (i := 20) (N := some 72) (v := ?_) (a' := ?_) #[true, true, true, true, true, true, true, true, true, true, true, true, true, true, true, true, true, true, true, true, true, false, false, false, false, false, false, false, false, false, false] rfl rfl (any_of HT_.out (by kernel_rfl)) (fun _ _ _ h => h) (Or.inl ⟨by rfl, ?_⟩) ?_ ?_
          rotate_left
          ·intro w'
           go_simp
           with_reducible rfl
          rotate_left
          ·simp only [Act.put, List.setIfInBounds_toArray, List.set_cons_zero, List.set_cons_succ, i64_w, i32_w]
           rfl
          refine pure_ (i := 21) (N := some 73) (v := ?_) (a' := ?_) #[true, true, true, true, true, true, true, true, true, true, true, true, true, true, true, true, true, true, true, true, true, true, false, false, false, false, false, false, false, false, false] rfl rfl (any_of HT_.out (by kernel_rfl)) (fun _ _ _ h => h) (Or.inl ⟨by rfl, ?_⟩) ?_ ?_
          rotate_left
          ·intro w'
           go_simp
           with_reducible rfl
          rotate_left
          ·simp only [Act.put, List.setIfInBounds_toArray, List.set_cons_zero, List.set_cons_succ, i64_w, i32_w]
           rfl
          refine pure_ (i := 22) (N := some 74) (v := ?_) (a' := ?_) #[true, true, true, true, true, true, true, true, true, true, true, true, true, true, true, true, true, true, true, true, true, true, true, false, false, false, false, false, false, false, false] rfl rfl (any_of HT_.out (by kernel_rfl)) (fun _ _ _ h => h) (Or.inl ⟨by rfl, ?_⟩) ?_ ?_
          rotate_left
          ·intro w'
           go_simp
           with_reducible rfl
          rotate_left
          ·simp only [Act.put, List.setIfInBounds_toArray, List.set_cons_zero, List.set_cons_succ, i64_w, i32_w]
           rfl
          refine pure_ (i := 23) (N := some 75) (v := ?_) (a' := ?_) #[true, true, true, true, true, true, true, true, true, true, true, true, true, true, true, true, true, true, true, true, true, true, true, true, false, false, false, false, false, false, false] rfl rfl (any_of HT_.out (by kernel_rfl)) (fun _ _ _ h => h) (Or.inl ⟨by rfl, ?_⟩) ?_ ?_
          rotate_left
          ·intro w'
           go_simp
           with_reducible rfl
          rotate_left
          ·simp only [Act.put, List.setIfInBounds_toArray, List.set_cons_zero, List.set_cons_succ, i64_w, i32_w]
           rfl
          refine pure_ (i := 24) (N := some 76) (v := ?_) (a' := ?_) #[true, true, true, true, true, true, true, true, true, true, true, true, true, true, true, true, true, true, true, true, true, true, true, true, true, false, false, false, false, false, false] rfl rfl (any_of HT_.out (by kernel_rfl)) (fun _ _ _ h => h) (Or.inl ⟨by rfl, ?_⟩) ?_ ?_
          rotate_left
          ·intro w'
           go_simp
           with_reducible rfl
          rotate_left
          ·simp only [Act.put, List.setIfInBounds_toArray, List.set_cons_zero, List.set_cons_succ, i64_w, i32_w]
           rfl
          refine pure_ (i := 25) (N := some 77) (v := ?_) (a' := ?_) #[true, true, true, true, true, true, true, true, true, true, true, true, true, true, true, true, true, true, true, true, true, true, true, true, true, true, false, false, false, false, false] rfl rfl (any_of HT_.out (by kernel_rfl)) (fun _ _ _ h => h) (Or.inl ⟨by rfl, ?_⟩) ?_ ?_
          rotate_left
          ·intro w'
           go_simp
           with_reducible rfl
          rotate_left
          ·simp only [Act.put, List.setIfInBounds_toArray, List.set_cons_zero, List.set_cons_succ, i64_w, i32_w]
           rfl
          refine pure_ (i := 26) (N := some 78) (v := undef) (a' := ?_) #[true, true, true, true, true, true, true, true, true, true, true, true, true, true, true, true, true, true, true, true, true, true, true, true, true, true, true, false, false, false, false] rfl rfl (any_of HT_.out (by kernel_rfl)) (fun _ _ _ h => h) (Or.inr ⟨by rfl, rfl⟩) ?_ ?_
          rotate_left
          ·simp only [Act.put, List.setIfInBounds_toArray, List.set_cons_zero, List.set_cons_succ, i64_w, i32_w]
           rfl
          refine pure_ (i := 27) (N := some 79) (v := undef) (a' := ?_) #[true, true, true, true, true, true, true, true, true, true, true, true, true, true, true, true, true, true, true, true, true, true, true, true, true, true, true, true, false, false, false] rfl rfl (any_of HT_.out (by kernel_rfl)) (fun _ _ _ h => h) (Or.inr ⟨by rfl, rfl⟩) ?_ ?_
          rotate_left
          ·simp only [Act.put, List.setIfInBounds_toArray, List.set_cons_zero, List.set_cons_succ, i64_w, i32_w]
           rfl
          refine pure_ (i := 28) (N := some 80) (v := undef) (a' := ?_) #[true, true, true, true, true, true, true, true, true, true, true, true, true, true, true, true, true, true, true, true, true, true, true, true, true, true, true, true, true, false, false] rfl rfl (any_of HT_.out (by kernel_rfl)) (fun _ _ _ h => h) (Or.inr ⟨by rfl, rfl⟩) ?_ ?_
          rotate_left
          ·simp only [Act.put, List.setIfInBounds_toArray, List.set_cons_zero, List.set_cons_succ, i64_w, i32_w]
           rfl
          refine pure_ (i := 29) (N := some 81) (v := ?_) (a' := ?_) #[true, true, true, true, true, true, true, true, true, true, true, true, true, true, true, true, true, true, true, true, true, true, true, true, true, true, true, true, true, true, false] rfl rfl (any_of HT_.out (by kernel_rfl)) (fun _ _ _ h => h) (Or.inl ⟨by rfl, ?_⟩) ?_ ?_
          rotate_left
          ·intro w'
           go_simp
           with_reducible rfl
          rotate_left
          ·simp only [Act.put, List.setIfInBounds_toArray, List.set_cons_zero, List.set_cons_succ, i64_w, i32_w]
           rfl
          refine pure_ (i := 30) (N := some 6) (v := ?_) (a' := ?_) #[true, true, true, true, true, true, true, true, true, true, true, true, true, true, true, true, true, true, true, true, true, true, true, true, true, true, true, true, true, true, true] rfl rfl (any_of HT_.out (by kernel_rfl)) (fun _ _ _ h => h) (Or.inl ⟨by rfl, ?_⟩) ?_ ?_
          rotate_left
          ·intro w'
           go_simp
           with_reducible rfl
          rotate_left
          ·simp only [Act.put, List.setIfInBounds_toArray, List.set_cons_zero, List.set_cons_succ, i64_w, i32_w]
           rfl
          refine done_ (done_of HT_.out (by kernel_rfl)) ?_
          try go_wp2
          go_ret
          exact ⟨by first | rfl | (simp [errW_none, errW_some] <;> rfl) | (simp [*, errW_none, errW_some] <;> rfl), by repeat (first | (with_reducible first | exact HB.out | apply bA | apply bN | apply bD | refine bS ?_ GE464.out | refine bS ?_ GE475.out | refine bS ?_ GE481.out) | exact HB.out)⟩
        ·rw [if_neg c22] at H
         have c22b0 : (t470 == t476 && (t471 == t477 && (t472.toList == t478.toList))) = false := by simpa using c22
         (try (have c22b1 : decide (t470 = t476 && (t471 == t477 && (t472.toList == t478.toList))) = false := by simpa using c22))
         (try (have c22b2 : (t470 == t476 && (t471 == t477 && (t472.toList == t478.toList))) = false := by simpa using c22))
         (try (have c22b3 : ¬ (t470 = t476 && (t471 == t477 && (t472.toList == t478.toList))) := by simpa using c22))
         (try (have c22b4 : ((t470 = t476 ∧ (t471 = t477 ∧ (t472.toList = t478.toList)))) = False := by simpa using c22))
         clear c22
         obtain rfl := Option.some.inj H
         have hcz58_0 : wc.cell? ⟨gb464, 0, none⟩ = some (.int .i64 a0_0) := (zC BK464.out 0).trans rfl
         have hcz58_1 : wc.cell? ⟨gb464, 1, none⟩ = some (.int .i64 a0_1) := (zC BK464.out 1).trans rfl
         have hcz58_2 : wc.cell? ⟨gb464, 2, none⟩ = some (.string a0_2) := (zC BK464.out 2).trans rfl
         have hfz58_0 := zF BK464.out 0
         have hfz58_1 := zF BK464.out 1
         have hfz58_2 := zF BK464.out 2
         try go_wp2_with (first | ((with_reducible refine gate_callee (f := 90) rfl ?_); refine goesL_ (some 31) rfl rfl Try.func90 (by kernel_rfl) rfl #[.agg #[.int .i64 a0_0, .int .i64 a0_1, .string a0_2], .int .i64 a1] rfl (by (try simp only [List.map_toArray, List.map_cons, List.map_nil]); first | done | rfl | (simp only [List.length_drop, List.length_take]; rfl)) ?_; (with_reducible refine (udp_Put.calls a0_0 a0_1 a0_2 a1 t466 t467 _ A13.out).mono ?_); rintro e w59 ⟨rfl, hb⟩; refine ⟨_, rfl, ?_⟩; have n0_ := mA (blk_below (g := gb464) (o := .cells #[.int .i64 a0_0, .int .i64 a0_1, .string a0_2] 102 (0, 0)) (by (with_reducible repeat (first | apply kN | apply kD | apply kA)); exact BK464.out) hb); have n1_ := mA (bP (by repeat (first | (with_reducible first | exact HB.out | apply bA | apply bN | apply bD | refine bS ?_ GE464.out) | exact HB.out)) hb); clear BK464; clear HB; have BK464 := n0_; have HB := n1_; clear n0_ n1_; (try clear hb); (try clear hb2); (try clear hk); (try clear hi); have hcz60_0 : w59.cell? ⟨gb464, 0, none⟩ = some (.int .i64 a0_0) := (zC BK464.out 0).trans rfl; have hcz60_1 : w59.cell? ⟨gb464, 1, none⟩ = some (.int .i64 a0_1) := (zC BK464.out 1).trans rfl; have hcz60_2 : w59.cell? ⟨gb464, 2, none⟩ = some (.string a0_2) := (zC BK464.out 2).trans rfl; have hfz60_0 := zF BK464.out 0; have hfz60_1 := zF BK464.out 1; have hfz60_2 := zF BK464.out 2) | ((with_reducible refine gate_callee (f := 91) rfl ?_); refine goesL_ (some 37) rfl rfl Try.func91 (by kernel_rfl) rfl #[.agg #[.int .i64 a0_0, .int .i64 a0_1, .string a0_2], .int .i64 a1] rfl (by (try simp only [List.map_toArray, List.map_cons, List.map_nil]); first | done | rfl | (simp only [List.length_drop, List.length_take]; rfl)) ?_; (with_reducible refine (palanquinref08_Put.calls kj5 a0_0 a0_1 a0_2 a1 t468 t469 _ A14.out).mono ?_); rintro e w61 ⟨rfl, hb⟩; refine ⟨_, rfl, ?_⟩; have n0_ := mA (blk_below (g := gb464) (o := .cells #[.int .i64 a0_0, .int .i64 a0_1, .string a0_2] 102 (0, 0)) (by (with_reducible repeat (first | apply kN | apply kD | apply kA)); exact BK464.out) hb); have n1_ := mA (bP (by repeat (first | (with_reducible first | exact HB.out | apply bA | apply bN | apply bD | refine bS ?_ GE464.out) | exact HB.out)) hb); clear BK464; clear HB; have BK464 := n0_; have HB := n1_; clear n0_ n1_; (try clear hb); (try clear hb2); (try clear hk); (try clear hi)) | ((with_reducible refine gate_callee (f := 92) rfl ?_); refine goesL_ (some 42) rfl rfl Try.func92 (by kernel_rfl) rfl #[.string a2] rfl (by (try simp only [List.map_toArray, List.map_cons, List.map_nil]); first | done | rfl | (simp only [List.length_drop, List.length_take]; rfl)) ?_; (with_reducible refine (udp_Get.calls a2 t470 t471 t472 t473 t474 _ A15.out).mono ?_); rintro e w62 ⟨rfl, hb⟩; refine ⟨_, rfl, ?_⟩; have n0_ := mA (blk_below (g := gb464) (o := .cells #[.int .i64 a0_0, .int .i64 a0_1, .string a0_2] 102 (0, 0)) (by (with_reducible repeat (first | apply kN | apply kD | apply kA)); exact BK464.out) hb); have n1_ := mA (bP (by repeat (first | (with_reducible first | exact HB.out | apply bA | apply bN | apply bD | refine bS ?_ GE464.out) | exact HB.out)) hb); clear BK464; clear HB; have BK464 := n0_; have HB := n1_; clear n0_ n1_; (try clear hb); (try clear hb2); (try clear hk); (try clear hi)) | ((with_reducible refine gate_dst (N := 11) rfl ?_); (try (refine gate_guard (by rfl) ?_; dsimp only)); refine box_event ?hg (N := 11) ?hd (cs := #[.int .i64 0, .int .i64 0, .string (⟨#[]⟩ : ByteArray)]) (t := 102) ?hr ?_; (case hd => rfl); (case hg => rfl); (case hr => first | (go_simp; done) | (go_simp; rfl)); intro gb475 hg w63 hbox hb; have n0_ := mA (blk_below (g := gb464) (o := .cells #[.int .i64 a0_0, .int .i64 a0_1, .string a0_2] 102 (0, 0)) (by (with_reducible repeat (first | apply kN | apply kD | apply kA)); exact BK464.out) hb); have n1_ := mA (bP (by repeat (first | (with_reducible first | exact HB.out | apply bA | apply bN | apply bD | refine bS ?_ GE464.out) | exact HB.out)) hb); have n2_ := mA (hbox); have n3_ := mA ((by rw [hg]; exact (below_size (by repeat (first | (with_reducible first | exact HB.out | apply bA | apply bN | apply bD | refine bS ?_ GE464.out) | exact HB.out))) : w.heap.size ≤ gb475)); have n4_ := mA ((by rw [hg]; exact (below_size (by repeat (first | (with_reducible first | exact HB.out | apply bA | apply bN | apply bD | refine bS ?_ GE464.out) | exact HB.out))) : w.heap.size ≤ gb475)); have n5_ := mA ((by rw [hg]; exact Nat.ne_of_lt (blk_lt (g := gb464) (o := .cells #[.int .i64 a0_0, .int .i64 a0_1, .string a0_2] 102 (0, 0)) (by (with_reducible repeat (first | apply kN | apply kD | apply kA)); exact BK464.out)) : gb464 ≠ gb475)); have n6_ := mA ((by rw [hg]; exact Nat.ne_of_gt (blk_lt (g := gb464) (o := .cells #[.int .i64 a0_0, .int .i64 a0_1, .string a0_2] 102 (0, 0)) (by (with_reducible repeat (first | apply kN | apply kD | apply kA)); exact BK464.out)) : gb475 ≠ gb464)); clear BK464; clear HB; have BK464 := n0_; have HB := n1_; have BK475 := n2_; have GW475 := n3_; have GE475 := n4_; have NB464_475 := n5_; have NB475_464 := n6_; clear n0_ n1_ n2_ n3_ n4_ n5_ n6_; clear hb hbox hg; have hnb64 := NB475_464.out; have hnc64 := NB464_475.out; have hcz65_0 : w63.cell? ⟨gb475, 0, none⟩ = some (.int .i64 0) := (zC BK475.out 0).trans rfl; have hcz65_1 : w63.cell? ⟨gb475, 1, none⟩ = some (.int .i64 0) := (zC BK475.out 1).trans rfl; have hcz65_2 : w63.cell? ⟨gb475, 2, none⟩ = some (.string (⟨#[]⟩ : ByteArray)) := (zC BK475.out 2).trans rfl; have hfz65_0 := zF BK475.out 0; have hfz65_1 := zF BK475.out 1; have hfz65_2 := zF BK475.out 2) | ((with_reducible refine gate_callee (f := 93) rfl ?_); refine goesL_ (some 48) rfl rfl Try.func93 (by kernel_rfl) rfl #[.string a2] rfl (by (try simp only [List.map_toArray, List.map_cons, List.map_nil]); first | done | rfl | (simp only [List.length_drop, List.length_take]; rfl)) ?_; (with_reducible refine (palanquinref08_Get.calls kj5 a2 t476 t477 t478 t479 t480 _ A16.out).mono ?_); rintro e w66 ⟨rfl, hb⟩; refine ⟨_, rfl, ?_⟩; have n0_ := mA (blk_below (g := gb464) (o := .cells #[.int .i64 a0_0, .int .i64 a0_1, .string a0_2] 102 (0, 0)) (by (with_reducible repeat (first | apply kN | apply kD | apply kA)); refine blk_far ?_ NB464_475.out _; (with_reducible repeat (first | apply kN | apply kD | apply kA)); refine blk_far ?_ NB464_475.out _; (with_reducible repeat (first | apply kN | apply kD | apply kA)); refine blk_far ?_ NB464_475.out _; (with_reducible repeat (first | apply kN | apply kD | apply kA)); exact BK464.out) hb); have n1_ := mA (blk_below (g := gb475) (o := .cells #[.int .i64 t470, .int .i64 t471, .string t472] 102 (0, 0)) (by (with_reducible repeat (first | apply kN | apply kD | apply kA)); refine blk_put (cs := #[.int .i64 t470, .int .i64 t471, .string (⟨#[]⟩ : ByteArray)]) ?_ 2 _ rfl; (with_reducible repeat (first | apply kN | apply kD | apply kA)); refine blk_put (cs := #[.int .i64 t470, .int .i64 0, .string (⟨#[]⟩ : ByteArray)]) ?_ 1 _ rfl; (with_reducible repeat (first | apply kN | apply kD | apply kA)); refine blk_put (cs := #[.int .i64 0, .int .i64 0, .string (⟨#[]⟩ : ByteArray)]) ?_ 0 _ rfl; (with_reducible repeat (first | apply kN | apply kD | apply kA)); exact BK475.out) hb); have n2_ := mA (bP (by repeat (first | (with_reducible first | exact HB.out | apply bA | apply bN | apply bD | refine bS ?_ GE464.out | refine bS ?_ GE475.out) | exact HB.out)) hb); clear BK464; clear BK475; clear HB; have BK464 := n0_; have BK475 := n1_; have HB := n2_; clear n0_ n1_ n2_; (try clear hb); (try clear hb2); (try clear hk); (try clear hi)) | ((with_reducible refine gate_dst (N := 14) rfl ?_); (try (refine gate_guard (by rfl) ?_; dsimp only)); refine box_event ?hg (N := 14) ?hd (cs := #[.int .i64 0, .int .i64 0, .string (⟨#[]⟩ : ByteArray)]) (t := 102) ?hr ?_; (case hd => rfl); (case hg => rfl); (case hr => first | (go_simp; done) | (go_simp; rfl)); intro gb481 hg w67 hbox hb; have n0_ := mA (blk_below (g := gb464) (o := .cells #[.int .i64 a0_0, .int .i64 a0_1, .string a0_2] 102 (0, 0)) (by (with_reducible repeat (first | apply kN | apply kD | apply kA)); exact BK464.out) hb); have n1_ := mA (blk_below (g := gb475) (o := .cells #[.int .i64 t470, .int .i64 t471, .string t472] 102 (0, 0)) (by (with_reducible repeat (first | apply kN | apply kD | apply kA)); exact BK475.out) hb); have n2_ := mA (bP (by repeat (first | (with_reducible first | exact HB.out | apply bA | apply bN | apply bD | refine bS ?_ GE464.out | refine bS ?_ GE475.out) | exact HB.out)) hb); have n3_ := mA (hbox); have n4_ := mA ((by rw [hg]; exact (below_size (by repeat (first | (with_reducible first | exact HB.out | apply bA | apply bN | apply bD | refine bS ?_ GE464.out | refine bS ?_ GE475.out) | exact HB.out))) : w.heap.size ≤ gb481)); have n5_ := mA ((by rw [hg]; exact (below_size (by repeat (first | (with_reducible first | exact HB.out | apply bA | apply bN | apply bD | refine bS ?_ GE464.out | refine bS ?_ GE475.out) | exact HB.out))) : w.heap.size ≤ gb481)); have n6_ := mA ((by rw [hg]; exact Nat.ne_of_lt (blk_lt (g := gb464) (o := .cells #[.int .i64 a0_0, .int .i64 a0_1, .string a0_2] 102 (0, 0)) (by (with_reducible repeat (first | apply kN | apply kD | apply kA)); exact BK464.out)) : gb464 ≠ gb481)); have n7_ := mA ((by rw [hg]; exact Nat.ne_of_gt (blk_lt (g := gb464) (o := .cells #[.int .i64 a0_0, .int .i64 a0_1, .string a0_2] 102 (0, 0)) (by (with_reducible repeat (first | apply kN | apply kD | apply kA)); exact BK464.out)) : gb481 ≠ gb464)); have n8_ := mA ((by rw [hg]; exact Nat.ne_of_lt (blk_lt (g := gb475) (o := .cells #[.int .i64 t470, .int .i64 t471, .string t472] 102 (0, 0)) (by (with_reducible repeat (first | apply kN | apply kD | apply kA)); exact BK475.out)) : gb475 ≠ gb481)); have n9_ := mA ((by rw [hg]; exact Nat.ne_of_gt (blk_lt (g := gb475) (o := .cells #[.int .i64 t470, .int .i64 t471, .string t472] 102 (0, 0)) (by (with_reducible repeat (first | apply kN | apply kD | apply kA)); exact BK475.out)) : gb481 ≠ gb475)); clear BK464; clear BK475; clear HB; have BK464 := n0_; have BK475 := n1_; have HB := n2_; have BK481 := n3_; have GW481 := n4_; have GE481 := n5_; have NB464_481 := n6_; have NB481_464 := n7_; have NB475_481 := n8_; have NB481_475 := n9_; clear n0_ n1_ n2_ n3_ n4_ n5_ n6_ n7_ n8_ n9_; clear hb hbox hg; have hnb68 := NB481_464.out; have hnc68 := NB464_481.out; have hnb69 := NB481_475.out; have hnc69 := NB475_481.out; have hcz70_0 : w67.cell? ⟨gb481, 0, none⟩ = some (.int .i64 0) := (zC BK481.out 0).trans rfl; have hcz70_1 : w67.cell? ⟨gb481, 1, none⟩ = some (.int .i64 0) := (zC BK481.out 1).trans rfl; have hcz70_2 : w67.cell? ⟨gb481, 2, none⟩ = some (.string (⟨#[]⟩ : ByteArray)) := (zC BK481.out 2).trans rfl; have hfz70_0 := zF BK481.out 0; have hfz70_1 := zF BK481.out 1; have hfz70_2 := zF BK481.out 2))
         have n0_ : Aside0 ((((w67.setCell ⟨gb481, 0, none⟩ (.int .i64 t476)).setCell ⟨gb481, 1, none⟩ (.int .i64 t477)).setCell ⟨gb481, 2, none⟩ (.string t478)).heap[gb464]? = some (.cells #[.int .i64 a0_0, .int .i64 a0_1, .string a0_2] 102 (0, 0))) := ⟨by (with_reducible repeat (first | apply kN | apply kD | apply kA)); refine blk_far ?_ NB464_481.out _; (with_reducible repeat (first | apply kN | apply kD | apply kA)); refine blk_far ?_ NB464_481.out _; (with_reducible repeat (first | apply kN | apply kD | apply kA)); refine blk_far ?_ NB464_481.out _; (with_reducible repeat (first | apply kN | apply kD | apply kA)); exact BK464.out⟩
         have n1_ : Aside0 ((((w67.setCell ⟨gb481, 0, none⟩ (.int .i64 t476)).setCell ⟨gb481, 1, none⟩ (.int .i64 t477)).setCell ⟨gb481, 2, none⟩ (.string t478)).heap[gb475]? = some (.cells #[.int .i64 t470, .int .i64 t471, .string t472] 102 (0, 0))) := ⟨by (with_reducible repeat (first | apply kN | apply kD | apply kA)); refine blk_far ?_ NB475_481.out _; (with_reducible repeat (first | apply kN | apply kD | apply kA)); refine blk_far ?_ NB475_481.out _; (with_reducible repeat (first | apply kN | apply kD | apply kA)); refine blk_far ?_ NB475_481.out _; (with_reducible repeat (first | apply kN | apply kD | apply kA)); exact BK475.out⟩
         have n2_ : Aside0 ((((w67.setCell ⟨gb481, 0, none⟩ (.int .i64 t476)).setCell ⟨gb481, 1, none⟩ (.int .i64 t477)).setCell ⟨gb481, 2, none⟩ (.string t478)).heap[gb481]? = some (.cells #[.int .i64 t476, .int .i64 t477, .string t478] 102 (0, 0))) := ⟨by (with_reducible repeat (first | apply kN | apply kD | apply kA)); refine blk_put (cs := #[.int .i64 t476, .int .i64 t477, .string (⟨#[]⟩ : ByteArray)]) ?_ 2 _ rfl; (with_reducible repeat (first | apply kN | apply kD | apply kA)); refine blk_put (cs := #[.int .i64 t476, .int .i64 0, .string (⟨#[]⟩ : ByteArray)]) ?_ 1 _ rfl; (with_reducible repeat (first | apply kN | apply kD | apply kA)); refine blk_put (cs := #[.int .i64 0, .int .i64 0, .string (⟨#[]⟩ : ByteArray)]) ?_ 0 _ rfl; (with_reducible repeat (first | apply kN | apply kD | apply kA)); exact BK481.out⟩
         have n3_ : Aside0 (Below w.heap.size w (((w67.setCell ⟨gb481, 0, none⟩ (.int .i64 t476)).setCell ⟨gb481, 1, none⟩ (.int .i64 t477)).setCell ⟨gb481, 2, none⟩ (.string t478))) := ⟨by repeat (first | (with_reducible first | exact HB.out | apply bA | apply bN | apply bD | refine bS ?_ GE464.out | refine bS ?_ GE475.out | refine bS ?_ GE481.out) | exact HB.out)⟩
         (try clear BK464)
         (try clear BK475)
         (try clear BK481)
         (try clear HB)
         generalize (((w67.setCell ⟨gb481, 0, none⟩ (.int .i64 t476)).setCell ⟨gb481, 1, none⟩ (.int .i64 t477)).setCell ⟨gb481, 2, none⟩ (.string t478)) = w71 at n0_ n1_ n2_ n3_ ⊢
         have BK464 := n0_
         have BK475 := n1_
         have BK481 := n2_
         have HB := n3_
         clear n0_ n1_ n2_ n3_
         have n0_ := mA (kD BK464.out)
         have n1_ := mA (kD BK475.out)
         have n2_ := mA (kD BK481.out)
         have n3_ := mA (bD HB.out)
         clear BK464
         clear BK475
         clear BK481
         clear HB
         have BK464 := n0_
         have BK475 := n1_
         have BK481 := n2_
         have HB := n3_
         clear n0_ n1_ n2_ n3_
         refine start_ (n := 31) (S := fun w' => w'.cell? ⟨gb464, 0, none⟩ = some (.int .i64 a0_0) ∧ w'.cell? ⟨gb464, 1, none⟩ = some (.int .i64 a0_1) ∧ w'.cell? ⟨gb464, 2, none⟩ = some (.string a0_2) ∧ w'.cell? ⟨gb475, 0, none⟩ = some (.int .i64 t470) ∧ w'.cell? ⟨gb475, 1, none⟩ = some (.int .i64 t471) ∧ w'.cell? ⟨gb475, 2, none⟩ = some (.string t472) ∧ w'.cell? ⟨gb481, 0, none⟩ = some (.int .i64 t476) ∧ w'.cell? ⟨gb481, 1, none⟩ = some (.int .i64 t477) ∧ w'.cell? ⟨gb481, 2, none⟩ = some (.string t478)) (ds := []) #[false, false, false, false, false, false, false, false, false, false, false, false, false, false, false, false, false, false, false, false, false, false, false, false, false, false, false, false, false, false, false] (by kernel_rfl) rfl rfl ⟨(zC BK464.out 0).trans rfl, (zC BK464.out 1).trans rfl, (zC BK464.out 2).trans rfl, (zC BK475.out 0).trans rfl, (zC BK475.out 1).trans rfl, (zC BK475.out 2).trans rfl, (zC BK481.out 0).trans rfl, (zC BK481.out 1).trans rfl, (zC BK481.out 2).trans rfl⟩ (fun hHeld => ?_); refine with_tabW palanquinlaw08_UdpTells.tab9 palanquinlaw08_UdpTells.bits9 (fun HT_ HW_ => ?_)
         generalize w71.drew = w72 at BK464 BK475 BK481 HB hHeld ⊢
         refine pure_ (i := 0) (N := some 52) (v := ?_) (a' := ?_) #[true, false, false, false, false, false, false, false, false, false, false, false, false, false, false, false, false, false, false, false, false, false, false, false, false, false, false, false, false, false, false] rfl rfl (any_of HT_.out (by kernel_rfl)) (fun _ _ _ h => h) (Or.inl ⟨by rfl, ?_⟩) ?_ ?_
         rotate_left
         ·intro w'
          go_simp
          with_reducible rfl
         rotate_left
         ·simp only [Act.put, List.setIfInBounds_toArray, List.set_cons_zero, List.set_cons_succ, i64_w, i32_w]
          rfl
         refine pure_ (i := 1) (N := some 53) (v := ?_) (a' := ?_) #[true, true, false, false, false, false, false, false, false, false, false, false, false, false, false, false, false, false, false, false, false, false, false, false, false, false, false, false, false, false, false] rfl rfl (any_of HT_.out (by kernel_rfl)) (fun _ _ _ h => h) (Or.inl ⟨by rfl, ?_⟩) ?_ ?_
         rotate_left
         ·intro w'
          go_simp
          with_reducible rfl
         rotate_left
         ·simp only [Act.put, List.setIfInBounds_toArray, List.set_cons_zero, List.set_cons_succ, i64_w, i32_w]
          rfl
         refine pure_ (i := 2) (N := some 54) (v := ?_) (a' := ?_) #[true, true, true, false, false, false, false, false, false, false, false, false, false, false, false, false, false, false, false, false, false, false, false, false, false, false, false, false, false, false, false] rfl rfl (any_of HT_.out (by kernel_rfl)) (fun _ _ _ h => h) (Or.inl ⟨by rfl, ?_⟩) ?_ ?_
         rotate_left
         ·intro w'
          go_simp
          with_reducible rfl
         rotate_left
         ·simp only [Act.put, List.setIfInBounds_toArray, List.set_cons_zero, List.set_cons_succ, i64_w, i32_w]
          rfl
         refine pure_ (i := 3) (N := some 55) (v := ?_) (a' := ?_) #[true, true, true, true, false, false, false, false, false, false, false, false, false, false, false, false, false, false, false, false, false, false, false, false, false, false, false, false, false, false, false] rfl rfl (any_of HT_.out (by kernel_rfl)) (fun _ _ _ h => h) (Or.inl ⟨by rfl, ?_⟩) ?_ ?_
         rotate_left
         ·intro w'
          go_simp
          with_reducible rfl
         rotate_left
         ·simp only [Act.put, List.setIfInBounds_toArray, List.set_cons_zero, List.set_cons_succ, i64_w, i32_w]
          rfl
         refine pure_ (i := 4) (N := some 56) (v := ?_) (a' := ?_) #[true, true, true, true, true, false, false, false, false, false, false, false, false, false, false, false, false, false, false, false, false, false, false, false, false, false, false, false, false, false, false] rfl rfl (any_of HT_.out (by kernel_rfl)) (fun _ _ _ h => h) (Or.inl ⟨by rfl, ?_⟩) ?_ ?_
         rotate_left
         ·intro w'
          go_simp
          with_reducible rfl
         rotate_left
         ·simp only [Act.put, List.setIfInBounds_toArray, List.set_cons_zero, List.set_cons_succ, i64_w, i32_w]
          rfl
         refine pure_ (i := 5) (N := some 57) (v := ?_) (a' := ?_) #[true, true, true, true, true, true, false, false, false, false, false, false, false, false, false, false, false, false, false, false, false, false, false, false, false, false, false, false, false, false, false] rfl rfl (any_of HT_.out (by kernel_rfl)) (fun _ _ _ h => h) (Or.inl ⟨by rfl, ?_⟩) ?_ ?_
         rotate_left
         ·intro w'
          go_simp
          with_reducible rfl
         rotate_left
         ·simp only [Act.put, List.setIfInBounds_toArray, List.set_cons_zero, List.set_cons_succ, i64_w, i32_w]
          rfl
         refine pure_ (i := 6) (N := some 58) (v := ?_) (a' := ?_) #[true, true, true, true, true, true, true, false, false, false, false, false, false, false, false, false, false, false, false, false, false, false, false, false, false, false, false, false, false, false, false] rfl rfl (any_of HT_.out (by kernel_rfl)) (fun _ _ _ h => h) (Or.inl ⟨by rfl, ?_⟩) ?_ ?_
         rotate_left
         ·intro w'
          go_simp
          with_reducible rfl
         rotate_left
         ·simp only [Act.put, List.setIfInBounds_toArray, List.set_cons_zero, List.set_cons_succ, i64_w, i32_w]
          rfl
         refine pure_ (i := 7) (N := some 59) (v := ?_) (a' := ?_) #[true, true, true, true, true, true, true, true, false, false, false, false, false, false, false, false, false, false, false, false, false, false, false, false, false, false, false, false, false, false, false] rfl rfl (any_of HT_.out (by kernel_rfl)) (fun _ _ _ h => h) (Or.inl ⟨by rfl, ?_⟩) ?_ ?_
         rotate_left
         ·intro w'
          go_simp
          with_reducible rfl
         rotate_left
         ·simp only [Act.put, List.setIfInBounds_toArray, List.set_cons_zero, List.set_cons_succ, i64_w, i32_w]
          rfl
         refine pure_ (i := 8) (N := some 60) (v := ?_) (a' := ?_) #[true, true, true, true, true, true, true, true, true, false, false, false, false, false, false, false, false, false, false, false, false, false, false, false, false, false, false, false, false, false, false] rfl rfl (any_of HT_.out (by kernel_rfl)) (fun _ _ _ h => h) (Or.inl ⟨by rfl, ?_⟩) ?_ ?_
         rotate_left
         ·intro w'
          go_simp
          with_reducible rfl
         rotate_left
         ·simp only [Act.put, List.setIfInBounds_toArray, List.set_cons_zero, List.set_cons_succ, i64_w, i32_w]
          rfl
         refine take_ (i := 9) (N := some 61) (v := ?_) (a' := ?_) #[true, true, true, true, true, true, true, true, true, true, false, false, false, false, false, false, false, false, false, false, false, false, false, false, false, false, false, false, false, false, false] rfl rfl (take_ofW HT_.out HW_.out (by kernel_rfl)) (fun _ _ _ h => h) (Or.inl ⟨by rfl, ?_⟩) hHeld ?_ ?_
         rotate_left
         ·rintro w' ⟨s0, s1, s2, s3, s4, s5, s6, s7, s8⟩
          go_simp
          with_reducible rfl
         rotate_left
         ·simp only [Act.put, List.setIfInBounds_toArray, List.set_cons_zero, List.set_cons_succ, i64_w, i32_w]
          rfl
         refine take_ (i := 11) (N := some 63) (v := ?_) (a' := ?_) #[true, true, true, true, true, true, true, true, true, true, false, true, false, false, false, false, false, false, false, false, false, false, false, false, false, false, false, false, false, false, false] rfl rfl (take_ofW HT_.out HW_.out (by kernel_rfl)) (fun _ _ _ h => h) (Or.inl ⟨by rfl, ?_⟩) hHeld ?_ ?_
         rotate_left
         ·rintro w' ⟨s0, s1, s2, s3, s4, s5, s6, s7, s8⟩
          go_simp
          with_reducible rfl
         rotate_left
         ·simp only [Act.put, List.setIfInBounds_toArray, List.set_cons_zero, List.set_cons_succ, i64_w, i32_w]
          rfl
         refine one_ (i := 10) (N := some 62) #[true, true, true, true, true, true, true, true, true, true, true, true, false, false, false, false, false, false, false, false, false, false, false, false, false, false, false, false, false, false, false] rfl rfl (one_of HT_.out (by kernel_rfl)) (by decide) (fun K hK => ?_)
         refine goes_ Try.func94 (by kernel_rfl) rfl #[.agg #[.int .i64 a0_0, .int .i64 a0_1, .string a0_2]] (by rfl) rfl rfl (by (try simp only [List.map_toArray, List.map_cons, List.map_nil]); first | done | rfl | (simp only [List.length_drop, List.length_take]; rfl)) ?_
         with_reducible refine (udp_Check.calls a0_0 a0_1 a0_2 t482 _ A19.out).mono ?_
         rintro e w73 ⟨rfl, hb⟩
         refine ⟨_, rfl, ?_⟩
         have n0_ := mA (blk_below (g := gb464) (o := .cells #[.int .i64 a0_0, .int .i64 a0_1, .string a0_2] 102 (0, 0)) (by (with_reducible repeat (first | apply kN | apply kD | apply kA)); exact BK464.out) hb)
         have n1_ := mA (blk_below (g := gb475) (o := .cells #[.int .i64 t470, .int .i64 t471, .string t472] 102 (0, 0)) (by (with_reducible repeat (first | apply kN | apply kD | apply kA)); exact BK475.out) hb)
         have n2_ := mA (blk_below (g := gb481) (o := .cells #[.int .i64 t476, .int .i64 t477, .string t478] 102 (0, 0)) (by (with_reducible repeat (first | apply kN | apply kD | apply kA)); exact BK481.out) hb)
         have n3_ := mA (bP (by repeat (first | (with_reducible first | exact HB.out | apply bA | apply bN | apply bD | refine bS ?_ GE464.out | refine bS ?_ GE475.out | refine bS ?_ GE481.out) | exact HB.out)) hb)
         clear BK464
         clear BK475
         clear BK481
         clear HB
         have BK464 := n0_
         have BK475 := n1_
         have BK481 := n2_
         have HB := n3_
         clear n0_ n1_ n2_ n3_
         (try clear hb)
         (try clear hb2)
         (try clear hk)
         (try clear hi)
         refine hK.out _ _ ⟨(zC BK464.out 0).trans rfl, (zC BK464.out 1).trans rfl, (zC BK464.out 2).trans rfl, (zC BK475.out 0).trans rfl, (zC BK475.out 1).trans rfl, (zC BK475.out 2).trans rfl, (zC BK481.out 0).trans rfl, (zC BK481.out 1).trans rfl, (zC BK481.out 2).trans rfl⟩ (fun hHeld => ?_)
         clear hK K
         refine norm_ (a' := ?_) ?_ ?_
         rotate_left
         ·show Act.put _ (some 62) _ = _
          simp only [Act.put, List.setIfInBounds_toArray, List.set_cons_zero, List.set_cons_succ, i64_w, i32_w]
          rfl
         refine one_ (i := 12) (N := some 64) #[true, true, true, true, true, true, true, true, true, true, true, true, true, false, false, false, false, false, false, false, false, false, false, false, false, false, false, false, false, false, false] rfl rfl (one_of HT_.out (by kernel_rfl)) (by decide) (fun K hK => ?_)
         refine goes_ Try.func95 (by kernel_rfl) rfl #[.agg #[.int .i64 a0_0, .int .i64 a0_1, .string a0_2]] (by rfl) rfl rfl (by (try simp only [List.map_toArray, List.map_cons, List.map_nil]); first | done | rfl | (simp only [List.length_drop, List.length_take]; rfl)) ?_
         with_reducible refine (palanquinref08_Check.calls kj5 a0_0 a0_1 a0_2 t483 _ A20.out).mono ?_
         rintro e w74 ⟨rfl, hb⟩
         refine ⟨_, rfl, ?_⟩
         have n0_ := mA (blk_below (g := gb464) (o := .cells #[.int .i64 a0_0, .int .i64 a0_1, .string a0_2] 102 (0, 0)) (by (with_reducible repeat (first | apply kN | apply kD | apply kA)); exact BK464.out) hb)
         have n1_ := mA (blk_below (g := gb475) (o := .cells #[.int .i64 t470, .int .i64 t471, .string t472] 102 (0, 0)) (by (with_reducible repeat (first | apply kN | apply kD | apply kA)); exact BK475.out) hb)
         have n2_ := mA (blk_below (g := gb481) (o := .cells #[.int .i64 t476, .int .i64 t477, .string t478] 102 (0, 0)) (by (with_reducible repeat (first | apply kN | apply kD | apply kA)); exact BK481.out) hb)
         have n3_ := mA (bP (by repeat (first | (with_reducible first | exact HB.out | apply bA | apply bN | apply bD | refine bS ?_ GE464.out | refine bS ?_ GE475.out | refine bS ?_ GE481.out) | exact HB.out)) hb)
         clear BK464
         clear BK475
         clear BK481
         clear HB
         have BK464 := n0_
         have BK475 := n1_
         have BK481 := n2_
         have HB := n3_
         clear n0_ n1_ n2_ n3_
         (try clear hb)
         (try clear hb2)
         (try clear hk)
         (try clear hi)
         refine hK.out _ _ ⟨(zC BK464.out 0).trans rfl, (zC BK464.out 1).trans rfl, (zC BK464.out 2).trans rfl, (zC BK475.out 0).trans rfl, (zC BK475.out 1).trans rfl, (zC BK475.out 2).trans rfl, (zC BK481.out 0).trans rfl, (zC BK481.out 1).trans rfl, (zC BK481.out 2).trans rfl⟩ (fun hHeld => ?_)
         clear hK K
         refine norm_ (a' := ?_) ?_ ?_
         rotate_left
         ·show Act.put _ (some 64) _ = _
          simp only [Act.put, List.setIfInBounds_toArray, List.set_cons_zero, List.set_cons_succ, i64_w, i32_w]
          rfl
         refine pure_ (i := 13) (N := some 65) (v := ?_) (a' := ?_) #[true, true, true, true, true, true, true, true, true, true, true, true, true, true, false, false, false, false, false, false, false, false, false, false, false, false, false, false, false, false, false] rfl rfl (any_of HT_.out (by kernel_rfl)) (fun _ _ _ h => h) (Or.inl ⟨by rfl, ?_⟩) ?_ ?_
         rotate_left
         ·intro w'
          go_simp
          with_reducible rfl
         rotate_left
         ·simp only [Act.put, List.setIfInBounds_toArray, List.set_cons_zero, List.set_cons_succ, i64_w, i32_w]
          rfl
         refine pure_ (i := 14) (N := some 66) (v := ?_) (a' := ?_) #[true, true, true, true, true, true, true, true, true, true, true, true, true, true, true, false, false, false, false, false, false, false, false, false, false, false, false, false, false, false, false] rfl rfl (any_of HT_.out (by kernel_rfl)) (fun _ _ _ h => h) (Or.inl ⟨by rfl, ?_⟩) ?_ ?_
         rotate_left
         ·intro w'
          go_simp
          with_reducible rfl
         rotate_left
         ·simp only [Act.put, List.setIfInBounds_toArray, List.set_cons_zero, List.set_cons_succ, i64_w, i32_w]
          rfl
         refine pure_ (i := 15) (N := some 67) (v := ?_) (a' := ?_) #[true, true, true, true, true, true, true, true, true, true, true, true, true, true, true, true, false, false, false, false, false, false, false, false, false, false, false, false, false, false, false] rfl rfl (any_of HT_.out (by kernel_rfl)) (fun _ _ _ h => h) (Or.inl ⟨by rfl, ?_⟩) ?_ ?_
         rotate_left
         ·intro w'
          go_simp
          with_reducible rfl
         rotate_left
         ·simp only [Act.put, List.setIfInBounds_toArray, List.set_cons_zero, List.set_cons_succ, i64_w, i32_w]
          rfl
         refine take_ (i := 16) (N := some 68) (v := ?_) (a' := ?_) #[true, true, true, true, true, true, true, true, true, true, true, true, true, true, true, true, true, false, false, false, false, false, false, false, false, false, false, false, false, false, false] rfl rfl (take_ofW HT_.out HW_.out (by kernel_rfl)) (fun _ _ _ h => h) (Or.inl ⟨by rfl, ?_⟩) hHeld ?_ ?_
         rotate_left
         ·rintro w' ⟨s0, s1, s2, s3, s4, s5, s6, s7, s8⟩
          go_simp
          with_reducible rfl
         rotate_left
         ·simp only [Act.put, List.setIfInBounds_toArray, List.set_cons_zero, List.set_cons_succ, i64_w, i32_w]
          rfl
         refine take_ (i := 17) (N := some 69) (v := ?_) (a' := ?_) #[true, true, true, true, true, true, true, true, true, true, true, true, true, true, true, true, true, true, false, false, false, false, false, false, false, false, false, false, false, false, false] rfl rfl (take_ofW HT_.out HW_.out (by kernel_rfl)) (fun _ _ _ h => h) (Or.inl ⟨by rfl, ?_⟩) hHeld ?_ ?_
         rotate_left
         ·rintro w' ⟨s0, s1, s2, s3, s4, s5, s6, s7, s8⟩
          go_simp
          with_reducible rfl
         rotate_left
         ·simp only [Act.put, List.setIfInBounds_toArray, List.set_cons_zero, List.set_cons_succ, i64_w, i32_w]
          rfl
         refine pure_ (i := 18) (N := some 70) (v := ?_) (a' := ?_) #[true, true, true, true, true, true, true, true, true, true, true, true, true, true, true, true, true, true, true, false, false, false, false, false, false, false, false, false, false, false, false] rfl rfl (any_of HT_.out (by kernel_rfl)) (fun _ _ _ h => h) (Or.inl ⟨by rfl, ?_⟩) ?_ ?_
         rotate_left
         ·intro w'
          go_simp
          with_reducible rfl
         rotate_left
         ·simp only [Act.put, List.setIfInBounds_toArray, List.set_cons_zero, List.set_cons_succ, i64_w, i32_w]
          rfl
         refine pure_ (i := 19) (N := some 71) (v := ?_) (a' := ?_) #[true, true, true, true, true, true, true, true, true, true, true, true, true, true, true, true, true, true, true, true, false, false, false, false, false, false, false, false, false, false, false] rfl rfl (any_of HT_.out (by kernel_rfl)) (fun _ _ _ h => h) (Or.inl ⟨by rfl, ?_⟩) ?_ ?_
         rotate_left
         ·intro w'
          go_simp
          with_reducible rfl
         rotate_left
         ·simp only [Act.put, List.setIfInBounds_toArray, List.set_cons_zero, List.set_cons_succ, i64_w, i32_w]
          rfl
         refine pure_ (i := 20) (N := some 72) (v := ?_) (a' := ?_) #[true, true, true, true, true, true, true, true, true, true, true, true, true, true, true, true, true, true, true, true, true, false, false, false, false, false, false, false, false, false, false] rfl rfl (any_of HT_.out (by kernel_rfl)) (fun _ _ _ h => h) (Or.inl ⟨by rfl, ?_⟩) ?_ ?_
         rotate_left
         ·intro w'
          go_simp
          with_reducible rfl
         rotate_left
         ·simp only [Act.put, List.setIfInBounds_toArray, List.set_cons_zero, List.set_cons_succ, i64_w, i32_w]
          rfl
         refine pure_ (i := 21) (N := some 73) (v := undef) (a' := ?_) #[true, true, true, true, true, true, true, true, true, true, true, true, true, true, true, true, true, true, true, true, true, true, false, false, false, false, false, false, false, false, false] rfl rfl (any_of HT_.out (by kernel_rfl)) (fun _ _ _ h => h) (Or.inr ⟨by rfl, rfl⟩) ?_ ?_
         rotate_left
         ·simp only [Act.put, List.setIfInBounds_toArray, List.set_cons_zero, List.set_cons_succ, i64_w, i32_w]
          rfl
         refine pure_ (i := 22) (N := some 74) (v := undef) (a' := ?_) #[true, true, true, true, true, true, true, true, true, true, true, true, true, true, true, true, true, true, true, true, true, true, true, false, false, false, false, false, false, false, false] rfl rfl (any_of HT_.out (by kernel_rfl)) (fun _ _ _ h => h) (Or.inr ⟨by rfl, rfl⟩) ?_ ?_
         rotate_left
         ·simp only [Act.put, List.setIfInBounds_toArray, List.set_cons_zero, List.set_cons_succ, i64_w, i32_w]
          rfl
         refine pure_ (i := 23) (N := some 75) (v := undef) (a' := ?_) #[true, true, true, true, true, true, true, true, true, true, true, true, true, true, true, true, true, true, true, true, true, true, true, true, false, false, false, false, false, false, false] rfl rfl (any_of HT_.out (by kernel_rfl)) (fun _ _ _ h => h) (Or.inr ⟨by rfl, rfl⟩) ?_ ?_
         rotate_left
         ·simp only [Act.put, List.setIfInBounds_toArray, List.set_cons_zero, List.set_cons_succ, i64_w, i32_w]
          rfl
         refine pure_ (i := 24) (N := some 76) (v := ?_) (a' := ?_) #[true, true, true, true, true, true, true, true, true, true, true, true, true, true, true, true, true, true, true, true, true, true, true, true, true, false, false, false, false, false, false] rfl rfl (any_of HT_.out (by kernel_rfl)) (fun _ _ _ h => h) (Or.inl ⟨by rfl, ?_⟩) ?_ ?_
         rotate_left
         ·intro w'
          go_simp
          with_reducible rfl
         rotate_left
         ·simp only [Act.put, List.setIfInBounds_toArray, List.set_cons_zero, List.set_cons_succ, i64_w, i32_w]
          rfl
         refine pure_ (i := 25) (N := some 77) (v := ?_) (a' := ?_) #[true, true, true, true, true, true, true, true, true, true, true, true, true, true, true, true, true, true, true, true, true, true, true, true, true, true, false, false, false, false, false] rfl rfl (any_of HT_.out (by kernel_rfl)) (fun _ _ _ h => h) (Or.inl ⟨by rfl, ?_⟩) ?_ ?_
         rotate_left
         ·intro w'
          go_simp
          with_reducible rfl
         rotate_left
         ·simp only [Act.put, List.setIfInBounds_toArray, List.set_cons_zero, List.set_cons_succ, i64_w, i32_w]
          rfl
         refine pure_ (i := 26) (N := some 78) (v := undef) (a' := ?_) #[true, true, true, true, true, true, true, true, true, true, true, true, true, true, true, true, true, true, true, true, true, true, true, true, true, true, true, false, false, false, false] rfl rfl (any_of HT_.out (by kernel_rfl)) (fun _ _ _ h => h) (Or.inr ⟨by rfl, rfl⟩) ?_ ?_
         rotate_left
         ·simp only [Act.put, List.setIfInBounds_toArray, List.set_cons_zero, List.set_cons_succ, i64_w, i32_w]
          rfl
         refine pure_ (i := 27) (N := some 79) (v := undef) (a' := ?_) #[true, true, true, true, true, true, true, true, true, true, true, true, true, true, true, true, true, true, true, true, true, true, true, true, true, true, true, true, false, false, false] rfl rfl (any_of HT_.out (by kernel_rfl)) (fun _ _ _ h => h) (Or.inr ⟨by rfl, rfl⟩) ?_ ?_
         rotate_left
         ·simp only [Act.put, List.setIfInBounds_toArray, List.set_cons_zero, List.set_cons_succ, i64_w, i32_w]
          rfl
         refine pure_ (i := 28) (N := some 80) (v := undef) (a' := ?_) #[true, true, true, true, true, true, true, true, true, true, true, true, true, true, true, true, true, true, true, true, true, true, true, true, true, true, true, true, true, false, false] rfl rfl (any_of HT_.out (by kernel_rfl)) (fun _ _ _ h => h) (Or.inr ⟨by rfl, rfl⟩) ?_ ?_
         rotate_left
         ·simp only [Act.put, List.setIfInBounds_toArray, List.set_cons_zero, List.set_cons_succ, i64_w, i32_w]
          rfl
         refine pure_ (i := 29) (N := some 81) (v := ?_) (a' := ?_) #[true, true, true, true, true, true, true, true, true, true, true, true, true, true, true, true, true, true, true, true, true, true, true, true, true, true, true, true, true, true, false] rfl rfl (any_of HT_.out (by kernel_rfl)) (fun _ _ _ h => h) (Or.inl ⟨by rfl, ?_⟩) ?_ ?_
         rotate_left
         ·intro w'
          go_simp
          with_reducible rfl
         rotate_left
         ·simp only [Act.put, List.setIfInBounds_toArray, List.set_cons_zero, List.set_cons_succ, i64_w, i32_w]
          rfl
         refine pure_ (i := 30) (N := some 6) (v := ?_) (a' := ?_) #[true, true, true, true, true, true, true, true, true, true, true, true, true, true, true, true, true, true, true, true, true, true, true, true, true, true, true, true, true, true, true] rfl rfl (any_of HT_.out (by kernel_rfl)) (fun _ _ _ h => h) (Or.inl ⟨by rfl, ?_⟩) ?_ ?_
         rotate_left
         ·intro w'
          go_simp
          with_reducible rfl
         rotate_left
         ·simp only [Act.put, List.setIfInBounds_toArray, List.set_cons_zero, List.set_cons_succ, i64_w, i32_w]
          rfl
         refine done_ (done_of HT_.out (by kernel_rfl)) ?_
         try go_wp2
         go_ret
         exact ⟨by first | rfl | (simp [errW_none, errW_some] <;> rfl) | (simp [*, errW_none, errW_some] <;> rfl), by repeat (first | (with_reducible first | exact HB.out | apply bA | apply bN | apply bD | refine bS ?_ GE464.out | refine bS ?_ GE475.out | refine bS ?_ GE481.out) | exact HB.out)⟩
       ·rw [if_neg c21] at H
        have c21b0 : (t482 == t483) = false := beq_eq_false_iff_ne.mpr c21
        have c21b1 : (t482 != t483) = true := bne_iff_ne.mpr c21
        obtain rfl := Option.some.inj H
        have hcz75_0 : wc.cell? ⟨gb464, 0, none⟩ = some (.int .i64 a0_0) := (zC BK464.out 0).trans rfl
        have hcz75_1 : wc.cell? ⟨gb464, 1, none⟩ = some (.int .i64 a0_1) := (zC BK464.out 1).trans rfl
        have hcz75_2 : wc.cell? ⟨gb464, 2, none⟩ = some (.string a0_2) := (zC BK464.out 2).trans rfl
        have hfz75_0 := zF BK464.out 0
        have hfz75_1 := zF BK464.out 1
        have hfz75_2 := zF BK464.out 2
        try go_wp2_with (first | ((with_reducible refine gate_callee (f := 90) rfl ?_); refine goesL_ (some 31) rfl rfl Try.func90 (by kernel_rfl) rfl #[.agg #[.int .i64 a0_0, .int .i64 a0_1, .string a0_2], .int .i64 a1] rfl (by (try simp only [List.map_toArray, List.map_cons, List.map_nil]); first | done | rfl | (simp only [List.length_drop, List.length_take]; rfl)) ?_; (with_reducible refine (udp_Put.calls a0_0 a0_1 a0_2 a1 t466 t467 _ A13.out).mono ?_); rintro e w76 ⟨rfl, hb⟩; refine ⟨_, rfl, ?_⟩; have n0_ := mA (blk_below (g := gb464) (o := .cells #[.int .i64 a0_0, .int .i64 a0_1, .string a0_2] 102 (0, 0)) (by (with_reducible repeat (first | apply kN | apply kD | apply kA)); exact BK464.out) hb); have n1_ := mA (bP (by repeat (first | (with_reducible first | exact HB.out | apply bA | apply bN | apply bD | refine bS ?_ GE464.out) | exact HB.out)) hb); clear BK464; clear HB; have BK464 := n0_; have HB := n1_; clear n0_ n1_; (try clear hb); (try clear hb2); (try clear hk); (try clear hi); have hcz77_0 : w76.cell? ⟨gb464, 0, none⟩ = some (.int .i64 a0_0) := (zC BK464.out 0).trans rfl; have hcz77_1 : w76.cell? ⟨gb464, 1, none⟩ = some (.int .i64 a0_1) := (zC BK464.out 1).trans rfl; have hcz77_2 : w76.cell? ⟨gb464, 2, none⟩ = some (.string a0_2) := (zC BK464.out 2).trans rfl; have hfz77_0 := zF BK464.out 0; have hfz77_1 := zF BK464.out 1; have hfz77_2 := zF BK464.out 2) | ((with_reducible refine gate_callee (f := 91) rfl ?_); refine goesL_ (some 37) rfl rfl Try.func91 (by kernel_rfl) rfl #[.agg #[.int .i64 a0_0, .int .i64 a0_1, .string a0_2], .int .i64 a1] rfl (by (try simp only [List.map_toArray, List.map_cons, List.map_nil]); first | done | rfl | (simp only [List.length_drop, List.length_take]; rfl)) ?_; (with_reducible refine (palanquinref08_Put.calls kj5 a0_0 a0_1 a0_2 a1 t468 t469 _ A14.out).mono ?_); rintro e w78 ⟨rfl, hb⟩; refine ⟨_, rfl, ?_⟩; have n0_ := mA (blk_below (g := gb464) (o := .cells #[.int .i64 a0_0, .int .i64 a0_1, .string a0_2] 102 (0, 0)) (by (with_reducible repeat (first | apply kN | apply kD | apply kA)); exact BK464.out) hb); have n1_ := mA (bP (by repeat (first | (with_reducible first | exact HB.out | apply bA | apply bN | apply bD | refine bS ?_ GE464.out) | exact HB.out)) hb); clear BK464; clear HB; have BK464 := n0_; have HB := n1_; clear n0_ n1_; (try clear hb); (try clear hb2); (try clear hk); (try clear hi)) | ((with_reducible refine gate_callee (f := 92) rfl ?_); refine goesL_ (some 42) rfl rfl Try.func92 (by kernel_rfl) rfl #[.string a2] rfl (by (try simp only [List.map_toArray, List.map_cons, List.map_nil]); first | done | rfl | (simp only [List.length_drop, List.length_take]; rfl)) ?_; (with_reducible refine (udp_Get.calls a2 t470 t471 t472 t473 t474 _ A15.out).mono ?_); rintro e w79 ⟨rfl, hb⟩; refine ⟨_, rfl, ?_⟩; have n0_ := mA (blk_below (g := gb464) (o := .cells #[.int .i64 a0_0, .int .i64 a0_1, .string a0_2] 102 (0, 0)) (by (with_reducible repeat (first | apply kN | apply kD | apply kA)); exact BK464.out) hb); have n1_ := mA (bP (by repeat (first | (with_reducible first | exact HB.out | apply bA | apply bN | apply bD | refine bS ?_ GE464.out) | exact HB.out)) hb); clear BK464; clear HB; have BK464 := n0_; have HB := n1_; clear n0_ n1_; (try clear hb); (try clear hb2); (try clear hk); (try clear hi)) | ((with_reducible refine gate_dst (N := 11) rfl ?_); (try (refine gate_guard (by rfl) ?_; dsimp only)); refine box_event ?hg (N := 11) ?hd (cs := #[.int .i64 0, .int .i64 0, .string (⟨#[]⟩ : ByteArray)]) (t := 102) ?hr ?_; (case hd => rfl); (case hg => rfl); (case hr => first | (go_simp; done) | (go_simp; rfl)); intro gb475 hg w80 hbox hb; have n0_ := mA (blk_below (g := gb464) (o := .cells #[.int .i64 a0_0, .int .i64 a0_1, .string a0_2] 102 (0, 0)) (by (with_reducible repeat (first | apply kN | apply kD | apply kA)); exact BK464.out) hb); have n1_ := mA (bP (by repeat (first | (with_reducible first | exact HB.out | apply bA | apply bN | apply bD | refine bS ?_ GE464.out) | exact HB.out)) hb); have n2_ := mA (hbox); have n3_ := mA ((by rw [hg]; exact (below_size (by repeat (first | (with_reducible first | exact HB.out | apply bA | apply bN | apply bD | refine bS ?_ GE464.out) | exact HB.out))) : w.heap.size ≤ gb475)); have n4_ := mA ((by rw [hg]; exact (below_size (by repeat (first | (with_reducible first | exact HB.out | apply bA | apply bN | apply bD | refine bS ?_ GE464.out) | exact HB.out))) : w.heap.size ≤ gb475)); have n5_ := mA ((by rw [hg]; exact Nat.ne_of_lt (blk_lt (g := gb464) (o := .cells #[.int .i64 a0_0, .int .i64 a0_1, .string a0_2] 102 (0, 0)) (by (with_reducible repeat (first | apply kN | apply kD | apply kA)); exact BK464.out)) : gb464 ≠ gb475)); have n6_ := mA ((by rw [hg]; exact Nat.ne_of_gt (blk_lt (g := gb464) (o := .cells #[.int .i64 a0_0, .int .i64 a0_1, .string a0_2] 102 (0, 0)) (by (with_reducible repeat (first | apply kN | apply kD | apply kA)); exact BK464.out)) : gb475 ≠ gb464)); clear BK464; clear HB; have BK464 := n0_; have HB := n1_; have BK475 := n2_; have GW475 := n3_; have GE475 := n4_; have NB464_475 := n5_; have NB475_464 := n6_; clear n0_ n1_ n2_ n3_ n4_ n5_ n6_; clear hb hbox hg; have hnb81 := NB475_464.out; have hnc81 := NB464_475.out; have hcz82_0 : w80.cell? ⟨gb475, 0, none⟩ = some (.int .i64 0) := (zC BK475.out 0).trans rfl; have hcz82_1 : w80.cell? ⟨gb475, 1, none⟩ = some (.int .i64 0) := (zC BK475.out 1).trans rfl; have hcz82_2 : w80.cell? ⟨gb475, 2, none⟩ = some (.string (⟨#[]⟩ : ByteArray)) := (zC BK475.out 2).trans rfl; have hfz82_0 := zF BK475.out 0; have hfz82_1 := zF BK475.out 1; have hfz82_2 := zF BK475.out 2) | ((with_reducible refine gate_callee (f := 93) rfl ?_); refine goesL_ (some 48) rfl rfl Try.func93 (by kernel_rfl) rfl #[.string a2] rfl (by (try simp only [List.map_toArray, List.map_cons, List.map_nil]); first | done | rfl | (simp only [List.length_drop, List.length_take]; rfl)) ?_; (with_reducible refine (palanquinref08_Get.calls kj5 a2 t476 t477 t478 t479 t480 _ A16.out).mono ?_); rintro e w83 ⟨rfl, hb⟩; refine ⟨_, rfl, ?_⟩; have n0_ := mA (blk_below (g := gb464) (o := .cells #[.int .i64 a0_0, .int .i64 a0_1, .string a0_2] 102 (0, 0)) (by (with_reducible repeat (first | apply kN | apply kD | apply kA)); refine blk_far ?_ NB464_475.out _; (with_reducible repeat (first | apply kN | apply kD | apply kA)); refine blk_far ?_ NB464_475.out _; (with_reducible repeat (first | apply kN | apply kD | apply kA)); refine blk_far ?_ NB464_475.out _; (with_reducible repeat (first | apply kN | apply kD | apply kA)); exact BK464.out) hb); have n1_ := mA (blk_below (g := gb475) (o := .cells #[.int .i64 t470, .int .i64 t471, .string t472] 102 (0, 0)) (by (with_reducible repeat (first | apply kN | apply kD | apply kA)); refine blk_put (cs := #[.int .i64 t470, .int .i64 t471, .string (⟨#[]⟩ : ByteArray)]) ?_ 2 _ rfl; (with_reducible repeat (first | apply kN | apply kD | apply kA)); refine blk_put (cs := #[.int .i64 t470, .int .i64 0, .string (⟨#[]⟩ : ByteArray)]) ?_ 1 _ rfl; (with_reducible repeat (first | apply kN | apply kD | apply kA)); refine blk_put (cs := #[.int .i64 0, .int .i64 0, .string (⟨#[]⟩ : ByteArray)]) ?_ 0 _ rfl; (with_reducible repeat (first | apply kN | apply kD | apply kA)); exact BK475.out) hb); have n2_ := mA (bP (by repeat (first | (with_reducible first | exact HB.out | apply bA | apply bN | apply bD | refine bS ?_ GE464.out | refine bS ?_ GE475.out) | exact HB.out)) hb); clear BK464; clear BK475; clear HB; have BK464 := n0_; have BK475 := n1_; have HB := n2_; clear n0_ n1_ n2_; (try clear hb); (try clear hb2); (try clear hk); (try clear hi)) | ((with_reducible refine gate_dst (N := 14) rfl ?_); (try (refine gate_guard (by rfl) ?_; dsimp only)); refine box_event ?hg (N := 14) ?hd (cs := #[.int .i64 0, .int .i64 0, .string (⟨#[]⟩ : ByteArray)]) (t := 102) ?hr ?_; (case hd => rfl); (case hg => rfl); (case hr => first | (go_simp; done) | (go_simp; rfl)); intro gb481 hg w84 hbox hb; have n0_ := mA (blk_below (g := gb464) (o := .cells #[.int .i64 a0_0, .int .i64 a0_1, .string a0_2] 102 (0, 0)) (by (with_reducible repeat (first | apply kN | apply kD | apply kA)); exact BK464.out) hb); have n1_ := mA (blk_below (g := gb475) (o := .cells #[.int .i64 t470, .int .i64 t471, .string t472] 102 (0, 0)) (by (with_reducible repeat (first | apply kN | apply kD | apply kA)); exact BK475.out) hb); have n2_ := mA (bP (by repeat (first | (with_reducible first | exact HB.out | apply bA | apply bN | apply bD | refine bS ?_ GE464.out | refine bS ?_ GE475.out) | exact HB.out)) hb); have n3_ := mA (hbox); have n4_ := mA ((by rw [hg]; exact (below_size (by repeat (first | (with_reducible first | exact HB.out | apply bA | apply bN | apply bD | refine bS ?_ GE464.out | refine bS ?_ GE475.out) | exact HB.out))) : w.heap.size ≤ gb481)); have n5_ := mA ((by rw [hg]; exact (below_size (by repeat (first | (with_reducible first | exact HB.out | apply bA | apply bN | apply bD | refine bS ?_ GE464.out | refine bS ?_ GE475.out) | exact HB.out))) : w.heap.size ≤ gb481)); have n6_ := mA ((by rw [hg]; exact Nat.ne_of_lt (blk_lt (g := gb464) (o := .cells #[.int .i64 a0_0, .int .i64 a0_1, .string a0_2] 102 (0, 0)) (by (with_reducible repeat (first | apply kN | apply kD | apply kA)); exact BK464.out)) : gb464 ≠ gb481)); have n7_ := mA ((by rw [hg]; exact Nat.ne_of_gt (blk_lt (g := gb464) (o := .cells #[.int .i64 a0_0, .int .i64 a0_1, .string a0_2] 102 (0, 0)) (by (with_reducible repeat (first | apply kN | apply kD | apply kA)); exact BK464.out)) : gb481 ≠ gb464)); have n8_ := mA ((by rw [hg]; exact Nat.ne_of_lt (blk_lt (g := gb475) (o := .cells #[.int .i64 t470, .int .i64 t471, .string t472] 102 (0, 0)) (by (with_reducible repeat (first | apply kN | apply kD | apply kA)); exact BK475.out)) : gb475 ≠ gb481)); have n9_ := mA ((by rw [hg]; exact Nat.ne_of_gt (blk_lt (g := gb475) (o := .cells #[.int .i64 t470, .int .i64 t471, .string t472] 102 (0, 0)) (by (with_reducible repeat (first | apply kN | apply kD | apply kA)); exact BK475.out)) : gb481 ≠ gb475)); clear BK464; clear BK475; clear HB; have BK464 := n0_; have BK475 := n1_; have HB := n2_; have BK481 := n3_; have GW481 := n4_; have GE481 := n5_; have NB464_481 := n6_; have NB481_464 := n7_; have NB475_481 := n8_; have NB481_475 := n9_; clear n0_ n1_ n2_ n3_ n4_ n5_ n6_ n7_ n8_ n9_; clear hb hbox hg; have hnb85 := NB481_464.out; have hnc85 := NB464_481.out; have hnb86 := NB481_475.out; have hnc86 := NB475_481.out; have hcz87_0 : w84.cell? ⟨gb481, 0, none⟩ = some (.int .i64 0) := (zC BK481.out 0).trans rfl; have hcz87_1 : w84.cell? ⟨gb481, 1, none⟩ = some (.int .i64 0) := (zC BK481.out 1).trans rfl; have hcz87_2 : w84.cell? ⟨gb481, 2, none⟩ = some (.string (⟨#[]⟩ : ByteArray)) := (zC BK481.out 2).trans rfl; have hfz87_0 := zF BK481.out 0; have hfz87_1 := zF BK481.out 1; have hfz87_2 := zF BK481.out 2))
        have n0_ : Aside0 ((((w84.setCell ⟨gb481, 0, none⟩ (.int .i64 t476)).setCell ⟨gb481, 1, none⟩ (.int .i64 t477)).setCell ⟨gb481, 2, none⟩ (.string t478)).heap[gb464]? = some (.cells #[.int .i64 a0_0, .int .i64 a0_1, .string a0_2] 102 (0, 0))) := ⟨by (with_reducible repeat (first | apply kN | apply kD | apply kA)); refine blk_far ?_ NB464_481.out _; (with_reducible repeat (first | apply kN | apply kD | apply kA)); refine blk_far ?_ NB464_481.out _; (with_reducible repeat (first | apply kN | apply kD | apply kA)); refine blk_far ?_ NB464_481.out _; (with_reducible repeat (first | apply kN | apply kD | apply kA)); exact BK464.out⟩
        have n1_ : Aside0 ((((w84.setCell ⟨gb481, 0, none⟩ (.int .i64 t476)).setCell ⟨gb481, 1, none⟩ (.int .i64 t477)).setCell ⟨gb481, 2, none⟩ (.string t478)).heap[gb475]? = some (.cells #[.int .i64 t470, .int .i64 t471, .string t472] 102 (0, 0))) := ⟨by (with_reducible repeat (first | apply kN | apply kD | apply kA)); refine blk_far ?_ NB475_481.out _; (with_reducible repeat (first | apply kN | apply kD | apply kA)); refine blk_far ?_ NB475_481.out _; (with_reducible repeat (first | apply kN | apply kD | apply kA)); refine blk_far ?_ NB475_481.out _; (with_reducible repeat (first | apply kN | apply kD | apply kA)); exact BK475.out⟩
        have n2_ : Aside0 ((((w84.setCell ⟨gb481, 0, none⟩ (.int .i64 t476)).setCell ⟨gb481, 1, none⟩ (.int .i64 t477)).setCell ⟨gb481, 2, none⟩ (.string t478)).heap[gb481]? = some (.cells #[.int .i64 t476, .int .i64 t477, .string t478] 102 (0, 0))) := ⟨by (with_reducible repeat (first | apply kN | apply kD | apply kA)); refine blk_put (cs := #[.int .i64 t476, .int .i64 t477, .string (⟨#[]⟩ : ByteArray)]) ?_ 2 _ rfl; (with_reducible repeat (first | apply kN | apply kD | apply kA)); refine blk_put (cs := #[.int .i64 t476, .int .i64 0, .string (⟨#[]⟩ : ByteArray)]) ?_ 1 _ rfl; (with_reducible repeat (first | apply kN | apply kD | apply kA)); refine blk_put (cs := #[.int .i64 0, .int .i64 0, .string (⟨#[]⟩ : ByteArray)]) ?_ 0 _ rfl; (with_reducible repeat (first | apply kN | apply kD | apply kA)); exact BK481.out⟩
        have n3_ : Aside0 (Below w.heap.size w (((w84.setCell ⟨gb481, 0, none⟩ (.int .i64 t476)).setCell ⟨gb481, 1, none⟩ (.int .i64 t477)).setCell ⟨gb481, 2, none⟩ (.string t478))) := ⟨by repeat (first | (with_reducible first | exact HB.out | apply bA | apply bN | apply bD | refine bS ?_ GE464.out | refine bS ?_ GE475.out | refine bS ?_ GE481.out) | exact HB.out)⟩
        (try clear BK464)
        (try clear BK475)
        (try clear BK481)
        (try clear HB)
        generalize (((w84.setCell ⟨gb481, 0, none⟩ (.int .i64 t476)).setCell ⟨gb481, 1, none⟩ (.int .i64 t477)).setCell ⟨gb481, 2, none⟩ (.string t478)) = w88 at n0_ n1_ n2_ n3_ ⊢
        have BK464 := n0_
        have BK475 := n1_
        have BK481 := n2_
        have HB := n3_
        clear n0_ n1_ n2_ n3_
        have n0_ := mA (kD BK464.out)
        have n1_ := mA (kD BK475.out)
        have n2_ := mA (kD BK481.out)
        have n3_ := mA (bD HB.out)
        clear BK464
        clear BK475
        clear BK481
        clear HB
        have BK464 := n0_
        have BK475 := n1_
        have BK481 := n2_
        have HB := n3_
        clear n0_ n1_ n2_ n3_
        refine start_ (n := 31) (S := fun w' => w'.cell? ⟨gb464, 0, none⟩ = some (.int .i64 a0_0) ∧ w'.cell? ⟨gb464, 1, none⟩ = some (.int .i64 a0_1) ∧ w'.cell? ⟨gb464, 2, none⟩ = some (.string a0_2)) (ds := []) #[false, false, false, false, false, false, false, false, false, false, false, false, false, false, false, false, false, false, false, false, false, false, false, false, false, false, false, false, false, false, false] (by kernel_rfl) rfl rfl ⟨(zC BK464.out 0).trans rfl, (zC BK464.out 1).trans rfl, (zC BK464.out 2).trans rfl⟩ (fun hHeld => ?_); refine with_tabW palanquinlaw08_UdpTells.tab9 palanquinlaw08_UdpTells.bits9 (fun HT_ HW_ => ?_)
        generalize w88.drew = w89 at BK464 BK475 BK481 HB hHeld ⊢
        refine pure_ (i := 0) (N := some 52) (v := ?_) (a' := ?_) #[true, false, false, false, false, false, false, false, false, false, false, false, false, false, false, false, false, false, false, false, false, false, false, false, false, false, false, false, false, false, false] rfl rfl (any_of HT_.out (by kernel_rfl)) (fun _ _ _ h => h) (Or.inl ⟨by rfl, ?_⟩) ?_ ?_
        rotate_left
        ·intro w'
         go_simp
         with_reducible rfl
        rotate_left
        ·simp only [Act.put, List.setIfInBounds_toArray, List.set_cons_zero, List.set_cons_succ, i64_w, i32_w]
         rfl
        refine pure_ (i := 1) (N := some 53) (v := ?_) (a' := ?_) #[true, true, false, false, false, false, false, false, false, false, false, false, false, false, false, false, false, false, false, false, false, false, false, false, false, false, false, false, false, false, false] rfl rfl (any_of HT_.out (by kernel_rfl)) (fun _ _ _ h => h) (Or.inl ⟨by rfl, ?_⟩) ?_ ?_
        rotate_left
        ·intro w'
         go_simp
         with_reducible rfl
        rotate_left
        ·simp only [Act.put, List.setIfInBounds_toArray, List.set_cons_zero, List.set_cons_succ, i64_w, i32_w]
         rfl
        refine pure_ (i := 2) (N := some 54) (v := ?_) (a' := ?_) #[true, true, true, false, false, false, false, false, false, false, false, false, false, false, false, false, false, false, false, false, false, false, false, false, false, false, false, false, false, false, false] rfl rfl (any_of HT_.out (by kernel_rfl)) (fun _ _ _ h => h) (Or.inl ⟨by rfl, ?_⟩) ?_ ?_
        rotate_left
        ·intro w'
         go_simp
         with_reducible rfl
        rotate_left
        ·simp only [Act.put, List.setIfInBounds_toArray, List.set_cons_zero, List.set_cons_succ, i64_w, i32_w]
         rfl
        refine pure_ (i := 3) (N := some 55) (v := ?_) (a' := ?_) #[true, true, true, true, false, false, false, false, false, false, false, false, false, false, false, false, false, false, false, false, false, false, false, false, false, false, false, false, false, false, false] rfl rfl (any_of HT_.out (by kernel_rfl)) (fun _ _ _ h => h) (Or.inl ⟨by rfl, ?_⟩) ?_ ?_
        rotate_left
        ·intro w'
         go_simp
         with_reducible rfl
        rotate_left
        ·simp only [Act.put, List.setIfInBounds_toArray, List.set_cons_zero, List.set_cons_succ, i64_w, i32_w]
         rfl
        refine pure_ (i := 4) (N := some 56) (v := ?_) (a' := ?_) #[true, true, true, true, true, false, false, false, false, false, false, false, false, false, false, false, false, false, false, false, false, false, false, false, false, false, false, false, false, false, false] rfl rfl (any_of HT_.out (by kernel_rfl)) (fun _ _ _ h => h) (Or.inl ⟨by rfl, ?_⟩) ?_ ?_
        rotate_left
        ·intro w'
         go_simp
         with_reducible rfl
        rotate_left
        ·simp only [Act.put, List.setIfInBounds_toArray, List.set_cons_zero, List.set_cons_succ, i64_w, i32_w]
         rfl
        refine pure_ (i := 5) (N := some 57) (v := ?_) (a' := ?_) #[true, true, true, true, true, true, false, false, false, false, false, false, false, false, false, false, false, false, false, false, false, false, false, false, false, false, false, false, false, false, false] rfl rfl (any_of HT_.out (by kernel_rfl)) (fun _ _ _ h => h) (Or.inl ⟨by rfl, ?_⟩) ?_ ?_
        rotate_left
        ·intro w'
         go_simp
         with_reducible rfl
        rotate_left
        ·simp only [Act.put, List.setIfInBounds_toArray, List.set_cons_zero, List.set_cons_succ, i64_w, i32_w]
         rfl
        refine pure_ (i := 6) (N := some 58) (v := ?_) (a' := ?_) #[true, true, true, true, true, true, true, false, false, false, false, false, false, false, false, false, false, false, false, false, false, false, false, false, false, false, false, false, false, false, false] rfl rfl (any_of HT_.out (by kernel_rfl)) (fun _ _ _ h => h) (Or.inl ⟨by rfl, ?_⟩) ?_ ?_
        rotate_left
        ·intro w'
         go_simp
         with_reducible rfl
        rotate_left
        ·simp only [Act.put, List.setIfInBounds_toArray, List.set_cons_zero, List.set_cons_succ, i64_w, i32_w]
         rfl
        refine pure_ (i := 7) (N := some 59) (v := ?_) (a' := ?_) #[true, true, true, true, true, true, true, true, false, false, false, false, false, false, false, false, false, false, false, false, false, false, false, false, false, false, false, false, false, false, false] rfl rfl (any_of HT_.out (by kernel_rfl)) (fun _ _ _ h => h) (Or.inl ⟨by rfl, ?_⟩) ?_ ?_
        rotate_left
        ·intro w'
         go_simp
         with_reducible rfl
        rotate_left
        ·simp only [Act.put, List.setIfInBounds_toArray, List.set_cons_zero, List.set_cons_succ, i64_w, i32_w]
         rfl
        refine pure_ (i := 8) (N := some 60) (v := ?_) (a' := ?_) #[true, true, true, true, true, true, true, true, true, false, false, false, false, false, false, false, false, false, false, false, false, false, false, false, false, false, false, false, false, false, false] rfl rfl (any_of HT_.out (by kernel_rfl)) (fun _ _ _ h => h) (Or.inl ⟨by rfl, ?_⟩) ?_ ?_
        rotate_left
        ·intro w'
         go_simp
         with_reducible rfl
        rotate_left
        ·simp only [Act.put, List.setIfInBounds_toArray, List.set_cons_zero, List.set_cons_succ, i64_w, i32_w]
         rfl
        refine take_ (i := 9) (N := some 61) (v := ?_) (a' := ?_) #[true, true, true, true, true, true, true, true, true, true, false, false, false, false, false, false, false, false, false, false, false, false, false, false, false, false, false, false, false, false, false] rfl rfl (take_ofW HT_.out HW_.out (by kernel_rfl)) (fun _ _ _ h => h) (Or.inl ⟨by rfl, ?_⟩) hHeld ?_ ?_
        rotate_left
        ·rintro w' ⟨s0, s1, s2⟩
         go_simp
         with_reducible rfl
        rotate_left
        ·simp only [Act.put, List.setIfInBounds_toArray, List.set_cons_zero, List.set_cons_succ, i64_w, i32_w]
         rfl
        refine take_ (i := 11) (N := some 63) (v := ?_) (a' := ?_) #[true, true, true, true, true, true, true, true, true, true, false, true, false, false, false, false, false, false, false, false, false, false, false, false, false, false, false, false, false, false, false] rfl rfl (take_ofW HT_.out HW_.out (by kernel_rfl)) (fun _ _ _ h => h) (Or.inl ⟨by rfl, ?_⟩) hHeld ?_ ?_
        rotate_left
        ·rintro w' ⟨s0, s1, s2⟩
         go_simp
         with_reducible rfl
        rotate_left
        ·simp only [Act.put, List.setIfInBounds_toArray, List.set_cons_zero, List.set_cons_succ, i64_w, i32_w]
         rfl
        refine one_ (i := 10) (N := some 62) #[true, true, true, true, true, true, true, true, true, true, true, true, false, false, false, false, false, false, false, false, false, false, false, false, false, false, false, false, false, false, false] rfl rfl (one_of HT_.out (by kernel_rfl)) (by decide) (fun K hK => ?_)
        refine goes_ Try.func94 (by kernel_rfl) rfl #[.agg #[.int .i64 a0_0, .int .i64 a0_1, .string a0_2]] (by rfl) rfl rfl (by (try simp only [List.map_toArray, List.map_cons, List.map_nil]); first | done | rfl | (simp only [List.length_drop, List.length_take]; rfl)) ?_
        with_reducible refine (udp_Check.calls a0_0 a0_1 a0_2 t482 _ A19.out).mono ?_
        rintro e w90 ⟨rfl, hb⟩
        refine ⟨_, rfl, ?_⟩
        have n0_ := mA (blk_below (g := gb464) (o := .cells #[.int .i64 a0_0, .int .i64 a0_1, .string a0_2] 102 (0, 0)) (by (with_reducible repeat (first | apply kN | apply kD | apply kA)); exact BK464.out) hb)
        have n1_ := mA (blk_below (g := gb475) (o := .cells #[.int .i64 t470, .int .i64 t471, .string t472] 102 (0, 0)) (by (with_reducible repeat (first | apply kN | apply kD | apply kA)); exact BK475.out) hb)
        have n2_ := mA (blk_below (g := gb481) (o := .cells #[.int .i64 t476, .int .i64 t477, .string t478] 102 (0, 0)) (by (with_reducible repeat (first | apply kN | apply kD | apply kA)); exact BK481.out) hb)
        have n3_ := mA (bP (by repeat (first | (with_reducible first | exact HB.out | apply bA | apply bN | apply bD | refine bS ?_ GE464.out | refine bS ?_ GE475.out | refine bS ?_ GE481.out) | exact HB.out)) hb)
        clear BK464
        clear BK475
        clear BK481
        clear HB
        have BK464 := n0_
        have BK475 := n1_
        have BK481 := n2_
        have HB := n3_
        clear n0_ n1_ n2_ n3_
        (try clear hb)
        (try clear hb2)
        (try clear hk)
        (try clear hi)
        refine hK.out _ _ ⟨(zC BK464.out 0).trans rfl, (zC BK464.out 1).trans rfl, (zC BK464.out 2).trans rfl⟩ (fun hHeld => ?_)
        clear hK K
        refine norm_ (a' := ?_) ?_ ?_
        rotate_left
        ·show Act.put _ (some 62) _ = _
         simp only [Act.put, List.setIfInBounds_toArray, List.set_cons_zero, List.set_cons_succ, i64_w, i32_w]
         rfl
        refine one_ (i := 12) (N := some 64) #[true, true, true, true, true, true, true, true, true, true, true, true, true, false, false, false, false, false, false, false, false, false, false, false, false, false, false, false, false, false, false] rfl rfl (one_of HT_.out (by kernel_rfl)) (by decide) (fun K hK => ?_)
        refine goes_ Try.func95 (by kernel_rfl) rfl #[.agg #[.int .i64 a0_0, .int .i64 a0_1, .string a0_2]] (by rfl) rfl rfl (by (try simp only [List.map_toArray, List.map_cons, List.map_nil]); first | done | rfl | (simp only [List.length_drop, List.length_take]; rfl)) ?_
        with_reducible refine (palanquinref08_Check.calls kj5 a0_0 a0_1 a0_2 t483 _ A20.out).mono ?_
        rintro e w91 ⟨rfl, hb⟩
        refine ⟨_, rfl, ?_⟩
        have n0_ := mA (blk_below (g := gb464) (o := .cells #[.int .i64 a0_0, .int .i64 a0_1, .string a0_2] 102 (0, 0)) (by (with_reducible repeat (first | apply kN | apply kD | apply kA)); exact BK464.out) hb)
        have n1_ := mA (blk_below (g := gb475) (o := .cells #[.int .i64 t470, .int .i64 t471, .string t472] 102 (0, 0)) (by (with_reducible repeat (first | apply kN | apply kD | apply kA)); exact BK475.out) hb)
        have n2_ := mA (blk_below (g := gb481) (o := .cells #[.int .i64 t476, .int .i64 t477, .string t478] 102 (0, 0)) (by (with_reducible repeat (first | apply kN | apply kD | apply kA)); exact BK481.out) hb)
        have n3_ := mA (bP (by repeat (first | (with_reducible first | exact HB.out | apply bA | apply bN | apply bD | refine bS ?_ GE464.out | refine bS ?_ GE475.out | refine bS ?_ GE481.out) | exact HB.out)) hb)
        clear BK464
        clear BK475
        clear BK481
        clear HB
        have BK464 := n0_
        have BK475 := n1_
        have BK481 := n2_
        have HB := n3_
        clear n0_ n1_ n2_ n3_
        (try clear hb)
        (try clear hb2)
        (try clear hk)
        (try clear hi)
        refine hK.out _ _ ⟨(zC BK464.out 0).trans rfl, (zC BK464.out 1).trans rfl, (zC BK464.out 2).trans rfl⟩ (fun hHeld => ?_)
        clear hK K
        refine norm_ (a' := ?_) ?_ ?_
        rotate_left
        ·show Act.put _ (some 64) _ = _
         simp only [Act.put, List.setIfInBounds_toArray, List.set_cons_zero, List.set_cons_succ, i64_w, i32_w]
         rfl
        refine pure_ (i := 13) (N := some 65) (v := ?_) (a' := ?_) #[true, true, true, true, true, true, true, true, true, true, true, true, true, true, false, false, false, false, false, false, false, false, false, false, false, false, false, false, false, false, false] rfl rfl (any_of HT_.out (by kernel_rfl)) (fun _ _ _ h => h) (Or.inl ⟨by rfl, ?_⟩) ?_ ?_
        rotate_left
        ·intro w'
         go_simp
         with_reducible rfl
        rotate_left
        ·simp only [Act.put, List.setIfInBounds_toArray, List.set_cons_zero, List.set_cons_succ, i64_w, i32_w]
         rfl
        refine pure_ (i := 14) (N := some 66) (v := ?_) (a' := ?_) #[true, true, true, true, true, true, true, true, true, true, true, true, true, true, true, false, false, false, false, false, false, false, false, false, false, false, false, false, false, false, false] rfl rfl (any_of HT_.out (by kernel_rfl)) (fun _ _ _ h => h) (Or.inl ⟨by rfl, ?_⟩) ?_ ?_
        rotate_left
        ·intro w'
         go_simp
         with_reducible rfl
        rotate_left
        ·simp only [Act.put, List.setIfInBounds_toArray, List.set_cons_zero, List.set_cons_succ, i64_w, i32_w]
         rfl
        refine pure_ (i := 15) (N := some 67) (v := ?_) (a' := ?_) #[true, true, true, true, true, true, true, true, true, true, true, true, true, true, true, true, false, false, false, false, false, false, false, false, false, false, false, false, false, false, false] rfl rfl (any_of HT_.out (by kernel_rfl)) (fun _ _ _ h => h) (Or.inl ⟨by rfl, ?_⟩) ?_ ?_
        rotate_left
        ·intro w'
         go_simp
         with_reducible rfl
        rotate_left
        ·simp only [Act.put, List.setIfInBounds_toArray, List.set_cons_zero, List.set_cons_succ, i64_w, i32_w]
         rfl
        refine pure_ (i := 16) (N := some 68) (v := undef) (a' := ?_) #[true, true, true, true, true, true, true, true, true, true, true, true, true, true, true, true, true, false, false, false, false, false, false, false, false, false, false, false, false, false, false] rfl rfl (any_of HT_.out (by kernel_rfl)) (fun _ _ _ h => h) (Or.inr ⟨by rfl, rfl⟩) ?_ ?_
        rotate_left
        ·simp only [Act.put, List.setIfInBounds_toArray, List.set_cons_zero, List.set_cons_succ, i64_w, i32_w]
         rfl
        refine pure_ (i := 17) (N := some 69) (v := undef) (a' := ?_) #[true, true, true, true, true, true, true, true, true, true, true, true, true, true, true, true, true, true, false, false, false, false, false, false, false, false, false, false, false, false, false] rfl rfl (any_of HT_.out (by kernel_rfl)) (fun _ _ _ h => h) (Or.inr ⟨by rfl, rfl⟩) ?_ ?_
        rotate_left
        ·simp only [Act.put, List.setIfInBounds_toArray, List.set_cons_zero, List.set_cons_succ, i64_w, i32_w]
         rfl
        refine pure_ (i := 18) (N := some 70) (v := undef) (a' := ?_) #[true, true, true, true, true, true, true, true, true, true, true, true, true, true, true, true, true, true, true, false, false, false, false, false, false, false, false, false, false, false, false] rfl rfl (any_of HT_.out (by kernel_rfl)) (fun _ _ _ h => h) (Or.inr ⟨by rfl, rfl⟩) ?_ ?_
        rotate_left
        ·simp only [Act.put, List.setIfInBounds_toArray, List.set_cons_zero, List.set_cons_succ, i64_w, i32_w]
         rfl
        refine pure_ (i := 19) (N := some 71) (v := ?_) (a' := ?_) #[true, true, true, true, true, true, true, true, true, true, true, true, true, true, true, true, true, true, true, true, false, false, false, false, false, false, false, false, false, false, false] rfl rfl (any_of HT_.out (by kernel_rfl)) (fun _ _ _ h => h) (Or.inl ⟨by rfl, ?_⟩) ?_ ?_
        rotate_left
        ·intro w'
         go_simp
         with_reducible rfl
        rotate_left
        ·simp only [Act.put, List.setIfInBounds_toArray, List.set_cons_zero, List.set_cons_succ, i64_w, i32_w]
         rfl
        refine pure_ (i := 20) (N := some 72) (v := ?_) (a' := ?_) #[true, true, true, true, true, true, true, true, true, true, true, true, true, true, true, true, true, true, true, true, true, false, false, false, false, false, false, false, false, false, false] rfl rfl (any_of HT_.out (by kernel_rfl)) (fun _ _ _ h => h) (Or.inl ⟨by rfl, ?_⟩) ?_ ?_
        rotate_left
        ·intro w'
         go_simp
         with_reducible rfl
        rotate_left
        ·simp only [Act.put, List.setIfInBounds_toArray, List.set_cons_zero, List.set_cons_succ, i64_w, i32_w]
         rfl
        refine pure_ (i := 21) (N := some 73) (v := undef) (a' := ?_) #[true, true, true, true, true, true, true, true, true, true, true, true, true, true, true, true, true, true, true, true, true, true, false, false, false, false, false, false, false, false, false] rfl rfl (any_of HT_.out (by kernel_rfl)) (fun _ _ _ h => h) (Or.inr ⟨by rfl, rfl⟩) ?_ ?_
        rotate_left
        ·simp only [Act.put, List.setIfInBounds_toArray, List.set_cons_zero, List.set_cons_succ, i64_w, i32_w]
         rfl
        refine pure_ (i := 22) (N := some 74) (v := undef) (a' := ?_) #[true, true, true, true, true, true, true, true, true, true, true, true, true, true, true, true, true, true, true, true, true, true, true, false, false, false, false, false, false, false, false] rfl rfl (any_of HT_.out (by kernel_rfl)) (fun _ _ _ h => h) (Or.inr ⟨by rfl, rfl⟩) ?_ ?_
        rotate_left
        ·simp only [Act.put, List.setIfInBounds_toArray, List.set_cons_zero, List.set_cons_succ, i64_w, i32_w]
         rfl
        refine pure_ (i := 23) (N := some 75) (v := undef) (a' := ?_) #[true, true, true, true, true, true, true, true, true, true, true, true, true, true, true, true, true, true, true, true, true, true, true, true, false, false, false, false, false, false, false] rfl rfl (any_of HT_.out (by kernel_rfl)) (fun _ _ _ h => h) (Or.inr ⟨by rfl, rfl⟩) ?_ ?_
        rotate_left
        ·simp only [Act.put, List.setIfInBounds_toArray, List.set_cons_zero, List.set_cons_succ, i64_w, i32_w]
         rfl
        refine pure_ (i := 24) (N := some 76) (v := ?_) (a' := ?_) #[true, true, true, true, true, true, true, true, true, true, true, true, true, true, true, true, true, true, true, true, true, true, true, true, true, false, false, false, false, false, false] rfl rfl (any_of HT_.out (by kernel_rfl)) (fun _ _ _ h => h) (Or.inl ⟨by rfl, ?_⟩) ?_ ?_
        rotate_left
        ·intro w'
         go_simp
         with_reducible rfl
        rotate_left
        ·simp only [Act.put, List.setIfInBounds_toArray, List.set_cons_zero, List.set_cons_succ, i64_w, i32_w]
         rfl
        refine pure_ (i := 25) (N := some 77) (v := ?_) (a' := ?_) #[true, true, true, true, true, true, true, true, true, true, true, true, true, true, true, true, true, true, true, true, true, true, true, true, true, true, false, false, false, false, false] rfl rfl (any_of HT_.out (by kernel_rfl)) (fun _ _ _ h => h) (Or.inl ⟨by rfl, ?_⟩) ?_ ?_
        rotate_left
        ·intro w'
         go_simp
         with_reducible rfl
        rotate_left
        ·simp only [Act.put, List.setIfInBounds_toArray, List.set_cons_zero, List.set_cons_succ, i64_w, i32_w]
         rfl
        refine pure_ (i := 26) (N := some 78) (v := undef) (a' := ?_) #[true, true, true, true, true, true, true, true, true, true, true, true, true, true, true, true, true, true, true, true, true, true, true, true, true, true, true, false, false, false, false] rfl rfl (any_of HT_.out (by kernel_rfl)) (fun _ _ _ h => h) (Or.inr ⟨by rfl, rfl⟩) ?_ ?_
        rotate_left
        ·simp only [Act.put, List.setIfInBounds_toArray, List.set_cons_zero, List.set_cons_succ, i64_w, i32_w]
         rfl
        refine pure_ (i := 27) (N := some 79) (v := undef) (a' := ?_) #[true, true, true, true, true, true, true, true, true, true, true, true, true, true, true, true, true, true, true, true, true, true, true, true, true, true, true, true, false, false, false] rfl rfl (any_of HT_.out (by kernel_rfl)) (fun _ _ _ h => h) (Or.inr ⟨by rfl, rfl⟩) ?_ ?_
        rotate_left
        ·simp only [Act.put, List.setIfInBounds_toArray, List.set_cons_zero, List.set_cons_succ, i64_w, i32_w]
         rfl
        refine pure_ (i := 28) (N := some 80) (v := undef) (a' := ?_) #[true, true, true, true, true, true, true, true, true, true, true, true, true, true, true, true, true, true, true, true, true, true, true, true, true, true, true, true, true, false, false] rfl rfl (any_of HT_.out (by kernel_rfl)) (fun _ _ _ h => h) (Or.inr ⟨by rfl, rfl⟩) ?_ ?_
        rotate_left
        ·simp only [Act.put, List.setIfInBounds_toArray, List.set_cons_zero, List.set_cons_succ, i64_w, i32_w]
         rfl
        refine pure_ (i := 29) (N := some 81) (v := ?_) (a' := ?_) #[true, true, true, true, true, true, true, true, true, true, true, true, true, true, true, true, true, true, true, true, true, true, true, true, true, true, true, true, true, true, false] rfl rfl (any_of HT_.out (by kernel_rfl)) (fun _ _ _ h => h) (Or.inl ⟨by rfl, ?_⟩) ?_ ?_
        rotate_left
        ·intro w'
         go_simp
         with_reducible rfl
        rotate_left
        ·simp only [Act.put, List.setIfInBounds_toArray, List.set_cons_zero, List.set_cons_succ, i64_w, i32_w]
         rfl
        refine pure_ (i := 30) (N := some 6) (v := ?_) (a' := ?_) #[true, true, true, true, true, true, true, true, true, true, true, true, true, true, true, true, true, true, true, true, true, true, true, true, true, true, true, true, true, true, true] rfl rfl (any_of HT_.out (by kernel_rfl)) (fun _ _ _ h => h) (Or.inl ⟨by rfl, ?_⟩) ?_ ?_
        rotate_left
        ·intro w'
         go_simp
         with_reducible rfl
        rotate_left
        ·simp only [Act.put, List.setIfInBounds_toArray, List.set_cons_zero, List.set_cons_succ, i64_w, i32_w]
         rfl
        refine done_ (done_of HT_.out (by kernel_rfl)) ?_
        try go_wp2
        go_ret
        exact ⟨by first | rfl | (simp [errW_none, errW_some] <;> rfl) | (simp [*, errW_none, errW_some] <;> rfl), by repeat (first | (with_reducible first | exact HB.out | apply bA | apply bN | apply bD | refine bS ?_ GE464.out | refine bS ?_ GE475.out | refine bS ?_ GE481.out) | exact HB.out)⟩
      ·rw [if_neg c18] at H
       have c18b0 : (t467 == t469) = false := beq_eq_false_iff_ne.mpr c18
       have c18b1 : (t467 != t469) = true := bne_iff_ne.mpr c18
       obtain rfl := Option.some.inj H
       have hcz92_0 : wc.cell? ⟨gb464, 0, none⟩ = some (.int .i64 a0_0) := (zC BK464.out 0).trans rfl
       have hcz92_1 : wc.cell? ⟨gb464, 1, none⟩ = some (.int .i64 a0_1) := (zC BK464.out 1).trans rfl
       have hcz92_2 : wc.cell? ⟨gb464, 2, none⟩ = some (.string a0_2) := (zC BK464.out 2).trans rfl
       have hfz92_0 := zF BK464.out 0
       have hfz92_1 := zF BK464.out 1
       have hfz92_2 := zF BK464.out 2
       try go_wp2_with (first | ((with_reducible refine gate_callee (f := 90) rfl ?_); refine goesL_ (some 31) rfl rfl Try.func90 (by kernel_rfl) rfl #[.agg #[.int .i64 a0_0, .int .i64 a0_1, .string a0_2], .int .i64 a1] rfl (by (try simp only [List.map_toArray, List.map_cons, List.map_nil]); first | done | rfl | (simp only [List.length_drop, List.length_take]; rfl)) ?_; (with_reducible refine (udp_Put.calls a0_0 a0_1 a0_2 a1 t466 t467 _ A13.out).mono ?_); rintro e w93 ⟨rfl, hb⟩; refine ⟨_, rfl, ?_⟩; have n0_ := mA (blk_below (g := gb464) (o := .cells #[.int .i64 a0_0, .int .i64 a0_1, .string a0_2] 102 (0, 0)) (by (with_reducible repeat (first | apply kN | apply kD | apply kA)); exact BK464.out) hb); have n1_ := mA (bP (by repeat (first | (with_reducible first | exact HB.out | apply bA | apply bN | apply bD | refine bS ?_ GE464.out) | exact HB.out)) hb); clear BK464; clear HB; have BK464 := n0_; have HB := n1_; clear n0_ n1_; (try clear hb); (try clear hb2); (try clear hk); (try clear hi); have hcz94_0 : w93.cell? ⟨gb464, 0, none⟩ = some (.int .i64 a0_0) := (zC BK464.out 0).trans rfl; have hcz94_1 : w93.cell? ⟨gb464, 1, none⟩ = some (.int .i64 a0_1) := (zC BK464.out 1).trans rfl; have hcz94_2 : w93.cell? ⟨gb464, 2, none⟩ = some (.string a0_2) := (zC BK464.out 2).trans rfl; have hfz94_0 := zF BK464.out 0; have hfz94_1 := zF BK464.out 1; have hfz94_2 := zF BK464.out 2) | ((with_reducible refine gate_callee (f := 91) rfl ?_); refine goesL_ (some 37) rfl rfl Try.func91 (by kernel_rfl) rfl #[.agg #[.int .i64 a0_0, .int .i64 a0_1, .string a0_2], .int .i64 a1] rfl (by (try simp only [List.map_toArray, List.map_cons, List.map_nil]); first | done | rfl | (simp only [List.length_drop, List.length_take]; rfl)) ?_; (with_reducible refine (palanquinref08_Put.calls kj5 a0_0 a0_1 a0_2 a1 t468 t469 _ A14.out).mono ?_); rintro e w95 ⟨rfl, hb⟩; refine ⟨_, rfl, ?_⟩; have n0_ := mA (blk_below (g := gb464) (o := .cells #[.int .i64 a0_0, .int .i64 a0_1, .string a0_2] 102 (0, 0)) (by (with_reducible repeat (first | apply kN | apply kD | apply kA)); exact BK464.out) hb); have n1_ := mA (bP (by repeat (first | (with_reducible first | exact HB.out | apply bA | apply bN | apply bD | refine bS ?_ GE464.out) | exact HB.out)) hb); clear BK464; clear HB; have BK464 := n0_; have HB := n1_; clear n0_ n1_; (try clear hb); (try clear hb2); (try clear hk); (try clear hi)) | ((with_reducible refine gate_callee (f := 92) rfl ?_); refine goesL_ (some 42) rfl rfl Try.func92 (by kernel_rfl) rfl #[.string a2] rfl (by (try simp only [List.map_toArray, List.map_cons, List.map_nil]); first | done | rfl | (simp only [List.length_drop, List.length_take]; rfl)) ?_; (with_reducible refine (udp_Get.calls a2 t470 t471 t472 t473 t474 _ A15.out).mono ?_); rintro e w96 ⟨rfl, hb⟩; refine ⟨_, rfl, ?_⟩; have n0_ := mA (blk_below (g := gb464) (o := .cells #[.int .i64 a0_0, .int .i64 a0_1, .string a0_2] 102 (0, 0)) (by (with_reducible repeat (first | apply kN | apply kD | apply kA)); exact BK464.out) hb); have n1_ := mA (bP (by repeat (first | (with_reducible first | exact HB.out | apply bA | apply bN | apply bD | refine bS ?_ GE464.out) | exact HB.out)) hb); clear BK464; clear HB; have BK464 := n0_; have HB := n1_; clear n0_ n1_; (try clear hb); (try clear hb2); (try clear hk); (try clear hi)) | ((with_reducible refine gate_dst (N := 11) rfl ?_); (try (refine gate_guard (by rfl) ?_; dsimp only)); refine box_event ?hg (N := 11) ?hd (cs := #[.int .i64 0, .int .i64 0, .string (⟨#[]⟩ : ByteArray)]) (t := 102) ?hr ?_; (case hd => rfl); (case hg => rfl); (case hr => first | (go_simp; done) | (go_simp; rfl)); intro gb475 hg w97 hbox hb; have n0_ := mA (blk_below (g := gb464) (o := .cells #[.int .i64 a0_0, .int .i64 a0_1, .string a0_2] 102 (0, 0)) (by (with_reducible repeat (first | apply kN | apply kD | apply kA)); exact BK464.out) hb); have n1_ := mA (bP (by repeat (first | (with_reducible first | exact HB.out | apply bA | apply bN | apply bD | refine bS ?_ GE464.out) | exact HB.out)) hb); have n2_ := mA (hbox); have n3_ := mA ((by rw [hg]; exact (below_size (by repeat (first | (with_reducible first | exact HB.out | apply bA | apply bN | apply bD | refine bS ?_ GE464.out) | exact HB.out))) : w.heap.size ≤ gb475)); have n4_ := mA ((by rw [hg]; exact (below_size (by repeat (first | (with_reducible first | exact HB.out | apply bA | apply bN | apply bD | refine bS ?_ GE464.out) | exact HB.out))) : w.heap.size ≤ gb475)); have n5_ := mA ((by rw [hg]; exact Nat.ne_of_lt (blk_lt (g := gb464) (o := .cells #[.int .i64 a0_0, .int .i64 a0_1, .string a0_2] 102 (0, 0)) (by (with_reducible repeat (first | apply kN | apply kD | apply kA)); exact BK464.out)) : gb464 ≠ gb475)); have n6_ := mA ((by rw [hg]; exact Nat.ne_of_gt (blk_lt (g := gb464) (o := .cells #[.int .i64 a0_0, .int .i64 a0_1, .string a0_2] 102 (0, 0)) (by (with_reducible repeat (first | apply kN | apply kD | apply kA)); exact BK464.out)) : gb475 ≠ gb464)); clear BK464; clear HB; have BK464 := n0_; have HB := n1_; have BK475 := n2_; have GW475 := n3_; have GE475 := n4_; have NB464_475 := n5_; have NB475_464 := n6_; clear n0_ n1_ n2_ n3_ n4_ n5_ n6_; clear hb hbox hg; have hnb98 := NB475_464.out; have hnc98 := NB464_475.out; have hcz99_0 : w97.cell? ⟨gb475, 0, none⟩ = some (.int .i64 0) := (zC BK475.out 0).trans rfl; have hcz99_1 : w97.cell? ⟨gb475, 1, none⟩ = some (.int .i64 0) := (zC BK475.out 1).trans rfl; have hcz99_2 : w97.cell? ⟨gb475, 2, none⟩ = some (.string (⟨#[]⟩ : ByteArray)) := (zC BK475.out 2).trans rfl; have hfz99_0 := zF BK475.out 0; have hfz99_1 := zF BK475.out 1; have hfz99_2 := zF BK475.out 2) | ((with_reducible refine gate_callee (f := 93) rfl ?_); refine goesL_ (some 48) rfl rfl Try.func93 (by kernel_rfl) rfl #[.string a2] rfl (by (try simp only [List.map_toArray, List.map_cons, List.map_nil]); first | done | rfl | (simp only [List.length_drop, List.length_take]; rfl)) ?_; (with_reducible refine (palanquinref08_Get.calls kj5 a2 t476 t477 t478 t479 t480 _ A16.out).mono ?_); rintro e w100 ⟨rfl, hb⟩; refine ⟨_, rfl, ?_⟩; have n0_ := mA (blk_below (g := gb464) (o := .cells #[.int .i64 a0_0, .int .i64 a0_1, .string a0_2] 102 (0, 0)) (by (with_reducible repeat (first | apply kN | apply kD | apply kA)); refine blk_far ?_ NB464_475.out _; (with_reducible repeat (first | apply kN | apply kD | apply kA)); refine blk_far ?_ NB464_475.out _; (with_reducible repeat (first | apply kN | apply kD | apply kA)); refine blk_far ?_ NB464_475.out _; (with_reducible repeat (first | apply kN | apply kD | apply kA)); exact BK464.out) hb); have n1_ := mA (blk_below (g := gb475) (o := .cells #[.int .i64 t470, .int .i64 t471, .string t472] 102 (0, 0)) (by (with_reducible repeat (first | apply kN | apply kD | apply kA)); refine blk_put (cs := #[.int .i64 t470, .int .i64 t471, .string (⟨#[]⟩ : ByteArray)]) ?_ 2 _ rfl; (with_reducible repeat (first | apply kN | apply kD | apply kA)); refine blk_put (cs := #[.int .i64 t470, .int .i64 0, .string (⟨#[]⟩ : ByteArray)]) ?_ 1 _ rfl; (with_reducible repeat (first | apply kN | apply kD | apply kA)); refine blk_put (cs := #[.int .i64 0, .int .i64 0, .string (⟨#[]⟩ : ByteArray)]) ?_ 0 _ rfl; (with_reducible repeat (first | apply kN | apply kD | apply kA)); exact BK475.out) hb); have n2_ := mA (bP (by repeat (first | (with_reducible first | exact HB.out | apply bA | apply bN | apply bD | refine bS ?_ GE464.out | refine bS ?_ GE475.out) | exact HB.out)) hb); clear BK464; clear BK475; clear HB; have BK464 := n0_; have BK475 := n1_; have HB := n2_; clear n0_ n1_ n2_; (try clear hb); (try clear hb2); (try clear hk); (try clear hi)) | ((with_reducible refine gate_dst (N := 14) rfl ?_); (try (refine gate_guard (by rfl) ?_; dsimp only)); refine box_event ?hg (N := 14) ?hd (cs := #[.int .i64 0, .int .i64 0, .string (⟨#[]⟩ : ByteArray)]) (t := 102) ?hr ?_; (case hd => rfl); (case hg => rfl); (case hr => first | (go_simp; done) | (go_simp; rfl)); intro gb481 hg w101 hbox hb; have n0_ := mA (blk_below (g := gb464) (o := .cells #[.int .i64 a0_0, .int .i64 a0_1, .string a0_2] 102 (0, 0)) (by (with_reducible repeat (first | apply kN | apply kD | apply kA)); exact BK464.out) hb); have n1_ := mA (blk_below (g := gb475) (o := .cells #[.int .i64 t470, .int .i64 t471, .string t472] 102 (0, 0)) (by (with_reducible repeat (first | apply kN | apply kD | apply kA)); exact BK475.out) hb); have n2_ := mA (bP (by repeat (first | (with_reducible first | exact HB.out | apply bA | apply bN | apply bD | refine bS ?_ GE464.out | refine bS ?_ GE475.out) | exact HB.out)) hb); have n3_ := mA (hbox); have n4_ := mA ((by rw [hg]; exact (below_size (by repeat (first | (with_reducible first | exact HB.out | apply bA | apply bN | apply bD | refine bS ?_ GE464.out | refine bS ?_ GE475.out) | exact HB.out))) : w.heap.size ≤ gb481)); have n5_ := mA ((by rw [hg]; exact (below_size (by repeat (first | (with_reducible first | exact HB.out | apply bA | apply bN | apply bD | refine bS ?_ GE464.out | refine bS ?_ GE475.out) | exact HB.out))) : w.heap.size ≤ gb481)); have n6_ := mA ((by rw [hg]; exact Nat.ne_of_lt (blk_lt (g := gb464) (o := .cells #[.int .i64 a0_0, .int .i64 a0_1, .string a0_2] 102 (0, 0)) (by (with_reducible repeat (first | apply kN | apply kD | apply kA)); exact BK464.out)) : gb464 ≠ gb481)); have n7_ := mA ((by rw [hg]; exact Nat.ne_of_gt (blk_lt (g := gb464) (o := .cells #[.int .i64 a0_0, .int .i64 a0_1, .string a0_2] 102 (0, 0)) (by (with_reducible repeat (first | apply kN | apply kD | apply kA)); exact BK464.out)) : gb481 ≠ gb464)); have n8_ := mA ((by rw [hg]; exact Nat.ne_of_lt (blk_lt (g := gb475) (o := .cells #[.int .i64 t470, .int .i64 t471, .string t472] 102 (0, 0)) (by (with_reducible repeat (first | apply kN | apply kD | apply kA)); exact BK475.out)) : gb475 ≠ gb481)); have n9_ := mA ((by rw [hg]; exact Nat.ne_of_gt (blk_lt (g := gb475) (o := .cells #[.int .i64 t470, .int .i64 t471, .string t472] 102 (0, 0)) (by (with_reducible repeat (first | apply kN | apply kD | apply kA)); exact BK475.out)) : gb481 ≠ gb475)); clear BK464; clear BK475; clear HB; have BK464 := n0_; have BK475 := n1_; have HB := n2_; have BK481 := n3_; have GW481 := n4_; have GE481 := n5_; have NB464_481 := n6_; have NB481_464 := n7_; have NB475_481 := n8_; have NB481_475 := n9_; clear n0_ n1_ n2_ n3_ n4_ n5_ n6_ n7_ n8_ n9_; clear hb hbox hg; have hnb102 := NB481_464.out; have hnc102 := NB464_481.out; have hnb103 := NB481_475.out; have hnc103 := NB475_481.out; have hcz104_0 : w101.cell? ⟨gb481, 0, none⟩ = some (.int .i64 0) := (zC BK481.out 0).trans rfl; have hcz104_1 : w101.cell? ⟨gb481, 1, none⟩ = some (.int .i64 0) := (zC BK481.out 1).trans rfl; have hcz104_2 : w101.cell? ⟨gb481, 2, none⟩ = some (.string (⟨#[]⟩ : ByteArray)) := (zC BK481.out 2).trans rfl; have hfz104_0 := zF BK481.out 0; have hfz104_1 := zF BK481.out 1; have hfz104_2 := zF BK481.out 2))
       have n0_ : Aside0 ((((w101.setCell ⟨gb481, 0, none⟩ (.int .i64 t476)).setCell ⟨gb481, 1, none⟩ (.int .i64 t477)).setCell ⟨gb481, 2, none⟩ (.string t478)).heap[gb464]? = some (.cells #[.int .i64 a0_0, .int .i64 a0_1, .string a0_2] 102 (0, 0))) := ⟨by (with_reducible repeat (first | apply kN | apply kD | apply kA)); refine blk_far ?_ NB464_481.out _; (with_reducible repeat (first | apply kN | apply kD | apply kA)); refine blk_far ?_ NB464_481.out _; (with_reducible repeat (first | apply kN | apply kD | apply kA)); refine blk_far ?_ NB464_481.out _; (with_reducible repeat (first | apply kN | apply kD | apply kA)); exact BK464.out⟩
       have n1_ : Aside0 ((((w101.setCell ⟨gb481, 0, none⟩ (.int .i64 t476)).setCell ⟨gb481, 1, none⟩ (.int .i64 t477)).setCell ⟨gb481, 2, none⟩ (.string t478)).heap[gb475]? = some (.cells #[.int .i64 t470, .int .i64 t471, .string t472] 102 (0, 0))) := ⟨by (with_reducible repeat (first | apply kN | apply kD | apply kA)); refine blk_far ?_ NB475_481.out _; (with_reducible repeat (first | apply kN | apply kD | apply kA)); refine blk_far ?_ NB475_481.out _; (with_reducible repeat (first | apply kN | apply kD | apply kA)); refine blk_far ?_ NB475_481.out _; (with_reducible repeat (first | apply kN | apply kD | apply kA)); exact BK475.out⟩
       have n2_ : Aside0 ((((w101.setCell ⟨gb481, 0, none⟩ (.int .i64 t476)).setCell ⟨gb481, 1, none⟩ (.int .i64 t477)).setCell ⟨gb481, 2, none⟩ (.string t478)).heap[gb481]? = some (.cells #[.int .i64 t476, .int .i64 t477, .string t478] 102 (0, 0))) := ⟨by (with_reducible repeat (first | apply kN | apply kD | apply kA)); refine blk_put (cs := #[.int .i64 t476, .int .i64 t477, .string (⟨#[]⟩ : ByteArray)]) ?_ 2 _ rfl; (with_reducible repeat (first | apply kN | apply kD | apply kA)); refine blk_put (cs := #[.int .i64 t476, .int .i64 0, .string (⟨#[]⟩ : ByteArray)]) ?_ 1 _ rfl; (with_reducible repeat (first | apply kN | apply kD | apply kA)); refine blk_put (cs := #[.int .i64 0, .int .i64 0, .string (⟨#[]⟩ : ByteArray)]) ?_ 0 _ rfl; (with_reducible repeat (first | apply kN | apply kD | apply kA)); exact BK481.out⟩
       have n3_ : Aside0 (Below w.heap.size w (((w101.setCell ⟨gb481, 0, none⟩ (.int .i64 t476)).setCell ⟨gb481, 1, none⟩ (.int .i64 t477)).setCell ⟨gb481, 2, none⟩ (.string t478))) := ⟨by repeat (first | (with_reducible first | exact HB.out | apply bA | apply bN | apply bD | refine bS ?_ GE464.out | refine bS ?_ GE475.out | refine bS ?_ GE481.out) | exact HB.out)⟩
       (try clear BK464)
       (try clear BK475)
       (try clear BK481)
       (try clear HB)
       generalize (((w101.setCell ⟨gb481, 0, none⟩ (.int .i64 t476)).setCell ⟨gb481, 1, none⟩ (.int .i64 t477)).setCell ⟨gb481, 2, none⟩ (.string t478)) = w105 at n0_ n1_ n2_ n3_ ⊢
       have BK464 := n0_
       have BK475 := n1_
       have BK481 := n2_
       have HB := n3_
       clear n0_ n1_ n2_ n3_
       have n0_ := mA (kD BK464.out)
       have n1_ := mA (kD BK475.out)
       have n2_ := mA (kD BK481.out)
       have n3_ := mA (bD HB.out)
       clear BK464
       clear BK475
       clear BK481
       clear HB
       have BK464 := n0_
       have BK475 := n1_
       have BK481 := n2_
       have HB := n3_
       clear n0_ n1_ n2_ n3_
       refine start_ (n := 31) (S := fun w' => True) (ds := []) #[false, false, false, false, false, false, false, false, false, false, false, false, false, false, false, false, false, false, false, false, false, false, false, false, false, false, false, false, false, false, false] (by kernel_rfl) rfl rfl trivial (fun hHeld => ?_); refine with_tabW palanquinlaw08_UdpTells.tab9 palanquinlaw08_UdpTells.bits9 (fun HT_ HW_ => ?_)
       generalize w105.drew = w106 at BK464 BK475 BK481 HB hHeld ⊢
       refine pure_ (i := 0) (N := some 52) (v := ?_) (a' := ?_) #[true, false, false, false, false, false, false, false, false, false, false, false, false, false, false, false, false, false, false, false, false, false, false, false, false, false, false, false, false, false, false] rfl rfl (any_of HT_.out (by kernel_rfl)) (fun _ _ _ h => h) (Or.inl ⟨by rfl, ?_⟩) ?_ ?_
       rotate_left
       ·intro w'
        go_simp
        with_reducible rfl
       rotate_left
       ·simp only [Act.put, List.setIfInBounds_toArray, List.set_cons_zero, List.set_cons_succ, i64_w, i32_w]
        rfl
       refine pure_ (i := 1) (N := some 53) (v := ?_) (a' := ?_) #[true, true, false, false, false, false, false, false, false, false, false, false, false, false, false, false, false, false, false, false, false, false, false, false, false, false, false, false, false, false, false] rfl rfl (any_of HT_.out (by kernel_rfl)) (fun _ _ _ h => h) (Or.inl ⟨by rfl, ?_⟩) ?_ ?_
       rotate_left
       ·intro w'
        go_simp
        with_reducible rfl
       rotate_left
       ·simp only [Act.put, List.setIfInBounds_toArray, List.set_cons_zero, List.set_cons_succ, i64_w, i32_w]
        rfl
       refine pure_ (i := 2) (N := some 54) (v := ?_) (a' := ?_) #[true, true, true, false, false, false, false, false, false, false, false, false, false, false, false, false, false, false, false, false, false, false, false, false, false, false, false, false, false, false, false] rfl rfl (any_of HT_.out (by kernel_rfl)) (fun _ _ _ h => h) (Or.inl ⟨by rfl, ?_⟩) ?_ ?_
       rotate_left
       ·intro w'
        go_simp
        with_reducible rfl
       rotate_left
       ·simp only [Act.put, List.setIfInBounds_toArray, List.set_cons_zero, List.set_cons_succ, i64_w, i32_w]
        rfl
       refine pure_ (i := 3) (N := some 55) (v := ?_) (a' := ?_) #[true, true, true, true, false, false, false, false, false, false, false, false, false, false, false, false, false, false, false, false, false, false, false, false, false, false, false, false, false, false, false] rfl rfl (any_of HT_.out (by kernel_rfl)) (fun _ _ _ h => h) (Or.inl ⟨by rfl, ?_⟩) ?_ ?_
       rotate_left
       ·intro w'
        go_simp
        with_reducible rfl
       rotate_left
       ·simp only [Act.put, List.setIfInBounds_toArray, List.set_cons_zero, List.set_cons_succ, i64_w, i32_w]
        rfl
       refine pure_ (i := 4) (N := some 56) (v := ?_) (a' := ?_) #[true, true, true, true, true, false, false, false, false, false, false, false, false, false, false, false, false, false, false, false, false, false, false, false, false, false, false, false, false, false, false] rfl rfl (any_of HT_.out (by kernel_rfl)) (fun _ _ _ h => h) (Or.inl ⟨by rfl, ?_⟩) ?_ ?_
       rotate_left
       ·intro w'
        go_simp
        with_reducible rfl
       rotate_left
       ·simp only [Act.put, List.setIfInBounds_toArray, List.set_cons_zero, List.set_cons_succ, i64_w, i32_w]
        rfl
       refine pure_ (i := 5) (N := some 57) (v := ?_) (a' := ?_) #[true, true, true, true, true, true, false, false, false, false, false, false, false, false, false, false, false, false, false, false, false, false, false, false, false, false, false, false, false, false, false] rfl rfl (any_of HT_.out (by kernel_rfl)) (fun _ _ _ h => h) (Or.inl ⟨by rfl, ?_⟩) ?_ ?_
       rotate_left
       ·intro w'
        go_simp
        with_reducible rfl
       rotate_left
       ·simp only [Act.put, List.setIfInBounds_toArray, List.set_cons_zero, List.set_cons_succ, i64_w, i32_w]
        rfl
       refine pure_ (i := 6) (N := some 58) (v := ?_) (a' := ?_) #[true, true, true, true, true, true, true, false, false, false, false, false, false, false, false, false, false, false, false, false, false, false, false, false, false, false, false, false, false, false, false] rfl rfl (any_of HT_.out (by kernel_rfl)) (fun _ _ _ h => h) (Or.inl ⟨by rfl, ?_⟩) ?_ ?_
       rotate_left
       ·intro w'
        go_simp
        with_reducible rfl
       rotate_left
       ·simp only [Act.put, List.setIfInBounds_toArray, List.set_cons_zero, List.set_cons_succ, i64_w, i32_w]
        rfl
       refine pure_ (i := 7) (N := some 59) (v := ?_) (a' := ?_) #[true, true, true, true, true, true, true, true, false, false, false, false, false, false, false, false, false, false, false, false, false, false, false, false, false, false, false, false, false, false, false] rfl rfl (any_of HT_.out (by kernel_rfl)) (fun _ _ _ h => h) (Or.inl ⟨by rfl, ?_⟩) ?_ ?_
       rotate_left
       ·intro w'
        go_simp
        with_reducible rfl
       rotate_left
       ·simp only [Act.put, List.setIfInBounds_toArray, List.set_cons_zero, List.set_cons_succ, i64_w, i32_w]
        rfl
       refine pure_ (i := 8) (N := some 60) (v := ?_) (a' := ?_) #[true, true, true, true, true, true, true, true, true, false, false, false, false, false, false, false, false, false, false, false, false, false, false, false, false, false, false, false, false, false, false] rfl rfl (any_of HT_.out (by kernel_rfl)) (fun _ _ _ h => h) (Or.inl ⟨by rfl, ?_⟩) ?_ ?_
       rotate_left
       ·intro w'
        go_simp
        with_reducible rfl
       rotate_left
       ·simp only [Act.put, List.setIfInBounds_toArray, List.set_cons_zero, List.set_cons_succ, i64_w, i32_w]
        rfl
       refine pure_ (i := 9) (N := some 61) (v := undef) (a' := ?_) #[true, true, true, true, true, true, true, true, true, true, false, false, false, false, false, false, false, false, false, false, false, false, false, false, false, false, false, false, false, false, false] rfl rfl (any_of HT_.out (by kernel_rfl)) (fun _ _ _ h => h) (Or.inr ⟨by rfl, rfl⟩) ?_ ?_
       rotate_left
       ·simp only [Act.put, List.setIfInBounds_toArray, List.set_cons_zero, List.set_cons_succ, i64_w, i32_w]
        rfl
       refine pure_ (i := 10) (N := some 62) (v := undef) (a' := ?_) #[true, true, true, true, true, true, true, true, true, true, true, false, false, false, false, false, false, false, false, false, false, false, false, false, false, false, false, false, false, false, false] rfl rfl (any_of HT_.out (by kernel_rfl)) (fun _ _ _ h => h) (Or.inr ⟨by rfl, rfl⟩) ?_ ?_
       rotate_left
       ·simp only [Act.put, List.setIfInBounds_toArray, List.set_cons_zero, List.set_cons_succ, i64_w, i32_w]
        rfl
       refine pure_ (i := 11) (N := some 63) (v := undef) (a' := ?_) #[true, true, true, true, true, true, true, true, true, true, true, true, false, false, false, false, false, false, false, false, false, false, false, false, false, false, false, false, false, false, false] rfl rfl (any_of HT_.out (by kernel_rfl)) (fun _ _ _ h => h) (Or.inr ⟨by rfl, rfl⟩) ?_ ?_
       rotate_left
       ·simp only [Act.put, List.setIfInBounds_toArray, List.set_cons_zero, List.set_cons_succ, i64_w, i32_w]
        rfl
       refine pure_ (i := 12) (N := some 64) (v := undef) (a' := ?_) #[true, true, true, true, true, true, true, true, true, true, true, true, true, false, false, false, false, false, false, false, false, false, false, false, false, false, false, false, false, false, false] rfl rfl (any_of HT_.out (by kernel_rfl)) (fun _ _ _ h => h) (Or.inr ⟨by rfl, rfl⟩) ?_ ?_
       rotate_left
       ·simp only [Act.put, List.setIfInBounds_toArray, List.set_cons_zero, List.set_cons_succ, i64_w, i32_w]
        rfl
       refine pure_ (i := 13) (N := some 65) (v := undef) (a' := ?_) #[true, true, true, true, true, true, true, true, true, true, true, true, true, true, false, false, false, false, false, false, false, false, false, false, false, false, false, false, false, false, false] rfl rfl (any_of HT_.out (by kernel_rfl)) (fun _ _ _ h => h) (Or.inr ⟨by rfl, rfl⟩) ?_ ?_
       rotate_left
       ·simp only [Act.put, List.setIfInBounds_toArray, List.set_cons_zero, List.set_cons_succ, i64_w, i32_w]
        rfl
       refine pure_ (i := 14) (N := some 66) (v := ?_) (a' := ?_) #[true, true, true, true, true, true, true, true, true, true, true, true, true, true, true, false, false, false, false, false, false, false, false, false, false, false, false, false, false, false, false] rfl rfl (any_of HT_.out (by kernel_rfl)) (fun _ _ _ h => h) (Or.inl ⟨by rfl, ?_⟩) ?_ ?_
       rotate_left
       ·intro w'
        go_simp
        with_reducible rfl
       rotate_left
       ·simp only [Act.put, List.setIfInBounds_toArray, List.set_cons_zero, List.set_cons_succ, i64_w, i32_w]
        rfl
       refine pure_ (i := 15) (N := some 67) (v := ?_) (a' := ?_) #[true, true, true, true, true, true, true, true, true, true, true, true, true, true, true, true, false, false, false, false, false, false, false, false, false, false, false, false, false, false, false] rfl rfl (any_of HT_.out (by kernel_rfl)) (fun _ _ _ h => h) (Or.inl ⟨by rfl, ?_⟩) ?_ ?_
       rotate_left
       ·intro w'
        go_simp
        with_reducible rfl
       rotate_left
       ·simp only [Act.put, List.setIfInBounds_toArray, List.set_cons_zero, List.set_cons_succ, i64_w, i32_w]
        rfl
       refine pure_ (i := 16) (N := some 68) (v := undef) (a' := ?_) #[true, true, true, true, true, true, true, true, true, true, true, true, true, true, true, true, true, false, false, false, false, false, false, false, false, false, false, false, false, false, false] rfl rfl (any_of HT_.out (by kernel_rfl)) (fun _ _ _ h => h) (Or.inr ⟨by rfl, rfl⟩) ?_ ?_
       rotate_left
       ·simp only [Act.put, List.setIfInBounds_toArray, List.set_cons_zero, List.set_cons_succ, i64_w, i32_w]
        rfl
       refine pure_ (i := 17) (N := some 69) (v := undef) (a' := ?_) #[true, true, true, true, true, true, true, true, true, true, true, true, true, true, true, true, true, true, false, false, false, false, false, false, false, false, false, false, false, false, false] rfl rfl (any_of HT_.out (by kernel_rfl)) (fun _ _ _ h => h) (Or.inr ⟨by rfl, rfl⟩) ?_ ?_
       rotate_left
       ·simp only [Act.put, List.setIfInBounds_toArray, List.set_cons_zero, List.set_cons_succ, i64_w, i32_w]
        rfl
       refine pure_ (i := 18) (N := some 70) (v := undef) (a' := ?_) #[true, true, true, true, true, true, true, true, true, true, true, true, true, true, true, true, true, true, true, false, false, false, false, false, false, false, false, false, false, false, false] rfl rfl (any_of HT_.out (by kernel_rfl)) (fun _ _ _ h => h) (Or.inr ⟨by rfl, rfl⟩) ?_ ?_
       rotate_left
       ·simp only [Act.put, List.setIfInBounds_toArray, List.set_cons_zero, List.set_cons_succ, i64_w, i32_w]
        rfl
       refine pure_ (i := 19) (N := some 71) (v := ?_) (a' := ?_) #[true, true, true, true, true, true, true, true, true, true, true, true, true, true, true, true, true, true, true, true, false, false, false, false, false, false, false, false, false, false, false] rfl rfl (any_of HT_.out (by kernel_rfl)) (fun _ _ _ h => h) (Or.inl ⟨by rfl, ?_⟩) ?_ ?_
       rotate_left
       ·intro w'
        go_simp
        with_reducible rfl
       rotate_left
       ·simp only [Act.put, List.setIfInBounds_toArray, List.set_cons_zero, List.set_cons_succ, i64_w, i32_w]
        rfl
       refine pure_ (i := 20) (N := some 72) (v := ?_) (a' := ?_) #[true, true, true, true, true, true, true, true, true, true, true, true, true, true, true, true, true, true, true, true, true, false, false, false, false, false, false, false, false, false, false] rfl rfl (any_of HT_.out (by kernel_rfl)) (fun _ _ _ h => h) (Or.inl ⟨by rfl, ?_⟩) ?_ ?_
       rotate_left
       ·intro w'
        go_simp
        with_reducible rfl
       rotate_left
       ·simp only [Act.put, List.setIfInBounds_toArray, List.set_cons_zero, List.set_cons_succ, i64_w, i32_w]
        rfl
       refine pure_ (i := 21) (N := some 73) (v := undef) (a' := ?_) #[true, true, true, true, true, true, true, true, true, true, true, true, true, true, true, true, true, true, true, true, true, true, false, false, false, false, false, false, false, false, false] rfl rfl (any_of HT_.out (by kernel_rfl)) (fun _ _ _ h => h) (Or.inr ⟨by rfl, rfl⟩) ?_ ?_
       rotate_left
       ·simp only [Act.put, List.setIfInBounds_toArray, List.set_cons_zero, List.set_cons_succ, i64_w, i32_w]
        rfl
       refine pure_ (i := 22) (N := some 74) (v := undef) (a' := ?_) #[true, true, true, true, true, true, true, true, true, true, true, true, true, true, true, true, true, true, true, true, true, true, true, false, false, false, false, false, false, false, false] rfl rfl (any_of HT_.out (by kernel_rfl)) (fun _ _ _ h => h) (Or.inr ⟨by rfl, rfl⟩) ?_ ?_
       rotate_left
       ·simp only [Act.put, List.setIfInBounds_toArray, List.set_cons_zero, List.set_cons_succ, i64_w, i32_w]
        rfl
       refine pure_ (i := 23) (N := some 75) (v := undef) (a' := ?_) #[true, true, true, true, true, true, true, true, true, true, true, true, true, true, true, true, true, true, true, true, true, true, true, true, false, false, false, false, false, false, false] rfl rfl (any_of HT_.out (by kernel_rfl)) (fun _ _ _ h => h) (Or.inr ⟨by rfl, rfl⟩) ?_ ?_
       rotate_left
       ·simp only [Act.put, List.setIfInBounds_toArray, List.set_cons_zero, List.set_cons_succ, i64_w, i32_w]
        rfl
       refine pure_ (i := 24) (N := some 76) (v := ?_) (a' := ?_) #[true, true, true, true, true, true, true, true, true, true, true, true, true, true, true, true, true, true, true, true, true, true, true, true, true, false, false, false, false, false, false] rfl rfl (any_of HT_.out (by kernel_rfl)) (fun _ _ _ h => h) (Or.inl ⟨by rfl, ?_⟩) ?_ ?_
       rotate_left
       ·intro w'
        go_simp
        with_reducible rfl
       rotate_left
       ·simp only [Act.put, List.setIfInBounds_toArray, List.set_cons_zero, List.set_cons_succ, i64_w, i32_w]
        rfl
       refine pure_ (i := 25) (N := some 77) (v := ?_) (a' := ?_) #[true, true, true, true, true, true, true, true, true, true, true, true, true, true, true, true, true, true, true, true, true, true, true, true, true, true, false, false, false, false, false] rfl rfl (any_of HT_.out (by kernel_rfl)) (fun _ _ _ h => h) (Or.inl ⟨by rfl, ?_⟩) ?_ ?_
       rotate_left
       ·intro w'
        go_simp
        with_reducible rfl
       rotate_left
       ·simp only [Act.put, List.setIfInBounds_toArray, List.set_cons_zero, List.set_cons_succ, i64_w, i32_w]
        rfl
       refine pure_ (i := 26) (N := some 78) (v := undef) (a' := ?_) #[true, true, true, true, true, true, true, true, true, true, true, true, true, true, true, true, true, true, true, true, true, true, true, true, true, true, true, false, false, false, false] rfl rfl (any_of HT_.out (by kernel_rfl)) (fun _ _ _ h => h) (Or.inr ⟨by rfl, rfl⟩) ?_ ?_
       rotate_left
       ·simp only [Act.put, List.setIfInBounds_toArray, List.set_cons_zero, List.set_cons_succ, i64_w, i32_w]
        rfl
       refine pure_ (i := 27) (N := some 79) (v := undef) (a' := ?_) #[true, true, true, true, true, true, true, true, true, true, true, true, true, true, true, true, true, true, true, true, true, true, true, true, true, true, true, true, false, false, false] rfl rfl (any_of HT_.out (by kernel_rfl)) (fun _ _ _ h => h) (Or.inr ⟨by rfl, rfl⟩) ?_ ?_
       rotate_left
       ·simp only [Act.put, List.setIfInBounds_toArray, List.set_cons_zero, List.set_cons_succ, i64_w, i32_w]
        rfl
       refine pure_ (i := 28) (N := some 80) (v := undef) (a' := ?_) #[true, true, true, true, true, true, true, true, true, true, true, true, true, true, true, true, true, true, true, true, true, true, true, true, true, true, true, true, true, false, false] rfl rfl (any_of HT_.out (by kernel_rfl)) (fun _ _ _ h => h) (Or.inr ⟨by rfl, rfl⟩) ?_ ?_
       rotate_left
       ·simp only [Act.put, List.setIfInBounds_toArray, List.set_cons_zero, List.set_cons_succ, i64_w, i32_w]
        rfl
       refine pure_ (i := 29) (N := some 81) (v := ?_) (a' := ?_) #[true, true, true, true, true, true, true, true, true, true, true, true, true, true, true, true, true, true, true, true, true, true, true, true, true, true, true, true, true, true, false] rfl rfl (any_of HT_.out (by kernel_rfl)) (fun _ _ _ h => h) (Or.inl ⟨by rfl, ?_⟩) ?_ ?_
       rotate_left
       ·intro w'
        go_simp
        with_reducible rfl
       rotate_left
       ·simp only [Act.put, List.setIfInBounds_toArray, List.set_cons_zero, List.set_cons_succ, i64_w, i32_w]
        rfl
       refine pure_ (i := 30) (N := some 6) (v := ?_) (a' := ?_) #[true, true, true, true, true, true, true, true, true, true, true, true, true, true, true, true, true, true, true, true, true, true, true, true, true, true, true, true, true, true, true] rfl rfl (any_of HT_.out (by kernel_rfl)) (fun _ _ _ h => h) (Or.inl ⟨by rfl, ?_⟩) ?_ ?_
       rotate_left
       ·intro w'
        go_simp
        with_reducible rfl
       rotate_left
       ·simp only [Act.put, List.setIfInBounds_toArray, List.set_cons_zero, List.set_cons_succ, i64_w, i32_w]
        rfl
       refine done_ (done_of HT_.out (by kernel_rfl)) ?_
       try go_wp2
       go_ret
       exact ⟨by first | rfl | (simp [errW_none, errW_some] <;> rfl) | (simp [*, errW_none, errW_some] <;> rfl), by repeat (first | (with_reducible first | exact HB.out | apply bA | apply bN | apply bD | refine bS ?_ GE464.out | refine bS ?_ GE475.out | refine bS ?_ GE481.out) | exact HB.out)⟩
     ·rw [if_neg c17] at H
      have c17b0 : (t466.toList == t468.toList) = false := beq_eq_false_iff_ne.mpr c17
      have c17b1 : (t466.toList != t468.toList) = true := bne_iff_ne.mpr c17
      obtain rfl := Option.some.inj H
      have hcz107_0 : wc.cell? ⟨gb464, 0, none⟩ = some (.int .i64 a0_0) := (zC BK464.out 0).trans rfl
      have hcz107_1 : wc.cell? ⟨gb464, 1, none⟩ = some (.int .i64 a0_1) := (zC BK464.out 1).trans rfl
      have hcz107_2 : wc.cell? ⟨gb464, 2, none⟩ = some (.string a0_2) := (zC BK464.out 2).trans rfl
      have hfz107_0 := zF BK464.out 0
      have hfz107_1 := zF BK464.out 1
      have hfz107_2 := zF BK464.out 2
      try go_wp2_with (first | ((with_reducible refine gate_callee (f := 90) rfl ?_); refine goesL_ (some 31) rfl rfl Try.func90 (by kernel_rfl) rfl #[.agg #[.int .i64 a0_0, .int .i64 a0_1, .string a0_2], .int .i64 a1] rfl (by (try simp only [List.map_toArray, List.map_cons, List.map_nil]); first | done | rfl | (simp only [List.length_drop, List.length_take]; rfl)) ?_; (with_reducible refine (udp_Put.calls a0_0 a0_1 a0_2 a1 t466 t467 _ A13.out).mono ?_); rintro e w108 ⟨rfl, hb⟩; refine ⟨_, rfl, ?_⟩; have n0_ := mA (blk_below (g := gb464) (o := .cells #[.int .i64 a0_0, .int .i64 a0_1, .string a0_2] 102 (0, 0)) (by (with_reducible repeat (first | apply kN | apply kD | apply kA)); exact BK464.out) hb); have n1_ := mA (bP (by repeat (first | (with_reducible first | exact HB.out | apply bA | apply bN | apply bD | refine bS ?_ GE464.out) | exact HB.out)) hb); clear BK464; clear HB; have BK464 := n0_; have HB := n1_; clear n0_ n1_; (try clear hb); (try clear hb2); (try clear hk); (try clear hi); have hcz109_0 : w108.cell? ⟨gb464, 0, none⟩ = some (.int .i64 a0_0) := (zC BK464.out 0).trans rfl; have hcz109_1 : w108.cell? ⟨gb464, 1, none⟩ = some (.int .i64 a0_1) := (zC BK464.out 1).trans rfl; have hcz109_2 : w108.cell? ⟨gb464, 2, none⟩ = some (.string a0_2) := (zC BK464.out 2).trans rfl; have hfz109_0 := zF BK464.out 0; have hfz109_1 := zF BK464.out 1; have hfz109_2 := zF BK464.out 2) | ((with_reducible refine gate_callee (f := 91) rfl ?_); refine goesL_ (some 37) rfl rfl Try.func91 (by kernel_rfl) rfl #[.agg #[.int .i64 a0_0, .int .i64 a0_1, .string a0_2], .int .i64 a1] rfl (by (try simp only [List.map_toArray, List.map_cons, List.map_nil]); first | done | rfl | (simp only [List.length_drop, List.length_take]; rfl)) ?_; (with_reducible refine (palanquinref08_Put.calls kj5 a0_0 a0_1 a0_2 a1 t468 t469 _ A14.out).mono ?_); rintro e w110 ⟨rfl, hb⟩; refine ⟨_, rfl, ?_⟩; have n0_ := mA (blk_below (g := gb464) (o := .cells #[.int .i64 a0_0, .int .i64 a0_1, .string a0_2] 102 (0, 0)) (by (with_reducible repeat (first | apply kN | apply kD | apply kA)); exact BK464.out) hb); have n1_ := mA (bP (by repeat (first | (with_reducible first | exact HB.out | apply bA | apply bN | apply bD | refine bS ?_ GE464.out) | exact HB.out)) hb); clear BK464; clear HB; have BK464 := n0_; have HB := n1_; clear n0_ n1_; (try clear hb); (try clear hb2); (try clear hk); (try clear hi)) | ((with_reducible refine gate_callee (f := 92) rfl ?_); refine goesL_ (some 42) rfl rfl Try.func92 (by kernel_rfl) rfl #[.string a2] rfl (by (try simp only [List.map_toArray, List.map_cons, List.map_nil]); first | done | rfl | (simp only [List.length_drop, List.length_take]; rfl)) ?_; (with_reducible refine (udp_Get.calls a2 t470 t471 t472 t473 t474 _ A15.out).mono ?_); rintro e w111 ⟨rfl, hb⟩; refine ⟨_, rfl, ?_⟩; have n0_ := mA (blk_below (g := gb464) (o := .cells #[.int .i64 a0_0, .int .i64 a0_1, .string a0_2] 102 (0, 0)) (by (with_reducible repeat (first | apply kN | apply kD | apply kA)); exact BK464.out) hb); have n1_ := mA (bP (by repeat (first | (with_reducible first | exact HB.out | apply bA | apply bN | apply bD | refine bS ?_ GE464.out) | exact HB.out)) hb); clear BK464; clear HB; have BK464 := n0_; have HB := n1_; clear n0_ n1_; (try clear hb); (try clear hb2); (try clear hk); (try clear hi)) | ((with_reducible refine gate_dst (N := 11) rfl ?_); (try (refine gate_guard (by rfl) ?_; dsimp only)); refine box_event ?hg (N := 11) ?hd (cs := #[.int .i64 0, .int .i64 0, .string (⟨#[]⟩ : ByteArray)]) (t := 102) ?hr ?_; (case hd => rfl); (case hg => rfl); (case hr => first | (go_simp; done) | (go_simp; rfl)); intro gb475 hg w112 hbox hb; have n0_ := mA (blk_below (g := gb464) (o := .cells #[.int .i64 a0_0, .int .i64 a0_1, .string a0_2] 102 (0, 0)) (by (with_reducible repeat (first | apply kN | apply kD | apply kA)); exact BK464.out) hb); have n1_ := mA (bP (by repeat (first | (with_reducible first | exact HB.out | apply bA | apply bN | apply bD | refine bS ?_ GE464.out) | exact HB.out)) hb); have n2_ := mA (hbox); have n3_ := mA ((by rw [hg]; exact (below_size (by repeat (first | (with_reducible first | exact HB.out | apply bA | apply bN | apply bD | refine bS ?_ GE464.out) | exact HB.out))) : w.heap.size ≤ gb475)); have n4_ := mA ((by rw [hg]; exact (below_size (by repeat (first | (with_reducible first | exact HB.out | apply bA | apply bN | apply bD | refine bS ?_ GE464.out) | exact HB.out))) : w.heap.size ≤ gb475)); have n5_ := mA ((by rw [hg]; exact Nat.ne_of_lt (blk_lt (g := gb464) (o := .cells #[.int .i64 a0_0, .int .i64 a0_1, .string a0_2] 102 (0, 0)) (by (with_reducible repeat (first | apply kN | apply kD | apply kA)); exact BK464.out)) : gb464 ≠ gb475)); have n6_ := mA ((by rw [hg]; exact Nat.ne_of_gt (blk_lt (g := gb464) (o := .cells #[.int .i64 a0_0, .int .i64 a0_1, .string a0_2] 102 (0, 0)) (by (with_reducible repeat (first | apply kN | apply kD | apply kA)); exact BK464.out)) : gb475 ≠ gb464)); clear BK464; clear HB; have BK464 := n0_; have HB := n1_; have BK475 := n2_; have GW475 := n3_; have GE475 := n4_; have NB464_475 := n5_; have NB475_464 := n6_; clear n0_ n1_ n2_ n3_ n4_ n5_ n6_; clear hb hbox hg; have hnb113 := NB475_464.out; have hnc113 := NB464_475.out; have hcz114_0 : w112.cell? ⟨gb475, 0, none⟩ = some (.int .i64 0) := (zC BK475.out 0).trans rfl; have hcz114_1 : w112.cell? ⟨gb475, 1, none⟩ = some (.int .i64 0) := (zC BK475.out 1).trans rfl; have hcz114_2 : w112.cell? ⟨gb475, 2, none⟩ = some (.string (⟨#[]⟩ : ByteArray)) := (zC BK475.out 2).trans rfl; have hfz114_0 := zF BK475.out 0; have hfz114_1 := zF BK475.out 1; have hfz114_2 := zF BK475.out 2) | ((with_reducible refine gate_callee (f := 93) rfl ?_); refine goesL_ (some 48) rfl rfl Try.func93 (by kernel_rfl) rfl #[.string a2] rfl (by (try simp only [List.map_toArray, List.map_cons, List.map_nil]); first | done | rfl | (simp only [List.length_drop, List.length_take]; rfl)) ?_; (with_reducible refine (palanquinref08_Get.calls kj5 a2 t476 t477 t478 t479 t480 _ A16.out).mono ?_); rintro e w115 ⟨rfl, hb⟩; refine ⟨_, rfl, ?_⟩; have n0_ := mA (blk_below (g := gb464) (o := .cells #[.int .i64 a0_0, .int .i64 a0_1, .string a0_2] 102 (0, 0)) (by (with_reducible repeat (first | apply kN | apply kD | apply kA)); refine blk_far ?_ NB464_475.out _; (with_reducible repeat (first | apply kN | apply kD | apply kA)); refine blk_far ?_ NB464_475.out _; (with_reducible repeat (first | apply kN | apply kD | apply kA)); refine blk_far ?_ NB464_475.out _; (with_reducible repeat (first | apply kN | apply kD | apply kA)); exact BK464.out) hb); have n1_ := mA (blk_below (g := gb475) (o := .cells #[.int .i64 t470, .int .i64 t471, .string t472] 102 (0, 0)) (by (with_reducible repeat (first | apply kN | apply kD | apply kA)); refine blk_put (cs := #[.int .i64 t470, .int .i64 t471, .string (⟨#[]⟩ : ByteArray)]) ?_ 2 _ rfl; (with_reducible repeat (first | apply kN | apply kD | apply kA)); refine blk_put (cs := #[.int .i64 t470, .int .i64 0, .string (⟨#[]⟩ : ByteArray)]) ?_ 1 _ rfl; (with_reducible repeat (first | apply kN | apply kD | apply kA)); refine blk_put (cs := #[.int .i64 0, .int .i64 0, .string (⟨#[]⟩ : ByteArray)]) ?_ 0 _ rfl; (with_reducible repeat (first | apply kN | apply kD | apply kA)); exact BK475.out) hb); have n2_ := mA (bP (by repeat (first | (with_reducible first | exact HB.out | apply bA | apply bN | apply bD | refine bS ?_ GE464.out | refine bS ?_ GE475.out) | exact HB.out)) hb); clear BK464; clear BK475; clear HB; have BK464 := n0_; have BK475 := n1_; have HB := n2_; clear n0_ n1_ n2_; (try clear hb); (try clear hb2); (try clear hk); (try clear hi)) | ((with_reducible refine gate_dst (N := 14) rfl ?_); (try (refine gate_guard (by rfl) ?_; dsimp only)); refine box_event ?hg (N := 14) ?hd (cs := #[.int .i64 0, .int .i64 0, .string (⟨#[]⟩ : ByteArray)]) (t := 102) ?hr ?_; (case hd => rfl); (case hg => rfl); (case hr => first | (go_simp; done) | (go_simp; rfl)); intro gb481 hg w116 hbox hb; have n0_ := mA (blk_below (g := gb464) (o := .cells #[.int .i64 a0_0, .int .i64 a0_1, .string a0_2] 102 (0, 0)) (by (with_reducible repeat (first | apply kN | apply kD | apply kA)); exact BK464.out) hb); have n1_ := mA (blk_below (g := gb475) (o := .cells #[.int .i64 t470, .int .i64 t471, .string t472] 102 (0, 0)) (by (with_reducible repeat (first | apply kN | apply kD | apply kA)); exact BK475.out) hb); have n2_ := mA (bP (by repeat (first | (with_reducible first | exact HB.out | apply bA | apply bN | apply bD | refine bS ?_ GE464.out | refine bS ?_ GE475.out) | exact HB.out)) hb); have n3_ := mA (hbox); have n4_ := mA ((by rw [hg]; exact (below_size (by repeat (first | (with_reducible first | exact HB.out | apply bA | apply bN | apply bD | refine bS ?_ GE464.out | refine bS ?_ GE475.out) | exact HB.out))) : w.heap.size ≤ gb481)); have n5_ := mA ((by rw [hg]; exact (below_size (by repeat (first | (with_reducible first | exact HB.out | apply bA | apply bN | apply bD | refine bS ?_ GE464.out | refine bS ?_ GE475.out) | exact HB.out))) : w.heap.size ≤ gb481)); have n6_ := mA ((by rw [hg]; exact Nat.ne_of_lt (blk_lt (g := gb464) (o := .cells #[.int .i64 a0_0, .int .i64 a0_1, .string a0_2] 102 (0, 0)) (by (with_reducible repeat (first | apply kN | apply kD | apply kA)); exact BK464.out)) : gb464 ≠ gb481)); have n7_ := mA ((by rw [hg]; exact Nat.ne_of_gt (blk_lt (g := gb464) (o := .cells #[.int .i64 a0_0, .int .i64 a0_1, .string a0_2] 102 (0, 0)) (by (with_reducible repeat (first | apply kN | apply kD | apply kA)); exact BK464.out)) : gb481 ≠ gb464)); have n8_ := mA ((by rw [hg]; exact Nat.ne_of_lt (blk_lt (g := gb475) (o := .cells #[.int .i64 t470, .int .i64 t471, .string t472] 102 (0, 0)) (by (with_reducible repeat (first | apply kN | apply kD | apply kA)); exact BK475.out)) : gb475 ≠ gb481)); have n9_ := mA ((by rw [hg]; exact Nat.ne_of_gt (blk_lt (g := gb475) (o := .cells #[.int .i64 t470, .int .i64 t471, .string t472] 102 (0, 0)) (by (with_reducible repeat (first | apply kN | apply kD | apply kA)); exact BK475.out)) : gb481 ≠ gb475)); clear BK464; clear BK475; clear HB; have BK464 := n0_; have BK475 := n1_; have HB := n2_; have BK481 := n3_; have GW481 := n4_; have GE481 := n5_; have NB464_481 := n6_; have NB481_464 := n7_; have NB475_481 := n8_; have NB481_475 := n9_; clear n0_ n1_ n2_ n3_ n4_ n5_ n6_ n7_ n8_ n9_; clear hb hbox hg; have hnb117 := NB481_464.out; have hnc117 := NB464_481.out; have hnb118 := NB481_475.out; have hnc118 := NB475_481.out; have hcz119_0 : w116.cell? ⟨gb481, 0, none⟩ = some (.int .i64 0) := (zC BK481.out 0).trans rfl; have hcz119_1 : w116.cell? ⟨gb481, 1, none⟩ = some (.int .i64 0) := (zC BK481.out 1).trans rfl; have hcz119_2 : w116.cell? ⟨gb481, 2, none⟩ = some (.string (⟨#[]⟩ : ByteArray)) := (zC BK481.out 2).trans rfl; have hfz119_0 := zF BK481.out 0; have hfz119_1 := zF BK481.out 1; have hfz119_2 := zF BK481.out 2))
      have n0_ : Aside0 ((((w116.setCell ⟨gb481, 0, none⟩ (.int .i64 t476)).setCell ⟨gb481, 1, none⟩ (.int .i64 t477)).setCell ⟨gb481, 2, none⟩ (.string t478)).heap[gb464]? = some (.cells #[.int .i64 a0_0, .int .i64 a0_1, .string a0_2] 102 (0, 0))) := ⟨by (with_reducible repeat (first | apply kN | apply kD | apply kA)); refine blk_far ?_ NB464_481.out _; (with_reducible repeat (first | apply kN | apply kD | apply kA)); refine blk_far ?_ NB464_481.out _; (with_reducible repeat (first | apply kN | apply kD | apply kA)); refine blk_far ?_ NB464_481.out _; (with_reducible repeat (first | apply kN | apply kD | apply kA)); exact BK464.out⟩
      have n1_ : Aside0 ((((w116.setCell ⟨gb481, 0, none⟩ (.int .i64 t476)).setCell ⟨gb481, 1, none⟩ (.int .i64 t477)).setCell ⟨gb481, 2, none⟩ (.string t478)).heap[gb475]? = some (.cells #[.int .i64 t470, .int .i64 t471, .string t472] 102 (0, 0))) := ⟨by (with_reducible repeat (first | apply kN | apply kD | apply kA)); refine blk_far ?_ NB475_481.out _; (with_reducible repeat (first | apply kN | apply kD | apply kA)); refine blk_far ?_ NB475_481.out _; (with_reducible repeat (first | apply kN | apply kD | apply kA)); refine blk_far ?_ NB475_481.out _; (with_reducible repeat (first | apply kN | apply kD | apply kA)); exact BK475.out⟩
      have n2_ : Aside0 ((((w116.setCell ⟨gb481, 0, none⟩ (.int .i64 t476)).setCell ⟨gb481, 1, none⟩ (.int .i64 t477)).setCell ⟨gb481, 2, none⟩ (.string t478)).heap[gb481]? = some (.cells #[.int .i64 t476, .int .i64 t477, .string t478] 102 (0, 0))) := ⟨by (with_reducible repeat (first | apply kN | apply kD | apply kA)); refine blk_put (cs := #[.int .i64 t476, .int .i64 t477, .string (⟨#[]⟩ : ByteArray)]) ?_ 2 _ rfl; (with_reducible repeat (first | apply kN | apply kD | apply kA)); refine blk_put (cs := #[.int .i64 t476, .int .i64 0, .string (⟨#[]⟩ : ByteArray)]) ?_ 1 _ rfl; (with_reducible repeat (first | apply kN | apply kD | apply kA)); refine blk_put (cs := #[.int .i64 0, .int .i64 0, .string (⟨#[]⟩ : ByteArray)]) ?_ 0 _ rfl; (with_reducible repeat (first | apply kN | apply kD | apply kA)); exact BK481.out⟩
      have n3_ : Aside0 (Below w.heap.size w (((w116.setCell ⟨gb481, 0, none⟩ (.int .i64 t476)).setCell ⟨gb481, 1, none⟩ (.int .i64 t477)).setCell ⟨gb481, 2, none⟩ (.string t478))) := ⟨by repeat (first | (with_reducible first | exact HB.out | apply bA | apply bN | apply bD | refine bS ?_ GE464.out | refine bS ?_ GE475.out | refine bS ?_ GE481.out) | exact HB.out)⟩
      (try clear BK464)
      (try clear BK475)
      (try clear BK481)
      (try clear HB)
      generalize (((w116.setCell ⟨gb481, 0, none⟩ (.int .i64 t476)).setCell ⟨gb481, 1, none⟩ (.int .i64 t477)).setCell ⟨gb481, 2, none⟩ (.string t478)) = w120 at n0_ n1_ n2_ n3_ ⊢
      have BK464 := n0_
      have BK475 := n1_
      have BK481 := n2_
      have HB := n3_
      clear n0_ n1_ n2_ n3_
      have n0_ := mA (kD BK464.out)
      have n1_ := mA (kD BK475.out)
      have n2_ := mA (kD BK481.out)
      have n3_ := mA (bD HB.out)
      clear BK464
      clear BK475
      clear BK481
      clear HB
      have BK464 := n0_
      have BK475 := n1_
      have BK481 := n2_
      have HB := n3_
      clear n0_ n1_ n2_ n3_
      refine start_ (n := 31) (S := fun w' => True) (ds := []) #[false, false, false, false, false, false, false, false, false, false, false, false, false, false, false, false, false, false, false, false, false, false, false, false, false, false, false, false, false, false, false] (by kernel_rfl) rfl rfl trivial (fun hHeld => ?_); refine with_tabW palanquinlaw08_UdpTells.tab9 palanquinlaw08_UdpTells.bits9 (fun HT_ HW_ => ?_)
      generalize w120.drew = w121 at BK464 BK475 BK481 HB hHeld ⊢
      refine pure_ (i := 0) (N := some 52) (v := ?_) (a' := ?_) #[true, false, false, false, false, false, false, false, false, false, false, false, false, false, false, false, false, false, false, false, false, false, false, false, false, false, false, false, false, false, false] rfl rfl (any_of HT_.out (by kernel_rfl)) (fun _ _ _ h => h) (Or.inl ⟨by rfl, ?_⟩) ?_ ?_
      rotate_left
      ·intro w'
       go_simp
       with_reducible rfl
      rotate_left
      ·simp only [Act.put, List.setIfInBounds_toArray, List.set_cons_zero, List.set_cons_succ, i64_w, i32_w]
       rfl
      refine pure_ (i := 1) (N := some 53) (v := ?_) (a' := ?_) #[true, true, false, false, false, false, false, false, false, false, false, false, false, false, false, false, false, false, false, false, false, false, false, false, false, false, false, false, false, false, false] rfl rfl (any_of HT_.out (by kernel_rfl)) (fun _ _ _ h => h) (Or.inl ⟨by rfl, ?_⟩) ?_ ?_
      rotate_left
      ·intro w'
       go_simp
       with_reducible rfl
      rotate_left
      ·simp only [Act.put, List.setIfInBounds_toArray, List.set_cons_zero, List.set_cons_succ, i64_w, i32_w]
       rfl
      refine pure_ (i := 2) (N := some 54) (v := ?_) (a' := ?_) #[true, true, true, false, false, false, false, false, false, false, false, false, false, false, false, false, false, false, false, false, false, false, false, false, false, false, false, false, false, false, false] rfl rfl (any_of HT_.out (by kernel_rfl)) (fun _ _ _ h => h) (Or.inl ⟨by rfl, ?_⟩) ?_ ?_
      rotate_left
      ·intro w'
       go_simp
       with_reducible rfl
      rotate_left
      ·simp only [Act.put, List.setIfInBounds_toArray, List.set_cons_zero, List.set_cons_succ, i64_w, i32_w]
       rfl
      refine pure_ (i := 3) (N := some 55) (v := ?_) (a' := ?_) #[true, true, true, true, false, false, false, false, false, false, false, false, false, false, false, false, false, false, false, false, false, false, false, false, false, false, false, false, false, false, false] rfl rfl (any_of HT_.out (by kernel_rfl)) (fun _ _ _ h => h) (Or.inl ⟨by rfl, ?_⟩) ?_ ?_
      rotate_left
      ·intro w'
       go_simp
       with_reducible rfl
      rotate_left
      ·simp only [Act.put, List.setIfInBounds_toArray, List.set_cons_zero, List.set_cons_succ, i64_w, i32_w]
       rfl
      refine pure_ (i := 4) (N := some 56) (v := undef) (a' := ?_) #[true, true, true, true, true, false, false, false, false, false, false, false, false, false, false, false, false, false, false, false, false, false, false, false, false, false, false, false, false, false, false] rfl rfl (any_of HT_.out (by kernel_rfl)) (fun _ _ _ h => h) (Or.inr ⟨by rfl, rfl⟩) ?_ ?_
      rotate_left
      ·simp only [Act.put, List.setIfInBounds_toArray, List.set_cons_zero, List.set_cons_succ, i64_w, i32_w]
       rfl
      refine pure_ (i := 5) (N := some 57) (v := undef) (a' := ?_) #[true, true, true, true, true, true, false, false, false, false, false, false, false, false, false, false, false, false, false, false, false, false, false, false, false, false, false, false, false, false, false] rfl rfl (any_of HT_.out (by kernel_rfl)) (fun _ _ _ h => h) (Or.inr ⟨by rfl, rfl⟩) ?_ ?_
      rotate_left
      ·simp only [Act.put, List.setIfInBounds_toArray, List.set_cons_zero, List.set_cons_succ, i64_w, i32_w]
       rfl
      refine pure_ (i := 6) (N := some 58) (v := undef) (a' := ?_) #[true, true, true, true, true, true, true, false, false, false, false, false, false, false, false, false, false, false, false, false, false, false, false, false, false, false, false, false, false, false, false] rfl rfl (any_of HT_.out (by kernel_rfl)) (fun _ _ _ h => h) (Or.inr ⟨by rfl, rfl⟩) ?_ ?_
      rotate_left
      ·simp only [Act.put, List.setIfInBounds_toArray, List.set_cons_zero, List.set_cons_succ, i64_w, i32_w]
       rfl
      refine pure_ (i := 7) (N := some 59) (v := ?_) (a' := ?_) #[true, true, true, true, true, true, true, true, false, false, false, false, false, false, false, false, false, false, false, false, false, false, false, false, false, false, false, false, false, false, false] rfl rfl (any_of HT_.out (by kernel_rfl)) (fun _ _ _ h => h) (Or.inl ⟨by rfl, ?_⟩) ?_ ?_
      rotate_left
      ·intro w'
       go_simp
       with_reducible rfl
      rotate_left
      ·simp only [Act.put, List.setIfInBounds_toArray, List.set_cons_zero, List.set_cons_succ, i64_w, i32_w]
       rfl
      refine pure_ (i := 8) (N := some 60) (v := ?_) (a' := ?_) #[true, true, true, true, true, true, true, true, true, false, false, false, false, false, false, false, false, false, false, false, false, false, false, false, false, false, false, false, false, false, false] rfl rfl (any_of HT_.out (by kernel_rfl)) (fun _ _ _ h => h) (Or.inl ⟨by rfl, ?_⟩) ?_ ?_
      rotate_left
      ·intro w'
       go_simp
       with_reducible rfl
      rotate_left
      ·simp only [Act.put, List.setIfInBounds_toArray, List.set_cons_zero, List.set_cons_succ, i64_w, i32_w]
       rfl
      refine pure_ (i := 9) (N := some 61) (v := undef) (a' := ?_) #[true, true, true, true, true, true, true, true, true, true, false, false, false, false, false, false, false, false, false, false, false, false, false, false, false, false, false, false, false, false, false] rfl rfl (any_of HT_.out (by kernel_rfl)) (fun _ _ _ h => h) (Or.inr ⟨by rfl, rfl⟩) ?_ ?_
      rotate_left
      ·simp only [Act.put, List.setIfInBounds_toArray, List.set_cons_zero, List.set_cons_succ, i64_w, i32_w]
       rfl
      refine pure_ (i := 10) (N := some 62) (v := undef) (a' := ?_) #[true, true, true, true, true, true, true, true, true, true, true, false, false, false, false, false, false, false, false, false, false, false, false, false, false, false, false, false, false, false, false] rfl rfl (any_of HT_.out (by kernel_rfl)) (fun _ _ _ h => h) (Or.inr ⟨by rfl, rfl⟩) ?_ ?_
      rotate_left
      ·simp only [Act.put, List.setIfInBounds_toArray, List.set_cons_zero, List.set_cons_succ, i64_w, i32_w]
       rfl
      refine pure_ (i := 11) (N := some 63) (v := undef) (a' := ?_) #[true, true, true, true, true, true, true, true, true, true, true, true, false, false, false, false, false, false, false, false, false, false, false, false, false, false, false, false, false, false, false] rfl rfl (any_of HT_.out (by kernel_rfl)) (fun _ _ _ h => h) (Or.inr ⟨by rfl, rfl⟩) ?_ ?_
      rotate_left
      ·simp only [Act.put, List.setIfInBounds_toArray, List.set_cons_zero, List.set_cons_succ, i64_w, i32_w]
       rfl
      refine pure_ (i := 12) (N := some 64) (v := undef) (a' := ?_) #[true, true, true, true, true, true, true, true, true, true, true, true, true, false, false, false, false, false, false, false, false, false, false, false, false, false, false, false, false, false, false] rfl rfl (any_of HT_.out (by kernel_rfl)) (fun _ _ _ h => h) (Or.inr ⟨by rfl, rfl⟩) ?_ ?_
      rotate_left
      ·simp only [Act.put, List.setIfInBounds_toArray, List.set_cons_zero, List.set_cons_succ, i64_w, i32_w]
       rfl
      refine pure_ (i := 13) (N := some 65) (v := undef) (a' := ?_) #[true, true, true, true, true, true, true, true, true, true, true, true, true, true, false, false, false, false, false, false, false, false, false, false, false, false, false, false, false, false, false] rfl rfl (any_of HT_.out (by kernel_rfl)) (fun _ _ _ h => h) (Or.inr ⟨by rfl, rfl⟩) ?_ ?_
      rotate_left
      ·simp only [Act.put, List.setIfInBounds_toArray, List.set_cons_zero, List.set_cons_succ, i64_w, i32_w]
       rfl
      refine pure_ (i := 14) (N := some 66) (v := ?_) (a' := ?_) #[true, true, true, true, true, true, true, true, true, true, true, true, true, true, true, false, false, false, false, false, false, false, false, false, false, false, false, false, false, false, false] rfl rfl (any_of HT_.out (by kernel_rfl)) (fun _ _ _ h => h) (Or.inl ⟨by rfl, ?_⟩) ?_ ?_
      rotate_left
      ·intro w'
       go_simp
       with_reducible rfl
      rotate_left
      ·simp only [Act.put, List.setIfInBounds_toArray, List.set_cons_zero, List.set_cons_succ, i64_w, i32_w]
       rfl
      refine pure_ (i := 15) (N := some 67) (v := ?_) (a' := ?_) #[true, true, true, true, true, true, true, true, true, true, true, true, true, true, true, true, false, false, false, false, false, false, false, false, false, false, false, false, false, false, false] rfl rfl (any_of HT_.out (by kernel_rfl)) (fun _ _ _ h => h) (Or.inl ⟨by rfl, ?_⟩) ?_ ?_
      rotate_left
      ·intro w'
       go_simp
       with_reducible rfl
      rotate_left
      ·simp only [Act.put, List.setIfInBounds_toArray, List.set_cons_zero, List.set_cons_succ, i64_w, i32_w]
       rfl
      refine pure_ (i := 16) (N := some 68) (v := undef) (a' := ?_) #[true, true, true, true, true, true, true, true, true, true, true, true, true, true, true, true, true, false, false, false, false, false, false, false, false, false, false, false, false, false, false] rfl rfl (any_of HT_.out (by kernel_rfl)) (fun _ _ _ h => h) (Or.inr ⟨by rfl, rfl⟩) ?_ ?_
      rotate_left
      ·simp only [Act.put, List.setIfInBounds_toArray, List.set_cons_zero, List.set_cons_succ, i64_w, i32_w]
       rfl
      refine pure_ (i := 17) (N := some 69) (v := undef) (a' := ?_) #[true, true, true, true, true, true, true, true, true, true, true, true, true, true, true, true, true, true, false, false, false, false, false, false, false, false, false, false, false, false, false] rfl rfl (any_of HT_.out (by kernel_rfl)) (fun _ _ _ h => h) (Or.inr ⟨by rfl, rfl⟩) ?_ ?_
      rotate_left
      ·simp only [Act.put, List.setIfInBounds_toArray, List.set_cons_zero, List.set_cons_succ, i64_w, i32_w]
       rfl
      refine pure_ (i := 18) (N := some 70) (v := undef) (a' := ?_) #[true, true, true, true, true, true, true, true, true, true, true, true, true, true, true, true, true, true, true, false, false, false, false, false, false, false, false, false, false, false, false] rfl rfl (any_of HT_.out (by kernel_rfl)) (fun _ _ _ h => h) (Or.inr ⟨by rfl, rfl⟩) ?_ ?_
      rotate_left
      ·simp only [Act.put, List.setIfInBounds_toArray, List.set_cons_zero, List.set_cons_succ, i64_w, i32_w]
       rfl
      refine pure_ (i := 19) (N := some 71) (v := ?_) (a' := ?_) #[true, true, true, true, true, true, true, true, true, true, true, true, true, true, true, true, true, true, true, true, false, false, false, false, false, false, false, false, false, false, false] rfl rfl (any_of HT_.out (by kernel_rfl)) (fun _ _ _ h => h) (Or.inl ⟨by rfl, ?_⟩) ?_ ?_
      rotate_left
      ·intro w'
       go_simp
       with_reducible rfl
      rotate_left
      ·simp only [Act.put, List.setIfInBounds_toArray, List.set_cons_zero, List.set_cons_succ, i64_w, i32_w]
       rfl
      refine pure_ (i := 20) (N := some 72) (v := ?_) (a' := ?_) #[true, true, true, true, true, true, true, true, true, true, true, true, true, true, true, true, true, true, true, true, true, false, false, false, false, false, false, false, false, false, false] rfl rfl (any_of HT_.out (by kernel_rfl)) (fun _ _ _ h => h) (Or.inl ⟨by rfl, ?_⟩) ?_ ?_
      rotate_left
      ·intro w'
       go_simp
       with_reducible rfl
      rotate_left
      ·simp only [Act.put, List.setIfInBounds_toArray, List.set_cons_zero, List.set_cons_succ, i64_w, i32_w]
       rfl
      refine pure_ (i := 21) (N := some 73) (v := undef) (a' := ?_) #[true, true, true, true, true, true, true, true, true, true, true, true, true, true, true, true, true, true, true, true, true, true, false, false, false, false, false, false, false, false, false] rfl rfl (any_of HT_.out (by kernel_rfl)) (fun _ _ _ h => h) (Or.inr ⟨by rfl, rfl⟩) ?_ ?_
      rotate_left
      ·simp only [Act.put, List.setIfInBounds_toArray, List.set_cons_zero, List.set_cons_succ, i64_w, i32_w]
       rfl
      refine pure_ (i := 22) (N := some 74) (v := undef) (a' := ?_) #[true, true, true, true, true, true, true, true, true, true, true, true, true, true, true, true, true, true, true, true, true, true, true, false, false, false, false, false, false, false, false] rfl rfl (any_of HT_.out (by kernel_rfl)) (fun _ _ _ h => h) (Or.inr ⟨by rfl, rfl⟩) ?_ ?_
      rotate_left
      ·simp only [Act.put, List.setIfInBounds_toArray, List.set_cons_zero, List.set_cons_succ, i64_w, i32_w]
       rfl
      refine pure_ (i := 23) (N := some 75) (v := undef) (a' := ?_) #[true, true, true, true, true, true, true, true, true, true, true, true, true, true, true, true, true, true, true, true, true, true, true, true, false, false, false, false, false, false, false] rfl rfl (any_of HT_.out (by kernel_rfl)) (fun _ _ _ h => h) (Or.inr ⟨by rfl, rfl⟩) ?_ ?_
      rotate_left
      ·simp only [Act.put, List.setIfInBounds_toArray, List.set_cons_zero, List.set_cons_succ, i64_w, i32_w]
       rfl
      refine pure_ (i := 24) (N := some 76) (v := ?_) (a' := ?_) #[true, true, true, true, true, true, true, true, true, true, true, true, true, true, true, true, true, true, true, true, true, true, true, true, true, false, false, false, false, false, false] rfl rfl (any_of HT_.out (by kernel_rfl)) (fun _ _ _ h => h) (Or.inl ⟨by rfl, ?_⟩) ?_ ?_
      rotate_left
      ·intro w'
       go_simp
       with_reducible rfl
      rotate_left
      ·simp only [Act.put, List.setIfInBounds_toArray, List.set_cons_zero, List.set_cons_succ, i64_w, i32_w]
       rfl
      refine pure_ (i := 25) (N := some 77) (v := ?_) (a' := ?_) #[true, true, true, true, true, true, true, true, true, true, true, true, true, true, true, true, true, true, true, true, true, true, true, true, true, true, false, false, false, false, false] rfl rfl (any_of HT_.out (by kernel_rfl)) (fun _ _ _ h => h) (Or.inl ⟨by rfl, ?_⟩) ?_ ?_
      rotate_left
      ·intro w'
       go_simp
       with_reducible rfl
      rotate_left
      ·simp only [Act.put, List.setIfInBounds_toArray, List.set_cons_zero, List.set_cons_succ, i64_w, i32_w]
       rfl
      refine pure_ (i := 26) (N := some 78) (v := undef) (a' := ?_) #[true, true, true, true, true, true, true, true, true, true, true, true, true, true, true, true, true, true, true, true, true, true, true, true, true, true, true, false, false, false, false] rfl rfl (any_of HT_.out (by kernel_rfl)) (fun _ _ _ h => h) (Or.inr ⟨by rfl, rfl⟩) ?_ ?_
      rotate_left
      ·simp only [Act.put, List.setIfInBounds_toArray, List.set_cons_zero, List.set_cons_succ, i64_w, i32_w]
       rfl
      refine pure_ (i := 27) (N := some 79) (v := undef) (a' := ?_) #[true, true, true, true, true, true, true, true, true, true, true, true, true, true, true, true, true, true, true, true, true, true, true, true, true, true, true, true, false, false, false] rfl rfl (any_of HT_.out (by kernel_rfl)) (fun _ _ _ h => h) (Or.inr ⟨by rfl, rfl⟩) ?_ ?_
      rotate_left
      ·simp only [Act.put, List.setIfInBounds_toArray, List.set_cons_zero, List.set_cons_succ, i64_w, i32_w]
       rfl
      refine pure_ (i := 28) (N := some 80) (v := undef) (a' := ?_) #[true, true, true, true, true, true, true, true, true, true, true, true, true, true, true, true, true, true, true, true, true, true, true, true, true, true, true, true, true, false, false] rfl rfl (any_of HT_.out (by kernel_rfl)) (fun _ _ _ h => h) (Or.inr ⟨by rfl, rfl⟩) ?_ ?_
      rotate_left
      ·simp only [Act.put, List.setIfInBounds_toArray, List.set_cons_zero, List.set_cons_succ, i64_w, i32_w]
       rfl
      refine pure_ (i := 29) (N := some 81) (v := ?_) (a' := ?_) #[true, true, true, true, true, true, true, true, true, true, true, true, true, true, true, true, true, true, true, true, true, true, true, true, true, true, true, true, true, true, false] rfl rfl (any_of HT_.out (by kernel_rfl)) (fun _ _ _ h => h) (Or.inl ⟨by rfl, ?_⟩) ?_ ?_
      rotate_left
      ·intro w'
       go_simp
       with_reducible rfl
      rotate_left
      ·simp only [Act.put, List.setIfInBounds_toArray, List.set_cons_zero, List.set_cons_succ, i64_w, i32_w]
       rfl
      refine pure_ (i := 30) (N := some 6) (v := ?_) (a' := ?_) #[true, true, true, true, true, true, true, true, true, true, true, true, true, true, true, true, true, true, true, true, true, true, true, true, true, true, true, true, true, true, true] rfl rfl (any_of HT_.out (by kernel_rfl)) (fun _ _ _ h => h) (Or.inl ⟨by rfl, ?_⟩) ?_ ?_
      rotate_left
      ·intro w'
       go_simp
       with_reducible rfl
      rotate_left
      ·simp only [Act.put, List.setIfInBounds_toArray, List.set_cons_zero, List.set_cons_succ, i64_w, i32_w]
       rfl
      refine done_ (done_of HT_.out (by kernel_rfl)) ?_
      try go_wp2
      go_ret
      exact ⟨by first | rfl | (simp [errW_none, errW_some] <;> rfl) | (simp [*, errW_none, errW_some] <;> rfl), by repeat (first | (with_reducible first | exact HB.out | apply bA | apply bN | apply bD | refine bS ?_ GE464.out | refine bS ?_ GE475.out | refine bS ?_ GE481.out) | exact HB.out)⟩
 ·replace c5 := Bool.eq_false_iff.mpr c5
  subst c5
  have H1 : (some false) = some r := by rw [if_neg (show ¬ (false = true) by decide)] at H; exact H
  clear H
  have H := H1
  clear H1
  obtain rfl := Option.some.inj H
  go_enter Try.func20, Try.ntmps20
  go_wp2_with (first | ((with_reducible refine gate_dst (N := 3) rfl ?_); (try (refine gate_guard (by rfl) ?_; dsimp only)); refine box_event ?hg (N := 3) ?hd (cs := #[.int .i64 a0_0, .int .i64 a0_1, .string a0_2]) (t := 102) ?hr ?_; (case hd => rfl); (case hg => rfl); (case hr => first | (go_simp; done) | (go_simp; rfl)); intro gb464 hg w122 hbox hb; have n0_ := mA (bP (by repeat (first | (with_reducible first | exact HB.out | apply bA | apply bN | apply bD) | exact HB.out)) hb); have n1_ := mA (hbox); have n2_ := mA ((by rw [hg]; exact (below_size (by repeat (first | (with_reducible first | exact HB.out | apply bA | apply bN | apply bD) | exact HB.out))) : w.heap.size ≤ gb464)); have n3_ := mA ((by rw [hg]; exact (below_size (by repeat (first | (with_reducible first | exact HB.out | apply bA | apply bN | apply bD) | exact HB.out))) : w.heap.size ≤ gb464)); clear HB; have HB := n0_; have BK464 := n1_; have GW464 := n2_; have GE464 := n3_; clear n0_ n1_ n2_ n3_; clear hb hbox hg) | ((with_reducible refine gate_callee (f := 89) rfl ?_); refine goesL_ (some 17) rfl rfl Try.func89 (by kernel_rfl) rfl #[] rfl (by (try simp only [List.map_toArray, List.map_cons, List.map_nil]); first | done | rfl | (simp only [List.length_drop, List.length_take]; rfl)) ?_; (with_reducible refine (palanquinlaw08_awake.calls  false _ A4.out).mono ?_); rintro e w123 ⟨rfl, hb⟩; refine ⟨_, rfl, ?_⟩; have n0_ := mA (blk_below (g := gb464) (o := .cells #[.int .i64 a0_0, .int .i64 a0_1, .string a0_2] 102 (0, 0)) (by (with_reducible repeat (first | apply kN | apply kD | apply kA)); exact BK464.out) hb); have n1_ := mA (bP (by repeat (first | (with_reducible first | exact HB.out | apply bA | apply bN | apply bD | refine bS ?_ GE464.out) | exact HB.out)) hb); clear BK464; clear HB; have BK464 := n0_; have HB := n1_; clear n0_ n1_; (try clear hb); (try clear hb2); (try clear hk); (try clear hi)))
  go_ret
  exact ⟨by first | rfl | (simp [errW_none, errW_some] <;> rfl) | (simp [*, errW_none, errW_some] <;> rfl), by repeat (first | (with_reducible first | exact HB.out | apply bA | apply bN | apply bD | refine bS ?_ GE464.out) | exact HB.out)⟩

end Go.Proofs.Ytejmipoolbodgaa.G
