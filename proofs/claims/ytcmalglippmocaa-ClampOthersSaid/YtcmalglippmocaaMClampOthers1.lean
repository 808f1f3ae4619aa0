/- Texts of this session, joined: each is a section. -/
import Derived.Test.YtcmalglippmocaaMFlob1
import Derived.Test.YtcmalglippmocaaMFlob7
import Derived.Test.YtcmalglippmocaaMFlob8
import Derived.Test.YtcmalglippmocaaMFlob3
import Derived.Test.YtcmalglippmocaaMFlob4
set_option linter.unusedVariables false
set_option linter.unusedSimpArgs false
section
namespace Go.Proofs.Ytcmalglippmocaa.G
open Go.RowKit Go.Proofs.YtcmalglippmocaaW.PrintWords Go.Proofs.YtcmalglippmocaaW.PrintLast Go.Proofs.YtcmalglippmocaaW.PrintMore
attribute [local go_sem] max2_int min2_int max_two min_two max_three min_three max_four min_four   -- for this text's walks alone
set_option linter.unusedVariables false
set_option linter.unusedSimpArgs false

def palanquinlaw10_ClampOthers.j0 : Nat → ByteArray → Int → Int → Bool → Bool → Int → ByteArray → ByteArray → Int → Int → Option (Bool)
 | 0, _, _, _, _, _, _, _, _, _, _ => none
 | k + 1, x0, x1, x5, x6, x31, x367000, x367001, x367002, x367003, x367004 => if x31 = true then (if x5 = 0 then (if x6 = true then (some false) else ((clamp_Clamp.f x0 x1).bind fun t367 => (some (t367.toList == x0.toList)))) else (some false)) else (if (x367001.size : Int) = 4 then (if 0 < (x0.size : Int) then (if 0 ≤ (wrap64 ((wrap64 ((wrap64 (Go.bits .and .u8 (bt x0 0) 15)) * 4)) + 13)) then (if (wrap64 ((wrap64 ((wrap64 (Go.bits .and .u8 (bt x0 0) 15)) * 4)) + 13)) < (x0.size : Int) then (if (Go.bits .and .u8 (bt x0 (wrap64 ((wrap64 ((wrap64 (Go.bits .and .u8 (bt x0 0) 15)) * 4)) + 13))) 2) = 0 then (if x6 = true then (some false) else (if x5 = 0 then ((clamp_Clamp.f x0 x1).bind fun t368 => (some (t368.toList == x0.toList))) else (some false))) else (if x6 = true then (some true) else (if x5 = 0 then ((clamp_Clamp.f x0 x1).bind fun t369 => (some (t369.toList == x0.toList))) else (some false)))) else (none)) else (none)) else (none)) else (if 0 ≤ ((40 : Int) + 13) then (if (40 + 13) < (x0.size : Int) then (if (Go.bits .and .u8 (bt x0 (40 + 13)) 2) = 0 then (if x6 = true then (some false) else (if x5 = 0 then ((clamp_Clamp.f x0 x1).bind fun t370 => (some (t370.toList == x0.toList))) else (some false))) else (if x6 = true then (some true) else (if x5 = 0 then ((clamp_Clamp.f x0 x1).bind fun t371 => (some (t371.toList == x0.toList))) else (some false)))) else (none)) else (none)))
def palanquinlaw10_ClampOthers.f (k : Nat) (a0 : ByteArray) (a1 : Int) : Option (Bool) := (palanquinlaw10_awake.f k).bind fun t357 => (if t357 = true then (if (a0.size : Int) > 5000 then (some true) else ((clamp_MSS.f k a0).bind fun bt358 => ((flow_Get.f a0).bind fun bt360 => (if bt360.2.2.2.2.2 = 0 then (palanquinlaw10_ClampOthers.j0 k a0 a1 bt358.1 bt358.2 (bt360.1 != 6) bt360.1 bt360.2.1 bt360.2.2.1 bt360.2.2.2.1 bt360.2.2.2.2.1) else (palanquinlaw10_ClampOthers.j0 k a0 a1 bt358.1 bt358.2 true bt360.1 bt360.2.1 bt360.2.2.1 bt360.2.2.2.1 bt360.2.2.2.2.1))))) else (some false))
set_option maxHeartbeats 8000000 in
set_option maxRecDepth 100000 in
theorem palanquinlaw10_ClampOthers.calls (k : Nat) (a0 : ByteArray) (a1 : Int) (r : Bool) (w : World) (h : palanquinlaw10_ClampOthers.f k a0 a1 = some r) (hrt_ : Aside0 (r = true)) :
  Calls Try.prog 6 #[.string a0, .int .i64 a1] w fun e w' => e = .returned (.bool r) ∧ Below w.heap.size w w' := by
 have hu24 := Try.underlying24
 have HB := mA (Below.refl w.heap.size w)
 have H : ((palanquinlaw10_awake.f k).bind fun t357 => (if t357 = true then (if (a0.size : Int) > 5000 then (some true) else ((clamp_MSS.f k a0).bind fun bt358 => ((flow_Get.f a0).bind fun bt360 => (if bt360.2.2.2.2.2 = 0 then (palanquinlaw10_ClampOthers.j0 k a0 a1 bt358.1 bt358.2 (bt360.1 != 6) bt360.1 bt360.2.1 bt360.2.2.1 bt360.2.2.2.1 bt360.2.2.2.2.1) else (palanquinlaw10_ClampOthers.j0 k a0 a1 bt358.1 bt358.2 true bt360.1 bt360.2.1 bt360.2.2.1 bt360.2.2.2.1 bt360.2.2.2.2.1))))) else (some false))) = some r := h
 clear h
 replace H := Option.bind_eq_some_iff.mp H
 obtain ⟨t357, A30, H⟩ := H
 replace H : (if t357 = true then (if (a0.size : Int) > 5000 then (some true) else ((clamp_MSS.f k a0).bind fun bt358 => ((flow_Get.f a0).bind fun bt360 => (if bt360.2.2.2.2.2 = 0 then (palanquinlaw10_ClampOthers.j0 k a0 a1 bt358.1 bt358.2 (bt360.1 != 6) bt360.1 bt360.2.1 bt360.2.2.1 bt360.2.2.2.1 bt360.2.2.2.2.1) else (palanquinlaw10_ClampOthers.j0 k a0 a1 bt358.1 bt358.2 true bt360.1 bt360.2.1 bt360.2.2.1 bt360.2.2.2.1 bt360.2.2.2.2.1))))) else (some false)) = some r := H
 have A3 := mA A30
 clear A30
 by_cases c4 : t357 = true
 ·subst c4
  have H1 : (if (a0.size : Int) > 5000 then (some true) else ((clamp_MSS.f k a0).bind fun bt358 => ((flow_Get.f a0).bind fun bt360 => (if bt360.2.2.2.2.2 = 0 then (palanquinlaw10_ClampOthers.j0 k a0 a1 bt358.1 bt358.2 (bt360.1 != 6) bt360.1 bt360.2.1 bt360.2.2.1 bt360.2.2.2.1 bt360.2.2.2.2.1) else (palanquinlaw10_ClampOthers.j0 k a0 a1 bt358.1 bt358.2 true bt360.1 bt360.2.1 bt360.2.2.1 bt360.2.2.2.1 bt360.2.2.2.2.1))))) = some r := by rw [if_pos rfl] at H; exact H
  clear H
  have H := H1
  clear H1
  by_cases c5 : (a0.size : Int) > 5000
  ·rw [if_pos c5] at H
   have c5b0 : decide (5000 < (a0.size : Int)) = true := decide_eq_true c5
   have c5b1 : decide (5000 < a0.size) = true := decide_eq_true (by omega)
   clear c5
   obtain rfl := Option.some.inj H
   go_enter Try.func6, Try.ntmps6
   go_wp2_with (first | ((with_reducible refine gate_callee (f := 13) rfl ?_); refine goesL_ (some 10) rfl rfl Try.func13 (by kernel_rfl) rfl #[] rfl (by (try simp only [List.map_toArray, List.map_cons, List.map_nil]); first | done | rfl | (simp only [List.length_drop, List.length_take]; rfl)) ?_; (with_reducible refine (palanquinlaw10_awake.calls k  true _ A3.out).mono ?_); rintro e w6 ⟨rfl, hb⟩; refine ⟨_, rfl, ?_⟩; have n0_ := mA (bP (by repeat (first | (with_reducible first | exact HB.out | apply bA | apply bN | apply bD) | exact HB.out)) hb); clear HB; have HB := n0_; clear n0_; (try clear hb); (try clear hb2); (try clear hk); (try clear hi)))
   go_ret
   exact ⟨by first | rfl | (simp [errW_none, errW_some] <;> rfl) | (simp [*, errW_none, errW_some] <;> rfl), by repeat (first | (with_reducible first | exact HB.out | apply bA | apply bN | apply bD) | exact HB.out)⟩
  ·rw [if_neg c5] at H
   have c5b0 : decide (5000 < (a0.size : Int)) = false := decide_eq_false c5
   have c5b1 : decide (5000 < a0.size) = false := decide_eq_false (by omega)
   clear c5
   replace H := Option.bind_eq_some_iff.mp H
   obtain ⟨⟨t358, t359⟩, A70, H⟩ := H
   replace H : ((flow_Get.f a0).bind fun bt360 => (if bt360.2.2.2.2.2 = 0 then (palanquinlaw10_ClampOthers.j0 k a0 a1 t358 t359 (bt360.1 != 6) bt360.1 bt360.2.1 bt360.2.2.1 bt360.2.2.2.1 bt360.2.2.2.2.1) else (palanquinlaw10_ClampOthers.j0 k a0 a1 t358 t359 true bt360.1 bt360.2.1 bt360.2.2.1 bt360.2.2.2.1 bt360.2.2.2.2.1))) = some r := H
   have A7 := mA A70
   clear A70
   replace H := Option.bind_eq_some_iff.mp H
   obtain ⟨⟨t360, t361, t362, t363, t364, t365⟩, A80, H⟩ := H
   replace H : (if t365 = 0 then (palanquinlaw10_ClampOthers.j0 k a0 a1 t358 t359 (t360 != 6) t360 t361 t362 t363 t364) else (palanquinlaw10_ClampOthers.j0 k a0 a1 t358 t359 true t360 t361 t362 t363 t364)) = some r := H
   have A8 := mA A80
   clear A80
   have HC9 := mA H
   clear H
   go_enter Try.func6, Try.ntmps6
   go_upto_region 7 with (first | ((with_reducible refine gate_callee (f := 13) rfl ?_); refine goesL_ (some 10) rfl rfl Try.func13 (by kernel_rfl) rfl #[] rfl (by (try simp only [List.map_toArray, List.map_cons, List.map_nil]); first | done | rfl | (simp only [List.length_drop, List.length_take]; rfl)) ?_; (with_reducible refine (palanquinlaw10_awake.calls k  true _ A3.out).mono ?_); rintro e w10 ⟨rfl, hb⟩; refine ⟨_, rfl, ?_⟩; have n0_ := mA (bP (by repeat (first | (with_reducible first | exact HB.out | apply bA | apply bN | apply bD) | exact HB.out)) hb); clear HB; have HB := n0_; clear n0_; (try clear hb); (try clear hb2); (try clear hk); (try clear hi)) | ((with_reducible refine gate_callee (f := 15) rfl ?_); refine goesL_ (some 17) rfl rfl Try.func15 (by kernel_rfl) rfl #[.string a0] rfl (by (try simp only [List.map_toArray, List.map_cons, List.map_nil]); first | done | rfl | (simp only [List.length_drop, List.length_take]; rfl)) ?_; (with_reducible refine (clamp_MSS.calls k a0 t358 t359 _ A7.out).mono ?_); rintro e w11 ⟨rfl, hb⟩; refine ⟨_, rfl, ?_⟩; have n0_ := mA (bP (by repeat (first | (with_reducible first | exact HB.out | apply bA | apply bN | apply bD) | exact HB.out)) hb); clear HB; have HB := n0_; clear n0_; (try clear hb); (try clear hb2); (try clear hk); (try clear hi)) | ((with_reducible refine gate_callee (f := 11) rfl ?_); refine goesL_ (some 22) rfl rfl Try.func11 (by kernel_rfl) rfl #[.string a0] rfl (by (try simp only [List.map_toArray, List.map_cons, List.map_nil]); first | done | rfl | (simp only [List.length_drop, List.length_take]; rfl)) ?_; (with_reducible refine (flow_Get.calls a0 t360 t361 t362 t363 t364 t365 _ A8.out).mono ?_); rintro e w12 ⟨rfl, hb⟩; refine ⟨_, rfl, ?_⟩; have n0_ := mA (bP (by repeat (first | (with_reducible first | exact HB.out | apply bA | apply bN | apply bD) | exact HB.out)) hb); clear HB; have HB := n0_; clear n0_; (try clear hb); (try clear hb2); (try clear hk); (try clear hi)) | ((with_reducible refine gate_dst (N := 7) rfl ?_); refine box_event ?hg (N := 7) ?hd (cs := #[.int .i64 0, .string (⟨#[]⟩ : ByteArray), .string (⟨#[]⟩ : ByteArray), .int .i64 0, .int .i64 0]) (t := 24) ?hr ?_; (case hd => rfl); (case hg => rfl); (case hr => first | (go_simp; done) | (go_simp; rfl)); intro gb366 hg w13 hbox hb; obtain ⟨n0_, nq_⟩ := bpr (by repeat (first | (with_reducible first | exact HB.out | apply bA | apply bN | apply bD) | exact HB.out)) hb; have n1_ := mA (hbox); have n2_ := mA ((by rw [hg]; exact nq_ : w.heap.size ≤ gb366)); have n3_ := mA ((by rw [hg]; exact nq_ : w.heap.size ≤ gb366)); clear HB; have HB := n0_; have BK366 := n1_; have GW366 := n2_; have GE366 := n3_; clear nq_; clear n0_ n1_ n2_ n3_; clear hb hbox hg; obtain ⟨hcz14_0, hcz14_1, hcz14_2, hcz14_3, hcz14_4⟩ := bc5 BK366.out; obtain ⟨hfz14_0, hfz14_1, hfz14_2, hfz14_3, hfz14_4⟩ := bf5 BK366.out))
   (try simp only [Act.put, List.setIfInBounds_toArray, List.set_cons_zero, List.set_cons_succ])
   go_cut [31] (fun v31 wc => ∃ (kq : Nat) (x31_8 : Bool), v31 = .bool x31_8 ∧ Aside0 (palanquinlaw10_ClampOthers.j0 kq a0 a1 t358 t359 x31_8 t360 t361 t362 t363 t364 = some r) ∧ Aside0 (kq ≤ k) ∧ Aside0 (wc.heap[gb366]? = some (.cells #[.int .i64 t360, .string t361, .string t362, .int .i64 t363, .int .i64 t364] 24 (0, 0))) ∧ Aside0 (Below w.heap.size w wc))
   case first =>
    have H := HC9.out
    clear HC9
    by_cases c15 : t365 = 0
    ·rw [if_pos c15] at H
     have c15b0 : (t365 == 0) = true := beq_iff_eq.mpr c15
     have c15b1 : (t365 != 0) = false := bne_eq_false_iff_eq.mpr c15
     clear c15
     (first | rw [c15b0] | (simp only [i64_w, i32_w]; rw [c15b0]) | skip)
     have H' := mA H
     clear H
     obtain ⟨hcz16_0, hcz16_1, hcz16_2, hcz16_3, hcz16_4⟩ := bc5 BK366.out
     obtain ⟨hfz16_0, hfz16_1, hfz16_2, hfz16_3, hfz16_4⟩ := bf5 BK366.out
     go_wp2
     go_meet
     case rel => exact ⟨_, ((t360 != 6)), (by first | rfl | (simp; done) | (simp [*]; done)), H', ⟨by first | omega | exact Nat.le_refl _⟩, ⟨by (with_reducible repeat (first | apply kN | apply kD | apply kA)); refine blk_put (cs := #[.int .i64 t360, .string t361, .string t362, .int .i64 t363, .int .i64 0]) ?_ 4 _ (by first | rfl | (simp [*]; done)); (with_reducible repeat (first | apply kN | apply kD | apply kA)); refine blk_put (cs := #[.int .i64 t360, .string t361, .string t362, .int .i64 0, .int .i64 0]) ?_ 3 _ (by first | rfl | (simp [*]; done)); (with_reducible repeat (first | apply kN | apply kD | apply kA)); refine blk_put (cs := #[.int .i64 t360, .string t361, .string (⟨#[]⟩ : ByteArray), .int .i64 0, .int .i64 0]) ?_ 2 _ (by first | rfl | (simp [*]; done)); (with_reducible repeat (first | apply kN | apply kD | apply kA)); refine blk_put (cs := #[.int .i64 t360, .string (⟨#[]⟩ : ByteArray), .string (⟨#[]⟩ : ByteArray), .int .i64 0, .int .i64 0]) ?_ 1 _ (by first | rfl | (simp [*]; done)); (with_reducible repeat (first | apply kN | apply kD | apply kA)); refine blk_put (cs := #[.int .i64 0, .string (⟨#[]⟩ : ByteArray), .string (⟨#[]⟩ : ByteArray), .int .i64 0, .int .i64 0]) ?_ 0 _ (by first | rfl | (simp [*]; done)); (with_reducible repeat (first | apply kN | apply kD | apply kA)); exact BK366.out⟩, ⟨by repeat (first | (with_reducible first | exact HB.out | apply bA | apply bN | apply bD | refine bS ?_ GE366.out) | exact HB.out)⟩⟩
    ·rw [if_neg c15] at H
     have c15b0 : (t365 == 0) = false := beq_eq_false_iff_ne.mpr c15
     have c15b1 : (t365 != 0) = true := bne_iff_ne.mpr c15
     (first | rw [c15b0] | (simp only [i64_w, i32_w]; rw [c15b0]) | skip)
     have H' := mA H
     clear H
     go_wp2
     go_meet
     case rel => exact ⟨_, (true), (by first | rfl | (simp; done) | (simp [*]; done)), H', ⟨by first | omega | exact Nat.le_refl _⟩, ⟨by (with_reducible repeat (first | apply kN | apply kD | apply kA)); refine blk_put (cs := #[.int .i64 t360, .string t361, .string t362, .int .i64 t363, .int .i64 0]) ?_ 4 _ (by first | rfl | (simp [*]; done)); (with_reducible repeat (first | apply kN | apply kD | apply kA)); refine blk_put (cs := #[.int .i64 t360, .string t361, .string t362, .int .i64 0, .int .i64 0]) ?_ 3 _ (by first | rfl | (simp [*]; done)); (with_reducible repeat (first | apply kN | apply kD | apply kA)); refine blk_put (cs := #[.int .i64 t360, .string t361, .string (⟨#[]⟩ : ByteArray), .int .i64 0, .int .i64 0]) ?_ 2 _ (by first | rfl | (simp [*]; done)); (with_reducible repeat (first | apply kN | apply kD | apply kA)); refine blk_put (cs := #[.int .i64 t360, .string (⟨#[]⟩ : ByteArray), .string (⟨#[]⟩ : ByteArray), .int .i64 0, .int .i64 0]) ?_ 1 _ (by first | rfl | (simp [*]; done)); (with_reducible repeat (first | apply kN | apply kD | apply kA)); refine blk_put (cs := #[.int .i64 0, .string (⟨#[]⟩ : ByteArray), .string (⟨#[]⟩ : ByteArray), .int .i64 0, .int .i64 0]) ?_ 0 _ (by first | rfl | (simp [*]; done)); (with_reducible repeat (first | apply kN | apply kD | apply kA)); exact BK366.out⟩, ⟨by repeat (first | (with_reducible first | exact HB.out | apply bA | apply bN | apply bD | refine bS ?_ GE366.out) | exact HB.out)⟩⟩
   case rest =>
    clear HC9
    try clear c1
    try clear p2
    try clear c4
    try clear c5
    try clear c5b0
    try clear c5b1
    try clear c6
    try clear c11
    try clear c13
    try clear c15
    try clear c15b0
    try clear c15b1
    try clear hcz14_0 hcz14_1 hcz14_2 hcz14_3 hcz14_4
    try clear hcz16_0 hcz16_1 hcz16_2 hcz16_3 hcz16_4
    try clear hfz14_0 hfz14_1 hfz14_2 hfz14_3 hfz14_4
    try clear hfz16_0 hfz16_1 hfz16_2 hfz16_3 hfz16_4
    obtain ⟨kq, x31_8, rfl, HA, HJ8, BK366, HB⟩ := hcut
    cases kq with
    | zero => exact absurd HA.out (by simp [palanquinlaw10_ClampOthers.j0])
    | succ kj8 =>
     have H := HA.out
     clear HA
     simp only [palanquinlaw10_ClampOthers.j0] at H
     by_cases c17 : x31_8 = true
     ·subst c17
      have H1 : (if t358 = 0 then (if t359 = true then (some false) else ((clamp_Clamp.f a0 a1).bind fun t367 => (some (t367.toList == a0.toList)))) else (some false)) = some r := by rw [if_pos rfl] at H; exact H
      clear H
      have H := H1
      clear H1
      by_cases c18 : t358 = 0
      ·rw [if_pos c18] at H
       have c18b0 : (t358 == 0) = true := beq_iff_eq.mpr c18
       have c18b1 : (t358 != 0) = false := bne_eq_false_iff_eq.mpr c18
       clear c18
       by_cases c19 : t359 = true
       ·subst c19
        have H1 : (some false) = some r := by rw [if_pos rfl] at H; exact H
        exact absurd ((Option.some.inj H1).trans hrt_.out) (by decide)
       ·replace c19 := Bool.eq_false_iff.mpr c19
        subst c19
        have H1 : ((clamp_Clamp.f a0 a1).bind fun t367 => (some (t367.toList == a0.toList))) = some r := by rw [if_neg (show ¬ (false = true) by decide)] at H; exact H
        clear H
        have H := H1
        clear H1
        replace H := Option.bind_eq_some_iff.mp H
        obtain ⟨t367, A200, H⟩ := H
        replace H : (some (t367.toList == a0.toList)) = some r := H
        have A20 := mA A200
        clear A200
        obtain rfl := Option.some.inj H
        go_wp2_with (first | (go_at_call 14; (with_reducible refine (clamp_Clamp.calls a0 a1 t367 _ A20.out).mono ?_); rintro e w21 ⟨rfl, hb⟩; have n0_ := mA (blk_below (g := gb366) (o := .cells #[.int .i64 t360, .string t361, .string t362, .int .i64 t363, .int .i64 t364] 24 (0, 0)) (by (with_reducible repeat (first | apply kN | apply kD | apply kA)); exact BK366.out) hb); have n1_ := mA (bP (by repeat (first | (with_reducible first | exact HB.out | apply bA | apply bN | apply bD | refine bS ?_ GE366.out) | exact HB.out)) hb); clear BK366; clear HB; have BK366 := n0_; have HB := n1_; clear n0_ n1_; (try clear hb); (try clear hb2); (try clear hk); (try clear hi)))
        go_ret
        exact ⟨by first | rfl | (simp [errW_none, errW_some] <;> rfl) | (simp [*, errW_none, errW_some] <;> rfl), by repeat (first | (with_reducible first | exact HB.out | apply bA | apply bN | apply bD | refine bS ?_ GE366.out) | exact HB.out)⟩
      ·rw [if_neg c18] at H
       exact absurd ((Option.some.inj H).trans hrt_.out) (by decide)
     ·replace c17 := Bool.eq_false_iff.mpr c17
      subst c17
      have H1 : (if (t361.size : Int) = 4 then (if 0 < (a0.size : Int) then (if 0 ≤ (wrap64 ((wrap64 ((wrap64 (Go.bits .and .u8 (bt a0 0) 15)) * 4)) + 13)) then (if (wrap64 ((wrap64 ((wrap64 (Go.bits .and .u8 (bt a0 0) 15)) * 4)) + 13)) < (a0.size : Int) then (if (Go.bits .and .u8 (bt a0 (wrap64 ((wrap64 ((wrap64 (Go.bits .and .u8 (bt a0 0) 15)) * 4)) + 13))) 2) = 0 then (if t359 = true then (some false) else (if t358 = 0 then ((clamp_Clamp.f a0 a1).bind fun t368 => (some (t368.toList == a0.toList))) else (some false))) else (if t359 = true then (some true) else (if t358 = 0 then ((clamp_Clamp.f a0 a1).bind fun t369 => (some (t369.toList == a0.toList))) else (some false)))) else (none)) else (none)) else (none)) else (if 0 ≤ ((40 : Int) + 13) then (if (40 + 13) < (a0.size : Int) then (if (Go.bits .and .u8 (bt a0 (40 + 13)) 2) = 0 then (if t359 = true then (some false) else (if t358 = 0 then ((clamp_Clamp.f a0 a1).bind fun t370 => (some (t370.toList == a0.toList))) else (some false))) else (if t359 = true then (some true) else (if t358 = 0 then ((clamp_Clamp.f a0 a1).bind fun t371 => (some (t371.toList == a0.toList))) else (some false)))) else (none)) else (none))) = some r := by rw [if_neg (show ¬ (false = true) by decide)] at H; exact H
      clear H
      have H := H1
      clear H1
      by_cases c22 : (t361.size : Int) = 4
      ·rw [if_pos c22] at H
       have c22b0 : ((t361.size : Int) == 4) = true := beq_iff_eq.mpr c22
       have c22b1 : ((t361.size : Int) != 4) = false := bne_eq_false_iff_eq.mpr c22
       clear c22
       by_cases c23 : 0 < (a0.size : Int)
       ·rw [if_pos c23] at H
        have c23b0 : decide (0 < (a0.size : Int)) = true := decide_eq_true c23
        have c23b1 : decide (0 < a0.size) = true := decide_eq_true (by omega)
        clear c23
        obtain ⟨ji25, hji25⟩ : ∃ j_ : Int, (wrap64 ((wrap64 ((wrap64 (Go.bits .and .u8 (bt a0 0) 15)) * 4)) + 13)) = j_ := ⟨_, rfl⟩
        replace H : (if 0 ≤ (ji25) then (if (ji25) < (a0.size : Int) then (if (Go.bits .and .u8 (bt a0 (ji25)) 2) = 0 then (if t359 = true then (some false) else (if t358 = 0 then ((clamp_Clamp.f a0 a1).bind fun t368 => (some (t368.toList == a0.toList))) else (some false))) else (if t359 = true then (some true) else (if t358 = 0 then ((clamp_Clamp.f a0 a1).bind fun t369 => (some (t369.toList == a0.toList))) else (some false)))) else (none)) else (none)) = some r := by first | (rw [hji25] at H; exact H) | (simp only [hji25] at H ⊢; exact H)
        have hji25w : (IntKind.i64.wrap ((wrap64 ((wrap64 (Go.bits .and .u8 (bt a0 0) 15)) * 4)) + 13)) = ji25 := (i64_w _).trans hji25
        by_cases c26 : 0 ≤ (ji25)
        ·rw [if_pos c26] at H
         have c26b0 : decide (0 ≤ (ji25)) = true := decide_eq_true c26
         clear c26
         by_cases c27 : (ji25) < (a0.size : Int)
         ·rw [if_pos c27] at H
          have c27b0 : decide ((ji25) < (a0.size : Int)) = true := decide_eq_true c27
          clear c27
          by_cases c29 : (Go.bits .and .u8 (bt a0 (ji25)) 2) = 0
          ·rw [if_pos c29] at H
           have c29b0 : ((Go.bits .and .u8 (bt a0 (ji25)) 2) == 0) = true := beq_iff_eq.mpr c29
           have c29b1 : ((Go.bits .and .u8 (bt a0 (ji25)) 2) != 0) = false := bne_eq_false_iff_eq.mpr c29
           clear c29
           by_cases c30 : t359 = true
           ·subst c30
            have H1 : (some false) = some r := by rw [if_pos rfl] at H; exact H
            exact absurd ((Option.some.inj H1).trans hrt_.out) (by decide)
           ·replace c30 := Bool.eq_false_iff.mpr c30
            subst c30
            have H1 : (if t358 = 0 then ((clamp_Clamp.f a0 a1).bind fun t368 => (some (t368.toList == a0.toList))) else (some false)) = some r := by rw [if_neg (show ¬ (false = true) by decide)] at H; exact H
            clear H
            have H := H1
            clear H1
            by_cases c32 : t358 = 0
            ·rw [if_pos c32] at H
             have c32b0 : (t358 == 0) = true := beq_iff_eq.mpr c32
             have c32b1 : (t358 != 0) = false := bne_eq_false_iff_eq.mpr c32
             clear c32
             replace H := Option.bind_eq_some_iff.mp H
             obtain ⟨t368, A330, H⟩ := H
             replace H : (some (t368.toList == a0.toList)) = some r := H
             have A33 := mA A330
             clear A330
             obtain rfl := Option.some.inj H
             obtain ⟨hcz34_0, hcz34_1, hcz34_2, hcz34_3, hcz34_4⟩ := bc5 BK366.out
             obtain ⟨hfz34_0, hfz34_1, hfz34_2, hfz34_3, hfz34_4⟩ := bf5 BK366.out
             have p24 : 0 ≤ (0 : Int) := (by omega)
             have q24 : 0 < a0.size := (by have : (0 : Int) < (a0.size : Int) := of_decide_eq_true (by first | (with_reducible assumption) | assumption); omega)
             have hx24 : ∀ h : 0 < a0.size, ((a0[0]'h).toNat : Int) = bt a0 0 := bt_at a0 0
             clear p24
             have qi24 : (0 < (a0.size : Int)) = True := eq_true (of_decide_eq_true (by first | (with_reducible assumption) | assumption))
             replace q24 := eq_true q24
             have p28 : 0 ≤ ((ji25) : Int) := of_decide_eq_true (by first | (with_reducible assumption) | assumption)
             have q28 : (ji25) < (a0.size : Int) := of_decide_eq_true (by first | (with_reducible assumption) | assumption)
             have hx28 := bt_at a0 (ji25)
             replace p28 := eq_true p28
             replace q28 := eq_true q28
             go_wp2_with (first | (go_at_call 14; (with_reducible refine (clamp_Clamp.calls a0 a1 t368 _ A33.out).mono ?_); rintro e w35 ⟨rfl, hb⟩; have n0_ := mA (blk_below (g := gb366) (o := .cells #[.int .i64 t360, .string t361, .string t362, .int .i64 t363, .int .i64 t364] 24 (0, 0)) (by (with_reducible repeat (first | apply kN | apply kD | apply kA)); exact BK366.out) hb); have n1_ := mA (bP (by repeat (first | (with_reducible first | exact HB.out | apply bA | apply bN | apply bD | refine bS ?_ GE366.out) | exact HB.out)) hb); clear BK366; clear HB; have BK366 := n0_; have HB := n1_; clear n0_ n1_; (try clear hb); (try clear hb2); (try clear hk); (try clear hi)))
             go_ret
             exact ⟨by first | rfl | (simp [errW_none, errW_some] <;> rfl) | (simp only [← hji25]; first | rfl | (simp [errW_none, errW_some] <;> rfl)) | (simp [*, errW_none, errW_some] <;> rfl), by repeat (first | (with_reducible first | exact HB.out | apply bA | apply bN | apply bD | refine bS ?_ GE366.out) | exact HB.out)⟩
            ·rw [if_neg c32] at H
             exact absurd ((Option.some.inj H).trans hrt_.out) (by decide)
          ·rw [if_neg c29] at H
           have c29b0 : ((Go.bits .and .u8 (bt a0 (ji25)) 2) == 0) = false := beq_eq_false_iff_ne.mpr c29
           have c29b1 : ((Go.bits .and .u8 (bt a0 (ji25)) 2) != 0) = true := bne_iff_ne.mpr c29
           by_cases c37 : t359 = true
           ·subst c37
            have H1 : (some true) = some r := by rw [if_pos rfl] at H; exact H
            clear H
            have H := H1
            clear H1
            obtain rfl := Option.some.inj H
            obtain ⟨hcz38_0, hcz38_1, hcz38_2, hcz38_3, hcz38_4⟩ := bc5 BK366.out
            obtain ⟨hfz38_0, hfz38_1, hfz38_2, hfz38_3, hfz38_4⟩ := bf5 BK366.out
            have p24 : 0 ≤ (0 : Int) := (by omega)
            have q24 : 0 < a0.size := (by have : (0 : Int) < (a0.size : Int) := of_decide_eq_true (by first | (with_reducible assumption) | assumption); omega)
            have hx24 : ∀ h : 0 < a0.size, ((a0[0]'h).toNat : Int) = bt a0 0 := bt_at a0 0
            clear p24
            have qi24 : (0 < (a0.size : Int)) = True := eq_true (of_decide_eq_true (by first | (with_reducible assumption) | assumption))
            replace q24 := eq_true q24
            have p28 : 0 ≤ ((ji25) : Int) := of_decide_eq_true (by first | (with_reducible assumption) | assumption)
            have q28 : (ji25) < (a0.size : Int) := of_decide_eq_true (by first | (with_reducible assumption) | assumption)
            have hx28 := bt_at a0 (ji25)
            replace p28 := eq_true p28
            replace q28 := eq_true q28
            go_wp2
            go_ret
            exact ⟨by first | rfl | (simp [errW_none, errW_some] <;> rfl) | (simp only [← hji25]; first | rfl | (simp [errW_none, errW_some] <;> rfl)) | (simp [*, errW_none, errW_some] <;> rfl), by repeat (first | (with_reducible first | exact HB.out | apply bA | apply bN | apply bD | refine bS ?_ GE366.out) | exact HB.out)⟩
           ·replace c37 := Bool.eq_false_iff.mpr c37
            subst c37
            have H1 : (if t358 = 0 then ((clamp_Clamp.f a0 a1).bind fun t369 => (some (t369.toList == a0.toList))) else (some false)) = some r := by rw [if_neg (show ¬ (false = true) by decide)] at H; exact H
            clear H
            have H := H1
            clear H1
            by_cases c39 : t358 = 0
            ·rw [if_pos c39] at H
             have c39b0 : (t358 == 0) = true := beq_iff_eq.mpr c39
             have c39b1 : (t358 != 0) = false := bne_eq_false_iff_eq.mpr c39
             clear c39
             replace H := Option.bind_eq_some_iff.mp H
             obtain ⟨t369, A400, H⟩ := H
             replace H : (some (t369.toList == a0.toList)) = some r := H
             have A40 := mA A400
             clear A400
             obtain rfl := Option.some.inj H
             obtain ⟨hcz41_0, hcz41_1, hcz41_2, hcz41_3, hcz41_4⟩ := bc5 BK366.out
             obtain ⟨hfz41_0, hfz41_1, hfz41_2, hfz41_3, hfz41_4⟩ := bf5 BK366.out
             have p24 : 0 ≤ (0 : Int) := (by omega)
             have q24 : 0 < a0.size := (by have : (0 : Int) < (a0.size : Int) := of_decide_eq_true (by first | (with_reducible assumption) | assumption); omega)
             have hx24 : ∀ h : 0 < a0.size, ((a0[0]'h).toNat : Int) = bt a0 0 := bt_at a0 0
             clear p24
             have qi24 : (0 < (a0.size : Int)) = True := eq_true (of_decide_eq_true (by first | (with_reducible assumption) | assumption))
             replace q24 := eq_true q24
             have p28 : 0 ≤ ((ji25) : Int) := of_decide_eq_true (by first | (with_reducible assumption) | assumption)
             have q28 : (ji25) < (a0.size : Int) := of_decide_eq_true (by first | (with_reducible assumption) | assumption)
             have hx28 := bt_at a0 (ji25)
             replace p28 := eq_true p28
             replace q28 := eq_true q28
             go_wp2_with (first | (go_at_call 14; (with_reducible refine (clamp_Clamp.calls a0 a1 t369 _ A40.out).mono ?_); rintro e w42 ⟨rfl, hb⟩; have n0_ := mA (blk_below (g := gb366) (o := .cells #[.int .i64 t360, .string t361, .string t362, .int .i64 t363, .int .i64 t364] 24 (0, 0)) (by (with_reducible repeat (first | apply kN | apply kD | apply kA)); exact BK366.out) hb); have n1_ := mA (bP (by repeat (first | (with_reducible first | exact HB.out | apply bA | apply bN | apply bD | refine bS ?_ GE366.out) | exact HB.out)) hb); clear BK366; clear HB; have BK366 := n0_; have HB := n1_; clear n0_ n1_; (try clear hb); (try clear hb2); (try clear hk); (try clear hi)))
             go_ret
             exact ⟨by first | rfl | (simp [errW_none, errW_some] <;> rfl) | (simp only [← hji25]; first | rfl | (simp [errW_none, errW_some] <;> rfl)) | (simp [*, errW_none, errW_some] <;> rfl), by repeat (first | (with_reducible first | exact HB.out | apply bA | apply bN | apply bD | refine bS ?_ GE366.out) | exact HB.out)⟩
            ·rw [if_neg c39] at H
             exact absurd ((Option.some.inj H).trans hrt_.out) (by decide)
         ·rw [if_neg c27] at H
          exact absurd H (by simp)
        ·rw [if_neg c26] at H
         exact absurd H (by simp)
       ·rw [if_neg c23] at H
        exact absurd H (by simp)
      ·rw [if_neg c22] at H
       have c22b0 : ((t361.size : Int) == 4) = false := beq_eq_false_iff_ne.mpr c22
       have c22b1 : ((t361.size : Int) != 4) = true := bne_iff_ne.mpr c22
       obtain ⟨ji44, hji44⟩ : ∃ j_ : Int, ((40 : Int) + 13) = j_ := ⟨_, rfl⟩
       replace H : (if 0 ≤ (ji44) then (if (ji44) < (a0.size : Int) then (if (Go.bits .and .u8 (bt a0 (ji44)) 2) = 0 then (if t359 = true then (some false) else (if t358 = 0 then ((clamp_Clamp.f a0 a1).bind fun t370 => (some (t370.toList == a0.toList))) else (some false))) else (if t359 = true then (some true) else (if t358 = 0 then ((clamp_Clamp.f a0 a1).bind fun t371 => (some (t371.toList == a0.toList))) else (some false)))) else (none)) else (none)) = some r := by first | (rw [hji44] at H; exact H) | (simp only [hji44] at H ⊢; exact H)
       by_cases c45 : 0 ≤ (ji44)
       ·rw [if_pos c45] at H
        have c45b0 : decide (0 ≤ (ji44)) = true := decide_eq_true c45
        clear c45
        by_cases c46 : (ji44) < (a0.size : Int)
        ·rw [if_pos c46] at H
         have c46b0 : decide ((ji44) < (a0.size : Int)) = true := decide_eq_true c46
         clear c46
         by_cases c48 : (Go.bits .and .u8 (bt a0 (ji44)) 2) = 0
         ·rw [if_pos c48] at H
          have c48b0 : ((Go.bits .and .u8 (bt a0 (ji44)) 2) == 0) = true := beq_iff_eq.mpr c48
          have c48b1 : ((Go.bits .and .u8 (bt a0 (ji44)) 2) != 0) = false := bne_eq_false_iff_eq.mpr c48
          clear c48
          by_cases c49 : t359 = true
          ·subst c49
           have H1 : (some false) = some r := by rw [if_pos rfl] at H; exact H
           exact absurd ((Option.some.inj H1).trans hrt_.out) (by decide)
          ·replace c49 := Bool.eq_false_iff.mpr c49
           subst c49
           have H1 : (if t358 = 0 then ((clamp_Clamp.f a0 a1).bind fun t370 => (some (t370.toList == a0.toList))) else (some false)) = some r := by rw [if_neg (show ¬ (false = true) by decide)] at H; exact H
           clear H
           have H := H1
           clear H1
           by_cases c51 : t358 = 0
           ·rw [if_pos c51] at H
            have c51b0 : (t358 == 0) = true := beq_iff_eq.mpr c51
            have c51b1 : (t358 != 0) = false := bne_eq_false_iff_eq.mpr c51
            clear c51
            replace H := Option.bind_eq_some_iff.mp H
            obtain ⟨t370, A520, H⟩ := H
            replace H : (some (t370.toList == a0.toList)) = some r := H
            have A52 := mA A520
            clear A520
            obtain rfl := Option.some.inj H
            obtain ⟨hcz53_0, hcz53_1, hcz53_2, hcz53_3, hcz53_4⟩ := bc5 BK366.out
            obtain ⟨hfz53_0, hfz53_1, hfz53_2, hfz53_3, hfz53_4⟩ := bf5 BK366.out
            have p47 : 0 ≤ ((ji44) : Int) := of_decide_eq_true (by first | (with_reducible assumption) | assumption)
            have q47 : (ji44) < (a0.size : Int) := of_decide_eq_true (by first | (with_reducible assumption) | assumption)
            have hx47 := bt_at a0 (ji44)
            replace p47 := eq_true p47
            replace q47 := eq_true q47
            go_wp2_with (first | (go_at_call 14; (with_reducible refine (clamp_Clamp.calls a0 a1 t370 _ A52.out).mono ?_); rintro e w54 ⟨rfl, hb⟩; have n0_ := mA (blk_below (g := gb366) (o := .cells #[.int .i64 t360, .string t361, .string t362, .int .i64 t363, .int .i64 t364] 24 (0, 0)) (by (with_reducible repeat (first | apply kN | apply kD | apply kA)); exact BK366.out) hb); have n1_ := mA (bP (by repeat (first | (with_reducible first | exact HB.out | apply bA | apply bN | apply bD | refine bS ?_ GE366.out) | exact HB.out)) hb); clear BK366; clear HB; have BK366 := n0_; have HB := n1_; clear n0_ n1_; (try clear hb); (try clear hb2); (try clear hk); (try clear hi)))
            go_ret
            exact ⟨by first | rfl | (simp [errW_none, errW_some] <;> rfl) | (simp only [← hji44]; first | rfl | (simp [errW_none, errW_some] <;> rfl)) | (simp [*, errW_none, errW_some] <;> rfl), by repeat (first | (with_reducible first | exact HB.out | apply bA | apply bN | apply bD | refine bS ?_ GE366.out) | exact HB.out)⟩
           ·rw [if_neg c51] at H
            exact absurd ((Option.some.inj H).trans hrt_.out) (by decide)
         ·rw [if_neg c48] at H
          have c48b0 : ((Go.bits .and .u8 (bt a0 (ji44)) 2) == 0) = false := beq_eq_false_iff_ne.mpr c48
          have c48b1 : ((Go.bits .and .u8 (bt a0 (ji44)) 2) != 0) = true := bne_iff_ne.mpr c48
          by_cases c56 : t359 = true
          ·subst c56
           have H1 : (some true) = some r := by rw [if_pos rfl] at H; exact H
           clear H
           have H := H1
           clear H1
           obtain rfl := Option.some.inj H
           obtain ⟨hcz57_0, hcz57_1, hcz57_2, hcz57_3, hcz57_4⟩ := bc5 BK366.out
           obtain ⟨hfz57_0, hfz57_1, hfz57_2, hfz57_3, hfz57_4⟩ := bf5 BK366.out
           have p47 : 0 ≤ ((ji44) : Int) := of_decide_eq_true (by first | (with_reducible assumption) | assumption)
           have q47 : (ji44) < (a0.size : Int) := of_decide_eq_true (by first | (with_reducible assumption) | assumption)
           have hx47 := bt_at a0 (ji44)
           replace p47 := eq_true p47
           replace q47 := eq_true q47
           go_wp2
           go_ret
           exact ⟨by first | rfl | (simp [errW_none, errW_some] <;> rfl) | (simp only [← hji44]; first | rfl | (simp [errW_none, errW_some] <;> rfl)) | (simp [*, errW_none, errW_some] <;> rfl), by repeat (first | (with_reducible first | exact HB.out | apply bA | apply bN | apply bD | refine bS ?_ GE366.out) | exact HB.out)⟩
          ·replace c56 := Bool.eq_false_iff.mpr c56
           subst c56
           have H1 : (if t358 = 0 then ((clamp_Clamp.f a0 a1).bind fun t371 => (some (t371.toList == a0.toList))) else (some false)) = some r := by rw [if_neg (show ¬ (false = true) by decide)] at H; exact H
           clear H
           have H := H1
           clear H1
           by_cases c58 : t358 = 0
           ·rw [if_pos c58] at H
            have c58b0 : (t358 == 0) = true := beq_iff_eq.mpr c58
            have c58b1 : (t358 != 0) = false := bne_eq_false_iff_eq.mpr c58
            clear c58
            replace H := Option.bind_eq_some_iff.mp H
            obtain ⟨t371, A590, H⟩ := H
            replace H : (some (t371.toList == a0.toList)) = some r := H
            have A59 := mA A590
            clear A590
            obtain rfl := Option.some.inj H
            obtain ⟨hcz60_0, hcz60_1, hcz60_2, hcz60_3, hcz60_4⟩ := bc5 BK366.out
            obtain ⟨hfz60_0, hfz60_1, hfz60_2, hfz60_3, hfz60_4⟩ := bf5 BK366.out
            have p47 : 0 ≤ ((ji44) : Int) := of_decide_eq_true (by first | (with_reducible assumption) | assumption)
            have q47 : (ji44) < (a0.size : Int) := of_decide_eq_true (by first | (with_reducible assumption) | assumption)
            have hx47 := bt_at a0 (ji44)
            replace p47 := eq_true p47
            replace q47 := eq_true q47
            go_wp2_with (first | (go_at_call 14; (with_reducible refine (clamp_Clamp.calls a0 a1 t371 _ A59.out).mono ?_); rintro e w61 ⟨rfl, hb⟩; have n0_ := mA (blk_below (g := gb366) (o := .cells #[.int .i64 t360, .string t361, .string t362, .int .i64 t363, .int .i64 t364] 24 (0, 0)) (by (with_reducible repeat (first | apply kN | apply kD | apply kA)); exact BK366.out) hb); have n1_ := mA (bP (by repeat (first | (with_reducible first | exact HB.out | apply bA | apply bN | apply bD | refine bS ?_ GE366.out) | exact HB.out)) hb); clear BK366; clear HB; have BK366 := n0_; have HB := n1_; clear n0_ n1_; (try clear hb); (try clear hb2); (try clear hk); (try clear hi)))
            go_ret
            exact ⟨by first | rfl | (simp [errW_none, errW_some] <;> rfl) | (simp only [← hji44]; first | rfl | (simp [errW_none, errW_some] <;> rfl)) | (simp [*, errW_none, errW_some] <;> rfl), by repeat (first | (with_reducible first | exact HB.out | apply bA | apply bN | apply bD | refine bS ?_ GE366.out) | exact HB.out)⟩
           ·rw [if_neg c58] at H
            exact absurd ((Option.some.inj H).trans hrt_.out) (by decide)
        ·rw [if_neg c46] at H
         exact absurd H (by simp)
       ·rw [if_neg c45] at H
        exact absurd H (by simp)
 ·replace c4 := Bool.eq_false_iff.mpr c4
  subst c4
  have H1 : (some false) = some r := by rw [if_neg (show ¬ (false = true) by decide)] at H; exact H
  exact absurd ((Option.some.inj H1).trans hrt_.out) (by decide)
/-- THE ONE PURE STATEMENT of palanquinlaw10_ClampOthers: yours. -/
def palanquinlaw10_ClampOthers.Pure : Prop := ∀ (a0 : ByteArray) (a1 : Int), a0.size ≤ 140737488351232 → (Lit.int .i64 a1).wf = true → ∃ k, palanquinlaw10_ClampOthers.f k a0 a1 = some true
theorem palanquinlaw10_ClampOthers.walk (P : palanquinlaw10_ClampOthers.Pure) (a0 : ByteArray) (a1 : Int) (w : World) (w0 : a0.size ≤ 140737488351232) (w1 : (Lit.int .i64 a1).wf = true) :
  Calls Try.prog 6 #[.string a0, .int .i64 a1] w fun e w' => e = .returned (.bool true) ∧ Below w.heap.size w w' := by
 obtain ⟨k, h⟩ := P a0 a1 w0 w1
 refine (palanquinlaw10_ClampOthers.calls k a0 a1 true w h ⟨rfl⟩).mono ?_
 rintro e w' ⟨rfl, hd⟩
 exact ⟨rfl, hd⟩

end Go.Proofs.Ytcmalglippmocaa.G
end

section
/- Plain facts: where a packet's MSS stands. -/
namespace Go.Proofs.Ytcmalglippmocaa.Pure
open Go.RowKit Go.Proofs.YtcmalglippmocaaW.PrintWords Go.Proofs.YtcmalglippmocaaW.PrintLast Go.Proofs.Ytcmalglippmocaa.G Go.Proofs.Ytcmalglippmocaa.Pal
open FG F2 FS FT
set_option linter.unusedVariables false
namespace CL
theorem awake10 : palanquinlaw10_awake.f 80000 = some true := by decide +kernel
theorem and2u (x : Int) (h0 : 0 ≤ x) (h1 : x < 256) : Go.bits .and .u8 x 2 = x / 2 % 2 * 2 := by
  have h : ∀ b : Fin 256, Go.bits .and .u8 (b.val : Int) 2 = ((b.val / 2 % 2 * 2 : Nat) : Int) := by decide +kernel
  obtain ⟨n, rfl⟩ := Int.eq_ofNat_of_zero_le h0
  have := h ⟨n, by omega⟩
  dsimp only at this
  rw [this]; omega
theorem and2i (x : Int) (h0 : 0 ≤ x) (h1 : x < 256) : Go.bits .and .i64 x 2 = x / 2 % 2 * 2 := by
  have h : ∀ b : Fin 256, Go.bits .and .i64 (b.val : Int) 2 = ((b.val / 2 % 2 * 2 : Nat) : Int) := by decide +kernel
  obtain ⟨n, rfl⟩ := Int.eq_ofNat_of_zero_le h0
  have := h ⟨n, by omega⟩
  dsimp only at this
  rw [this]; omega
theorem wrap_hd (y : Int) {n : Nat} (h : (n : Int) = y % 16 * 4) (_ : True) : wrap64 (wrap64 (y % 16) * 4) = (n : Int) := by unfold wrap64; omega
theorem wrap_hq (n q : Nat) (hn : n ≤ 60) (hq : q ≤ 1000000) : wrap64 (wrap64 ((n : Int) + 20) + (q : Int)) = ((n + 20 + q : Nat) : Int) := by unfold wrap64; omega
/-- What find answers of a segment s behind n bytes of header. -/
def findR (n : Nat) (s : ByteArray) : Int × Int × Bool :=
  match mssOf (bl (s.extract 20 (ht s))) with
  | none => (0, 0, false)
  | some (m, q) => if be (bl (s.extract 13 14)) / 2 % 2 = 0 then (0, 0, false) else (((n + 20 + q : Nat) : Int), (m : Int), true)
theorem mssOf_lt {l : List UInt8} {m q : Nat} (h : mssOf l = some (m, q)) : q + 2 ≤ l.length ∧ m ≤ 65535 := by
  obtain ⟨L1, L2, j, _, rfl, hj, _, _, hn, _⟩ := mssOf_some h
  have b2 := UInt8.toNat_lt (l.getD (j + 2) 0)
  have b3 := UInt8.toNat_lt (l.getD (j + 3) 0)
  omega
theorem find_not {p : ByteArray} {a d e x : Int} {b c : ByteArray} (h : flow_Get.f p = some (a, b, c, d, e, x)) (hx : x ≠ 0 ∨ a ≠ 6) (k : Nat) : clamp_find.f (k + 1) p = some (0, 0, false) := by
  unfold clamp_find.f
  rw [h, Option.bind_some]
  dsimp +instances only
  by_cases h0 : x = 0
  · have ha : a ≠ 6 := by rcases hx with hx | hx
                          · exact absurd h0 hx
                          · exact hx
    rw [if_pos h0, show (a != 6) = true by simp [ha], clamp_find.j0, if_pos rfl]
  · rw [if_neg h0, clamp_find.j0, if_pos rfl]
theorem head_is {p b : ByteArray} {n : Nat} (hp : 0 < p.size) (h : (b.size = 4 ∧ bt p 0 / 16 = 4 ∧ (n : Int) = bt p 0 % 16 * 4) ∨ (b.size = 16 ∧ bt p 0 / 16 = 6 ∧ n = 40)) : clamp_head.f p = some (n : Int) := by
  unfold clamp_head.f
  have hr := bt_range p 0 hp
  rw [show ((0 : Nat) : Int) = 0 from rfl] at hr
  rw [if_pos (by omega)]
  rcases h with ⟨_, h1, h2⟩ | ⟨_, h1, h2⟩
  · rw [if_neg (by omega), FT.and15 _ hr.1 hr.2, wrap_hd _ h2 trivial]
  · rw [if_pos h1, h2]; rfl
theorem find_seg {p : ByteArray} {d e : Int} {b c : ByteArray} {n : Nat} (hs : p.size ≤ 1000000) (h : flow_Get.f p = some (6, b, c, d, e, 0)) (hn : n ≤ p.size) (hp : 0 < p.size)
    (hh : (b.size = 4 ∧ bt p 0 / 16 = 4 ∧ (n : Int) = bt p 0 % 16 * 4) ∨ (b.size = 16 ∧ bt p 0 / 16 = 6 ∧ n = 40)) (ht0 : tcpErr (p.extract n p.size) = 0) (k : Nat) :
    clamp_find.f (k + 1) p = some (findR n (p.extract n p.size)) := by
  have hz : (p.extract n p.size).size = p.size - n := by rw [ByteArray.size_extract]; omega
  obtain ⟨g1, g2, _, _⟩ := errT_zero ht0
  have hn40 : n ≤ 60 := by
    have hr := bt_range p 0 hp
    rw [show ((0 : Nat) : Int) = 0 from rfl] at hr
    rcases hh with ⟨_, _, h2⟩ | ⟨_, _, h2⟩ <;> omega
  unfold clamp_find.f
  rw [h, Option.bind_some]
  dsimp +instances only
  rw [if_pos rfl, show ((6 : Int) != 6) = false by decide, clamp_find.j0, if_neg (by decide), head_is hp hh, Option.bind_some, if_pos (by omega), if_pos (by omega), Int.toNat_natCast, getT_is (by omega), if_pos ht0, Option.bind_some]
  dsimp +instances only
  clear ht0
  generalize hsg : p.extract n p.size = s at *
  clear hsg
  have hb : be (bl (s.extract 13 14)) < 256 := by
    have := be_lt_of (bl (s.extract 13 14)) 1 (by rw [bl_length, ByteArray.size_extract]; omega)
    omega
  rw [mss_is _ (by rw [ByteArray.size_extract]; omega), Option.bind_some]
  unfold findR
  cases hm : mssOf (bl (s.extract 20 (ht s))) with
  | none => rfl
  | some r =>
    obtain ⟨m, q⟩ := r
    have hq := (mssOf_lt hm).1
    rw [bl_length, ByteArray.size_extract] at hq
    have hq2 : q ≤ 1000000 := by clear hm; omega
    rw [show mssR (some (m, q)) = ((m : Int), (q : Int), true) from rfl]
    dsimp +instances only
    rw [if_pos rfl, and2i _ (by omega) (by omega)]
    by_cases hf : be (bl (s.extract 13 14)) / 2 % 2 = 0
    · rw [if_pos (by omega), if_pos hf]
    · rw [if_neg (by omega), if_neg hf]
      rw [wrap_hq n q hn40 hq2]
theorem clamp_same {p : ByteArray} {i m : Int} (h : clamp_find.f 1 p = some (i, m, false)) (l : Int) : clamp_Clamp.f p l = some p := by
  unfold clamp_Clamp.f
  rw [h, Option.bind_some, if_pos (.inl rfl)]
theorem MSS_is {p : ByteArray} {i m : Int} {b : Bool} {k : Nat} (h : clamp_find.f k p = some (i, m, b)) : clamp_MSS.f k p = some (m, b) := by
  unfold clamp_MSS.f
  rw [h, Option.bind_some]
end CL
end Go.Proofs.Ytcmalglippmocaa.Pure
end

section
/- The plain law of ClampOthers: a packet that opens no TCP is let be. -/
namespace Go.Proofs.Ytcmalglippmocaa.Pure
open Go.RowKit Go.Proofs.YtcmalglippmocaaW.PrintWords Go.Proofs.YtcmalglippmocaaW.PrintLast Go.Proofs.Ytcmalglippmocaa.G Go.Proofs.Ytcmalglippmocaa.Pal
open FG F2 FS FT CL
set_option linter.unusedVariables false
theorem ClampOthers (a0 : ByteArray) (a1 : Int) (_ : a0.size ≤ 140737488351232) (_ : (Lit.int .i64 a1).wf = true) : ∃ k, palanquinlaw10_ClampOthers.f k a0 a1 = some true := by
  refine ⟨80000, ?_⟩
  unfold palanquinlaw10_ClampOthers.f
  rw [awake10, Option.bind_some, if_pos rfl]
  by_cases hz : (a0.size : Int) > 5000
  · rw [if_pos hz]
  rw [if_neg hz]
  obtain ⟨⟨a, b, c, d, e, x⟩, hf⟩ : ∃ f, flow_Get.f a0 = some f := flow_some a0 (by omega)
  by_cases hx : x ≠ 0 ∨ a ≠ 6
  · have hn := fun k => find_not hf hx k
    rw [MSS_is (hn 79999), Option.bind_some, hf, Option.bind_some]
    dsimp +instances only
    by_cases h0 : x = 0
    · have ha : a ≠ 6 := by rcases hx with hx | hx
                            · exact absurd h0 hx
                            · exact hx
      rw [if_pos h0, show (a != 6) = true by simp [ha], palanquinlaw10_ClampOthers.j0, if_pos rfl, if_pos rfl, if_neg (by decide), clamp_same (hn 0), Option.bind_some, beq_self_eq_true]
    · rw [if_neg h0, palanquinlaw10_ClampOthers.j0, if_pos rfl, if_pos rfl, if_neg (by decide), clamp_same (hn 0), Option.bind_some, beq_self_eq_true]
  obtain ⟨rfl, rfl⟩ : x = 0 ∧ a = 6 := by omega
  obtain ⟨n, hn20, hnp, hbc, hh, _, ⟨p3, hp3, hok⟩, _⟩ := flow_valid (by omega) hf
  have ht0 := ports6 hp3 (by rw [ByteArray.size_extract]; omega)
  have hfi := fun k => find_seg (by omega) hf hnp (by omega) hh ht0 k
  have hsz : (a0.extract n a0.size).size = a0.size - n := by rw [ByteArray.size_extract]; omega
  obtain ⟨g1, g2, _, _⟩ := errT_zero ht0
  have hfl : bt a0 ((n + 13 : Nat) : Int) = ((be (bl ((a0.extract n a0.size).extract 13 14)) : Nat) : Int) := by
    rw [bt_one a0 (n + 13) (by omega), ext_ext a0 n 13 14 (by omega)]
  have hr := bt_range a0 (n + 13) (by omega)
  have hr0 := bt_range a0 0 (by omega)
  rw [show ((0 : Nat) : Int) = 0 from rfl] at hr0
  generalize hsg : a0.extract n a0.size = s at *
  have main : ∀ m ok, clamp_find.f 80000 a0 = some (if ok then (findR n s).1 else 0, m, ok) → (ok = false → m = 0 ∧ clamp_Clamp.f a0 a1 = some a0) → (ok = true → bt a0 ((n + 13 : Nat) : Int) / 2 % 2 ≠ 0) →
      palanquinlaw10_ClampOthers.j0 80000 a0 a1 m ok false 6 b c d e = some true := fun m ok _ hno hyes => by
    rw [palanquinlaw10_ClampOthers.j0, if_neg (by decide)]
    have tail : ∀ y : Int, y = bt a0 ((n + 13 : Nat) : Int) → (if Go.bits .and .u8 y 2 = 0 then (if ok = true then some false else if m = 0 then (clamp_Clamp.f a0 a1).bind fun t => some (t.toList == a0.toList) else some false) else if ok = true then some true else if m = 0 then (clamp_Clamp.f a0 a1).bind fun t => some (t.toList == a0.toList) else some false) = some true := fun y hy => by
      rw [hy, and2u _ hr.1 hr.2]
      cases ok with
      | true =>
        have := hyes rfl
        rw [if_neg (by omega), if_pos rfl]
      | false =>
        obtain ⟨rfl, hc⟩ := hno rfl
        rw [hc, Option.bind_some, beq_self_eq_true]
        by_cases hy0 : bt a0 ((n + 13 : Nat) : Int) / 2 % 2 * 2 = 0
        · rw [if_pos hy0, if_neg (by decide), if_pos rfl]
        · rw [if_neg hy0, if_neg (by decide), if_pos rfl]
    rcases hh with ⟨h1, h2, h3⟩ | ⟨h1, h2, h3⟩
    · rw [if_pos (by omega), if_pos (by omega), FT.and15 _ hr0.1 hr0.2]
      have hw : wrap64 (wrap64 (wrap64 (bt a0 0 % 16) * 4) + 13) = ((n + 13 : Nat) : Int) := by
        generalize bt a0 0 = y at *
        unfold wrap64; omega
      rw [hw, if_pos (by omega), if_pos (by omega)]
      exact tail _ rfl
    · subst h3
      rw [if_neg (by omega), if_pos (by decide), if_pos (by omega)]
      exact tail _ rfl
  have hgoal : ∀ i m ok, clamp_find.f 80000 a0 = some (i, m, ok) → palanquinlaw10_ClampOthers.j0 80000 a0 a1 m ok false 6 b c d e = some true → ((clamp_MSS.f 80000 a0).bind fun bt358 => (flow_Get.f a0).bind fun bt360 => if bt360.2.2.2.2.2 = 0 then palanquinlaw10_ClampOthers.j0 80000 a0 a1 bt358.1 bt358.2 (bt360.1 != 6) bt360.1 bt360.2.1 bt360.2.2.1 bt360.2.2.2.1 bt360.2.2.2.2.1 else palanquinlaw10_ClampOthers.j0 80000 a0 a1 bt358.1 bt358.2 true bt360.1 bt360.2.1 bt360.2.2.1 bt360.2.2.2.1 bt360.2.2.2.2.1) = some true := fun i m ok h1 h2 => by
    rw [MSS_is h1, Option.bind_some, hf, Option.bind_some]
    dsimp +instances only
    rw [if_pos rfl, show ((6 : Int) != 6) = false by decide]
    exact h2
  have e0 := hfi 0
  have e1 := hfi 79999
  unfold findR at e0 e1
  cases hm : mssOf (bl (s.extract 20 (ht s))) with
  | none =>
    rw [hm] at e0 e1
    exact hgoal _ _ _ e1 (main 0 false e1 (fun _ => ⟨rfl, clamp_same e0 a1⟩) (fun h => absurd h (by decide)))
  | some r =>
    obtain ⟨m, q⟩ := r
    rw [hm] at e0 e1
    dsimp +instances only at e0 e1
    by_cases hb : be (bl (s.extract 13 14)) / 2 % 2 = 0
    · rw [if_pos hb] at e0 e1
      exact hgoal _ _ _ e1 (main 0 false e1 (fun _ => ⟨rfl, clamp_same e0 a1⟩) (fun h => absurd h (by decide)))
    · rw [if_neg hb] at e0 e1
      refine hgoal _ _ _ e1 (main m true ?_ (fun h => absurd h (by decide)) (fun _ => by rw [hfl]; omega))
      rw [e1]
      unfold findR
      rw [hm]
      dsimp +instances only
      rw [if_neg hb, if_pos rfl]
end Go.Proofs.Ytcmalglippmocaa.Pure
end
