/- Texts of this session, joined: each is a section. -/
import Derived.Test.YtcmalglippmocaaMClampUpdates2
import Derived.Test.YtcmalglippmocaaMClampUpdates11
import Derived.Test.YtcmalglippmocaaMClampUpdates10
import Derived.Test.YtcmalglippmocaaMClampUpdates7
import Derived.WalkLawsBesides
import Derived.BigQuiet
import Derived.RegionTactic
import Derived.Deep.RegionWith
set_option linter.unusedVariables false
set_option linter.unusedSimpArgs false
section
namespace Go.Proofs.Ytcmalglippmocaa.G
open Go.RowKit Go.Proofs.YtcmalglippmocaaW.PrintWords Go.Proofs.YtcmalglippmocaaW.PrintLast Go.Proofs.YtcmalglippmocaaW.PrintMore
attribute [local go_sem] max2_int min2_int max_two min_two max_three min_three max_four min_four

def clamp_head.f (a0 : ByteArray) : Option (Int) := if 0 < (a0.size : Int) then (if ((bt a0 0) / 16) = 6 then (some 40) else (some (wrap64 ((wrap64 (Go.bits .and .u8 (bt a0 0) 15)) * 4)))) else (none)
set_option maxHeartbeats 8000000 in
set_option maxRecDepth 100000 in
theorem clamp_head.calls (a0 : ByteArray) (r : Int) (w : World) (h : clamp_head.f a0 = some r) :
  Calls Try.prog 38 #[.string a0] w fun e w' => e = .returned (.int .i64 r) ∧ Drawn0 w w' := by
 have H : (if 0 < (a0.size : Int) then (if ((bt a0 0) / 16) = 6 then (some 40) else (some (wrap64 ((wrap64 (Go.bits .and .u8 (bt a0 0) 15)) * 4)))) else (none)) = some r := h
 clear h
 by_cases c2 : 0 < (a0.size : Int)
 ·rw [if_pos c2] at H
  have c2b0 : decide (0 < (a0.size : Int)) = true := decide_eq_true c2
  have c2b1 : decide (0 < a0.size) = true := decide_eq_true (by omega)
  clear c2
  by_cases c4 : ((bt a0 0) / 16) = 6
  ·rw [if_pos c4] at H
   have c4b0 : (((bt a0 0) / 16) == 6) = true := beq_iff_eq.mpr c4
   have c4b1 : (((bt a0 0) / 16) != 6) = false := bne_eq_false_iff_eq.mpr c4
   clear c4
   obtain rfl := Option.some.inj H
   have p3 : 0 ≤ (0 : Int) := (by omega)
   have q3 : 0 < a0.size := (by have : (0 : Int) < (a0.size : Int) := of_decide_eq_true (by first | (with_reducible assumption) | assumption); omega)
   have hx3 : ∀ h : 0 < a0.size, ((a0[0]'h).toNat : Int) = bt a0 0 := bt_at a0 0
   clear p3
   have qi3 : (0 < (a0.size : Int)) = True := eq_true (of_decide_eq_true (by first | (with_reducible assumption) | assumption))
   replace q3 := eq_true q3
   go_enter Try.func38, Try.ntmps38
   go_wp2
   go_ret
   exact ⟨by first | rfl | (simp; done) | (simp [*]; done), by repeat (first | exact Drawn0.refl _ | apply Drawn0.step)⟩
  ·rw [if_neg c4] at H
   have c4b0 : (((bt a0 0) / 16) == 6) = false := beq_eq_false_iff_ne.mpr c4
   have c4b1 : (((bt a0 0) / 16) != 6) = true := bne_iff_ne.mpr c4
   obtain rfl := Option.some.inj H
   have p3 : 0 ≤ (0 : Int) := (by omega)
   have q3 : 0 < a0.size := (by have : (0 : Int) < (a0.size : Int) := of_decide_eq_true (by first | (with_reducible assumption) | assumption); omega)
   have hx3 : ∀ h : 0 < a0.size, ((a0[0]'h).toNat : Int) = bt a0 0 := bt_at a0 0
   clear p3
   have qi3 : (0 < (a0.size : Int)) = True := eq_true (of_decide_eq_true (by first | (with_reducible assumption) | assumption))
   replace q3 := eq_true q3
   have p5 : 0 ≤ (0 : Int) := (by omega)
   have q5 : 0 < a0.size := (by have : (0 : Int) < (a0.size : Int) := of_decide_eq_true (by first | (with_reducible assumption) | assumption); omega)
   have hx5 : ∀ h : 0 < a0.size, ((a0[0]'h).toNat : Int) = bt a0 0 := bt_at a0 0
   clear p5
   have qi5 : (0 < (a0.size : Int)) = True := eq_true (of_decide_eq_true (by first | (with_reducible assumption) | assumption))
   replace q5 := eq_true q5
   go_enter Try.func38, Try.ntmps38
   go_wp2
   go_ret
   exact ⟨by first | rfl | (simp; done) | (simp [*]; done), by repeat (first | exact Drawn0.refl _ | apply Drawn0.step)⟩
 ·rw [if_neg c2] at H
  exact absurd H (by simp)

def clamp_find.j0 : Nat → ByteArray → Bool → Option (Int × Int × Bool)
 | 0, _, _ => none
 | k + 1, x0, x25 => if x25 = true then (some (0, 0, false)) else ((clamp_head.f x0).bind fun t280 => (if 0 ≤ t280 then (if t280 ≤ (x0.size : Int) then ((tcp_Get.f (x0.extract (t280 : Int).toNat x0.size)).bind fun bt281 => ((tcp_MSS.f bt281.2.2.2.2.2.2.2.1).bind fun bt293 => (if bt293.2.2 = true then (if (Go.bits .and .i64 bt281.2.2.2.2.1 2) = 0 then (some (0, 0, false)) else (some (wrap64 ((wrap64 (t280 + 20)) + bt293.2.1), bt293.1, true))) else (some (0, 0, false))))) else (none)) else (none)))
def clamp_find.f (k : Nat) (a0 : ByteArray) : Option (Int × Int × Bool) := (flow_Get.f a0).bind fun bt273 => (if bt273.2.2.2.2.2 = 0 then (clamp_find.j0 k a0 (bt273.1 != 6)) else (clamp_find.j0 k a0 true))
set_option maxHeartbeats 8000000 in
set_option maxRecDepth 100000 in
theorem clamp_find.calls (k : Nat) (a0 : ByteArray) (r1 : Int) (r2 : Int) (r3 : Bool) (w : World) (h : clamp_find.f k a0 = some (r1, r2, r3)) :
  Calls Try.prog 36 #[.string a0] w fun e w' => e = .returned (.tuple #[.int .i64 r1, .int .i64 r2, .bool r3]) ∧ Below w.heap.size w w' := by
 have hu24 := Try.underlying24
 have hu69 := Try.underlying69
 have HB := mA (Below.refl w.heap.size w)
 have H : ((flow_Get.f a0).bind fun bt273 => (if bt273.2.2.2.2.2 = 0 then (clamp_find.j0 k a0 (bt273.1 != 6)) else (clamp_find.j0 k a0 true))) = some (r1, r2, r3) := h
 clear h
 replace H := Option.bind_eq_some_iff.mp H
 obtain ⟨⟨t273, t274, t275, t276, t277, t278⟩, A20, H⟩ := H
 try dsimp +instances only at H
 have A2 := mA A20
 clear A20
 have HC3 := mA H
 clear H
 go_enter Try.func36, Try.ntmps36
 go_upto_region 2 with (first | ((with_reducible refine gate_callee (f := 11) rfl ?_); refine goesL_ (some 16) rfl rfl Try.func11 (by kernel_rfl) rfl #[.string a0] rfl (by (try simp only [List.map_toArray, List.map_cons, List.map_nil]); first | done | rfl | (simp only [List.length_drop, List.length_take]; rfl)) ?_; (with_reducible refine (flow_Get.calls a0 t273 t274 t275 t276 t277 t278 _ A2.out).mono ?_); rintro e w4 ⟨rfl, hb⟩; refine ⟨_, rfl, ?_⟩; have n0_ := mA (bP (by repeat (first | (with_reducible first | exact HB.out | apply bA | apply bN | apply bD) | exact HB.out)) hb); clear HB; have HB := n0_; clear n0_; (try clear hb); (try clear hb2); (try clear hk); (try clear hi)) | ((with_reducible refine gate_dst (N := 5) rfl ?_); refine box_event ?hg (N := 5) ?hd (cs := #[.int .i64 0, .string ⟨#[]⟩, .string ⟨#[]⟩, .int .i64 0, .int .i64 0]) (t := 24) ?hr ?_; (case hd => rfl); (case hg => rfl); (case hr => first | (go_simp; done) | (go_simp; rfl)); intro gb279 hg w5 hbox hb; obtain ⟨n0_, nq_⟩ := bpr (by repeat (first | (with_reducible first | exact HB.out | apply bA | apply bN | apply bD) | exact HB.out)) hb; have n1_ := mA (hbox); have n2_ := mA ((by rw [hg]; exact nq_ : w.heap.size ≤ gb279)); have n3_ := mA ((by rw [hg]; exact nq_ : w.heap.size ≤ gb279)); clear HB; have HB := n0_; have BK279 := n1_; have GW279 := n2_; have GE279 := n3_; clear nq_; clear n0_ n1_ n2_ n3_; clear hb hbox hg; obtain ⟨hcz6_0, hcz6_1, hcz6_2, hcz6_3, hcz6_4⟩ := bc5 BK279.out; obtain ⟨hfz6_0, hfz6_1, hfz6_2, hfz6_3, hfz6_4⟩ := bf5 BK279.out))
 (try simp only [Act.put, List.setIfInBounds_toArray, List.set_cons_zero, List.set_cons_succ])
 go_cut [25] (fun v25 wc => ∃ (kq : Nat) (x25_2 : Bool), v25 = .bool x25_2 ∧ Aside0 (clamp_find.j0 kq a0 x25_2 = some (r1, r2, r3)) ∧ Aside0 (kq ≤ k) ∧ Aside0 (wc.heap[gb279]? = some (.cells #[.int .i64 t273, .string t274, .string t275, .int .i64 t276, .int .i64 t277] 24 (0, 0))) ∧ Aside0 (Below w.heap.size w wc))
 case first =>
  have H := HC3.out
  clear HC3
  by_cases c7 : t278 = 0
  ·rw [if_pos c7] at H
   have c7b0 : (t278 == 0) = true := beq_iff_eq.mpr c7
   have c7b1 : (t278 != 0) = false := bne_eq_false_iff_eq.mpr c7
   clear c7
   (first | rw [c7b0] | (simp only [i64_w, i32_w]; rw [c7b0]) | skip)
   have H' := mA H
   clear H
   obtain ⟨hcz8_0, hcz8_1, hcz8_2, hcz8_3, hcz8_4⟩ := bc5 BK279.out
   obtain ⟨hfz8_0, hfz8_1, hfz8_2, hfz8_3, hfz8_4⟩ := bf5 BK279.out
   go_wp2
   go_meet
   case rel => exact ⟨_, ((t273 != 6)), (by first | rfl | (simp; done) | (simp [*]; done)), H', ⟨by first | omega | exact Nat.le_refl _⟩, ⟨by (with_reducible repeat (first | apply kN | apply kD | apply kA)); refine blk_put (cs := #[.int .i64 t273, .string t274, .string t275, .int .i64 t276, .int .i64 0]) ?_ 4 _ (by first | rfl | (simp [*]; done)); (with_reducible repeat (first | apply kN | apply kD | apply kA)); refine blk_put (cs := #[.int .i64 t273, .string t274, .string t275, .int .i64 0, .int .i64 0]) ?_ 3 _ (by first | rfl | (simp [*]; done)); (with_reducible repeat (first | apply kN | apply kD | apply kA)); refine blk_put (cs := #[.int .i64 t273, .string t274, .string ⟨#[]⟩, .int .i64 0, .int .i64 0]) ?_ 2 _ (by first | rfl | (simp [*]; done)); (with_reducible repeat (first | apply kN | apply kD | apply kA)); refine blk_put (cs := #[.int .i64 t273, .string ⟨#[]⟩, .string ⟨#[]⟩, .int .i64 0, .int .i64 0]) ?_ 1 _ (by first | rfl | (simp [*]; done)); (with_reducible repeat (first | apply kN | apply kD | apply kA)); refine blk_put (cs := #[.int .i64 0, .string ⟨#[]⟩, .string ⟨#[]⟩, .int .i64 0, .int .i64 0]) ?_ 0 _ (by first | rfl | (simp [*]; done)); (with_reducible repeat (first | apply kN | apply kD | apply kA)); exact BK279.out⟩, ⟨by repeat (first | (with_reducible first | exact HB.out | apply bA | apply bN | apply bD | refine bS ?_ GE279.out) | exact HB.out)⟩⟩
  ·rw [if_neg c7] at H
   have c7b0 : (t278 == 0) = false := beq_eq_false_iff_ne.mpr c7
   have c7b1 : (t278 != 0) = true := bne_iff_ne.mpr c7
   (first | rw [c7b0] | (simp only [i64_w, i32_w]; rw [c7b0]) | skip)
   have H' := mA H
   clear H
   go_wp2
   go_meet
   case rel => exact ⟨_, (true), (by first | rfl | (simp; done) | (simp [*]; done)), H', ⟨by first | omega | exact Nat.le_refl _⟩, ⟨by (with_reducible repeat (first | apply kN | apply kD | apply kA)); refine blk_put (cs := #[.int .i64 t273, .string t274, .string t275, .int .i64 t276, .int .i64 0]) ?_ 4 _ (by first | rfl | (simp [*]; done)); (with_reducible repeat (first | apply kN | apply kD | apply kA)); refine blk_put (cs := #[.int .i64 t273, .string t274, .string t275, .int .i64 0, .int .i64 0]) ?_ 3 _ (by first | rfl | (simp [*]; done)); (with_reducible repeat (first | apply kN | apply kD | apply kA)); refine blk_put (cs := #[.int .i64 t273, .string t274, .string ⟨#[]⟩, .int .i64 0, .int .i64 0]) ?_ 2 _ (by first | rfl | (simp [*]; done)); (with_reducible repeat (first | apply kN | apply kD | apply kA)); refine blk_put (cs := #[.int .i64 t273, .string ⟨#[]⟩, .string ⟨#[]⟩, .int .i64 0, .int .i64 0]) ?_ 1 _ (by first | rfl | (simp [*]; done)); (with_reducible repeat (first | apply kN | apply kD | apply kA)); refine blk_put (cs := #[.int .i64 0, .string ⟨#[]⟩, .string ⟨#[]⟩, .int .i64 0, .int .i64 0]) ?_ 0 _ (by first | rfl | (simp [*]; done)); (with_reducible repeat (first | apply kN | apply kD | apply kA)); exact BK279.out⟩, ⟨by repeat (first | (with_reducible first | exact HB.out | apply bA | apply bN | apply bD | refine bS ?_ GE279.out) | exact HB.out)⟩⟩
 case rest =>
  clear HC3
  try clear c1
  try clear p2
  try clear c3
  try clear c7
  try clear c7b0
  try clear c7b1
  try clear hcz6_0 hcz6_1 hcz6_2 hcz6_3 hcz6_4
  try clear hcz8_0 hcz8_1 hcz8_2 hcz8_3 hcz8_4
  try clear hfz6_0 hfz6_1 hfz6_2 hfz6_3 hfz6_4
  try clear hfz8_0 hfz8_1 hfz8_2 hfz8_3 hfz8_4
  obtain ⟨kq, x25_2, rfl, HA, HJ2, BK279, HB⟩ := hcut
  cases kq with
  | zero => exact absurd HA.out (by simp [clamp_find.j0])
  | succ kj2 =>
   have H := HA.out
   clear HA
   simp only [clamp_find.j0] at H
   by_cases c9 : x25_2 = true
   ·subst c9
    rw [if_pos rfl] at H
    simp only [Option.some.injEq, Prod.mk.injEq] at H
    obtain ⟨rfl, rfl, rfl⟩ := H
    go_wp2
    go_ret3
    exact ⟨by first | rfl | (simp [errW_none, errW_some] <;> rfl) | (simp [*, errW_none, errW_some] <;> rfl), by repeat (first | (with_reducible first | exact HB.out | apply bA | apply bN | apply bD | refine bS ?_ GE279.out) | exact HB.out)⟩
   ·replace c9 := Bool.eq_false_iff.mpr c9
    subst c9
    rw [if_neg (show ¬ (false = true) by decide)] at H
    replace H := Option.bind_eq_some_iff.mp H
    obtain ⟨t280, A100, H⟩ := H
    try dsimp +instances only at H
    have A10 := mA A100
    clear A100
    by_cases c11 : 0 ≤ t280
    ·rw [if_pos c11] at H
     have c11b0 := eq_true c11
     have c11b1 : decide (0 ≤ t280) = true := decide_eq_true c11
     clear c11
     by_cases c12 : t280 ≤ (a0.size : Int)
     ·rw [if_pos c12] at H
      have c12b0 := eq_true c12
      have c12b1 : decide (t280 ≤ (a0.size : Int)) = true := decide_eq_true c12
      clear c12
      replace H := Option.bind_eq_some_iff.mp H
      obtain ⟨⟨t281, t282, t283, t284, t285, t286, t287, t288, t289, t290, t291⟩, A130, H⟩ := H
      try dsimp +instances only at H
      have A13 := mA A130
      clear A130
      replace H := Option.bind_eq_some_iff.mp H
      obtain ⟨⟨t293, t294, t295⟩, A140, H⟩ := H
      try dsimp +instances only at H
      have A14 := mA A140
      clear A140
      by_cases c15 : t295 = true
      ·subst c15
       rw [if_pos rfl] at H
       by_cases c16 : (Go.bits .and .i64 t285 2) = 0
       ·rw [if_pos c16] at H
        have c16b0 : ((Go.bits .and .i64 t285 2) == 0) = true := beq_iff_eq.mpr c16
        have c16b1 : ((Go.bits .and .i64 t285 2) != 0) = false := bne_eq_false_iff_eq.mpr c16
        clear c16
        simp only [Option.some.injEq, Prod.mk.injEq] at H
        obtain ⟨rfl, rfl, rfl⟩ := H
        go_wp2_with (first | ((with_reducible refine gate_callee (f := 38) rfl ?_); refine goesL_ (some 27) rfl rfl Try.func38 (by kernel_rfl) rfl #[.string a0] rfl (by (try simp only [List.map_toArray, List.map_cons, List.map_nil]); first | done | rfl | (simp only [List.length_drop, List.length_take]; rfl)) ?_; (with_reducible refine (clamp_head.calls a0 t280 _ A10.out).mono ?_); rintro e w' ⟨rfl, ⟨nd, rfl⟩⟩; refine ⟨_, rfl, ?_⟩; (try (rw [drewN_self wc]; generalize hq_ : World.drewN wc _ = wc; have n0_ : Aside0 (wc.heap[gb279]? = some (.cells #[.int .i64 t273, .string t274, .string t275, .int .i64 t276, .int .i64 t277] 24 (0, 0))) := ⟨by rw [← hq_]; exact (by (with_reducible repeat (first | apply kN | apply kD | apply kA)); exact BK279.out)⟩; have n1_ : Aside0 (Below w.heap.size w wc) := ⟨by rw [← hq_]; exact (by repeat (first | (with_reducible first | exact HB.out | apply bA | apply bN | apply bD | refine bS ?_ GE279.out) | exact HB.out))⟩; clear BK279 HB hq_; have BK279 := n0_; have HB := n1_; clear n0_ n1_))) | ((with_reducible refine gate_callee (f := 49) rfl ?_); refine goesL_ (some 32) rfl rfl Try.func49 (by kernel_rfl) rfl #[.string (a0.extract (t280 : Int).toNat a0.size)] rfl (by (try simp only [List.map_toArray, List.map_cons, List.map_nil]); first | done | rfl | (simp only [List.length_drop, List.length_take]; rfl)) ?_; (with_reducible refine (tcp_Get.calls (a0.extract (t280 : Int).toNat a0.size) t281 t282 t283 t284 t285 t286 t287 t288 t289 t290 t291 _ A13.out).mono ?_); rintro e w17 ⟨rfl, hb⟩; refine ⟨_, rfl, ?_⟩; have n0_ := mA (blk_below (g := gb279) (o := .cells #[.int .i64 t273, .string t274, .string t275, .int .i64 t276, .int .i64 t277] 24 (0, 0)) (by (with_reducible repeat (first | apply kN | apply kD | apply kA)); exact BK279.out) hb); have n1_ := mA (bP (by repeat (first | (with_reducible first | exact HB.out | apply bA | apply bN | apply bD | refine bS ?_ GE279.out) | exact HB.out)) hb); clear BK279; clear HB; have BK279 := n0_; have HB := n1_; clear n0_ n1_; (try clear hb); (try clear hb2); (try clear hk); (try clear hi)) | ((with_reducible refine gate_dst (N := 8) rfl ?_); refine box_event ?hg (N := 8) ?hd (cs := #[.int .i64 0, .int .i64 0, .int .u32 0, .int .u32 0, .int .i64 0, .int .i64 0, .int .i64 0, .string ⟨#[]⟩, .string ⟨#[]⟩]) (t := 69) ?hr ?_; (case hd => rfl); (case hg => rfl); (case hr => first | (go_simp; done) | (go_simp; rfl)); intro gb292 hg w18 hbox hb; obtain ⟨n0_, nl279_⟩ := bt3 (g := gb279) (o := .cells #[.int .i64 t273, .string t274, .string t275, .int .i64 t276, .int .i64 t277] 24 (0, 0)) (by (with_reducible repeat (first | apply kN | apply kD | apply kA)); exact BK279.out) hb; obtain ⟨n1_, nq_⟩ := bpr (by repeat (first | (with_reducible first | exact HB.out | apply bA | apply bN | apply bD | refine bS ?_ GE279.out) | exact HB.out)) hb; have n2_ := mA (hbox); have n3_ := mA ((by rw [hg]; exact nq_ : w.heap.size ≤ gb292)); have n4_ := mA ((by rw [hg]; exact nq_ : w.heap.size ≤ gb292)); have n5_ := mA ((by rw [hg]; exact Nat.ne_of_lt nl279_ : gb279 ≠ gb292)); have n6_ := mA ((by rw [hg]; exact Nat.ne_of_gt nl279_ : gb292 ≠ gb279)); clear BK279; clear HB; have BK279 := n0_; have HB := n1_; have BK292 := n2_; have GW292 := n3_; have GE292 := n4_; have NB279_292 := n5_; have NB292_279 := n6_; clear nl279_; clear nq_; clear n0_ n1_ n2_ n3_ n4_ n5_ n6_; clear hb hbox hg; have hnb19 := NB292_279.out; have hnc19 := NB279_292.out; obtain ⟨hcz20_0, hcz20_1, hcz20_2, hcz20_3, hcz20_4, hcz20_5, hcz20_6, hcz20_7, hcz20_8⟩ := bc9 BK292.out; obtain ⟨hfz20_0, hfz20_1, hfz20_2, hfz20_3, hfz20_4, hfz20_5, hfz20_6, hfz20_7, hfz20_8⟩ := bf9 BK292.out) | ((with_reducible refine gate_callee (f := 59) rfl ?_); refine goesL_ (some 39) rfl rfl Try.func59 (by kernel_rfl) rfl #[.string t288] rfl (by (try simp only [List.map_toArray, List.map_cons, List.map_nil]); first | done | rfl | (simp only [List.length_drop, List.length_take]; rfl)) ?_; (with_reducible refine (tcp_MSS.calls t288 t293 t294 true _ A14.out).mono ?_); rintro e w21 ⟨rfl, hb⟩; refine ⟨_, rfl, ?_⟩; have n0_ := mA (blk_below (g := gb279) (o := .cells #[.int .i64 t273, .string t274, .string t275, .int .i64 t276, .int .i64 t277] 24 (0, 0)) (by (with_reducible repeat (first | apply kN | apply kD | apply kA | refine blk_far ?_ NB279_292.out _)); exact BK279.out) hb); have n1_ := mA (blk_below (g := gb292) (o := .cells #[.int .i64 t281, .int .i64 t282, .int .u32 t283, .int .u32 t284, .int .i64 t285, .int .i64 t286, .int .i64 t287, .string t288, .string t289] 69 (0, 0)) (by (with_reducible repeat (first | apply kN | apply kD | apply kA)); refine blk_put (cs := #[.int .i64 t281, .int .i64 t282, .int .u32 t283, .int .u32 t284, .int .i64 t285, .int .i64 t286, .int .i64 t287, .string t288, .string ⟨#[]⟩]) ?_ 8 _ (by first | rfl | (simp [*]; done)); (with_reducible repeat (first | apply kN | apply kD | apply kA)); refine blk_put (cs := #[.int .i64 t281, .int .i64 t282, .int .u32 t283, .int .u32 t284, .int .i64 t285, .int .i64 t286, .int .i64 t287, .string ⟨#[]⟩, .string ⟨#[]⟩]) ?_ 7 _ (by first | rfl | (simp [*]; done)); (with_reducible repeat (first | apply kN | apply kD | apply kA)); refine blk_put (cs := #[.int .i64 t281, .int .i64 t282, .int .u32 t283, .int .u32 t284, .int .i64 t285, .int .i64 t286, .int .i64 0, .string ⟨#[]⟩, .string ⟨#[]⟩]) ?_ 6 _ (by first | rfl | (simp [*]; done)); (with_reducible repeat (first | apply kN | apply kD | apply kA)); refine blk_put (cs := #[.int .i64 t281, .int .i64 t282, .int .u32 t283, .int .u32 t284, .int .i64 t285, .int .i64 0, .int .i64 0, .string ⟨#[]⟩, .string ⟨#[]⟩]) ?_ 5 _ (by first | rfl | (simp [*]; done)); (with_reducible repeat (first | apply kN | apply kD | apply kA)); refine blk_put (cs := #[.int .i64 t281, .int .i64 t282, .int .u32 t283, .int .u32 t284, .int .i64 0, .int .i64 0, .int .i64 0, .string ⟨#[]⟩, .string ⟨#[]⟩]) ?_ 4 _ (by first | rfl | (simp [*]; done)); (with_reducible repeat (first | apply kN | apply kD | apply kA)); refine blk_put (cs := #[.int .i64 t281, .int .i64 t282, .int .u32 t283, .int .u32 0, .int .i64 0, .int .i64 0, .int .i64 0, .string ⟨#[]⟩, .string ⟨#[]⟩]) ?_ 3 _ (by first | rfl | (simp [*]; done)); (with_reducible repeat (first | apply kN | apply kD | apply kA)); refine blk_put (cs := #[.int .i64 t281, .int .i64 t282, .int .u32 0, .int .u32 0, .int .i64 0, .int .i64 0, .int .i64 0, .string ⟨#[]⟩, .string ⟨#[]⟩]) ?_ 2 _ (by first | rfl | (simp [*]; done)); (with_reducible repeat (first | apply kN | apply kD | apply kA)); refine blk_put (cs := #[.int .i64 t281, .int .i64 0, .int .u32 0, .int .u32 0, .int .i64 0, .int .i64 0, .int .i64 0, .string ⟨#[]⟩, .string ⟨#[]⟩]) ?_ 1 _ (by first | rfl | (simp [*]; done)); (with_reducible repeat (first | apply kN | apply kD | apply kA)); refine blk_put (cs := #[.int .i64 0, .int .i64 0, .int .u32 0, .int .u32 0, .int .i64 0, .int .i64 0, .int .i64 0, .string ⟨#[]⟩, .string ⟨#[]⟩]) ?_ 0 _ (by first | rfl | (simp [*]; done)); (with_reducible repeat (first | apply kN | apply kD | apply kA)); exact BK292.out) hb); have n2_ := mA (bP (by repeat (first | (with_reducible first | exact HB.out | apply bA | apply bN | apply bD | refine bS ?_ GE279.out | refine bS ?_ GE292.out) | exact HB.out)) hb); clear BK279; clear BK292; clear HB; have BK279 := n0_; have BK292 := n1_; have HB := n2_; clear n0_ n1_ n2_; (try clear hb); (try clear hb2); (try clear hk); (try clear hi); obtain ⟨hcz22_0, hcz22_1, hcz22_2, hcz22_3, hcz22_4, hcz22_5, hcz22_6, hcz22_7, hcz22_8⟩ := bc9 BK292.out; obtain ⟨hfz22_0, hfz22_1, hfz22_2, hfz22_3, hfz22_4, hfz22_5, hfz22_6, hfz22_7, hfz22_8⟩ := bf9 BK292.out))
        go_ret3
        exact ⟨by first | rfl | (simp [errW_none, errW_some] <;> rfl) | (simp [*, errW_none, errW_some] <;> rfl), by repeat (first | (with_reducible first | exact HB.out | apply bA | apply bN | apply bD | refine bS ?_ GE279.out | refine bS ?_ GE292.out) | exact HB.out)⟩
       ·rw [if_neg c16] at H
        have c16b0 : ((Go.bits .and .i64 t285 2) == 0) = false := beq_eq_false_iff_ne.mpr c16
        have c16b1 : ((Go.bits .and .i64 t285 2) != 0) = true := bne_iff_ne.mpr c16
        simp only [Option.some.injEq, Prod.mk.injEq] at H
        obtain ⟨rfl, rfl, rfl⟩ := H
        go_wp2_with (first | ((with_reducible refine gate_callee (f := 38) rfl ?_); refine goesL_ (some 27) rfl rfl Try.func38 (by kernel_rfl) rfl #[.string a0] rfl (by (try simp only [List.map_toArray, List.map_cons, List.map_nil]); first | done | rfl | (simp only [List.length_drop, List.length_take]; rfl)) ?_; (with_reducible refine (clamp_head.calls a0 t280 _ A10.out).mono ?_); rintro e w' ⟨rfl, ⟨nd, rfl⟩⟩; refine ⟨_, rfl, ?_⟩; (try (rw [drewN_self wc]; generalize hq_ : World.drewN wc _ = wc; have n0_ : Aside0 (wc.heap[gb279]? = some (.cells #[.int .i64 t273, .string t274, .string t275, .int .i64 t276, .int .i64 t277] 24 (0, 0))) := ⟨by rw [← hq_]; exact (by (with_reducible repeat (first | apply kN | apply kD | apply kA)); exact BK279.out)⟩; have n1_ : Aside0 (Below w.heap.size w wc) := ⟨by rw [← hq_]; exact (by repeat (first | (with_reducible first | exact HB.out | apply bA | apply bN | apply bD | refine bS ?_ GE279.out) | exact HB.out))⟩; clear BK279 HB hq_; have BK279 := n0_; have HB := n1_; clear n0_ n1_))) | ((with_reducible refine gate_callee (f := 49) rfl ?_); refine goesL_ (some 32) rfl rfl Try.func49 (by kernel_rfl) rfl #[.string (a0.extract (t280 : Int).toNat a0.size)] rfl (by (try simp only [List.map_toArray, List.map_cons, List.map_nil]); first | done | rfl | (simp only [List.length_drop, List.length_take]; rfl)) ?_; (with_reducible refine (tcp_Get.calls (a0.extract (t280 : Int).toNat a0.size) t281 t282 t283 t284 t285 t286 t287 t288 t289 t290 t291 _ A13.out).mono ?_); rintro e w23 ⟨rfl, hb⟩; refine ⟨_, rfl, ?_⟩; have n0_ := mA (blk_below (g := gb279) (o := .cells #[.int .i64 t273, .string t274, .string t275, .int .i64 t276, .int .i64 t277] 24 (0, 0)) (by (with_reducible repeat (first | apply kN | apply kD | apply kA)); exact BK279.out) hb); have n1_ := mA (bP (by repeat (first | (with_reducible first | exact HB.out | apply bA | apply bN | apply bD | refine bS ?_ GE279.out) | exact HB.out)) hb); clear BK279; clear HB; have BK279 := n0_; have HB := n1_; clear n0_ n1_; (try clear hb); (try clear hb2); (try clear hk); (try clear hi)) | ((with_reducible refine gate_dst (N := 8) rfl ?_); refine box_event ?hg (N := 8) ?hd (cs := #[.int .i64 0, .int .i64 0, .int .u32 0, .int .u32 0, .int .i64 0, .int .i64 0, .int .i64 0, .string ⟨#[]⟩, .string ⟨#[]⟩]) (t := 69) ?hr ?_; (case hd => rfl); (case hg => rfl); (case hr => first | (go_simp; done) | (go_simp; rfl)); intro gb292 hg w24 hbox hb; obtain ⟨n0_, nl279_⟩ := bt3 (g := gb279) (o := .cells #[.int .i64 t273, .string t274, .string t275, .int .i64 t276, .int .i64 t277] 24 (0, 0)) (by (with_reducible repeat (first | apply kN | apply kD | apply kA)); exact BK279.out) hb; obtain ⟨n1_, nq_⟩ := bpr (by repeat (first | (with_reducible first | exact HB.out | apply bA | apply bN | apply bD | refine bS ?_ GE279.out) | exact HB.out)) hb; have n2_ := mA (hbox); have n3_ := mA ((by rw [hg]; exact nq_ : w.heap.size ≤ gb292)); have n4_ := mA ((by rw [hg]; exact nq_ : w.heap.size ≤ gb292)); have n5_ := mA ((by rw [hg]; exact Nat.ne_of_lt nl279_ : gb279 ≠ gb292)); have n6_ := mA ((by rw [hg]; exact Nat.ne_of_gt nl279_ : gb292 ≠ gb279)); clear BK279; clear HB; have BK279 := n0_; have HB := n1_; have BK292 := n2_; have GW292 := n3_; have GE292 := n4_; have NB279_292 := n5_; have NB292_279 := n6_; clear nl279_; clear nq_; clear n0_ n1_ n2_ n3_ n4_ n5_ n6_; clear hb hbox hg; have hnb25 := NB292_279.out; have hnc25 := NB279_292.out; obtain ⟨hcz26_0, hcz26_1, hcz26_2, hcz26_3, hcz26_4, hcz26_5, hcz26_6, hcz26_7, hcz26_8⟩ := bc9 BK292.out; obtain ⟨hfz26_0, hfz26_1, hfz26_2, hfz26_3, hfz26_4, hfz26_5, hfz26_6, hfz26_7, hfz26_8⟩ := bf9 BK292.out) | ((with_reducible refine gate_callee (f := 59) rfl ?_); refine goesL_ (some 39) rfl rfl Try.func59 (by kernel_rfl) rfl #[.string t288] rfl (by (try simp only [List.map_toArray, List.map_cons, List.map_nil]); first | done | rfl | (simp only [List.length_drop, List.length_take]; rfl)) ?_; (with_reducible refine (tcp_MSS.calls t288 t293 t294 true _ A14.out).mono ?_); rintro e w27 ⟨rfl, hb⟩; refine ⟨_, rfl, ?_⟩; have n0_ := mA (blk_below (g := gb279) (o := .cells #[.int .i64 t273, .string t274, .string t275, .int .i64 t276, .int .i64 t277] 24 (0, 0)) (by (with_reducible repeat (first | apply kN | apply kD | apply kA | refine blk_far ?_ NB279_292.out _)); exact BK279.out) hb); have n1_ := mA (blk_below (g := gb292) (o := .cells #[.int .i64 t281, .int .i64 t282, .int .u32 t283, .int .u32 t284, .int .i64 t285, .int .i64 t286, .int .i64 t287, .string t288, .string t289] 69 (0, 0)) (by (with_reducible repeat (first | apply kN | apply kD | apply kA)); refine blk_put (cs := #[.int .i64 t281, .int .i64 t282, .int .u32 t283, .int .u32 t284, .int .i64 t285, .int .i64 t286, .int .i64 t287, .string t288, .string ⟨#[]⟩]) ?_ 8 _ (by first | rfl | (simp [*]; done)); (with_reducible repeat (first | apply kN | apply kD | apply kA)); refine blk_put (cs := #[.int .i64 t281, .int .i64 t282, .int .u32 t283, .int .u32 t284, .int .i64 t285, .int .i64 t286, .int .i64 t287, .string ⟨#[]⟩, .string ⟨#[]⟩]) ?_ 7 _ (by first | rfl | (simp [*]; done)); (with_reducible repeat (first | apply kN | apply kD | apply kA)); refine blk_put (cs := #[.int .i64 t281, .int .i64 t282, .int .u32 t283, .int .u32 t284, .int .i64 t285, .int .i64 t286, .int .i64 0, .string ⟨#[]⟩, .string ⟨#[]⟩]) ?_ 6 _ (by first | rfl | (simp [*]; done)); (with_reducible repeat (first | apply kN | apply kD | apply kA)); refine blk_put (cs := #[.int .i64 t281, .int .i64 t282, .int .u32 t283, .int .u32 t284, .int .i64 t285, .int .i64 0, .int .i64 0, .string ⟨#[]⟩, .string ⟨#[]⟩]) ?_ 5 _ (by first | rfl | (simp [*]; done)); (with_reducible repeat (first | apply kN | apply kD | apply kA)); refine blk_put (cs := #[.int .i64 t281, .int .i64 t282, .int .u32 t283, .int .u32 t284, .int .i64 0, .int .i64 0, .int .i64 0, .string ⟨#[]⟩, .string ⟨#[]⟩]) ?_ 4 _ (by first | rfl | (simp [*]; done)); (with_reducible repeat (first | apply kN | apply kD | apply kA)); refine blk_put (cs := #[.int .i64 t281, .int .i64 t282, .int .u32 t283, .int .u32 0, .int .i64 0, .int .i64 0, .int .i64 0, .string ⟨#[]⟩, .string ⟨#[]⟩]) ?_ 3 _ (by first | rfl | (simp [*]; done)); (with_reducible repeat (first | apply kN | apply kD | apply kA)); refine blk_put (cs := #[.int .i64 t281, .int .i64 t282, .int .u32 0, .int .u32 0, .int .i64 0, .int .i64 0, .int .i64 0, .string ⟨#[]⟩, .string ⟨#[]⟩]) ?_ 2 _ (by first | rfl | (simp [*]; done)); (with_reducible repeat (first | apply kN | apply kD | apply kA)); refine blk_put (cs := #[.int .i64 t281, .int .i64 0, .int .u32 0, .int .u32 0, .int .i64 0, .int .i64 0, .int .i64 0, .string ⟨#[]⟩, .string ⟨#[]⟩]) ?_ 1 _ (by first | rfl | (simp [*]; done)); (with_reducible repeat (first | apply kN | apply kD | apply kA)); refine blk_put (cs := #[.int .i64 0, .int .i64 0, .int .u32 0, .int .u32 0, .int .i64 0, .int .i64 0, .int .i64 0, .string ⟨#[]⟩, .string ⟨#[]⟩]) ?_ 0 _ (by first | rfl | (simp [*]; done)); (with_reducible repeat (first | apply kN | apply kD | apply kA)); exact BK292.out) hb); have n2_ := mA (bP (by repeat (first | (with_reducible first | exact HB.out | apply bA | apply bN | apply bD | refine bS ?_ GE279.out | refine bS ?_ GE292.out) | exact HB.out)) hb); clear BK279; clear BK292; clear HB; have BK279 := n0_; have BK292 := n1_; have HB := n2_; clear n0_ n1_ n2_; (try clear hb); (try clear hb2); (try clear hk); (try clear hi); obtain ⟨hcz28_0, hcz28_1, hcz28_2, hcz28_3, hcz28_4, hcz28_5, hcz28_6, hcz28_7, hcz28_8⟩ := bc9 BK292.out; obtain ⟨hfz28_0, hfz28_1, hfz28_2, hfz28_3, hfz28_4, hfz28_5, hfz28_6, hfz28_7, hfz28_8⟩ := bf9 BK292.out))
        go_ret3
        exact ⟨by first | rfl | (simp [errW_none, errW_some] <;> rfl) | (simp [*, errW_none, errW_some] <;> rfl), by repeat (first | (with_reducible first | exact HB.out | apply bA | apply bN | apply bD | refine bS ?_ GE279.out | refine bS ?_ GE292.out) | exact HB.out)⟩
      ·replace c15 := Bool.eq_false_iff.mpr c15
       subst c15
       rw [if_neg (show ¬ (false = true) by decide)] at H
       simp only [Option.some.injEq, Prod.mk.injEq] at H
       obtain ⟨rfl, rfl, rfl⟩ := H
       go_wp2_with (first | ((with_reducible refine gate_callee (f := 38) rfl ?_); refine goesL_ (some 27) rfl rfl Try.func38 (by kernel_rfl) rfl #[.string a0] rfl (by (try simp only [List.map_toArray, List.map_cons, List.map_nil]); first | done | rfl | (simp only [List.length_drop, List.length_take]; rfl)) ?_; (with_reducible refine (clamp_head.calls a0 t280 _ A10.out).mono ?_); rintro e w' ⟨rfl, ⟨nd, rfl⟩⟩; refine ⟨_, rfl, ?_⟩; (try (rw [drewN_self wc]; generalize hq_ : World.drewN wc _ = wc; have n0_ : Aside0 (wc.heap[gb279]? = some (.cells #[.int .i64 t273, .string t274, .string t275, .int .i64 t276, .int .i64 t277] 24 (0, 0))) := ⟨by rw [← hq_]; exact (by (with_reducible repeat (first | apply kN | apply kD | apply kA)); exact BK279.out)⟩; have n1_ : Aside0 (Below w.heap.size w wc) := ⟨by rw [← hq_]; exact (by repeat (first | (with_reducible first | exact HB.out | apply bA | apply bN | apply bD | refine bS ?_ GE279.out) | exact HB.out))⟩; clear BK279 HB hq_; have BK279 := n0_; have HB := n1_; clear n0_ n1_))) | ((with_reducible refine gate_callee (f := 49) rfl ?_); refine goesL_ (some 32) rfl rfl Try.func49 (by kernel_rfl) rfl #[.string (a0.extract (t280 : Int).toNat a0.size)] rfl (by (try simp only [List.map_toArray, List.map_cons, List.map_nil]); first | done | rfl | (simp only [List.length_drop, List.length_take]; rfl)) ?_; (with_reducible refine (tcp_Get.calls (a0.extract (t280 : Int).toNat a0.size) t281 t282 t283 t284 t285 t286 t287 t288 t289 t290 t291 _ A13.out).mono ?_); rintro e w29 ⟨rfl, hb⟩; refine ⟨_, rfl, ?_⟩; have n0_ := mA (blk_below (g := gb279) (o := .cells #[.int .i64 t273, .string t274, .string t275, .int .i64 t276, .int .i64 t277] 24 (0, 0)) (by (with_reducible repeat (first | apply kN | apply kD | apply kA)); exact BK279.out) hb); have n1_ := mA (bP (by repeat (first | (with_reducible first | exact HB.out | apply bA | apply bN | apply bD | refine bS ?_ GE279.out) | exact HB.out)) hb); clear BK279; clear HB; have BK279 := n0_; have HB := n1_; clear n0_ n1_; (try clear hb); (try clear hb2); (try clear hk); (try clear hi)) | ((with_reducible refine gate_dst (N := 8) rfl ?_); refine box_event ?hg (N := 8) ?hd (cs := #[.int .i64 0, .int .i64 0, .int .u32 0, .int .u32 0, .int .i64 0, .int .i64 0, .int .i64 0, .string ⟨#[]⟩, .string ⟨#[]⟩]) (t := 69) ?hr ?_; (case hd => rfl); (case hg => rfl); (case hr => first | (go_simp; done) | (go_simp; rfl)); intro gb292 hg w30 hbox hb; obtain ⟨n0_, nl279_⟩ := bt3 (g := gb279) (o := .cells #[.int .i64 t273, .string t274, .string t275, .int .i64 t276, .int .i64 t277] 24 (0, 0)) (by (with_reducible repeat (first | apply kN | apply kD | apply kA)); exact BK279.out) hb; obtain ⟨n1_, nq_⟩ := bpr (by repeat (first | (with_reducible first | exact HB.out | apply bA | apply bN | apply bD | refine bS ?_ GE279.out) | exact HB.out)) hb; have n2_ := mA (hbox); have n3_ := mA ((by rw [hg]; exact nq_ : w.heap.size ≤ gb292)); have n4_ := mA ((by rw [hg]; exact nq_ : w.heap.size ≤ gb292)); have n5_ := mA ((by rw [hg]; exact Nat.ne_of_lt nl279_ : gb279 ≠ gb292)); have n6_ := mA ((by rw [hg]; exact Nat.ne_of_gt nl279_ : gb292 ≠ gb279)); clear BK279; clear HB; have BK279 := n0_; have HB := n1_; have BK292 := n2_; have GW292 := n3_; have GE292 := n4_; have NB279_292 := n5_; have NB292_279 := n6_; clear nl279_; clear nq_; clear n0_ n1_ n2_ n3_ n4_ n5_ n6_; clear hb hbox hg; have hnb31 := NB292_279.out; have hnc31 := NB279_292.out; obtain ⟨hcz32_0, hcz32_1, hcz32_2, hcz32_3, hcz32_4, hcz32_5, hcz32_6, hcz32_7, hcz32_8⟩ := bc9 BK292.out; obtain ⟨hfz32_0, hfz32_1, hfz32_2, hfz32_3, hfz32_4, hfz32_5, hfz32_6, hfz32_7, hfz32_8⟩ := bf9 BK292.out) | ((with_reducible refine gate_callee (f := 59) rfl ?_); refine goesL_ (some 39) rfl rfl Try.func59 (by kernel_rfl) rfl #[.string t288] rfl (by (try simp only [List.map_toArray, List.map_cons, List.map_nil]); first | done | rfl | (simp only [List.length_drop, List.length_take]; rfl)) ?_; (with_reducible refine (tcp_MSS.calls t288 t293 t294 false _ A14.out).mono ?_); rintro e w33 ⟨rfl, hb⟩; refine ⟨_, rfl, ?_⟩; have n0_ := mA (blk_below (g := gb279) (o := .cells #[.int .i64 t273, .string t274, .string t275, .int .i64 t276, .int .i64 t277] 24 (0, 0)) (by (with_reducible repeat (first | apply kN | apply kD | apply kA | refine blk_far ?_ NB279_292.out _)); exact BK279.out) hb); have n1_ := mA (blk_below (g := gb292) (o := .cells #[.int .i64 t281, .int .i64 t282, .int .u32 t283, .int .u32 t284, .int .i64 t285, .int .i64 t286, .int .i64 t287, .string t288, .string t289] 69 (0, 0)) (by (with_reducible repeat (first | apply kN | apply kD | apply kA)); refine blk_put (cs := #[.int .i64 t281, .int .i64 t282, .int .u32 t283, .int .u32 t284, .int .i64 t285, .int .i64 t286, .int .i64 t287, .string t288, .string ⟨#[]⟩]) ?_ 8 _ (by first | rfl | (simp [*]; done)); (with_reducible repeat (first | apply kN | apply kD | apply kA)); refine blk_put (cs := #[.int .i64 t281, .int .i64 t282, .int .u32 t283, .int .u32 t284, .int .i64 t285, .int .i64 t286, .int .i64 t287, .string ⟨#[]⟩, .string ⟨#[]⟩]) ?_ 7 _ (by first | rfl | (simp [*]; done)); (with_reducible repeat (first | apply kN | apply kD | apply kA)); refine blk_put (cs := #[.int .i64 t281, .int .i64 t282, .int .u32 t283, .int .u32 t284, .int .i64 t285, .int .i64 t286, .int .i64 0, .string ⟨#[]⟩, .string ⟨#[]⟩]) ?_ 6 _ (by first | rfl | (simp [*]; done)); (with_reducible repeat (first | apply kN | apply kD | apply kA)); refine blk_put (cs := #[.int .i64 t281, .int .i64 t282, .int .u32 t283, .int .u32 t284, .int .i64 t285, .int .i64 0, .int .i64 0, .string ⟨#[]⟩, .string ⟨#[]⟩]) ?_ 5 _ (by first | rfl | (simp [*]; done)); (with_reducible repeat (first | apply kN | apply kD | apply kA)); refine blk_put (cs := #[.int .i64 t281, .int .i64 t282, .int .u32 t283, .int .u32 t284, .int .i64 0, .int .i64 0, .int .i64 0, .string ⟨#[]⟩, .string ⟨#[]⟩]) ?_ 4 _ (by first | rfl | (simp [*]; done)); (with_reducible repeat (first | apply kN | apply kD | apply kA)); refine blk_put (cs := #[.int .i64 t281, .int .i64 t282, .int .u32 t283, .int .u32 0, .int .i64 0, .int .i64 0, .int .i64 0, .string ⟨#[]⟩, .string ⟨#[]⟩]) ?_ 3 _ (by first | rfl | (simp [*]; done)); (with_reducible repeat (first | apply kN | apply kD | apply kA)); refine blk_put (cs := #[.int .i64 t281, .int .i64 t282, .int .u32 0, .int .u32 0, .int .i64 0, .int .i64 0, .int .i64 0, .string ⟨#[]⟩, .string ⟨#[]⟩]) ?_ 2 _ (by first | rfl | (simp [*]; done)); (with_reducible repeat (first | apply kN | apply kD | apply kA)); refine blk_put (cs := #[.int .i64 t281, .int .i64 0, .int .u32 0, .int .u32 0, .int .i64 0, .int .i64 0, .int .i64 0, .string ⟨#[]⟩, .string ⟨#[]⟩]) ?_ 1 _ (by first | rfl | (simp [*]; done)); (with_reducible repeat (first | apply kN | apply kD | apply kA)); refine blk_put (cs := #[.int .i64 0, .int .i64 0, .int .u32 0, .int .u32 0, .int .i64 0, .int .i64 0, .int .i64 0, .string ⟨#[]⟩, .string ⟨#[]⟩]) ?_ 0 _ (by first | rfl | (simp [*]; done)); (with_reducible repeat (first | apply kN | apply kD | apply kA)); exact BK292.out) hb); have n2_ := mA (bP (by repeat (first | (with_reducible first | exact HB.out | apply bA | apply bN | apply bD | refine bS ?_ GE279.out | refine bS ?_ GE292.out) | exact HB.out)) hb); clear BK279; clear BK292; clear HB; have BK279 := n0_; have BK292 := n1_; have HB := n2_; clear n0_ n1_ n2_; (try clear hb); (try clear hb2); (try clear hk); (try clear hi)))
       go_ret3
       exact ⟨by first | rfl | (simp [errW_none, errW_some] <;> rfl) | (simp [*, errW_none, errW_some] <;> rfl), by repeat (first | (with_reducible first | exact HB.out | apply bA | apply bN | apply bD | refine bS ?_ GE279.out | refine bS ?_ GE292.out) | exact HB.out)⟩
     ·rw [if_neg c12] at H
      exact absurd H (by simp)
    ·rw [if_neg c11] at H
     exact absurd H (by simp)

def clamp_MSS.f (k : Nat) (a0 : ByteArray) : Option (Int × Bool) := (clamp_find.f k a0).bind fun bt296 => (some (bt296.2.1, bt296.2.2))
set_option maxHeartbeats 8000000 in
set_option maxRecDepth 100000 in
theorem clamp_MSS.calls (k : Nat) (a0 : ByteArray) (r1 : Int) (r2 : Bool) (w : World) (h : clamp_MSS.f k a0 = some (r1, r2)) :
  Calls Try.prog 15 #[.string a0] w fun e w' => e = .returned (.tuple #[.int .i64 r1, .bool r2]) ∧ Below w.heap.size w w' := by
 have HB := mA (Below.refl w.heap.size w)
 have H : ((clamp_find.f k a0).bind fun bt296 => (some (bt296.2.1, bt296.2.2))) = some (r1, r2) := h
 clear h
 replace H := Option.bind_eq_some_iff.mp H
 obtain ⟨⟨t296, t297, t298⟩, A20, H⟩ := H
 try dsimp +instances only at H
 have A2 := mA A20
 clear A20
 simp only [Option.some.injEq, Prod.mk.injEq] at H
 obtain ⟨rfl, rfl⟩ := H
 go_enter Try.func15, Try.ntmps15
 go_wp2_with (first | ((with_reducible refine gate_callee (f := 36) rfl ?_); refine goesL_ (some 9) rfl rfl Try.func36 (by kernel_rfl) rfl #[.string a0] rfl (by (try simp only [List.map_toArray, List.map_cons, List.map_nil]); first | done | rfl | (simp only [List.length_drop, List.length_take]; rfl)) ?_; (with_reducible refine (clamp_find.calls k a0 t296 t297 t298 _ A2.out).mono ?_); rintro e w3 ⟨rfl, hb⟩; refine ⟨_, rfl, ?_⟩; have n0_ := mA (bP (by repeat (first | (with_reducible first | exact HB.out | apply bA | apply bN | apply bD) | exact HB.out)) hb); clear HB; have HB := n0_; clear n0_; (try clear hb); (try clear hb2); (try clear hk); (try clear hi)))
 go_ret2
 exact ⟨by first | rfl | (simp [errW_none, errW_some] <;> rfl) | (simp [*, errW_none, errW_some] <;> rfl), by repeat (first | (with_reducible first | exact HB.out | apply bA | apply bN | apply bD) | exact HB.out)⟩

end Go.Proofs.Ytcmalglippmocaa.G
end

section
namespace Go.Proofs.Ytcmalglippmocaa.G
open Go.RowKit Go.Proofs.YtcmalglippmocaaW.PrintWords Go.Proofs.YtcmalglippmocaaW.PrintLast Go.Proofs.YtcmalglippmocaaW.PrintMore
attribute [local go_sem] max2_int min2_int max_two min_two max_three min_three max_four min_four

def palanquinref07_Put.j0 : Nat → Int → Bool → Int → Int → Int → Int → Int → Int → Int → ByteArray → ByteArray → Option (ByteArray × Int)
 | 0, _, _, _, _, _, _, _, _, _, _, _ => none
 | k + 1, x1, x13, x307000, x307001, x307002, x307003, x307004, x307005, x307006, x307007, x307008 => if x13 = true then (some ((⟨#[]⟩ : ByteArray), 1)) else ((palanquinref07_num.f k x307000 2).bind fun t309 => ((palanquinref07_num.f k x307001 2).bind fun t310 => (if t309.size + t310.size ≤ 9223372036854775807 then ((palanquinref07_num.f k (wrap64 (x307002)) 4).bind fun t311 => (if (t309 ++ t310).size + t311.size ≤ 9223372036854775807 then ((palanquinref07_num.f k (wrap64 (x307003)) 4).bind fun t312 => (if ((t309 ++ t310) ++ t311).size + t312.size ≤ 9223372036854775807 then ((palanquinref07_num.f k (wrap64 ((wrap64 (5 + (wrap64 ((x307007.size : Int) / 4)))) * 16)) 1).bind fun t313 => (if (((t309 ++ t310) ++ t311) ++ t312).size + t313.size ≤ 9223372036854775807 then ((palanquinref07_num.f k x307004 1).bind fun t314 => (if ((((t309 ++ t310) ++ t311) ++ t312) ++ t313).size + t314.size ≤ 9223372036854775807 then ((palanquinref07_num.f k x307005 2).bind fun t315 => (if (((((t309 ++ t310) ++ t311) ++ t312) ++ t313) ++ t314).size + t315.size ≤ 9223372036854775807 then ((palanquinref07_num.f k x1 2).bind fun t316 => (if ((((((t309 ++ t310) ++ t311) ++ t312) ++ t313) ++ t314) ++ t315).size + t316.size ≤ 9223372036854775807 then ((palanquinref07_num.f k x307006 2).bind fun t317 => (if (((((((t309 ++ t310) ++ t311) ++ t312) ++ t313) ++ t314) ++ t315) ++ t316).size + t317.size ≤ 9223372036854775807 then (if ((((((((t309 ++ t310) ++ t311) ++ t312) ++ t313) ++ t314) ++ t315) ++ t316) ++ t317).size + x307007.size ≤ 9223372036854775807 then (if (((((((((t309 ++ t310) ++ t311) ++ t312) ++ t313) ++ t314) ++ t315) ++ t316) ++ t317) ++ x307007).size + x307008.size ≤ 9223372036854775807 then (some ((((((((((t309 ++ t310) ++ t311) ++ t312) ++ t313) ++ t314) ++ t315) ++ t316) ++ t317) ++ x307007) ++ x307008, 0)) else (none)) else (none)) else (none))) else (none))) else (none))) else (none))) else (none))) else (none))) else (none))) else (none))))
def palanquinref07_Put.f (k : Nat) (a0_0 : Int) (a0_1 : Int) (a0_2 : Int) (a0_3 : Int) (a0_4 : Int) (a0_5 : Int) (a0_6 : Int) (a0_7 : ByteArray) (a0_8 : ByteArray) (a1 : Int) : Option (ByteArray × Int) := (palanquinref07_May.f a0_0 a0_1 a0_2 a0_3 a0_4 a0_5 a0_6 a0_7 a0_8).bind fun t307 => (if t307 = true then ((palanquinref07_in.f a1 0 65535).bind fun t308 => (palanquinref07_Put.j0 k a1 (!t308) a0_0 a0_1 a0_2 a0_3 a0_4 a0_5 a0_6 a0_7 a0_8)) else (palanquinref07_Put.j0 k a1 true a0_0 a0_1 a0_2 a0_3 a0_4 a0_5 a0_6 a0_7 a0_8))
def palanquinref07_Put.T3 : Bool × List (List Nat × List Nat) := (true, [([], []), ([0], [0]), ([1], [1]), ([], []), ([3], [3]), ([4, 2], [4]), ([2, 5], [2, 5]), ([], []), ([7], [7]), ([8], [8]), ([9, 5], [9]), ([6, 10], [6, 10]), ([], []), ([12], [12]), ([13], [13]), ([14, 10], [14]), ([11, 15], [11, 15]), ([], []), ([17], [17]), ([18], [18]), ([19], [19]), ([20], [20]), ([21], [21]), ([22, 15], [22]), ([16, 23], [16, 23]), ([], []), ([25], [25]), ([26, 23], [26]), ([24, 27], [24, 27]), ([], []), ([29], [29]), ([30, 27], [30]), ([28, 31], [28, 31]), ([], []), ([33, 31], [33]), ([32, 34], [32, 34]), ([], []), ([36], [36]), ([37, 34], [37]), ([35, 38], [35, 38]), ([], []), ([40], [40]), ([39, 41], [39, 41]), ([], []), ([43], [43]), ([42, 44], [42, 44]), ([45, 38, 0, 1, 2, 3, 4, 5, 6, 7, 8, 9, 10, 11, 12, 13, 14, 15, 16, 17, 18, 19, 20, 21, 22, 23, 24, 25, 26, 27, 28, 29, 30, 31, 32, 33, 34, 35, 36, 37, 38, 39, 40, 41, 42, 43, 44, 45], [45]), ([46, 0, 1, 2, 3, 4, 5, 6, 7, 8, 9, 10, 11, 12, 13, 14, 15, 16, 17, 18, 19, 20, 21, 22, 23, 24, 25, 26, 27, 28, 29, 30, 31, 32, 33, 34, 35, 36, 37, 38, 39, 40, 41, 42, 43, 44, 45, 46], [])])
def palanquinref07_Put.B3 : List Nat := [0, 1, 3, 0, 8, 31, 63, 0, 128, 384, 959, 2047, 0, 4096, 12288, 30655, 65535, 0, 131072, 393216, 917504, 1966080, 4063232, 8320959, 16777215, 0, 33554432, 117372863, 268435455, 0, 536870912, 1862203327, 4294967295, 0, 12599621567, 34359738367, 0, 68719476736, 235937920959, 549755813887, 0, 1099511627776, 4398046511103, 0, 8796093022208, 35184372088831, 70368744177663, 140737488355327]
theorem palanquinref07_Put.tab3 : rtab .any (opsOf Try.f34 3) = palanquinref07_Put.T3 := by kernel_rfl
theorem palanquinref07_Put.bits3 : waitsOk palanquinref07_Put.T3.2 palanquinref07_Put.B3 = true := by kernel_rfl
set_option maxHeartbeats 8000000 in
set_option maxRecDepth 100000 in
theorem palanquinref07_Put.calls (k : Nat) (a0_0 : Int) (a0_1 : Int) (a0_2 : Int) (a0_3 : Int) (a0_4 : Int) (a0_5 : Int) (a0_6 : Int) (a0_7 : ByteArray) (a0_8 : ByteArray) (a1 : Int) (r1 : ByteArray) (r2 : Int) (w : World) (h : palanquinref07_Put.f k a0_0 a0_1 a0_2 a0_3 a0_4 a0_5 a0_6 a0_7 a0_8 a1 = some (r1, r2)) :
  Calls Try.prog 34 #[.agg #[.int .i64 a0_0, .int .i64 a0_1, .int .u32 a0_2, .int .u32 a0_3, .int .i64 a0_4, .int .i64 a0_5, .int .i64 a0_6, .string a0_7, .string a0_8], .int .i64 a1] w fun e w' => e = .returned (.tuple #[.string r1, .int .i64 r2]) ∧ Below w.heap.size w w' := by
 have hu69 := Try.underlying69
 have HB := mA (Below.refl w.heap.size w)
 have H : ((palanquinref07_May.f a0_0 a0_1 a0_2 a0_3 a0_4 a0_5 a0_6 a0_7 a0_8).bind fun t307 => (if t307 = true then ((palanquinref07_in.f a1 0 65535).bind fun t308 => (palanquinref07_Put.j0 k a1 (!t308) a0_0 a0_1 a0_2 a0_3 a0_4 a0_5 a0_6 a0_7 a0_8)) else (palanquinref07_Put.j0 k a1 true a0_0 a0_1 a0_2 a0_3 a0_4 a0_5 a0_6 a0_7 a0_8))) = some (r1, r2) := h
 clear h
 have HC3 := mA H
 clear H
 go_enter Try.func34, Try.ntmps34
 go_upto_region 1 with (first | ((with_reducible refine gate_dst (N := 2) rfl ?_); refine box_event ?hg (N := 2) ?hd (cs := #[.int .i64 a0_0, .int .i64 a0_1, .int .u32 a0_2, .int .u32 a0_3, .int .i64 a0_4, .int .i64 a0_5, .int .i64 a0_6, .string a0_7, .string a0_8]) (t := 69) ?hr ?_; (case hd => rfl); (case hg => rfl); (case hr => first | (go_simp; done) | (go_simp; rfl)); intro gb306 hg w4 hbox hb; obtain ⟨n0_, nq_⟩ := bpr (by repeat (first | (with_reducible first | exact HB.out | apply bA | apply bN | apply bD) | exact HB.out)) hb; have n1_ := mA (hbox); have n2_ := mA ((by rw [hg]; exact nq_ : w.heap.size ≤ gb306)); have n3_ := mA ((by rw [hg]; exact nq_ : w.heap.size ≤ gb306)); clear HB; have HB := n0_; have BK306 := n1_; have GW306 := n2_; have GE306 := n3_; clear nq_; clear n0_ n1_ n2_ n3_; clear hb hbox hg))
 (try simp only [Act.put, List.setIfInBounds_toArray, List.set_cons_zero, List.set_cons_succ])
 go_cut [13] (fun v13 wc => ∃ (kq : Nat) (x13_2 : Bool), v13 = .bool x13_2 ∧ Aside0 (palanquinref07_Put.j0 kq a1 x13_2 a0_0 a0_1 a0_2 a0_3 a0_4 a0_5 a0_6 a0_7 a0_8 = some (r1, r2)) ∧ Aside0 (kq ≤ k) ∧ Aside0 (wc.heap[gb306]? = some (.cells #[.int .i64 a0_0, .int .i64 a0_1, .int .u32 a0_2, .int .u32 a0_3, .int .i64 a0_4, .int .i64 a0_5, .int .i64 a0_6, .string a0_7, .string a0_8] 69 (0, 0))) ∧ Aside0 (Below w.heap.size w wc))
 case first =>
  have H := HC3.out
  clear HC3
  replace H := Option.bind_eq_some_iff.mp H
  obtain ⟨t307, A50, H⟩ := H
  try dsimp +instances only at H
  have A5 := mA A50
  clear A50
  by_cases c6 : t307 = true
  ·subst c6
   rw [if_pos rfl] at H
   replace H := Option.bind_eq_some_iff.mp H
   obtain ⟨t308, A70, H⟩ := H
   try dsimp +instances only at H
   have A7 := mA A70
   clear A70
   have H' := mA H
   clear H
   obtain ⟨hcz8_0, hcz8_1, hcz8_2, hcz8_3, hcz8_4, hcz8_5, hcz8_6, hcz8_7, hcz8_8⟩ := bc9 BK306.out
   obtain ⟨hfz8_0, hfz8_1, hfz8_2, hfz8_3, hfz8_4, hfz8_5, hfz8_6, hfz8_7, hfz8_8⟩ := bf9 BK306.out
   go_wp2_with (first | ((with_reducible refine gate_callee (f := 56) rfl ?_); refine goesL_ (some 7) rfl rfl Try.func56 (by kernel_rfl) rfl #[.agg #[.int .i64 a0_0, .int .i64 a0_1, .int .u32 a0_2, .int .u32 a0_3, .int .i64 a0_4, .int .i64 a0_5, .int .i64 a0_6, .string a0_7, .string a0_8]] rfl (by (try simp only [List.map_toArray, List.map_cons, List.map_nil]); first | done | rfl | (simp only [List.length_drop, List.length_take]; rfl)) ?_; (with_reducible refine (palanquinref07_May.calls a0_0 a0_1 a0_2 a0_3 a0_4 a0_5 a0_6 a0_7 a0_8 true _ A5.out).mono ?_); rintro e w9 ⟨rfl, hb⟩; refine ⟨_, rfl, ?_⟩; have n0_ := mA (blk_below (g := gb306) (o := .cells #[.int .i64 a0_0, .int .i64 a0_1, .int .u32 a0_2, .int .u32 a0_3, .int .i64 a0_4, .int .i64 a0_5, .int .i64 a0_6, .string a0_7, .string a0_8] 69 (0, 0)) (by (with_reducible repeat (first | apply kN | apply kD | apply kA)); exact BK306.out) hb); have n1_ := mA (bP (by repeat (first | (with_reducible first | exact HB.out | apply bA | apply bN | apply bD | refine bS ?_ GE306.out) | exact HB.out)) hb); clear BK306; clear HB; have BK306 := n0_; have HB := n1_; clear n0_ n1_; (try clear hb); (try clear hb2); (try clear hk); (try clear hi)) | (go_at_call 57; (with_reducible refine (palanquinref07_in.calls a1 0 65535 t308 _ A7.out).mono ?_); rintro e w' ⟨rfl, ⟨nd, rfl⟩⟩))
   go_meet
   case rel => exact ⟨_, (!t308), (by first | rfl | (simp; done) | (simp [*]; done)), H', ⟨by first | omega | exact Nat.le_refl _⟩, ⟨by (with_reducible repeat (first | apply kN | apply kD | apply kA)); exact BK306.out⟩, ⟨by repeat (first | (with_reducible first | exact HB.out | apply bA | apply bN | apply bD | refine bS ?_ GE306.out) | exact HB.out)⟩⟩
  ·replace c6 := Bool.eq_false_iff.mpr c6
   subst c6
   rw [if_neg (show ¬ (false = true) by decide)] at H
   have H' := mA H
   clear H
   obtain ⟨hcz10_0, hcz10_1, hcz10_2, hcz10_3, hcz10_4, hcz10_5, hcz10_6, hcz10_7, hcz10_8⟩ := bc9 BK306.out
   obtain ⟨hfz10_0, hfz10_1, hfz10_2, hfz10_3, hfz10_4, hfz10_5, hfz10_6, hfz10_7, hfz10_8⟩ := bf9 BK306.out
   go_wp2_with (first | ((with_reducible refine gate_callee (f := 56) rfl ?_); refine goesL_ (some 7) rfl rfl Try.func56 (by kernel_rfl) rfl #[.agg #[.int .i64 a0_0, .int .i64 a0_1, .int .u32 a0_2, .int .u32 a0_3, .int .i64 a0_4, .int .i64 a0_5, .int .i64 a0_6, .string a0_7, .string a0_8]] rfl (by (try simp only [List.map_toArray, List.map_cons, List.map_nil]); first | done | rfl | (simp only [List.length_drop, List.length_take]; rfl)) ?_; (with_reducible refine (palanquinref07_May.calls a0_0 a0_1 a0_2 a0_3 a0_4 a0_5 a0_6 a0_7 a0_8 false _ A5.out).mono ?_); rintro e w11 ⟨rfl, hb⟩; refine ⟨_, rfl, ?_⟩; have n0_ := mA (blk_below (g := gb306) (o := .cells #[.int .i64 a0_0, .int .i64 a0_1, .int .u32 a0_2, .int .u32 a0_3, .int .i64 a0_4, .int .i64 a0_5, .int .i64 a0_6, .string a0_7, .string a0_8] 69 (0, 0)) (by (with_reducible repeat (first | apply kN | apply kD | apply kA)); exact BK306.out) hb); have n1_ := mA (bP (by repeat (first | (with_reducible first | exact HB.out | apply bA | apply bN | apply bD | refine bS ?_ GE306.out) | exact HB.out)) hb); clear BK306; clear HB; have BK306 := n0_; have HB := n1_; clear n0_ n1_; (try clear hb); (try clear hb2); (try clear hk); (try clear hi)))
   go_meet
   case rel => exact ⟨_, (true), (by first | rfl | (simp; done) | (simp [*]; done)), H', ⟨by first | omega | exact Nat.le_refl _⟩, ⟨by (with_reducible repeat (first | apply kN | apply kD | apply kA)); exact BK306.out⟩, ⟨by repeat (first | (with_reducible first | exact HB.out | apply bA | apply bN | apply bD | refine bS ?_ GE306.out) | exact HB.out)⟩⟩
 case rest =>
  clear HC3
  try clear p2
  try clear c3
  try clear c5
  try clear c6
  try clear hcz10_0 hcz10_1 hcz10_2 hcz10_3 hcz10_4 hcz10_5 hcz10_6 hcz10_7 hcz10_8
  try clear hcz8_0 hcz8_1 hcz8_2 hcz8_3 hcz8_4 hcz8_5 hcz8_6 hcz8_7 hcz8_8
  try clear hfz10_0 hfz10_1 hfz10_2 hfz10_3 hfz10_4 hfz10_5 hfz10_6 hfz10_7 hfz10_8
  try clear hfz8_0 hfz8_1 hfz8_2 hfz8_3 hfz8_4 hfz8_5 hfz8_6 hfz8_7 hfz8_8
  obtain ⟨kq, x13_2, rfl, HA, HJ2, BK306, HB⟩ := hcut
  cases kq with
  | zero => exact absurd HA.out (by simp [palanquinref07_Put.j0])
  | succ kj2 =>
   have H := HA.out
   clear HA
   simp only [palanquinref07_Put.j0] at H
   by_cases c12 : x13_2 = true
   ·subst c12
    rw [if_pos rfl] at H
    simp only [Option.some.injEq, Prod.mk.injEq] at H
    obtain ⟨rfl, rfl⟩ := H
    go_wp2
    go_ret2
    exact ⟨by first | rfl | (simp [errW_none, errW_some] <;> rfl) | (simp [*, errW_none, errW_some] <;> rfl), by repeat (first | (with_reducible first | exact HB.out | apply bA | apply bN | apply bD | refine bS ?_ GE306.out) | exact HB.out)⟩
   ·replace c12 := Bool.eq_false_iff.mpr c12
    subst c12
    rw [if_neg (show ¬ (false = true) by decide)] at H
    replace H := Option.bind_eq_some_iff.mp H
    obtain ⟨t309, A130, H⟩ := H
    try dsimp +instances only at H
    have A13 := mA A130
    clear A130
    replace H := Option.bind_eq_some_iff.mp H
    obtain ⟨t310, A140, H⟩ := H
    try dsimp +instances only at H
    have A14 := mA A140
    clear A140
    by_cases c15 : t309.size + t310.size ≤ 9223372036854775807
    ·rw [if_pos c15] at H
     have c15b0 := eq_true c15
     have c15b1 : decide (t309.size + t310.size ≤ 9223372036854775807) = true := decide_eq_true c15
     try have c15b2 : (9223372036854775807 < t309.size + t310.size) = False := eq_false (Nat.not_lt.2 c15)
     replace H := Option.bind_eq_some_iff.mp H
     obtain ⟨t311, A160, H⟩ := H
     try dsimp +instances only at H
     have A16 := mA A160
     clear A160
     by_cases c17 : (t309 ++ t310).size + t311.size ≤ 9223372036854775807
     ·rw [if_pos c17] at H
      have c17b0 := eq_true c17
      have c17b1 : decide ((t309 ++ t310).size + t311.size ≤ 9223372036854775807) = true := decide_eq_true c17
      try have c17b2 : (9223372036854775807 < (t309 ++ t310).size + t311.size) = False := eq_false (Nat.not_lt.2 c17)
      try have c17b3 : (9223372036854775807 < (t309.size) + (t310.size) + t311.size) = False := eq_false (by have h_ := c17; simp only [ByteArray.size_append] at h_; omega)
      try have c17b4 : ((t309.size) + (t310.size) + t311.size ≤ 9223372036854775807) = True := eq_true (by have h_ := c17; simp only [ByteArray.size_append] at h_; omega)
      replace H := Option.bind_eq_some_iff.mp H
      obtain ⟨t312, A180, H⟩ := H
      try dsimp +instances only at H
      have A18 := mA A180
      clear A180
      by_cases c19 : ((t309 ++ t310) ++ t311).size + t312.size ≤ 9223372036854775807
      ·rw [if_pos c19] at H
       have c19b0 := eq_true c19
       have c19b1 : decide (((t309 ++ t310) ++ t311).size + t312.size ≤ 9223372036854775807) = true := decide_eq_true c19
       try have c19b2 : (9223372036854775807 < ((t309 ++ t310) ++ t311).size + t312.size) = False := eq_false (Nat.not_lt.2 c19)
       try have c19b3 : (9223372036854775807 < (t309.size) + (t310.size) + (t311.size) + t312.size) = False := eq_false (by have h_ := c19; simp only [ByteArray.size_append] at h_; omega)
       try have c19b4 : ((t309.size) + (t310.size) + (t311.size) + t312.size ≤ 9223372036854775807) = True := eq_true (by have h_ := c19; simp only [ByteArray.size_append] at h_; omega)
       replace H := Option.bind_eq_some_iff.mp H
       obtain ⟨t313, A200, H⟩ := H
       try dsimp +instances only at H
       have A20 := mA A200
       clear A200
       by_cases c21 : (((t309 ++ t310) ++ t311) ++ t312).size + t313.size ≤ 9223372036854775807
       ·rw [if_pos c21] at H
        have c21b0 := eq_true c21
        have c21b1 : decide ((((t309 ++ t310) ++ t311) ++ t312).size + t313.size ≤ 9223372036854775807) = true := decide_eq_true c21
        try have c21b2 : (9223372036854775807 < (((t309 ++ t310) ++ t311) ++ t312).size + t313.size) = False := eq_false (Nat.not_lt.2 c21)
        try have c21b3 : (9223372036854775807 < (t309.size) + (t310.size) + (t311.size) + (t312.size) + t313.size) = False := eq_false (by have h_ := c21; simp only [ByteArray.size_append] at h_; omega)
        try have c21b4 : ((t309.size) + (t310.size) + (t311.size) + (t312.size) + t313.size ≤ 9223372036854775807) = True := eq_true (by have h_ := c21; simp only [ByteArray.size_append] at h_; omega)
        replace H := Option.bind_eq_some_iff.mp H
        obtain ⟨t314, A220, H⟩ := H
        try dsimp +instances only at H
        have A22 := mA A220
        clear A220
        by_cases c23 : ((((t309 ++ t310) ++ t311) ++ t312) ++ t313).size + t314.size ≤ 9223372036854775807
        ·rw [if_pos c23] at H
         have c23b0 := eq_true c23
         have c23b1 : decide (((((t309 ++ t310) ++ t311) ++ t312) ++ t313).size + t314.size ≤ 9223372036854775807) = true := decide_eq_true c23
         try have c23b2 : (9223372036854775807 < ((((t309 ++ t310) ++ t311) ++ t312) ++ t313).size + t314.size) = False := eq_false (Nat.not_lt.2 c23)
         try have c23b3 : (9223372036854775807 < (t309.size) + (t310.size) + (t311.size) + (t312.size) + (t313.size) + t314.size) = False := eq_false (by have h_ := c23; simp only [ByteArray.size_append] at h_; omega)
         try have c23b4 : ((t309.size) + (t310.size) + (t311.size) + (t312.size) + (t313.size) + t314.size ≤ 9223372036854775807) = True := eq_true (by have h_ := c23; simp only [ByteArray.size_append] at h_; omega)
         replace H := Option.bind_eq_some_iff.mp H
         obtain ⟨t315, A240, H⟩ := H
         try dsimp +instances only at H
         have A24 := mA A240
         clear A240
         by_cases c25 : (((((t309 ++ t310) ++ t311) ++ t312) ++ t313) ++ t314).size + t315.size ≤ 9223372036854775807
         ·rw [if_pos c25] at H
          have c25b0 := eq_true c25
          have c25b1 : decide ((((((t309 ++ t310) ++ t311) ++ t312) ++ t313) ++ t314).size + t315.size ≤ 9223372036854775807) = true := decide_eq_true c25
          try have c25b2 : (9223372036854775807 < (((((t309 ++ t310) ++ t311) ++ t312) ++ t313) ++ t314).size + t315.size) = False := eq_false (Nat.not_lt.2 c25)
          try have c25b3 : (9223372036854775807 < (t309.size) + (t310.size) + (t311.size) + (t312.size) + (t313.size) + (t314.size) + t315.size) = False := eq_false (by have h_ := c25; simp only [ByteArray.size_append] at h_; omega)
          try have c25b4 : ((t309.size) + (t310.size) + (t311.size) + (t312.size) + (t313.size) + (t314.size) + t315.size ≤ 9223372036854775807) = True := eq_true (by have h_ := c25; simp only [ByteArray.size_append] at h_; omega)
          replace H := Option.bind_eq_some_iff.mp H
          obtain ⟨t316, A260, H⟩ := H
          try dsimp +instances only at H
          have A26 := mA A260
          clear A260
          by_cases c27 : ((((((t309 ++ t310) ++ t311) ++ t312) ++ t313) ++ t314) ++ t315).size + t316.size ≤ 9223372036854775807
          ·rw [if_pos c27] at H
           have c27b0 := eq_true c27
           have c27b1 : decide (((((((t309 ++ t310) ++ t311) ++ t312) ++ t313) ++ t314) ++ t315).size + t316.size ≤ 9223372036854775807) = true := decide_eq_true c27
           try have c27b2 : (9223372036854775807 < ((((((t309 ++ t310) ++ t311) ++ t312) ++ t313) ++ t314) ++ t315).size + t316.size) = False := eq_false (Nat.not_lt.2 c27)
           try have c27b3 : (9223372036854775807 < (t309.size) + (t310.size) + (t311.size) + (t312.size) + (t313.size) + (t314.size) + (t315.size) + t316.size) = False := eq_false (by have h_ := c27; simp only [ByteArray.size_append] at h_; omega)
           try have c27b4 : ((t309.size) + (t310.size) + (t311.size) + (t312.size) + (t313.size) + (t314.size) + (t315.size) + t316.size ≤ 9223372036854775807) = True := eq_true (by have h_ := c27; simp only [ByteArray.size_append] at h_; omega)
           replace H := Option.bind_eq_some_iff.mp H
           obtain ⟨t317, A280, H⟩ := H
           try dsimp +instances only at H
           have A28 := mA A280
           clear A280
           by_cases c29 : (((((((t309 ++ t310) ++ t311) ++ t312) ++ t313) ++ t314) ++ t315) ++ t316).size + t317.size ≤ 9223372036854775807
           ·rw [if_pos c29] at H
            have c29b0 := eq_true c29
            have c29b1 : decide ((((((((t309 ++ t310) ++ t311) ++ t312) ++ t313) ++ t314) ++ t315) ++ t316).size + t317.size ≤ 9223372036854775807) = true := decide_eq_true c29
            try have c29b2 : (9223372036854775807 < (((((((t309 ++ t310) ++ t311) ++ t312) ++ t313) ++ t314) ++ t315) ++ t316).size + t317.size) = False := eq_false (Nat.not_lt.2 c29)
            try have c29b3 : (9223372036854775807 < (t309.size) + (t310.size) + (t311.size) + (t312.size) + (t313.size) + (t314.size) + (t315.size) + (t316.size) + t317.size) = False := eq_false (by have h_ := c29; simp only [ByteArray.size_append] at h_; omega)
            try have c29b4 : ((t309.size) + (t310.size) + (t311.size) + (t312.size) + (t313.size) + (t314.size) + (t315.size) + (t316.size) + t317.size ≤ 9223372036854775807) = True := eq_true (by have h_ := c29; simp only [ByteArray.size_append] at h_; omega)
            by_cases c30 : ((((((((t309 ++ t310) ++ t311) ++ t312) ++ t313) ++ t314) ++ t315) ++ t316) ++ t317).size + a0_7.size ≤ 9223372036854775807
            ·rw [if_pos c30] at H
             have c30b0 := eq_true c30
             have c30b1 : decide (((((((((t309 ++ t310) ++ t311) ++ t312) ++ t313) ++ t314) ++ t315) ++ t316) ++ t317).size + a0_7.size ≤ 9223372036854775807) = true := decide_eq_true c30
             try have c30b2 : (9223372036854775807 < ((((((((t309 ++ t310) ++ t311) ++ t312) ++ t313) ++ t314) ++ t315) ++ t316) ++ t317).size + a0_7.size) = False := eq_false (Nat.not_lt.2 c30)
             try have c30b3 : (9223372036854775807 < (t309.size) + (t310.size) + (t311.size) + (t312.size) + (t313.size) + (t314.size) + (t315.size) + (t316.size) + (t317.size) + a0_7.size) = False := eq_false (by have h_ := c30; simp only [ByteArray.size_append] at h_; omega)
             try have c30b4 : ((t309.size) + (t310.size) + (t311.size) + (t312.size) + (t313.size) + (t314.size) + (t315.size) + (t316.size) + (t317.size) + a0_7.size ≤ 9223372036854775807) = True := eq_true (by have h_ := c30; simp only [ByteArray.size_append] at h_; omega)
             by_cases c31 : (((((((((t309 ++ t310) ++ t311) ++ t312) ++ t313) ++ t314) ++ t315) ++ t316) ++ t317) ++ a0_7).size + a0_8.size ≤ 9223372036854775807
             ·rw [if_pos c31] at H
              have c31b0 := eq_true c31
              have c31b1 : decide ((((((((((t309 ++ t310) ++ t311) ++ t312) ++ t313) ++ t314) ++ t315) ++ t316) ++ t317) ++ a0_7).size + a0_8.size ≤ 9223372036854775807) = true := decide_eq_true c31
              try have c31b2 : (9223372036854775807 < (((((((((t309 ++ t310) ++ t311) ++ t312) ++ t313) ++ t314) ++ t315) ++ t316) ++ t317) ++ a0_7).size + a0_8.size) = False := eq_false (Nat.not_lt.2 c31)
              try have c31b3 : (9223372036854775807 < (t309.size) + (t310.size) + (t311.size) + (t312.size) + (t313.size) + (t314.size) + (t315.size) + (t316.size) + (t317.size) + (a0_7.size) + a0_8.size) = False := eq_false (by have h_ := c31; simp only [ByteArray.size_append] at h_; omega)
              try have c31b4 : ((t309.size) + (t310.size) + (t311.size) + (t312.size) + (t313.size) + (t314.size) + (t315.size) + (t316.size) + (t317.size) + (a0_7.size) + a0_8.size ≤ 9223372036854775807) = True := eq_true (by have h_ := c31; simp only [ByteArray.size_append] at h_; omega)
              simp only [Option.some.injEq, Prod.mk.injEq] at H
              obtain ⟨rfl, rfl⟩ := H
              try go_wp2
              have n0_ := mA (kD BK306.out)
              have n1_ := mA (bD HB.out)
              clear BK306
              clear HB
              have BK306 := n0_
              have HB := n1_
              clear n0_ n1_
              refine start_ (n := 48) (S := fun w' => w'.cell? ⟨gb306, 0, none⟩ = some (.int .i64 a0_0) ∧ w'.cell? ⟨gb306, 1, none⟩ = some (.int .i64 a0_1) ∧ w'.cell? ⟨gb306, 2, none⟩ = some (.int .u32 a0_2) ∧ w'.cell? ⟨gb306, 3, none⟩ = some (.int .u32 a0_3) ∧ w'.cell? ⟨gb306, 4, none⟩ = some (.int .i64 a0_4) ∧ w'.cell? ⟨gb306, 5, none⟩ = some (.int .i64 a0_5) ∧ w'.cell? ⟨gb306, 6, none⟩ = some (.int .i64 a0_6) ∧ w'.cell? ⟨gb306, 7, none⟩ = some (.string a0_7) ∧ w'.cell? ⟨gb306, 8, none⟩ = some (.string a0_8)) (ds := []) (bv 48 0) (by kernel_rfl) rfl rfl ⟨(zC BK306.out 0).trans rfl, (zC BK306.out 1).trans rfl, (zC BK306.out 2).trans rfl, (zC BK306.out 3).trans rfl, (zC BK306.out 4).trans rfl, (zC BK306.out 5).trans rfl, (zC BK306.out 6).trans rfl, (zC BK306.out 7).trans rfl, (zC BK306.out 8).trans rfl⟩ (fun hHeld => ?_); refine with_tabW palanquinref07_Put.tab3 palanquinref07_Put.bits3 (fun HT_ HW_ => ?_)
              generalize wc.drew = w32 at BK306 HB hHeld ⊢
              refine pure_ (i := 0) (N := some 14) (v := ?_) (a' := ?_) (bv 48 1) rfl rfl (any_of HT_.out (by kernel_rfl)) (fun _ _ _ h => h) (Or.inl ⟨by rfl, ?_⟩) ?_ ?_; rotate_left; (intro w'; go_simp; with_reducible rfl); rotate_left; (simp only [Act.put, List.setIfInBounds_toArray, List.set_cons_zero, List.set_cons_succ, i64_w, i32_w]; rfl)
              refine pure_ (i := 3) (N := some 17) (v := ?_) (a' := ?_) (bv 48 9) rfl rfl (any_of HT_.out (by kernel_rfl)) (fun _ _ _ h => h) (Or.inl ⟨by rfl, ?_⟩) ?_ ?_; rotate_left; (intro w'; go_simp; with_reducible rfl); rotate_left; (simp only [Act.put, List.setIfInBounds_toArray, List.set_cons_zero, List.set_cons_succ, i64_w, i32_w]; rfl)
              refine pure_ (i := 7) (N := some 21) (v := ?_) (a' := ?_) (bv 48 137) rfl rfl (any_of HT_.out (by kernel_rfl)) (fun _ _ _ h => h) (Or.inl ⟨by rfl, ?_⟩) ?_ ?_; rotate_left; (intro w'; go_simp; with_reducible rfl); rotate_left; (simp only [Act.put, List.setIfInBounds_toArray, List.set_cons_zero, List.set_cons_succ, i64_w, i32_w]; rfl)
              refine pure_ (i := 12) (N := some 26) (v := ?_) (a' := ?_) (bv 48 4233) rfl rfl (any_of HT_.out (by kernel_rfl)) (fun _ _ _ h => h) (Or.inl ⟨by rfl, ?_⟩) ?_ ?_; rotate_left; (intro w'; go_simp; with_reducible rfl); rotate_left; (simp only [Act.put, List.setIfInBounds_toArray, List.set_cons_zero, List.set_cons_succ, i64_w, i32_w]; rfl)
              refine pure_ (i := 17) (N := some 31) (v := ?_) (a' := ?_) (bv 48 135305) rfl rfl (any_of HT_.out (by kernel_rfl)) (fun _ _ _ h => h) (Or.inl ⟨by rfl, ?_⟩) ?_ ?_; rotate_left; (intro w'; go_simp; with_reducible rfl); rotate_left; (simp only [Act.put, List.setIfInBounds_toArray, List.set_cons_zero, List.set_cons_succ, i64_w, i32_w]; rfl)
              refine pure_ (i := 25) (N := some 39) (v := ?_) (a' := ?_) (bv 48 33689737) rfl rfl (any_of HT_.out (by kernel_rfl)) (fun _ _ _ h => h) (Or.inl ⟨by rfl, ?_⟩) ?_ ?_; rotate_left; (intro w'; go_simp; with_reducible rfl); rotate_left; (simp only [Act.put, List.setIfInBounds_toArray, List.set_cons_zero, List.set_cons_succ, i64_w, i32_w]; rfl)
              refine pure_ (i := 29) (N := some 43) (v := ?_) (a' := ?_) (bv 48 570560649) rfl rfl (any_of HT_.out (by kernel_rfl)) (fun _ _ _ h => h) (Or.inl ⟨by rfl, ?_⟩) ?_ ?_; rotate_left; (intro w'; go_simp; with_reducible rfl); rotate_left; (simp only [Act.put, List.setIfInBounds_toArray, List.set_cons_zero, List.set_cons_succ, i64_w, i32_w]; rfl)
              refine pure_ (i := 33) (N := some 47) (v := ?_) (a' := ?_) (bv 48 9160495241) rfl rfl (any_of HT_.out (by kernel_rfl)) (fun _ _ _ h => h) (Or.inl ⟨by rfl, ?_⟩) ?_ ?_; rotate_left; (intro w'; go_simp; with_reducible rfl); rotate_left; (simp only [Act.put, List.setIfInBounds_toArray, List.set_cons_zero, List.set_cons_succ, i64_w, i32_w]; rfl)
              refine pure_ (i := 36) (N := some 50) (v := ?_) (a' := ?_) (bv 48 77879971977) rfl rfl (any_of HT_.out (by kernel_rfl)) (fun _ _ _ h => h) (Or.inl ⟨by rfl, ?_⟩) ?_ ?_; rotate_left; (intro w'; go_simp; with_reducible rfl); rotate_left; (simp only [Act.put, List.setIfInBounds_toArray, List.set_cons_zero, List.set_cons_succ, i64_w, i32_w]; rfl)
              refine pure_ (i := 40) (N := some 54) (v := ?_) (a' := ?_) (bv 48 1177391599753) rfl rfl (any_of HT_.out (by kernel_rfl)) (fun _ _ _ h => h) (Or.inl ⟨by rfl, ?_⟩) ?_ ?_; rotate_left; (intro w'; go_simp; with_reducible rfl); rotate_left; (simp only [Act.put, List.setIfInBounds_toArray, List.set_cons_zero, List.set_cons_succ, i64_w, i32_w]; rfl)
              refine pure_ (i := 43) (N := some 57) (v := ?_) (a' := ?_) (bv 48 9973484621961) rfl rfl (any_of HT_.out (by kernel_rfl)) (fun _ _ _ h => h) (Or.inl ⟨by rfl, ?_⟩) ?_ ?_; rotate_left; (intro w'; go_simp; with_reducible rfl); rotate_left; (simp only [Act.put, List.setIfInBounds_toArray, List.set_cons_zero, List.set_cons_succ, i64_w, i32_w]; rfl)
              refine take_ (i := 1) (N := some 15) (v := ?_) (a' := ?_) (bv 48 9973484621963) rfl rfl (take_ofW HT_.out HW_.out (by kernel_rfl)) (fun _ _ _ h => h) (Or.inl ⟨by rfl, ?_⟩) hHeld ?_ ?_; rotate_left; (rintro w' ⟨s0, s1, s2, s3, s4, s5, s6, s7, s8⟩; go_simp; with_reducible rfl); rotate_left; (simp only [Act.put, List.setIfInBounds_toArray, List.set_cons_zero, List.set_cons_succ, i64_w, i32_w]; rfl)
              refine take_ (i := 4) (N := some 18) (v := ?_) (a' := ?_) (bv 48 9973484621979) rfl rfl (take_ofW HT_.out HW_.out (by kernel_rfl)) (fun _ _ _ h => h) (Or.inl ⟨by rfl, ?_⟩) hHeld ?_ ?_; rotate_left; (rintro w' ⟨s0, s1, s2, s3, s4, s5, s6, s7, s8⟩; go_simp; with_reducible rfl); rotate_left; (simp only [Act.put, List.setIfInBounds_toArray, List.set_cons_zero, List.set_cons_succ, i64_w, i32_w]; rfl)
              refine take_ (i := 8) (N := some 22) (v := ?_) (a' := ?_) (bv 48 9973484622235) rfl rfl (take_ofW HT_.out HW_.out (by kernel_rfl)) (fun _ _ _ h => h) (Or.inl ⟨by rfl, ?_⟩) hHeld ?_ ?_; rotate_left; (rintro w' ⟨s0, s1, s2, s3, s4, s5, s6, s7, s8⟩; go_simp; with_reducible rfl); rotate_left; (simp only [Act.put, List.setIfInBounds_toArray, List.set_cons_zero, List.set_cons_succ, i64_w, i32_w]; rfl)
              refine pure_ (i := 9) (N := some 23) (v := ?_) (a' := ?_) (bv 48 9973484622747) rfl rfl (any_of HT_.out (by kernel_rfl)) (fun _ _ _ h => h) (Or.inl ⟨by rfl, ?_⟩) ?_ ?_; rotate_left; (intro w'; go_simp; with_reducible rfl); rotate_left; (simp only [Act.put, List.setIfInBounds_toArray, List.set_cons_zero, List.set_cons_succ, i64_w, i32_w]; rfl)
              refine take_ (i := 13) (N := some 27) (v := ?_) (a' := ?_) (bv 48 9973484630939) rfl rfl (take_ofW HT_.out HW_.out (by kernel_rfl)) (fun _ _ _ h => h) (Or.inl ⟨by rfl, ?_⟩) hHeld ?_ ?_; rotate_left; (rintro w' ⟨s0, s1, s2, s3, s4, s5, s6, s7, s8⟩; go_simp; with_reducible rfl); rotate_left; (simp only [Act.put, List.setIfInBounds_toArray, List.set_cons_zero, List.set_cons_succ, i64_w, i32_w]; rfl)
              refine pure_ (i := 14) (N := some 28) (v := ?_) (a' := ?_) (bv 48 9973484647323) rfl rfl (any_of HT_.out (by kernel_rfl)) (fun _ _ _ h => h) (Or.inl ⟨by rfl, ?_⟩) ?_ ?_; rotate_left; (intro w'; go_simp; with_reducible rfl); rotate_left; (simp only [Act.put, List.setIfInBounds_toArray, List.set_cons_zero, List.set_cons_succ, i64_w, i32_w]; rfl)
              refine take_ (i := 18) (N := some 32) (v := ?_) (a' := ?_) (bv 48 9973484909467) rfl rfl (take_ofW HT_.out HW_.out (by kernel_rfl)) (fun _ _ _ h => h) (Or.inl ⟨by rfl, ?_⟩) hHeld ?_ ?_; rotate_left; (rintro w' ⟨s0, s1, s2, s3, s4, s5, s6, s7, s8⟩; go_simp; with_reducible rfl); rotate_left; (simp only [Act.put, List.setIfInBounds_toArray, List.set_cons_zero, List.set_cons_succ, i64_w, i32_w]; rfl)
              refine pure_ (i := 19) (N := some 33) (v := ?_) (a' := ?_) (bv 48 9973485433755) rfl rfl (any_of HT_.out (by kernel_rfl)) (fun _ _ _ h => h) (Or.inl ⟨by rfl, ?_⟩) ?_ ?_; rotate_left; (intro w'; go_simp; with_reducible rfl); rotate_left; (simp only [Act.put, List.setIfInBounds_toArray, List.set_cons_zero, List.set_cons_succ, i64_w, i32_w]; rfl)
              refine pure_ (i := 20) (N := some 34) (v := ?_) (a' := ?_) (bv 48 9973486482331) rfl rfl (any_of HT_.out (by kernel_rfl)) (fun _ _ _ h => h) (Or.inl ⟨by rfl, ?_⟩) ?_ ?_; rotate_left; (intro w'; go_simp; with_reducible rfl); rotate_left; (simp only [Act.put, List.setIfInBounds_toArray, List.set_cons_zero, List.set_cons_succ, i64_w, i32_w]; rfl)
              refine pure_ (i := 21) (N := some 35) (v := ?_) (a' := ?_) (bv 48 9973488579483) rfl rfl (any_of HT_.out (by kernel_rfl)) (fun _ _ _ h => h) (Or.inl ⟨by rfl, ?_⟩) ?_ ?_; rotate_left; (intro w'; go_simp; with_reducible rfl); rotate_left; (simp only [Act.put, List.setIfInBounds_toArray, List.set_cons_zero, List.set_cons_succ, i64_w, i32_w]; rfl)
              refine pure_ (i := 22) (N := some 36) (v := ?_) (a' := ?_) (bv 48 9973492773787) rfl rfl (any_of HT_.out (by kernel_rfl)) (fun _ _ _ h => h) (Or.inl ⟨by rfl, ?_⟩) ?_ ?_; rotate_left; (intro w'; go_simp; with_reducible rfl); rotate_left; (simp only [Act.put, List.setIfInBounds_toArray, List.set_cons_zero, List.set_cons_succ, i64_w, i32_w]; rfl)
              refine take_ (i := 26) (N := some 40) (v := ?_) (a' := ?_) (bv 48 9973559882651) rfl rfl (take_ofW HT_.out HW_.out (by kernel_rfl)) (fun _ _ _ h => h) (Or.inl ⟨by rfl, ?_⟩) hHeld ?_ ?_; rotate_left; (rintro w' ⟨s0, s1, s2, s3, s4, s5, s6, s7, s8⟩; go_simp; with_reducible rfl); rotate_left; (simp only [Act.put, List.setIfInBounds_toArray, List.set_cons_zero, List.set_cons_succ, i64_w, i32_w]; rfl)
              refine take_ (i := 30) (N := some 44) (v := ?_) (a' := ?_) (bv 48 9974633624475) rfl rfl (take_ofW HT_.out HW_.out (by kernel_rfl)) (fun _ _ _ h => h) (Or.inl ⟨by rfl, ?_⟩) hHeld ?_ ?_; rotate_left; (rintro w' ⟨s0, s1, s2, s3, s4, s5, s6, s7, s8⟩; go_simp; with_reducible rfl); rotate_left; (simp only [Act.put, List.setIfInBounds_toArray, List.set_cons_zero, List.set_cons_succ, i64_w, i32_w]; rfl)
              refine take_ (i := 37) (N := some 51) (v := ?_) (a' := ?_) (bv 48 10112072577947) rfl rfl (take_ofW HT_.out HW_.out (by kernel_rfl)) (fun _ _ _ h => h) (Or.inl ⟨by rfl, ?_⟩) hHeld ?_ ?_; rotate_left; (rintro w' ⟨s0, s1, s2, s3, s4, s5, s6, s7, s8⟩; go_simp; with_reducible rfl); rotate_left; (simp only [Act.put, List.setIfInBounds_toArray, List.set_cons_zero, List.set_cons_succ, i64_w, i32_w]; rfl)
              refine take_ (i := 41) (N := some 55) (v := ?_) (a' := ?_) (bv 48 12311095833499) rfl rfl (take_ofW HT_.out HW_.out (by kernel_rfl)) (fun _ _ _ h => h) (Or.inl ⟨by rfl, ?_⟩) hHeld ?_ ?_; rotate_left; (rintro w' ⟨s0, s1, s2, s3, s4, s5, s6, s7, s8⟩; go_simp; with_reducible rfl); rotate_left; (simp only [Act.put, List.setIfInBounds_toArray, List.set_cons_zero, List.set_cons_succ, i64_w, i32_w]; rfl)
              refine take_ (i := 44) (N := some 58) (v := ?_) (a' := ?_) (bv 48 29903281877915) rfl rfl (take_ofW HT_.out HW_.out (by kernel_rfl)) (fun _ _ _ h => h) (Or.inl ⟨by rfl, ?_⟩) hHeld ?_ ?_; rotate_left; (rintro w' ⟨s0, s1, s2, s3, s4, s5, s6, s7, s8⟩; go_simp; with_reducible rfl); rotate_left; (simp only [Act.put, List.setIfInBounds_toArray, List.set_cons_zero, List.set_cons_succ, i64_w, i32_w]; rfl)
              refine one_ (i := 2) (N := some 16) (bv 48 29903281877919) rfl rfl (one_of HT_.out (by kernel_rfl)) (by decide) (fun K hK => ?_)
              refine goes_ Try.func58 (by kernel_rfl) rfl #[.int .i64 a0_0, .int .i64 2] (by rfl) rfl rfl (by (try simp only [List.map_toArray, List.map_cons, List.map_nil]); first | done | rfl | (simp only [List.length_drop, List.length_take]; rfl)) ?_
              with_reducible refine (palanquinref07_num.calls kj2 a0_0 2 t309 _ A13.out).mono ?_
              rintro e w33 ⟨rfl, hb⟩
              refine ⟨_, rfl, ?_⟩
              have n0_ := mA (blk_below (g := gb306) (o := .cells #[.int .i64 a0_0, .int .i64 a0_1, .int .u32 a0_2, .int .u32 a0_3, .int .i64 a0_4, .int .i64 a0_5, .int .i64 a0_6, .string a0_7, .string a0_8] 69 (0, 0)) (by (with_reducible repeat (first | apply kN | apply kD | apply kA)); exact BK306.out) hb)
              have n1_ := mA (bP (by repeat (first | (with_reducible first | exact HB.out | apply bA | apply bN | apply bD | refine bS ?_ GE306.out) | exact HB.out)) hb)
              clear BK306
              clear HB
              have BK306 := n0_
              have HB := n1_
              clear n0_ n1_
              (try clear hb)
              (try clear hb2)
              (try clear hk)
              (try clear hi)
              refine hK.out _ _ ⟨(zC BK306.out 0).trans rfl, (zC BK306.out 1).trans rfl, (zC BK306.out 2).trans rfl, (zC BK306.out 3).trans rfl, (zC BK306.out 4).trans rfl, (zC BK306.out 5).trans rfl, (zC BK306.out 6).trans rfl, (zC BK306.out 7).trans rfl, (zC BK306.out 8).trans rfl⟩ (fun hHeld => ?_)
              clear hK K
              refine norm_ (a' := ?_) ?_ ?_
              rotate_left
              ·show Act.put _ (some 16) _ = _
               simp only [Act.put, List.setIfInBounds_toArray, List.set_cons_zero, List.set_cons_succ, i64_w, i32_w]
               rfl
              refine one_ (i := 5) (N := some 19) (bv 48 29903281877951) rfl rfl (one_of HT_.out (by kernel_rfl)) (by decide) (fun K hK => ?_)
              refine goes_ Try.func58 (by kernel_rfl) rfl #[.int .i64 a0_1, .int .i64 2] (by rfl) rfl rfl (by (try simp only [List.map_toArray, List.map_cons, List.map_nil]); first | done | rfl | (simp only [List.length_drop, List.length_take]; rfl)) ?_
              with_reducible refine (palanquinref07_num.calls kj2 a0_1 2 t310 _ A14.out).mono ?_
              rintro e w34 ⟨rfl, hb⟩
              refine ⟨_, rfl, ?_⟩
              have n0_ := mA (blk_below (g := gb306) (o := .cells #[.int .i64 a0_0, .int .i64 a0_1, .int .u32 a0_2, .int .u32 a0_3, .int .i64 a0_4, .int .i64 a0_5, .int .i64 a0_6, .string a0_7, .string a0_8] 69 (0, 0)) (by (with_reducible repeat (first | apply kN | apply kD | apply kA)); exact BK306.out) hb)
              have n1_ := mA (bP (by repeat (first | (with_reducible first | exact HB.out | apply bA | apply bN | apply bD | refine bS ?_ GE306.out) | exact HB.out)) hb)
              clear BK306
              clear HB
              have BK306 := n0_
              have HB := n1_
              clear n0_ n1_
              (try clear hb)
              (try clear hb2)
              (try clear hk)
              (try clear hi)
              refine hK.out _ _ ⟨(zC BK306.out 0).trans rfl, (zC BK306.out 1).trans rfl, (zC BK306.out 2).trans rfl, (zC BK306.out 3).trans rfl, (zC BK306.out 4).trans rfl, (zC BK306.out 5).trans rfl, (zC BK306.out 6).trans rfl, (zC BK306.out 7).trans rfl, (zC BK306.out 8).trans rfl⟩ (fun hHeld => ?_)
              clear hK K
              refine norm_ (a' := ?_) ?_ ?_
              rotate_left
              ·show Act.put _ (some 19) _ = _
               simp only [Act.put, List.setIfInBounds_toArray, List.set_cons_zero, List.set_cons_succ, i64_w, i32_w]
               rfl
              refine pure_ (i := 6) (N := some 20) (v := ?_) (a' := ?_) (bv 48 29903281878015) rfl rfl (any_of HT_.out (by kernel_rfl)) (fun _ _ _ h => h) (Or.inl ⟨by rfl, ?_⟩) ?_ ?_; rotate_left; (intro w'; go_simp; with_reducible rfl); rotate_left; (simp only [Act.put, List.setIfInBounds_toArray, List.set_cons_zero, List.set_cons_succ, i64_w, i32_w]; rfl)
              refine one_ (i := 10) (N := some 24) (bv 48 29903281879039) rfl rfl (one_of HT_.out (by kernel_rfl)) (by decide) (fun K hK => ?_)
              refine goes_ Try.func58 (by kernel_rfl) rfl #[.int .i64 (wrap64 (a0_2)), .int .i64 4] (by rfl) rfl rfl (by (try simp only [List.map_toArray, List.map_cons, List.map_nil]); first | done | rfl | (simp only [List.length_drop, List.length_take]; rfl)) ?_
              with_reducible refine (palanquinref07_num.calls kj2 (wrap64 (a0_2)) 4 t311 _ A16.out).mono ?_
              rintro e w35 ⟨rfl, hb⟩
              refine ⟨_, rfl, ?_⟩
              have n0_ := mA (blk_below (g := gb306) (o := .cells #[.int .i64 a0_0, .int .i64 a0_1, .int .u32 a0_2, .int .u32 a0_3, .int .i64 a0_4, .int .i64 a0_5, .int .i64 a0_6, .string a0_7, .string a0_8] 69 (0, 0)) (by (with_reducible repeat (first | apply kN | apply kD | apply kA)); exact BK306.out) hb)
              have n1_ := mA (bP (by repeat (first | (with_reducible first | exact HB.out | apply bA | apply bN | apply bD | refine bS ?_ GE306.out) | exact HB.out)) hb)
              clear BK306
              clear HB
              have BK306 := n0_
              have HB := n1_
              clear n0_ n1_
              (try clear hb)
              (try clear hb2)
              (try clear hk)
              (try clear hi)
              refine hK.out _ _ ⟨(zC BK306.out 0).trans rfl, (zC BK306.out 1).trans rfl, (zC BK306.out 2).trans rfl, (zC BK306.out 3).trans rfl, (zC BK306.out 4).trans rfl, (zC BK306.out 5).trans rfl, (zC BK306.out 6).trans rfl, (zC BK306.out 7).trans rfl, (zC BK306.out 8).trans rfl⟩ (fun hHeld => ?_)
              clear hK K
              refine norm_ (a' := ?_) ?_ ?_
              rotate_left
              ·show Act.put _ (some 24) _ = _
               simp only [Act.put, List.setIfInBounds_toArray, List.set_cons_zero, List.set_cons_succ, i64_w, i32_w]
               rfl
              refine pure_ (i := 11) (N := some 25) (v := ?_) (a' := ?_) (bv 48 29903281881087) rfl rfl (any_of HT_.out (by kernel_rfl)) (fun _ _ _ h => h) (Or.inl ⟨by rfl, ?_⟩) ?_ ?_; rotate_left; (intro w'; go_simp; with_reducible rfl); rotate_left; (simp only [Act.put, List.setIfInBounds_toArray, List.set_cons_zero, List.set_cons_succ, i64_w, i32_w]; rfl)
              refine one_ (i := 15) (N := some 29) (bv 48 29903281913855) rfl rfl (one_of HT_.out (by kernel_rfl)) (by decide) (fun K hK => ?_)
              refine goes_ Try.func58 (by kernel_rfl) rfl #[.int .i64 (wrap64 (a0_3)), .int .i64 4] (by rfl) rfl rfl (by (try simp only [List.map_toArray, List.map_cons, List.map_nil]); first | done | rfl | (simp only [List.length_drop, List.length_take]; rfl)) ?_
              with_reducible refine (palanquinref07_num.calls kj2 (wrap64 (a0_3)) 4 t312 _ A18.out).mono ?_
              rintro e w36 ⟨rfl, hb⟩
              refine ⟨_, rfl, ?_⟩
              have n0_ := mA (blk_below (g := gb306) (o := .cells #[.int .i64 a0_0, .int .i64 a0_1, .int .u32 a0_2, .int .u32 a0_3, .int .i64 a0_4, .int .i64 a0_5, .int .i64 a0_6, .string a0_7, .string a0_8] 69 (0, 0)) (by (with_reducible repeat (first | apply kN | apply kD | apply kA)); exact BK306.out) hb)
              have n1_ := mA (bP (by repeat (first | (with_reducible first | exact HB.out | apply bA | apply bN | apply bD | refine bS ?_ GE306.out) | exact HB.out)) hb)
              clear BK306
              clear HB
              have BK306 := n0_
              have HB := n1_
              clear n0_ n1_
              (try clear hb)
              (try clear hb2)
              (try clear hk)
              (try clear hi)
              refine hK.out _ _ ⟨(zC BK306.out 0).trans rfl, (zC BK306.out 1).trans rfl, (zC BK306.out 2).trans rfl, (zC BK306.out 3).trans rfl, (zC BK306.out 4).trans rfl, (zC BK306.out 5).trans rfl, (zC BK306.out 6).trans rfl, (zC BK306.out 7).trans rfl, (zC BK306.out 8).trans rfl⟩ (fun hHeld => ?_)
              clear hK K
              refine norm_ (a' := ?_) ?_ ?_
              rotate_left
              ·show Act.put _ (some 29) _ = _
               simp only [Act.put, List.setIfInBounds_toArray, List.set_cons_zero, List.set_cons_succ, i64_w, i32_w]
               rfl
              refine pure_ (i := 16) (N := some 30) (v := ?_) (a' := ?_) (bv 48 29903281979391) rfl rfl (any_of HT_.out (by kernel_rfl)) (fun _ _ _ h => h) (Or.inl ⟨by rfl, ?_⟩) ?_ ?_; rotate_left; (intro w'; go_simp; with_reducible rfl); rotate_left; (simp only [Act.put, List.setIfInBounds_toArray, List.set_cons_zero, List.set_cons_succ, i64_w, i32_w]; rfl)
              refine one_ (i := 23) (N := some 37) (bv 48 29903290367999) rfl rfl (one_of HT_.out (by kernel_rfl)) (by decide) (fun K hK => ?_)
              refine goes_ Try.func58 (by kernel_rfl) rfl #[.int .i64 (wrap64 ((wrap64 (5 + (wrap64 ((a0_7.size : Int) / 4)))) * 16)), .int .i64 1] (by rfl) rfl rfl (by (try simp only [List.map_toArray, List.map_cons, List.map_nil]); first | done | rfl | (simp only [List.length_drop, List.length_take]; rfl)) ?_
              with_reducible refine (palanquinref07_num.calls kj2 (wrap64 ((wrap64 (5 + (wrap64 ((a0_7.size : Int) / 4)))) * 16)) 1 t313 _ A20.out).mono ?_
              rintro e w37 ⟨rfl, hb⟩
              refine ⟨_, rfl, ?_⟩
              have n0_ := mA (blk_below (g := gb306) (o := .cells #[.int .i64 a0_0, .int .i64 a0_1, .int .u32 a0_2, .int .u32 a0_3, .int .i64 a0_4, .int .i64 a0_5, .int .i64 a0_6, .string a0_7, .string a0_8] 69 (0, 0)) (by (with_reducible repeat (first | apply kN | apply kD | apply kA)); exact BK306.out) hb)
              have n1_ := mA (bP (by repeat (first | (with_reducible first | exact HB.out | apply bA | apply bN | apply bD | refine bS ?_ GE306.out) | exact HB.out)) hb)
              clear BK306
              clear HB
              have BK306 := n0_
              have HB := n1_
              clear n0_ n1_
              (try clear hb)
              (try clear hb2)
              (try clear hk)
              (try clear hi)
              refine hK.out _ _ ⟨(zC BK306.out 0).trans rfl, (zC BK306.out 1).trans rfl, (zC BK306.out 2).trans rfl, (zC BK306.out 3).trans rfl, (zC BK306.out 4).trans rfl, (zC BK306.out 5).trans rfl, (zC BK306.out 6).trans rfl, (zC BK306.out 7).trans rfl, (zC BK306.out 8).trans rfl⟩ (fun hHeld => ?_)
              clear hK K
              refine norm_ (a' := ?_) ?_ ?_
              rotate_left
              ·show Act.put _ (some 37) _ = _
               simp only [Act.put, List.setIfInBounds_toArray, List.set_cons_zero, List.set_cons_succ, i64_w, i32_w]
               rfl
              refine pure_ (i := 24) (N := some 38) (v := ?_) (a' := ?_) (bv 48 29903307145215) rfl rfl (any_of HT_.out (by kernel_rfl)) (fun _ _ _ h => h) (Or.inl ⟨by rfl, ?_⟩) ?_ ?_; rotate_left; (intro w'; go_simp; with_reducible rfl); rotate_left; (simp only [Act.put, List.setIfInBounds_toArray, List.set_cons_zero, List.set_cons_succ, i64_w, i32_w]; rfl)
              refine one_ (i := 27) (N := some 41) (bv 48 29903441362943) rfl rfl (one_of HT_.out (by kernel_rfl)) (by decide) (fun K hK => ?_)
              refine goes_ Try.func58 (by kernel_rfl) rfl #[.int .i64 a0_4, .int .i64 1] (by rfl) rfl rfl (by (try simp only [List.map_toArray, List.map_cons, List.map_nil]); first | done | rfl | (simp only [List.length_drop, List.length_take]; rfl)) ?_
              with_reducible refine (palanquinref07_num.calls kj2 a0_4 1 t314 _ A22.out).mono ?_
              rintro e w38 ⟨rfl, hb⟩
              refine ⟨_, rfl, ?_⟩
              have n0_ := mA (blk_below (g := gb306) (o := .cells #[.int .i64 a0_0, .int .i64 a0_1, .int .u32 a0_2, .int .u32 a0_3, .int .i64 a0_4, .int .i64 a0_5, .int .i64 a0_6, .string a0_7, .string a0_8] 69 (0, 0)) (by (with_reducible repeat (first | apply kN | apply kD | apply kA)); exact BK306.out) hb)
              have n1_ := mA (bP (by repeat (first | (with_reducible first | exact HB.out | apply bA | apply bN | apply bD | refine bS ?_ GE306.out) | exact HB.out)) hb)
              clear BK306
              clear HB
              have BK306 := n0_
              have HB := n1_
              clear n0_ n1_
              (try clear hb)
              (try clear hb2)
              (try clear hk)
              (try clear hi)
              refine hK.out _ _ ⟨(zC BK306.out 0).trans rfl, (zC BK306.out 1).trans rfl, (zC BK306.out 2).trans rfl, (zC BK306.out 3).trans rfl, (zC BK306.out 4).trans rfl, (zC BK306.out 5).trans rfl, (zC BK306.out 6).trans rfl, (zC BK306.out 7).trans rfl, (zC BK306.out 8).trans rfl⟩ (fun hHeld => ?_)
              clear hK K
              refine norm_ (a' := ?_) ?_ ?_
              rotate_left
              ·show Act.put _ (some 41) _ = _
               simp only [Act.put, List.setIfInBounds_toArray, List.set_cons_zero, List.set_cons_succ, i64_w, i32_w]
               rfl
              refine pure_ (i := 28) (N := some 42) (v := ?_) (a' := ?_) (bv 48 29903709798399) rfl rfl (any_of HT_.out (by kernel_rfl)) (fun _ _ _ h => h) (Or.inl ⟨by rfl, ?_⟩) ?_ ?_; rotate_left; (intro w'; go_simp; with_reducible rfl); rotate_left; (simp only [Act.put, List.setIfInBounds_toArray, List.set_cons_zero, List.set_cons_succ, i64_w, i32_w]; rfl)
              refine one_ (i := 31) (N := some 45) (bv 48 29905857282047) rfl rfl (one_of HT_.out (by kernel_rfl)) (by decide) (fun K hK => ?_)
              refine goes_ Try.func58 (by kernel_rfl) rfl #[.int .i64 a0_5, .int .i64 2] (by rfl) rfl rfl (by (try simp only [List.map_toArray, List.map_cons, List.map_nil]); first | done | rfl | (simp only [List.length_drop, List.length_take]; rfl)) ?_
              with_reducible refine (palanquinref07_num.calls kj2 a0_5 2 t315 _ A24.out).mono ?_
              rintro e w39 ⟨rfl, hb⟩
              refine ⟨_, rfl, ?_⟩
              have n0_ := mA (blk_below (g := gb306) (o := .cells #[.int .i64 a0_0, .int .i64 a0_1, .int .u32 a0_2, .int .u32 a0_3, .int .i64 a0_4, .int .i64 a0_5, .int .i64 a0_6, .string a0_7, .string a0_8] 69 (0, 0)) (by (with_reducible repeat (first | apply kN | apply kD | apply kA)); exact BK306.out) hb)
              have n1_ := mA (bP (by repeat (first | (with_reducible first | exact HB.out | apply bA | apply bN | apply bD | refine bS ?_ GE306.out) | exact HB.out)) hb)
              clear BK306
              clear HB
              have BK306 := n0_
              have HB := n1_
              clear n0_ n1_
              (try clear hb)
              (try clear hb2)
              (try clear hk)
              (try clear hi)
              refine hK.out _ _ ⟨(zC BK306.out 0).trans rfl, (zC BK306.out 1).trans rfl, (zC BK306.out 2).trans rfl, (zC BK306.out 3).trans rfl, (zC BK306.out 4).trans rfl, (zC BK306.out 5).trans rfl, (zC BK306.out 6).trans rfl, (zC BK306.out 7).trans rfl, (zC BK306.out 8).trans rfl⟩ (fun hHeld => ?_)
              clear hK K
              refine norm_ (a' := ?_) ?_ ?_
              rotate_left
              ·show Act.put _ (some 45) _ = _
               simp only [Act.put, List.setIfInBounds_toArray, List.set_cons_zero, List.set_cons_succ, i64_w, i32_w]
               rfl
              refine pure_ (i := 32) (N := some 46) (v := ?_) (a' := ?_) (bv 48 29910152249343) rfl rfl (any_of HT_.out (by kernel_rfl)) (fun _ _ _ h => h) (Or.inl ⟨by rfl, ?_⟩) ?_ ?_; rotate_left; (intro w'; go_simp; with_reducible rfl); rotate_left; (simp only [Act.put, List.setIfInBounds_toArray, List.set_cons_zero, List.set_cons_succ, i64_w, i32_w]; rfl)
              refine one_ (i := 34) (N := some 48) (bv 48 29927332118527) rfl rfl (one_of HT_.out (by kernel_rfl)) (by decide) (fun K hK => ?_)
              refine goes_ Try.func58 (by kernel_rfl) rfl #[.int .i64 a1, .int .i64 2] (by rfl) rfl rfl (by (try simp only [List.map_toArray, List.map_cons, List.map_nil]); first | done | rfl | (simp only [List.length_drop, List.length_take]; rfl)) ?_
              with_reducible refine (palanquinref07_num.calls kj2 a1 2 t316 _ A26.out).mono ?_
              rintro e w40 ⟨rfl, hb⟩
              refine ⟨_, rfl, ?_⟩
              have n0_ := mA (blk_below (g := gb306) (o := .cells #[.int .i64 a0_0, .int .i64 a0_1, .int .u32 a0_2, .int .u32 a0_3, .int .i64 a0_4, .int .i64 a0_5, .int .i64 a0_6, .string a0_7, .string a0_8] 69 (0, 0)) (by (with_reducible repeat (first | apply kN | apply kD | apply kA)); exact BK306.out) hb)
              have n1_ := mA (bP (by repeat (first | (with_reducible first | exact HB.out | apply bA | apply bN | apply bD | refine bS ?_ GE306.out) | exact HB.out)) hb)
              clear BK306
              clear HB
              have BK306 := n0_
              have HB := n1_
              clear n0_ n1_
              (try clear hb)
              (try clear hb2)
              (try clear hk)
              (try clear hi)
              refine hK.out _ _ ⟨(zC BK306.out 0).trans rfl, (zC BK306.out 1).trans rfl, (zC BK306.out 2).trans rfl, (zC BK306.out 3).trans rfl, (zC BK306.out 4).trans rfl, (zC BK306.out 5).trans rfl, (zC BK306.out 6).trans rfl, (zC BK306.out 7).trans rfl, (zC BK306.out 8).trans rfl⟩ (fun hHeld => ?_)
              clear hK K
              refine norm_ (a' := ?_) ?_ ?_
              rotate_left
              ·show Act.put _ (some 48) _ = _
               simp only [Act.put, List.setIfInBounds_toArray, List.set_cons_zero, List.set_cons_succ, i64_w, i32_w]
               rfl
              refine pure_ (i := 35) (N := some 49) (v := ?_) (a' := ?_) (bv 48 29961691856895) rfl rfl (any_of HT_.out (by kernel_rfl)) (fun _ _ _ h => h) (Or.inl ⟨by rfl, ?_⟩) ?_ ?_; rotate_left; (intro w'; go_simp; with_reducible rfl); rotate_left; (simp only [Act.put, List.setIfInBounds_toArray, List.set_cons_zero, List.set_cons_succ, i64_w, i32_w]; rfl)
              refine one_ (i := 38) (N := some 52) (bv 48 30236569763839) rfl rfl (one_of HT_.out (by kernel_rfl)) (by decide) (fun K hK => ?_)
              refine goes_ Try.func58 (by kernel_rfl) rfl #[.int .i64 a0_6, .int .i64 2] (by rfl) rfl rfl (by (try simp only [List.map_toArray, List.map_cons, List.map_nil]); first | done | rfl | (simp only [List.length_drop, List.length_take]; rfl)) ?_
              with_reducible refine (palanquinref07_num.calls kj2 a0_6 2 t317 _ A28.out).mono ?_
              rintro e w41 ⟨rfl, hb⟩
              refine ⟨_, rfl, ?_⟩
              have n0_ := mA (blk_below (g := gb306) (o := .cells #[.int .i64 a0_0, .int .i64 a0_1, .int .u32 a0_2, .int .u32 a0_3, .int .i64 a0_4, .int .i64 a0_5, .int .i64 a0_6, .string a0_7, .string a0_8] 69 (0, 0)) (by (with_reducible repeat (first | apply kN | apply kD | apply kA)); exact BK306.out) hb)
              have n1_ := mA (bP (by repeat (first | (with_reducible first | exact HB.out | apply bA | apply bN | apply bD | refine bS ?_ GE306.out) | exact HB.out)) hb)
              clear BK306
              clear HB
              have BK306 := n0_
              have HB := n1_
              clear n0_ n1_
              (try clear hb)
              (try clear hb2)
              (try clear hk)
              (try clear hi)
              refine hK.out _ _ ⟨(zC BK306.out 0).trans rfl, (zC BK306.out 1).trans rfl, (zC BK306.out 2).trans rfl, (zC BK306.out 3).trans rfl, (zC BK306.out 4).trans rfl, (zC BK306.out 5).trans rfl, (zC BK306.out 6).trans rfl, (zC BK306.out 7).trans rfl, (zC BK306.out 8).trans rfl⟩ (fun hHeld => ?_)
              clear hK K
              refine norm_ (a' := ?_) ?_ ?_
              rotate_left
              ·show Act.put _ (some 52) _ = _
               simp only [Act.put, List.setIfInBounds_toArray, List.set_cons_zero, List.set_cons_succ, i64_w, i32_w]
               rfl
              refine pure_ (i := 39) (N := some 53) (v := ?_) (a' := ?_) (bv 48 30786325577727) rfl rfl (any_of HT_.out (by kernel_rfl)) (fun _ _ _ h => h) (Or.inl ⟨by rfl, ?_⟩) ?_ ?_; rotate_left; (intro w'; go_simp; with_reducible rfl); rotate_left; (simp only [Act.put, List.setIfInBounds_toArray, List.set_cons_zero, List.set_cons_succ, i64_w, i32_w]; rfl)
              refine pure_ (i := 42) (N := some 56) (v := ?_) (a' := ?_) (bv 48 35184372088831) rfl rfl (any_of HT_.out (by kernel_rfl)) (fun _ _ _ h => h) (Or.inl ⟨by rfl, ?_⟩) ?_ ?_; rotate_left; (intro w'; go_simp; with_reducible rfl); rotate_left; (simp only [Act.put, List.setIfInBounds_toArray, List.set_cons_zero, List.set_cons_succ, i64_w, i32_w]; rfl)
              refine pure_ (i := 45) (N := some 59) (v := ?_) (a' := ?_) (bv 48 70368744177663) rfl rfl (any_of HT_.out (by kernel_rfl)) (fun _ _ _ h => h) (Or.inl ⟨by rfl, ?_⟩) ?_ ?_; rotate_left; (intro w'; go_simp; with_reducible rfl); rotate_left; (simp only [Act.put, List.setIfInBounds_toArray, List.set_cons_zero, List.set_cons_succ, i64_w, i32_w]; rfl)
              refine pure_ (i := 46) (N := some 4) (v := ?_) (a' := ?_) (bv 48 140737488355327) rfl rfl (any_of HT_.out (by kernel_rfl)) (fun _ _ _ h => h) (Or.inl ⟨by rfl, ?_⟩) ?_ ?_; rotate_left; (intro w'; go_simp; with_reducible rfl); rotate_left; (simp only [Act.put, List.setIfInBounds_toArray, List.set_cons_zero, List.set_cons_succ, i64_w, i32_w]; rfl)
              refine pure_ (i := 47) (N := some 5) (v := ?_) (a' := ?_) (bv 48 281474976710655) rfl rfl (any_of HT_.out (by kernel_rfl)) (fun _ _ _ h => h) (Or.inl ⟨by rfl, ?_⟩) ?_ ?_; rotate_left; (intro w'; go_simp; with_reducible rfl); rotate_left; (simp only [Act.put, List.setIfInBounds_toArray, List.set_cons_zero, List.set_cons_succ, i64_w, i32_w]; rfl)
              refine done_ (done_of HT_.out (by kernel_rfl)) ?_
              try go_wp2
              go_ret2
              exact ⟨by first | rfl | (simp [errW_none, errW_some] <;> rfl) | (simp [*, errW_none, errW_some] <;> rfl), by repeat (first | (with_reducible first | exact HB.out | apply bA | apply bN | apply bD | refine bS ?_ GE306.out) | exact HB.out)⟩
             ·rw [if_neg c31] at H
              exact absurd H (by simp)
            ·rw [if_neg c30] at H
             exact absurd H (by simp)
           ·rw [if_neg c29] at H
            exact absurd H (by simp)
          ·rw [if_neg c27] at H
           exact absurd H (by simp)
         ·rw [if_neg c25] at H
          exact absurd H (by simp)
        ·rw [if_neg c23] at H
         exact absurd H (by simp)
       ·rw [if_neg c21] at H
        exact absurd H (by simp)
      ·rw [if_neg c19] at H
       exact absurd H (by simp)
     ·rw [if_neg c17] at H
      exact absurd H (by simp)
    ·rw [if_neg c15] at H
     exact absurd H (by simp)

end Go.Proofs.Ytcmalglippmocaa.G
end

section
namespace Go.Proofs.Ytcmalglippmocaa.G
open Go.RowKit Go.Proofs.YtcmalglippmocaaW.PrintWords Go.Proofs.YtcmalglippmocaaW.PrintLast Go.Proofs.YtcmalglippmocaaW.PrintMore Go.Proofs.Ytcmalglippmocaa.Pal
def sealAt (p : Int) (n : Nat) : Nat := if p = 6 ∧ 20 ≤ n then 16 else if p = 17 ∧ 8 ≤ n then 6 else 0
def sealNo (p n : Int) : Int := if n = 0 ∧ p = 17 then 65535 else n
def sealBytes (s : ByteArray) (q : Nat) (n : Int) : ByteArray := ⟨(bl (s.extract 0 q) ++ nb 2 (u64n n) ++ bl (s.extract (q + 2) s.size)).toArray⟩
def seal_with (a0 : Int) (a1 a2 a3 : ByteArray) (q : Nat) : Option ByteArray :=
  (sum_Pseudo.f a1 a2 a0 a3.size).bind fun ps => (sum_Sum.f [ps, a3.extract 0 q, ⟨#[0, 0]⟩, a3.extract (q + 2) a3.size]).bind fun n => some (sealBytes a3 q (sealNo a0 n))
def flow_Seal.f (a0 : Int) (a1 a2 a3 : ByteArray) : Option ByteArray :=
  if a3.size ≤ 1000000000 then (if sealAt a0 a3.size = 0 then some a3 else seal_with a0 a1 a2 a3 (sealAt a0 a3.size)) else none
def SW (k b : Nat) (w w1 : World) (l : List UInt8) : Prop := WAt b l w1 ∧ Below k w w1 ∧ k ≤ b
theorem SW.next {k b : Nat} {w w1 w2 : World} {l l' : List UInt8} (h : SW k b w w1 l) (h1 : WAt b l' w2) (h2 : Below b w1 w2) : SW k b w w2 l' := ⟨h1, h.2.1.trans (h2.mono h.2.2), h.2.2⟩
theorem SW.start {k : Nat} {w w1 : World} (h : Below k w w1) (hk : k ≤ w1.heap.size) : SW k w1.heap.size w (w1.alloc (.cells #[.pointer none, .slice none 0 0] 117)) [] := ⟨WAt.new w1, h.alloc hk _, hk⟩
end Go.Proofs.Ytcmalglippmocaa.G
end

section
namespace Go.Proofs.Ytcmalglippmocaa.G
open Go.RowKit Go.Proofs.YtcmalglippmocaaW.PrintWords Go.Proofs.YtcmalglippmocaaW.PrintLast Go.Proofs.YtcmalglippmocaaW.PrintMore Go.Proofs.Ytcmalglippmocaa.Pal
def numB (c : Int) : ByteArray := ⟨(nb 2 (u64n c)).toArray⟩
def clamp_number.f (a0 : Int) : Option ByteArray := some (numB a0)
set_option maxHeartbeats 2000000 in
set_option maxRecDepth 100000 in
theorem clamp_number.calls (a0 : Int) (r : ByteArray) (w : World) (h : clamp_number.f a0 = some r) :
    Calls Try.prog 39 #[.int .i64 a0] w fun e w' => e = .returned (.string r) ∧ Below w.heap.size w w' := by
  obtain rfl := Option.some.inj h
  clear h
  have HW := Aside0.mk (SW.start (w1 := w) (Below.refl w.heap.size w) (Nat.le_refl _))
  go_enter Try.func39, Try.ntmps39
  go_wp2_with fail
  refine (Writer_U16.calls _ _ _ _ HW.out.1 (by simp)).mono ?_
  rintro e w5 ⟨rfl, g1, g2⟩
  replace HW := Aside0.mk (HW.out.next g1 g2)
  clear g1 g2
  go_wp2_with fail
  refine (Writer_String.calls _ _ _ HW.out.1).mono ?_
  rintro e w6 ⟨rfl, g1, g2⟩
  replace HW := Aside0.mk (HW.out.next g1 g2)
  clear g1 g2
  go_wp2
  go_ret
  exact ⟨by simp [u64n, numB], HW.out.2.1⟩
def cutW (s : ByteArray) (i : Nat) (fresh : ByteArray) : ByteArray := s.extract 0 i ++ fresh ++ s.extract (i + 2) s.size
set_option maxHeartbeats 2000000 in
set_option maxRecDepth 100000 in
theorem clamp_cut (s fresh : ByteArray) (i : Nat) (w : World) (hi : i + 2 ≤ s.size) (hs : s.size ≤ 1000000000) (hf : fresh.size = 2) :
    Calls Try.prog 37 #[.string s, .int .i64 (i : Int), .string fresh] w fun e w' => e = .returned (.string (cutW s i fresh)) ∧ ∃ n, w' = w.drewN n := by
  unfold cutW
  obtain ⟨j, hj⟩ : ∃ j, j = i + 2 := ⟨_, rfl⟩
  rw [← hj]
  have z1 : wrap64 ((i : Int) + (fresh.size : Int)) = (j : Int) := by unfold wrap64; omega
  have z2 : IntKind.i64.wrap ((i : Int) + (fresh.size : Int)) = (j : Int) := by rw [IntKind.wrap_i64]; omega
  have q1 : ((i : Int) ≤ (s.size : Int)) = True := eq_true (by omega)
  have q2 : (i ≤ s.size) = True := eq_true (by omega)
  have q3 : ((j : Int) ≤ (s.size : Int)) = True := eq_true (by omega)
  have q4 : (j ≤ s.size) = True := eq_true (by omega)
  have q5 : (9223372036854775807 < i + fresh.size) = False := eq_false (by omega)
  have q6 : (9223372036854775807 < i + fresh.size + (s.size - j)) = False := eq_false (by omega)
  have q7 : (i + fresh.size ≤ 9223372036854775807) = True := eq_true (by omega)
  have q8 : (i + fresh.size + (s.size - j) ≤ 9223372036854775807) = True := eq_true (by omega)
  clear hi hs hf hj
  go_enter Try.func37, Try.ntmps37
  go_wp2
  go_quiet (fail)
  go_wp2
  go_ret
  exact ⟨rfl, _, rfl⟩
end Go.Proofs.Ytcmalglippmocaa.G
end

section
namespace Go.Proofs.Ytcmalglippmocaa.G
open Go.RowKit Go.Proofs.YtcmalglippmocaaW.PrintWords Go.Proofs.YtcmalglippmocaaW.PrintLast Go.Proofs.YtcmalglippmocaaW.PrintMore Go.Proofs.Ytcmalglippmocaa.Pal
attribute [local go_sem] max2_int min2_int max_two min_two
def clampLim (l : Int) : Int := mx 0 (mn l 65535)
def clampSeg (p : ByteArray) (i n : Nat) (l : Int) : ByteArray := (cutW p i (numB (clampLim l))).extract n (cutW p i (numB (clampLim l))).size
def clamp_fin (p : ByteArray) (i n : Nat) (l : Int) (proto : Int) (src dst : ByteArray) : Option ByteArray :=
  (sum_Pseudo.f src dst proto (clampSeg p i n l).size).bind fun ps => (sum_Sum.f [ps, cutW (clampSeg p i n l) 16 ⟨#[0, 0]⟩]).bind fun c => some (p.extract 0 n ++ cutW (clampSeg p i n l) 16 (numB c))
def clamp_Clamp.f (p : ByteArray) (l : Int) : Option ByteArray :=
  (clamp_find.f 1 p).bind fun t => if t.2.2 = false ∨ t.2.1 ≤ clampLim l then some p else
  (clamp_head.f p).bind fun n => (flow_Get.f p).bind fun f =>
  if 0 ≤ t.1 ∧ t.1 + 2 ≤ (p.size : Int) ∧ 0 ≤ n ∧ n + 18 ≤ (p.size : Int) ∧ p.size ≤ 1000000 then clamp_fin p t.1.toNat n.toNat l f.1 f.2.1 f.2.2.1 else none
theorem numB_size (c : Int) : (numB c).size = 2 := rfl
theorem cutW_size {s : ByteArray} {i : Nat} {f : ByteArray} (h : i + 2 ≤ s.size) (hf : f.size = 2) : (cutW s i f).size = s.size := by
  unfold cutW; simp only [ByteArray.size_append, ByteArray.size_extract]; omega
set_option maxHeartbeats 4000000 in
set_option maxRecDepth 100000 in
theorem clamp_main (p : ByteArray) (l : Int) (i n : Nat) (v : Int) (proto : Int) (src dst : ByteArray) (f4 f5 f6 : Int) (r : ByteArray) (w : World) (hfind : clamp_find.f 1 p = some ((i : Int), v, true)) (hv : ¬ v ≤ clampLim l) (hhead : clamp_head.f p = some (n : Int)) (hflow : flow_Get.f p = some (proto, src, dst, f4, f5, f6))
    (hi : i + 2 ≤ p.size) (hn : n + 18 ≤ p.size) (hp : p.size ≤ 1000000) (h : clamp_fin p i n l proto src dst = some r) :
    Calls Try.prog 14 #[.string p, .int .i64 l] w fun e w' => e = .returned (.string r) ∧ Below w.heap.size w w' := by
  have hu := Try.underlying24
  obtain ⟨k, hk⟩ : ∃ k, w.heap.size = k := ⟨_, rfl⟩
  have HK := Aside0.mk (show w.heap.size = k from hk)
  have HB := Aside0.mk (show Below k w w from hk ▸ Below.refl w.heap.size w)
  unfold clamp_fin at h
  obtain ⟨ps, hps, h⟩ := Option.bind_eq_some_iff.1 h
  obtain ⟨c, hc, h⟩ := Option.bind_eq_some_iff.1 h
  obtain rfl := Option.some.inj h
  have HF := Aside0.mk hfind
  have HH := Aside0.mk hhead
  have HG := Aside0.mk hflow
  have HP := Aside0.mk hps
  have HC := Aside0.mk hc
  obtain ⟨q, hq⟩ : ∃ q, q = cutW p i (numB (clampLim l)) := ⟨_, rfl⟩
  have hqz : q.size = p.size := by rw [hq]; exact cutW_size hi (numB_size _)
  have HQ := Aside0.mk hq
  obtain ⟨s, hs⟩ : ∃ s, s = clampSeg p i n l := ⟨_, rfl⟩
  have hsq : s = q.extract n q.size := by rw [hs, hq]; rfl
  have hsz : s.size = p.size - n := by rw [hsq, ByteArray.size_extract, hqz]; omega
  have HS := Aside0.mk hs
  have HSQ := Aside0.mk hsq
  have HI := Aside0.mk (And.intro hi (And.intro hn hp))
  have HSZ := Aside0.mk (And.intro hqz hsz)
  have e1 : decide (v ≤ clampLim l) = false := decide_eq_false hv
  obtain ⟨L, hL⟩ : ∃ L, L = clampLim l := ⟨_, rfl⟩
  have HL := Aside0.mk hL
  obtain ⟨jm, hjm⟩ : ∃ jm : Int, (if 65535 < l then 65535 else l) = jm := ⟨_, rfl⟩
  have hL2 : (if 0 < jm then jm else 0) = L := by rw [hL, ← hjm]; rfl
  rw [← hL] at e1
  clear hfind hv hhead hflow h hps hc hi hn hp hq hqz hs hsq hsz hk hL
  go_enter Try.func14, Try.ntmps14
  go_wp2_with fail
  clear hL2 hjm
  refine (clamp_find.calls 1 p _ _ _ _ HF.out).mono ?_
  rintro e w2 ⟨rfl, hb⟩
  replace HB := Aside0.mk (HB.out.trans (hb.mono (by have := HK.out; omega)))
  clear hb
  go_wp2_with fail
  refine (clamp_head.calls p _ _ HH.out).mono ?_
  rintro e w3 ⟨rfl, nd, rfl⟩
  replace HB := Aside0.mk (pw_below_drewN HB.out nd)
  generalize w2.drewN nd = w3 at HB ⊢
  clear e1
  go_wp2_with fail
  refine (flow_Get.calls p _ _ _ _ _ _ _ HG.out).mono ?_
  rintro e w4 ⟨rfl, hb⟩
  replace HB := Aside0.mk (HB.out.trans (hb.mono (by have := HB.out.size; have := HK.out; omega)))
  clear hb
  go_upto_region 8 with (fail)
  have HN := Aside0.mk (Blk.new w4 24 #[.int .i64 proto, .string src, .string dst, .int .i64 f4, .int .i64 f5])
  have HGT := Aside0.mk (show k ≤ w4.heap.size by have := HB.out.size; have := HK.out; omega)
  replace HB := Aside0.mk (HB.out.alloc HGT.out (.cells #[.int .i64 proto, .string src, .string dst, .int .i64 f4, .int .i64 f5] 24))
  generalize w4.heap.size = g at HN HGT ⊢
  generalize w4.alloc (.cells #[.int .i64 proto, .string src, .string dst, .int .i64 f4, .int .i64 f5] 24) = w5 at HN HB ⊢
  go_wp2_with fail
  refine (clamp_number.calls L _ _ rfl).mono ?_
  rintro e w6 ⟨rfl, hb⟩
  replace HB := Aside0.mk (HB.out.trans (hb.mono (by have := HB.out.size; have := HK.out; omega)))
  replace HN := Aside0.mk (HN.out.below hb HN.out.lt)
  clear hb
  go_wp2_with fail
  refine (clamp_cut p (numB L) i _ HI.out.1 (by have := HI.out; omega) rfl).mono ?_
  rintro e w7 ⟨rfl, nd2, rfl⟩
  replace HB := Aside0.mk (pw_below_drewN HB.out nd2)
  replace HN := Aside0.mk (HN.out.drewN nd2)
  generalize w6.drewN nd2 = w7 at HB HN ⊢
  rw [HL.out, ← HQ.out]
  have a1 : ((n : Int) ≤ (q.size : Int)) = True := eq_true (by have := HSZ.out; have := HI.out; omega)
  have a2 : (n ≤ q.size) = True := eq_true (by have := HSZ.out; have := HI.out; omega)
  have n1 := HN.out.cells
  go_wp2_with fail
  rw [← HSQ.out, show q.size - n = s.size by have := HSZ.out; omega]
  refine (sum_Pseudo.calls src dst proto (s.size : Int) ps _ (by rw [HS.out]; exact HP.out)).mono ?_
  rintro e w8 ⟨rfl, hb⟩
  replace HB := Aside0.mk (HB.out.trans (hb.mono (by have := HB.out.size; have := HK.out; omega)))
  replace HN := Aside0.mk (HN.out.below hb HN.out.lt)
  clear hb n1 a1 a2
  go_wp2_with fail
  refine (clamp_cut s ⟨#[0, 0]⟩ 16 _ (by have := HSZ.out; have := HI.out; omega) (by have := HSZ.out; have := HI.out; omega) rfl).mono ?_
  rintro e w9 ⟨rfl, nd3, rfl⟩
  replace HB := Aside0.mk (pw_below_drewN HB.out nd3)
  generalize w8.drewN nd3 = w9 at HB ⊢
  clear HN
  go_wp2_with fail
  refine (sum_Sum.calls _ _ [ps, cutW s 16 ⟨#[0, 0]⟩] c _ (C_two _ _ _ _) (by simp) (by rw [HS.out]; exact HC.out)).mono ?_
  rintro e w10 ⟨rfl, hb⟩
  replace HB := Aside0.mk ((HB.out.alloc (by have := HB.out.size; have := HK.out; omega) _).trans (hb.mono (by have := HB.out.size; have := HK.out; simp; omega)))
  clear hb
  have a3 : ((n : Int) ≤ (p.size : Int)) = True := eq_true (by have := HI.out; omega)
  have a4 : (n ≤ p.size) = True := eq_true (by have := HI.out; omega)
  obtain ⟨t, ht⟩ : ∃ t, t = cutW s 16 (numB c) := ⟨_, rfl⟩
  have HT := Aside0.mk ht
  have HTZ := Aside0.mk (show t.size = s.size by rw [ht]; exact cutW_size (by have := HSZ.out; have := HI.out; omega) (numB_size _))
  have a5 : (9223372036854775807 < n + t.size) = False := eq_false (by have := HTZ.out; have := HSZ.out; have := HI.out; omega)
  have a6 : (n + t.size ≤ 9223372036854775807) = True := eq_true (by have := HTZ.out; have := HSZ.out; have := HI.out; omega)
  clear ht
  go_wp2_with fail
  go_region_with ((first
    | (go_at_call 39; refine (clamp_number.calls c _ _ rfl).mono ?_; rintro e w11 ⟨rfl, hb⟩; have HB5 := Aside0.mk (show Below k w w11 from by first | exact HB.out.trans (hb.mono (by have := HB.out.size; have := HK.out; omega)) | exact HB.out.drew.trans (hb.mono (by have := HB.out.size; have := HK.out; simp; omega)) | exact (pw_below_drewN HB.out _).trans (hb.mono (by have := HB.out.size; have := HK.out; simp; omega))); clear hb)
    | (go_at_call 37; refine (clamp_cut s (numB c) 16 _ (by have := HSZ.out; have := HI.out; omega) (by have := HSZ.out; have := HI.out; omega) rfl).mono ?_; rintro e w12 ⟨rfl, nd4, rfl⟩; rw [← HT.out]; have HB6 := Aside0.mk (show Below k w _ from by first | exact pw_below_drewN HB5.out nd4 | exact pw_below_drewN HB5.out.drew nd4))))
  all_goals
    go_wp2
    go_ret
    exact ⟨by rw [HT.out, HS.out]; rfl, by rw [HK.out]; first | exact HB6.out | exact HB6.out.drew⟩
set_option maxHeartbeats 4000000 in
set_option maxRecDepth 100000 in
theorem clamp_same (p : ByteArray) (l : Int) (i v : Int) (ok : Bool) (w : World) (hfind : clamp_find.f 1 p = some (i, v, ok)) (hv : ok = false ∨ v ≤ clampLim l) :
    Calls Try.prog 14 #[.string p, .int .i64 l] w fun e w' => e = .returned (.string p) ∧ Below w.heap.size w w' := by
  have HF := Aside0.mk hfind
  obtain ⟨L, hL⟩ : ∃ L, L = clampLim l := ⟨_, rfl⟩
  obtain ⟨jm, hjm⟩ : ∃ jm : Int, (if 65535 < l then 65535 else l) = jm := ⟨_, rfl⟩
  have hL2 : (if 0 < jm then jm else 0) = L := by rw [hL, ← hjm]; rfl
  rw [← hL] at hv
  clear hfind hL
  cases ok with
  | false =>
    clear hv
    go_enter Try.func14, Try.ntmps14
    go_wp2_with fail
    refine (clamp_find.calls 1 p _ _ _ _ HF.out).mono ?_
    rintro e w2 ⟨rfl, hb⟩
    have HB := Aside0.mk hb
    clear hb
    go_wp2
    go_ret
    exact ⟨rfl, HB.out⟩
  | true =>
    have e1 : decide (v ≤ L) = true := decide_eq_true (by rcases hv with h | h; exact absurd h (by decide); exact h)
    clear hv
    go_enter Try.func14, Try.ntmps14
    go_wp2_with fail
    refine (clamp_find.calls 1 p _ _ _ _ HF.out).mono ?_
    rintro e w2 ⟨rfl, hb⟩
    have HB := Aside0.mk hb
    clear hb
    go_wp2
    go_ret
    exact ⟨rfl, HB.out⟩
theorem clamp_Clamp.calls (a0 : ByteArray) (a1 : Int) (r : ByteArray) (w : World) (h : clamp_Clamp.f a0 a1 = some r) :
    Calls Try.prog 14 #[.string a0, .int .i64 a1] w fun e w' => e = .returned (.string r) ∧ Below w.heap.size w w' := by
  unfold clamp_Clamp.f at h
  obtain ⟨⟨i, v, ok⟩, hf, h⟩ := Option.bind_eq_some_iff.1 h
  by_cases hv : ok = false ∨ v ≤ clampLim a1
  · rw [if_pos hv] at h
    obtain rfl := Option.some.inj h
    exact clamp_same a0 a1 i v ok w hf hv
  · rw [if_neg hv] at h
    obtain ⟨n, hn, h⟩ := Option.bind_eq_some_iff.1 h
    obtain ⟨⟨proto, src, dst, f4, f5, f6⟩, hg, h⟩ := Option.bind_eq_some_iff.1 h
    split at h
    · rename_i hb
      obtain ⟨b1, b2, b3, b4, b5⟩ := hb
      obtain ⟨i, rfl⟩ := Int.eq_ofNat_of_zero_le (show 0 ≤ i from b1)
      obtain ⟨n, rfl⟩ := Int.eq_ofNat_of_zero_le (show 0 ≤ n from b3)
      have hok : ok = true := by cases ok; exact absurd (.inl rfl) hv; rfl
      subst hok
      exact clamp_main a0 a1 i n v proto src dst f4 f5 f6 r w hf (fun h => hv (.inr h)) hn hg (by have b2 : (i : Int) + 2 ≤ (a0.size : Int) := b2; omega) (by omega) b5 h
    · exact absurd h (by simp)
end Go.Proofs.Ytcmalglippmocaa.G
end
