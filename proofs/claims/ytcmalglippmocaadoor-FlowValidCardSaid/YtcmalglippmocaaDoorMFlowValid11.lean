/- Texts of this session, joined: each is a section. -/
import Derived.Test.YtcmalglippmocaaDoorMFlowValid2
import Derived.Test.YtcmalglippmocaaDoorMFlowValid6
import Derived.Test.YtcmalglippmocaaDoorMFlowValid9
import Derived.Test.YtcmalglippmocaaDoorMFlowValid10
import Derived.Test.YtcmalglippmocaaDoorMFlowValid8
set_option linter.unusedVariables false
set_option linter.unusedSimpArgs false
section
namespace Go.Proofs.YtcmalglippmocaaDoor.G
open Go.RowKit Go.Proofs.YtcmalglippmocaaDoorW.PrintWords Go.Proofs.YtcmalglippmocaaDoorW.PrintLast Go.Proofs.YtcmalglippmocaaDoorW.PrintMore
attribute [local go_sem] max2_int min2_int max_two min_two max_three min_three max_four min_four

attribute [local go_sem high] eqA88
mutual
def palanquinlaw09_FlowValid.j0 : Nat → Bool → Bool → Int → Int → Int → Int → Int → Bool → Bool → ByteArray → ByteArray → ByteArray → Int → Int → Int → Int → ByteArray → ByteArray → Int → Int → Int → Int → Int → Int → Int → ByteArray → ByteArray → Int → Int → ByteArray → Option (Bool)
 | 0, _, _, _, _, _, _, _, _, _, _, _, _, _, _, _, _, _, _, _, _, _, _, _, _, _, _, _, _, _, _ => none
 | k + 1, x4, x55, x480000, x480001, x480002, x480003, x480004, x480005, x480006, x480007, x480008, x480009, x481000, x481001, x481002, x481003, x481004, x481005, x482000, x482001, x482002, x482003, x482004, x482005, x482006, x482007, x482008, x483000, x483001, x483002 => if x55 = true then (some true) else ((palanquinref07_Put.f k x482000 x482001 x482002 x482003 x482004 x482005 x482006 x482007 x482008 0).bind fun bt486 => (if x4 = true then ((palanquinref08_Put.f k x483000 x483001 x483002 0).bind fun bt488 => (palanquinlaw09_FlowValid.j1 k x4 bt488.1 bt488.2 x483000 x483001 x480000 x480001 x480002 x480003 17 x480005 x480006 x480007 x480008 x480009 x481000 x481001 17 x481003 x481004 x481005 x482000 x482001 x482002 x482003 x482004 x482005 x482006 x482007 x482008)) else (palanquinlaw09_FlowValid.j1 k x4 bt486.1 bt486.2 x482000 x482001 x480000 x480001 x480002 x480003 6 x480005 x480006 x480007 x480008 x480009 x481000 x481001 6 x481003 x481004 x481005 x482000 x482001 x482002 x482003 x482004 x482005 x482006 x482007 x482008)))
def palanquinlaw09_FlowValid.j1 : Nat → Bool → ByteArray → Int → Int → Int → Int → Int → Int → Int → Int → Bool → Bool → ByteArray → ByteArray → ByteArray → Int → Int → Int → Int → ByteArray → ByteArray → Int → Int → Int → Int → Int → Int → Int → ByteArray → ByteArray → Option (Bool)
 | 0, _, _, _, _, _, _, _, _, _, _, _, _, _, _, _, _, _, _, _, _, _, _, _, _, _, _, _, _, _, _ => none
 | k + 1, x4, x11, x12, x13, x14, x480000, x480001, x480002, x480003, x480004, x480005, x480006, x480007, x480008, x480009, x481000, x481001, x481002, x481003, x481004, x481005, x482000, x482001, x482002, x482003, x482004, x482005, x482006, x482007, x482008 => (palanquinref07_Walk.f k x482007).bind fun bt490 => (if x12 = 0 then (if x4 = true then (palanquinlaw09_FlowValid.j2 k x11 x13 x14 false x480000 x480001 x480002 x480003 x480004 x480005 x480006 x480007 x480008 x480009 x481000 x481001 x481002 x481003 x481004 x481005) else (palanquinlaw09_FlowValid.j2 k x11 x13 x14 (!bt490.2) x480000 x480001 x480002 x480003 x480004 x480005 x480006 x480007 x480008 x480009 x481000 x481001 x481002 x481003 x481004 x481005)) else (palanquinlaw09_FlowValid.j2 k x11 x13 x14 true x480000 x480001 x480002 x480003 x480004 x480005 x480006 x480007 x480008 x480009 x481000 x481001 x481002 x481003 x481004 x481005))
def palanquinlaw09_FlowValid.j2 : Nat → ByteArray → Int → Int → Bool → Int → Int → Int → Int → Int → Bool → Bool → ByteArray → ByteArray → ByteArray → Int → Int → Int → Int → ByteArray → ByteArray → Option (Bool)
 | 0, _, _, _, _, _, _, _, _, _, _, _, _, _, _, _, _, _, _, _, _ => none
 | k + 1, x11, x13, x14, x94, x480000, x480001, x480002, x480003, x480004, x480005, x480006, x480007, x480008, x480009, x481000, x481001, x481002, x481003, x481004, x481005 => if x94 = true then (some true) else ((flow_Build4.f x480000 x480001 0 x480003 x480004 x480005 false x480007 x480008 x480009 x11).bind fun bt494 => (if bt494.2 = 0 then ((flow_Get.f bt494.1).bind fun bt496 => (if bt496.2.2.2.2.2 = 0 then (if (!(bt496.1 == x480004) || (!(bt496.2.1.toList == x480007.toList) || (!(bt496.2.2.1.toList == x480008.toList) || (!(bt496.2.2.2.1 == x13) || (!(bt496.2.2.2.2.1 == x14)))))) = true then (some false) else (palanquinlaw09_FlowValid.j3 k x11 x13 x14 x481000 x481001 x481002 x481003 x481004 x481005)) else (some false))) else (palanquinlaw09_FlowValid.j3 k x11 x13 x14 x481000 x481001 x481002 x481003 x481004 x481005)))
def palanquinlaw09_FlowValid.j3 : Nat → ByteArray → Int → Int → Int → Int → Int → Int → ByteArray → ByteArray → Option (Bool)
 | 0, _, _, _, _, _, _, _, _, _ => none
 | k + 1, x11, x13, x14, x481000, x481001, x481002, x481003, x481004, x481005 => (flow_Build6.f x481000 x481001 x481002 x481003 x481004 x481005 x11).bind fun bt503 => (if bt503.2 = 0 then ((flow_Get.f bt503.1).bind fun bt505 => (if bt505.2.2.2.2.2 = 0 then (some (bt505.1 == x481002 && (bt505.2.1.toList == x481004.toList && (bt505.2.2.1.toList == x481005.toList && (bt505.2.2.2.1 == x13 && (bt505.2.2.2.2.1 == x14)))))) else (some false))) else (some (bt503.1.toList == ([] : List UInt8))))
end
def palanquinlaw09_FlowValid.f (k : Nat) (a0_0 : Int) (a0_1 : Int) (a0_2 : Int) (a0_3 : Int) (a0_4 : Int) (a0_5 : Bool) (a0_6 : Bool) (a0_7 : ByteArray) (a0_8 : ByteArray) (a0_9 : ByteArray) (a1_0 : Int) (a1_1 : Int) (a1_2 : Int) (a1_3 : Int) (a1_4 : ByteArray) (a1_5 : ByteArray) (a2_0 : Int) (a2_1 : Int) (a2_2 : Int) (a2_3 : Int) (a2_4 : Int) (a2_5 : Int) (a2_6 : Int) (a2_7 : ByteArray) (a2_8 : ByteArray) (a3_0 : Int) (a3_1 : Int) (a3_2 : ByteArray) (a4 : Bool) : Option (Bool) := (palanquinlaw09_awake.f k).bind fun t483 => (if t483 = true then ((palanquinlaw09_few.f a0_7 a0_8 a0_9).bind fun t484 => (if t484 = true then ((palanquinlaw09_few.f a1_4 a1_5 a2_7).bind fun t485 => (if t485 = true then (if (a2_8.size : Int) > 3000 then (palanquinlaw09_FlowValid.j0 k a4 true a0_0 a0_1 a0_2 a0_3 a0_4 a0_5 a0_6 a0_7 a0_8 a0_9 a1_0 a1_1 a1_2 a1_3 a1_4 a1_5 a2_0 a2_1 a2_2 a2_3 a2_4 a2_5 a2_6 a2_7 a2_8 a3_0 a3_1 a3_2) else (palanquinlaw09_FlowValid.j0 k a4 (decide ((a3_2.size : Int) > 3000)) a0_0 a0_1 a0_2 a0_3 a0_4 a0_5 a0_6 a0_7 a0_8 a0_9 a1_0 a1_1 a1_2 a1_3 a1_4 a1_5 a2_0 a2_1 a2_2 a2_3 a2_4 a2_5 a2_6 a2_7 a2_8 a3_0 a3_1 a3_2)) else (palanquinlaw09_FlowValid.j0 k a4 true a0_0 a0_1 a0_2 a0_3 a0_4 a0_5 a0_6 a0_7 a0_8 a0_9 a1_0 a1_1 a1_2 a1_3 a1_4 a1_5 a2_0 a2_1 a2_2 a2_3 a2_4 a2_5 a2_6 a2_7 a2_8 a3_0 a3_1 a3_2))) else (palanquinlaw09_FlowValid.j0 k a4 true a0_0 a0_1 a0_2 a0_3 a0_4 a0_5 a0_6 a0_7 a0_8 a0_9 a1_0 a1_1 a1_2 a1_3 a1_4 a1_5 a2_0 a2_1 a2_2 a2_3 a2_4 a2_5 a2_6 a2_7 a2_8 a3_0 a3_1 a3_2))) else (some false))
set_option maxHeartbeats 8000000 in
set_option maxRecDepth 100000 in
theorem palanquinlaw09_FlowValid.calls (k : Nat) (a0_0 : Int) (a0_1 : Int) (a0_2 : Int) (a0_3 : Int) (a0_4 : Int) (a0_5 : Bool) (a0_6 : Bool) (a0_7 : ByteArray) (a0_8 : ByteArray) (a0_9 : ByteArray) (a1_0 : Int) (a1_1 : Int) (a1_2 : Int) (a1_3 : Int) (a1_4 : ByteArray) (a1_5 : ByteArray) (a2_0 : Int) (a2_1 : Int) (a2_2 : Int) (a2_3 : Int) (a2_4 : Int) (a2_5 : Int) (a2_6 : Int) (a2_7 : ByteArray) (a2_8 : ByteArray) (a3_0 : Int) (a3_1 : Int) (a3_2 : ByteArray) (a4 : Bool) (r : Bool) (w : World) (h : palanquinlaw09_FlowValid.f k a0_0 a0_1 a0_2 a0_3 a0_4 a0_5 a0_6 a0_7 a0_8 a0_9 a1_0 a1_1 a1_2 a1_3 a1_4 a1_5 a2_0 a2_1 a2_2 a2_3 a2_4 a2_5 a2_6 a2_7 a2_8 a3_0 a3_1 a3_2 a4 = some r) (hrt_ : Aside0 (r = true)) (hgP_ : GP w) :
  Calls Tryd.prog 16 #[.agg #[.int .i64 a0_0, .int .i64 a0_1, .int .i64 a0_2, .int .i64 a0_3, .int .i64 a0_4, .bool a0_5, .bool a0_6, .string a0_7, .string a0_8, .string a0_9], .agg #[.int .i64 a1_0, .int .i64 a1_1, .int .i64 a1_2, .int .i64 a1_3, .string a1_4, .string a1_5], .agg #[.int .i64 a2_0, .int .i64 a2_1, .int .u32 a2_2, .int .u32 a2_3, .int .i64 a2_4, .int .i64 a2_5, .int .i64 a2_6, .string a2_7, .string a2_8], .agg #[.int .i64 a3_0, .int .i64 a3_1, .string a3_2], .bool a4] w fun e w' => e = .returned (.bool r) ∧ Below w.heap.size w w' := by
 have HgP_ := mA hgP_
 clear hgP_
 have hu69 := Tryd.underlying69
 have hu71 := Tryd.underlying71
 have hu79 := Tryd.underlying79
 have hu81 := Tryd.underlying81
 have hu88 := Tryd.underlying88
 have HB := mA (Below.refl w.heap.size w)
 have H : ((palanquinlaw09_awake.f k).bind fun t483 => (if t483 = true then ((palanquinlaw09_few.f a0_7 a0_8 a0_9).bind fun t484 => (if t484 = true then ((palanquinlaw09_few.f a1_4 a1_5 a2_7).bind fun t485 => (if t485 = true then (if (a2_8.size : Int) > 3000 then (palanquinlaw09_FlowValid.j0 k a4 true a0_0 a0_1 a0_2 a0_3 a0_4 a0_5 a0_6 a0_7 a0_8 a0_9 a1_0 a1_1 a1_2 a1_3 a1_4 a1_5 a2_0 a2_1 a2_2 a2_3 a2_4 a2_5 a2_6 a2_7 a2_8 a3_0 a3_1 a3_2) else (palanquinlaw09_FlowValid.j0 k a4 (decide ((a3_2.size : Int) > 3000)) a0_0 a0_1 a0_2 a0_3 a0_4 a0_5 a0_6 a0_7 a0_8 a0_9 a1_0 a1_1 a1_2 a1_3 a1_4 a1_5 a2_0 a2_1 a2_2 a2_3 a2_4 a2_5 a2_6 a2_7 a2_8 a3_0 a3_1 a3_2)) else (palanquinlaw09_FlowValid.j0 k a4 true a0_0 a0_1 a0_2 a0_3 a0_4 a0_5 a0_6 a0_7 a0_8 a0_9 a1_0 a1_1 a1_2 a1_3 a1_4 a1_5 a2_0 a2_1 a2_2 a2_3 a2_4 a2_5 a2_6 a2_7 a2_8 a3_0 a3_1 a3_2))) else (palanquinlaw09_FlowValid.j0 k a4 true a0_0 a0_1 a0_2 a0_3 a0_4 a0_5 a0_6 a0_7 a0_8 a0_9 a1_0 a1_1 a1_2 a1_3 a1_4 a1_5 a2_0 a2_1 a2_2 a2_3 a2_4 a2_5 a2_6 a2_7 a2_8 a3_0 a3_1 a3_2))) else (some false))) = some r := h
 clear h
 replace H := Option.bind_eq_some_iff.mp H
 obtain ⟨t483, A60, H⟩ := H
 try dsimp +instances only at H
 have A6 := mA A60
 clear A60
 by_cases c7 : t483 = true
 ·subst c7
  rw [if_pos rfl] at H
  have HC8 := mA H
  clear H
  go_enter Tryd.func16, Tryd.ntmps16
  go_upto_region 3 with (first | ((with_reducible refine gate_dst (N := 5) rfl ?_); (try (refine gate_guard (by rfl) ?_; dsimp only)); refine box_event ?hg (N := 5) ?hd (cs := #[.int .i64 a0_0, .int .i64 a0_1, .int .i64 a0_2, .int .i64 a0_3, .int .i64 a0_4, .bool a0_5, .bool a0_6, .string a0_7, .string a0_8, .string a0_9]) (t := 69) ?hr ?_; (case hd => rfl); (case hg => rfl); (case hr => first | (go_simp; done) | (go_simp; rfl)); intro gb479 hg w9 hbox hb; obtain ⟨n0_, nq_⟩ := bpr (by repeat (first | (with_reducible first | exact HB.out | apply bA | apply bN | apply bD) | exact HB.out)) hb; have n1_ := mA (hbox); have n2_ := mA ((by rw [hg]; exact nq_ : w.heap.size ≤ gb479)); have n3_ := mA ((by rw [hg]; exact nq_ : w.heap.size ≤ gb479)); clear HB; have HB := n0_; have BK479 := n1_; have GW479 := n2_; have GE479 := n3_; clear nq_; clear n0_ n1_ n2_ n3_; clear hb hbox hg) | ((with_reducible refine gate_dst (N := 6) rfl ?_); (try (refine gate_guard (by rfl) ?_; dsimp only)); refine box_event ?hg (N := 6) ?hd (cs := #[.int .i64 a1_0, .int .i64 a1_1, .int .i64 a1_2, .int .i64 a1_3, .string a1_4, .string a1_5]) (t := 71) ?hr ?_; (case hd => rfl); (case hg => rfl); (case hr => first | (go_simp; done) | (go_simp; rfl)); intro gb480 hg w10 hbox hb; obtain ⟨n0_, nl479_⟩ := bt3 (g := gb479) (o := .cells #[.int .i64 a0_0, .int .i64 a0_1, .int .i64 a0_2, .int .i64 a0_3, .int .i64 a0_4, .bool a0_5, .bool a0_6, .string a0_7, .string a0_8, .string a0_9] 69 (0, 0)) (by (with_reducible repeat (first | apply kN | apply kD | apply kA)); exact BK479.out) hb; obtain ⟨n1_, nq_⟩ := bpr (by repeat (first | (with_reducible first | exact HB.out | apply bA | apply bN | apply bD | refine bS ?_ GE479.out) | exact HB.out)) hb; have n2_ := mA (hbox); have n3_ := mA ((by rw [hg]; exact nq_ : w.heap.size ≤ gb480)); have n4_ := mA ((by rw [hg]; exact nq_ : w.heap.size ≤ gb480)); have n5_ := mA ((by rw [hg]; exact Nat.ne_of_lt nl479_ : gb479 ≠ gb480)); have n6_ := mA ((by rw [hg]; exact Nat.ne_of_gt nl479_ : gb480 ≠ gb479)); clear BK479; clear HB; have BK479 := n0_; have HB := n1_; have BK480 := n2_; have GW480 := n3_; have GE480 := n4_; have NB479_480 := n5_; have NB480_479 := n6_; clear nl479_; clear nq_; clear n0_ n1_ n2_ n3_ n4_ n5_ n6_; clear hb hbox hg) | ((with_reducible refine gate_dst (N := 7) rfl ?_); (try (refine gate_guard (by rfl) ?_; dsimp only)); refine box_event ?hg (N := 7) ?hd (cs := #[.int .i64 a2_0, .int .i64 a2_1, .int .u32 a2_2, .int .u32 a2_3, .int .i64 a2_4, .int .i64 a2_5, .int .i64 a2_6, .string a2_7, .string a2_8]) (t := 79) ?hr ?_; (case hd => rfl); (case hg => rfl); (case hr => first | (go_simp; done) | (go_simp; rfl)); intro gb481 hg w11 hbox hb; obtain ⟨n0_, nl479_⟩ := bt3 (g := gb479) (o := .cells #[.int .i64 a0_0, .int .i64 a0_1, .int .i64 a0_2, .int .i64 a0_3, .int .i64 a0_4, .bool a0_5, .bool a0_6, .string a0_7, .string a0_8, .string a0_9] 69 (0, 0)) (by (with_reducible repeat (first | apply kN | apply kD | apply kA)); exact BK479.out) hb; obtain ⟨n1_, nl480_⟩ := bt3 (g := gb480) (o := .cells #[.int .i64 a1_0, .int .i64 a1_1, .int .i64 a1_2, .int .i64 a1_3, .string a1_4, .string a1_5] 71 (0, 0)) (by (with_reducible repeat (first | apply kN | apply kD | apply kA)); exact BK480.out) hb; obtain ⟨n2_, nq_⟩ := bpr (by repeat (first | (with_reducible first | exact HB.out | apply bA | apply bN | apply bD | refine bS ?_ GE479.out | refine bS ?_ GE480.out) | exact HB.out)) hb; have n3_ := mA (hbox); have n4_ := mA ((by rw [hg]; exact nq_ : w.heap.size ≤ gb481)); have n5_ := mA ((by rw [hg]; exact nq_ : w.heap.size ≤ gb481)); have n6_ := mA ((by rw [hg]; exact Nat.ne_of_lt nl479_ : gb479 ≠ gb481)); have n7_ := mA ((by rw [hg]; exact Nat.ne_of_gt nl479_ : gb481 ≠ gb479)); have n8_ := mA ((by rw [hg]; exact Nat.ne_of_lt nl480_ : gb480 ≠ gb481)); have n9_ := mA ((by rw [hg]; exact Nat.ne_of_gt nl480_ : gb481 ≠ gb480)); clear BK479; clear BK480; clear HB; have BK479 := n0_; have BK480 := n1_; have HB := n2_; have BK481 := n3_; have GW481 := n4_; have GE481 := n5_; have NB479_481 := n6_; have NB481_479 := n7_; have NB480_481 := n8_; have NB481_480 := n9_; clear nl479_; clear nl480_; clear nq_; clear n0_ n1_ n2_ n3_ n4_ n5_ n6_ n7_ n8_ n9_; clear hb hbox hg) | ((with_reducible refine gate_dst (N := 8) rfl ?_); (try (refine gate_guard (by rfl) ?_; dsimp only)); refine box_event ?hg (N := 8) ?hd (cs := #[.int .i64 a3_0, .int .i64 a3_1, .string a3_2]) (t := 81) ?hr ?_; (case hd => rfl); (case hg => rfl); (case hr => first | (go_simp; done) | (go_simp; rfl)); intro gb482 hg w12 hbox hb; obtain ⟨n0_, nl479_⟩ := bt3 (g := gb479) (o := .cells #[.int .i64 a0_0, .int .i64 a0_1, .int .i64 a0_2, .int .i64 a0_3, .int .i64 a0_4, .bool a0_5, .bool a0_6, .string a0_7, .string a0_8, .string a0_9] 69 (0, 0)) (by (with_reducible repeat (first | apply kN | apply kD | apply kA)); exact BK479.out) hb; obtain ⟨n1_, nl480_⟩ := bt3 (g := gb480) (o := .cells #[.int .i64 a1_0, .int .i64 a1_1, .int .i64 a1_2, .int .i64 a1_3, .string a1_4, .string a1_5] 71 (0, 0)) (by (with_reducible repeat (first | apply kN | apply kD | apply kA)); exact BK480.out) hb; obtain ⟨n2_, nl481_⟩ := bt3 (g := gb481) (o := .cells #[.int .i64 a2_0, .int .i64 a2_1, .int .u32 a2_2, .int .u32 a2_3, .int .i64 a2_4, .int .i64 a2_5, .int .i64 a2_6, .string a2_7, .string a2_8] 79 (0, 0)) (by (with_reducible repeat (first | apply kN | apply kD | apply kA)); exact BK481.out) hb; obtain ⟨n3_, nq_⟩ := bpr (by repeat (first | (with_reducible first | exact HB.out | apply bA | apply bN | apply bD | refine bS ?_ GE479.out | refine bS ?_ GE480.out | refine bS ?_ GE481.out) | exact HB.out)) hb; have n4_ := mA (hbox); have n5_ := mA ((by rw [hg]; exact nq_ : w.heap.size ≤ gb482)); have n6_ := mA ((by rw [hg]; exact nq_ : w.heap.size ≤ gb482)); have n7_ := mA ((by rw [hg]; exact Nat.ne_of_lt nl479_ : gb479 ≠ gb482)); have n8_ := mA ((by rw [hg]; exact Nat.ne_of_gt nl479_ : gb482 ≠ gb479)); have n9_ := mA ((by rw [hg]; exact Nat.ne_of_lt nl480_ : gb480 ≠ gb482)); have n10_ := mA ((by rw [hg]; exact Nat.ne_of_gt nl480_ : gb482 ≠ gb480)); have n11_ := mA ((by rw [hg]; exact Nat.ne_of_lt nl481_ : gb481 ≠ gb482)); have n12_ := mA ((by rw [hg]; exact Nat.ne_of_gt nl481_ : gb482 ≠ gb481)); clear BK479; clear BK480; clear BK481; clear HB; have BK479 := n0_; have BK480 := n1_; have BK481 := n2_; have HB := n3_; have BK482 := n4_; have GW482 := n5_; have GE482 := n6_; have NB479_482 := n7_; have NB482_479 := n8_; have NB480_482 := n9_; have NB482_480 := n10_; have NB481_482 := n11_; have NB482_481 := n12_; clear nl479_; clear nl480_; clear nl481_; clear nq_; clear n0_ n1_ n2_ n3_ n4_ n5_ n6_ n7_ n8_ n9_ n10_ n11_ n12_; clear hb hbox hg) | (go_at_call 40; (with_reducible refine (palanquinlaw09_awake.calls k  true _ A6.out).mono ?_); rintro e w13 ⟨rfl, hb⟩; have n0_ := mA (blk_below (g := gb479) (o := .cells #[.int .i64 a0_0, .int .i64 a0_1, .int .i64 a0_2, .int .i64 a0_3, .int .i64 a0_4, .bool a0_5, .bool a0_6, .string a0_7, .string a0_8, .string a0_9] 69 (0, 0)) (by (with_reducible repeat (first | apply kN | apply kD | apply kA)); exact BK479.out) hb); have n1_ := mA (blk_below (g := gb480) (o := .cells #[.int .i64 a1_0, .int .i64 a1_1, .int .i64 a1_2, .int .i64 a1_3, .string a1_4, .string a1_5] 71 (0, 0)) (by (with_reducible repeat (first | apply kN | apply kD | apply kA)); exact BK480.out) hb); have n2_ := mA (blk_below (g := gb481) (o := .cells #[.int .i64 a2_0, .int .i64 a2_1, .int .u32 a2_2, .int .u32 a2_3, .int .i64 a2_4, .int .i64 a2_5, .int .i64 a2_6, .string a2_7, .string a2_8] 79 (0, 0)) (by (with_reducible repeat (first | apply kN | apply kD | apply kA)); exact BK481.out) hb); have n3_ := mA (blk_below (g := gb482) (o := .cells #[.int .i64 a3_0, .int .i64 a3_1, .string a3_2] 81 (0, 0)) (by (with_reducible repeat (first | apply kN | apply kD | apply kA)); exact BK482.out) hb); have n4_ := mA (bP (by repeat (first | (with_reducible first | exact HB.out | apply bA | apply bN | apply bD | refine bS ?_ GE479.out | refine bS ?_ GE480.out | refine bS ?_ GE481.out | refine bS ?_ GE482.out) | exact HB.out)) hb); clear BK479; clear BK480; clear BK481; clear BK482; clear HB; have BK479 := n0_; have BK480 := n1_; have BK481 := n2_; have BK482 := n3_; have HB := n4_; clear n0_ n1_ n2_ n3_ n4_; (try clear hb); (try clear hb2); (try clear hk); (try clear hi)))
  repeat (go_quiet (first | ((with_reducible refine gate_dst (N := 5) rfl ?_); (try (refine gate_guard (by rfl) ?_; dsimp only)); refine box_event ?hg (N := 5) ?hd (cs := #[.int .i64 a0_0, .int .i64 a0_1, .int .i64 a0_2, .int .i64 a0_3, .int .i64 a0_4, .bool a0_5, .bool a0_6, .string a0_7, .string a0_8, .string a0_9]) (t := 69) ?hr ?_; (case hd => rfl); (case hg => rfl); (case hr => first | (go_simp; done) | (go_simp; rfl)); intro gb479 hg w9 hbox hb; obtain ⟨n0_, nq_⟩ := bpr (by repeat (first | (with_reducible first | exact HB.out | apply bA | apply bN | apply bD) | exact HB.out)) hb; have n1_ := mA (hbox); have n2_ := mA ((by rw [hg]; exact nq_ : w.heap.size ≤ gb479)); have n3_ := mA ((by rw [hg]; exact nq_ : w.heap.size ≤ gb479)); clear HB; have HB := n0_; have BK479 := n1_; have GW479 := n2_; have GE479 := n3_; clear nq_; clear n0_ n1_ n2_ n3_; clear hb hbox hg) | ((with_reducible refine gate_dst (N := 6) rfl ?_); (try (refine gate_guard (by rfl) ?_; dsimp only)); refine box_event ?hg (N := 6) ?hd (cs := #[.int .i64 a1_0, .int .i64 a1_1, .int .i64 a1_2, .int .i64 a1_3, .string a1_4, .string a1_5]) (t := 71) ?hr ?_; (case hd => rfl); (case hg => rfl); (case hr => first | (go_simp; done) | (go_simp; rfl)); intro gb480 hg w10 hbox hb; obtain ⟨n0_, nl479_⟩ := bt3 (g := gb479) (o := .cells #[.int .i64 a0_0, .int .i64 a0_1, .int .i64 a0_2, .int .i64 a0_3, .int .i64 a0_4, .bool a0_5, .bool a0_6, .string a0_7, .string a0_8, .string a0_9] 69 (0, 0)) (by (with_reducible repeat (first | apply kN | apply kD | apply kA)); exact BK479.out) hb; obtain ⟨n1_, nq_⟩ := bpr (by repeat (first | (with_reducible first | exact HB.out | apply bA | apply bN | apply bD | refine bS ?_ GE479.out) | exact HB.out)) hb; have n2_ := mA (hbox); have n3_ := mA ((by rw [hg]; exact nq_ : w.heap.size ≤ gb480)); have n4_ := mA ((by rw [hg]; exact nq_ : w.heap.size ≤ gb480)); have n5_ := mA ((by rw [hg]; exact Nat.ne_of_lt nl479_ : gb479 ≠ gb480)); have n6_ := mA ((by rw [hg]; exact Nat.ne_of_gt nl479_ : gb480 ≠ gb479)); clear BK479; clear HB; have BK479 := n0_; have HB := n1_; have BK480 := n2_; have GW480 := n3_; have GE480 := n4_; have NB479_480 := n5_; have NB480_479 := n6_; clear nl479_; clear nq_; clear n0_ n1_ n2_ n3_ n4_ n5_ n6_; clear hb hbox hg) | ((with_reducible refine gate_dst (N := 7) rfl ?_); (try (refine gate_guard (by rfl) ?_; dsimp only)); refine box_event ?hg (N := 7) ?hd (cs := #[.int .i64 a2_0, .int .i64 a2_1, .int .u32 a2_2, .int .u32 a2_3, .int .i64 a2_4, .int .i64 a2_5, .int .i64 a2_6, .string a2_7, .string a2_8]) (t := 79) ?hr ?_; (case hd => rfl); (case hg => rfl); (case hr => first | (go_simp; done) | (go_simp; rfl)); intro gb481 hg w11 hbox hb; obtain ⟨n0_, nl479_⟩ := bt3 (g := gb479) (o := .cells #[.int .i64 a0_0, .int .i64 a0_1, .int .i64 a0_2, .int .i64 a0_3, .int .i64 a0_4, .bool a0_5, .bool a0_6, .string a0_7, .string a0_8, .string a0_9] 69 (0, 0)) (by (with_reducible repeat (first | apply kN | apply kD | apply kA)); exact BK479.out) hb; obtain ⟨n1_, nl480_⟩ := bt3 (g := gb480) (o := .cells #[.int .i64 a1_0, .int .i64 a1_1, .int .i64 a1_2, .int .i64 a1_3, .string a1_4, .string a1_5] 71 (0, 0)) (by (with_reducible repeat (first | apply kN | apply kD | apply kA)); exact BK480.out) hb; obtain ⟨n2_, nq_⟩ := bpr (by repeat (first | (with_reducible first | exact HB.out | apply bA | apply bN | apply bD | refine bS ?_ GE479.out | refine bS ?_ GE480.out) | exact HB.out)) hb; have n3_ := mA (hbox); have n4_ := mA ((by rw [hg]; exact nq_ : w.heap.size ≤ gb481)); have n5_ := mA ((by rw [hg]; exact nq_ : w.heap.size ≤ gb481)); have n6_ := mA ((by rw [hg]; exact Nat.ne_of_lt nl479_ : gb479 ≠ gb481)); have n7_ := mA ((by rw [hg]; exact Nat.ne_of_gt nl479_ : gb481 ≠ gb479)); have n8_ := mA ((by rw [hg]; exact Nat.ne_of_lt nl480_ : gb480 ≠ gb481)); have n9_ := mA ((by rw [hg]; exact Nat.ne_of_gt nl480_ : gb481 ≠ gb480)); clear BK479; clear BK480; clear HB; have BK479 := n0_; have BK480 := n1_; have HB := n2_; have BK481 := n3_; have GW481 := n4_; have GE481 := n5_; have NB479_481 := n6_; have NB481_479 := n7_; have NB480_481 := n8_; have NB481_480 := n9_; clear nl479_; clear nl480_; clear nq_; clear n0_ n1_ n2_ n3_ n4_ n5_ n6_ n7_ n8_ n9_; clear hb hbox hg) | ((with_reducible refine gate_dst (N := 8) rfl ?_); (try (refine gate_guard (by rfl) ?_; dsimp only)); refine box_event ?hg (N := 8) ?hd (cs := #[.int .i64 a3_0, .int .i64 a3_1, .string a3_2]) (t := 81) ?hr ?_; (case hd => rfl); (case hg => rfl); (case hr => first | (go_simp; done) | (go_simp; rfl)); intro gb482 hg w12 hbox hb; obtain ⟨n0_, nl479_⟩ := bt3 (g := gb479) (o := .cells #[.int .i64 a0_0, .int .i64 a0_1, .int .i64 a0_2, .int .i64 a0_3, .int .i64 a0_4, .bool a0_5, .bool a0_6, .string a0_7, .string a0_8, .string a0_9] 69 (0, 0)) (by (with_reducible repeat (first | apply kN | apply kD | apply kA)); exact BK479.out) hb; obtain ⟨n1_, nl480_⟩ := bt3 (g := gb480) (o := .cells #[.int .i64 a1_0, .int .i64 a1_1, .int .i64 a1_2, .int .i64 a1_3, .string a1_4, .string a1_5] 71 (0, 0)) (by (with_reducible repeat (first | apply kN | apply kD | apply kA)); exact BK480.out) hb; obtain ⟨n2_, nl481_⟩ := bt3 (g := gb481) (o := .cells #[.int .i64 a2_0, .int .i64 a2_1, .int .u32 a2_2, .int .u32 a2_3, .int .i64 a2_4, .int .i64 a2_5, .int .i64 a2_6, .string a2_7, .string a2_8] 79 (0, 0)) (by (with_reducible repeat (first | apply kN | apply kD | apply kA)); exact BK481.out) hb; obtain ⟨n3_, nq_⟩ := bpr (by repeat (first | (with_reducible first | exact HB.out | apply bA | apply bN | apply bD | refine bS ?_ GE479.out | refine bS ?_ GE480.out | refine bS ?_ GE481.out) | exact HB.out)) hb; have n4_ := mA (hbox); have n5_ := mA ((by rw [hg]; exact nq_ : w.heap.size ≤ gb482)); have n6_ := mA ((by rw [hg]; exact nq_ : w.heap.size ≤ gb482)); have n7_ := mA ((by rw [hg]; exact Nat.ne_of_lt nl479_ : gb479 ≠ gb482)); have n8_ := mA ((by rw [hg]; exact Nat.ne_of_gt nl479_ : gb482 ≠ gb479)); have n9_ := mA ((by rw [hg]; exact Nat.ne_of_lt nl480_ : gb480 ≠ gb482)); have n10_ := mA ((by rw [hg]; exact Nat.ne_of_gt nl480_ : gb482 ≠ gb480)); have n11_ := mA ((by rw [hg]; exact Nat.ne_of_lt nl481_ : gb481 ≠ gb482)); have n12_ := mA ((by rw [hg]; exact Nat.ne_of_gt nl481_ : gb482 ≠ gb481)); clear BK479; clear BK480; clear BK481; clear HB; have BK479 := n0_; have BK480 := n1_; have BK481 := n2_; have HB := n3_; have BK482 := n4_; have GW482 := n5_; have GE482 := n6_; have NB479_482 := n7_; have NB482_479 := n8_; have NB480_482 := n9_; have NB482_480 := n10_; have NB481_482 := n11_; have NB482_481 := n12_; clear nl479_; clear nl480_; clear nl481_; clear nq_; clear n0_ n1_ n2_ n3_ n4_ n5_ n6_ n7_ n8_ n9_ n10_ n11_ n12_; clear hb hbox hg) | (go_at_call 40; (with_reducible refine (palanquinlaw09_awake.calls k  true _ A6.out).mono ?_); rintro e w13 ⟨rfl, hb⟩; have n0_ := mA (blk_below (g := gb479) (o := .cells #[.int .i64 a0_0, .int .i64 a0_1, .int .i64 a0_2, .int .i64 a0_3, .int .i64 a0_4, .bool a0_5, .bool a0_6, .string a0_7, .string a0_8, .string a0_9] 69 (0, 0)) (by (with_reducible repeat (first | apply kN | apply kD | apply kA)); exact BK479.out) hb); have n1_ := mA (blk_below (g := gb480) (o := .cells #[.int .i64 a1_0, .int .i64 a1_1, .int .i64 a1_2, .int .i64 a1_3, .string a1_4, .string a1_5] 71 (0, 0)) (by (with_reducible repeat (first | apply kN | apply kD | apply kA)); exact BK480.out) hb); have n2_ := mA (blk_below (g := gb481) (o := .cells #[.int .i64 a2_0, .int .i64 a2_1, .int .u32 a2_2, .int .u32 a2_3, .int .i64 a2_4, .int .i64 a2_5, .int .i64 a2_6, .string a2_7, .string a2_8] 79 (0, 0)) (by (with_reducible repeat (first | apply kN | apply kD | apply kA)); exact BK481.out) hb); have n3_ := mA (blk_below (g := gb482) (o := .cells #[.int .i64 a3_0, .int .i64 a3_1, .string a3_2] 81 (0, 0)) (by (with_reducible repeat (first | apply kN | apply kD | apply kA)); exact BK482.out) hb); have n4_ := mA (bP (by repeat (first | (with_reducible first | exact HB.out | apply bA | apply bN | apply bD | refine bS ?_ GE479.out | refine bS ?_ GE480.out | refine bS ?_ GE481.out | refine bS ?_ GE482.out) | exact HB.out)) hb); clear BK479; clear BK480; clear BK481; clear BK482; clear HB; have BK479 := n0_; have BK480 := n1_; have BK481 := n2_; have BK482 := n3_; have HB := n4_; clear n0_ n1_ n2_ n3_ n4_; (try clear hb); (try clear hb2); (try clear hk); (try clear hi))); go_upto_region 3 with (first | ((with_reducible refine gate_dst (N := 5) rfl ?_); (try (refine gate_guard (by rfl) ?_; dsimp only)); refine box_event ?hg (N := 5) ?hd (cs := #[.int .i64 a0_0, .int .i64 a0_1, .int .i64 a0_2, .int .i64 a0_3, .int .i64 a0_4, .bool a0_5, .bool a0_6, .string a0_7, .string a0_8, .string a0_9]) (t := 69) ?hr ?_; (case hd => rfl); (case hg => rfl); (case hr => first | (go_simp; done) | (go_simp; rfl)); intro gb479 hg w9 hbox hb; obtain ⟨n0_, nq_⟩ := bpr (by repeat (first | (with_reducible first | exact HB.out | apply bA | apply bN | apply bD) | exact HB.out)) hb; have n1_ := mA (hbox); have n2_ := mA ((by rw [hg]; exact nq_ : w.heap.size ≤ gb479)); have n3_ := mA ((by rw [hg]; exact nq_ : w.heap.size ≤ gb479)); clear HB; have HB := n0_; have BK479 := n1_; have GW479 := n2_; have GE479 := n3_; clear nq_; clear n0_ n1_ n2_ n3_; clear hb hbox hg) | ((with_reducible refine gate_dst (N := 6) rfl ?_); (try (refine gate_guard (by rfl) ?_; dsimp only)); refine box_event ?hg (N := 6) ?hd (cs := #[.int .i64 a1_0, .int .i64 a1_1, .int .i64 a1_2, .int .i64 a1_3, .string a1_4, .string a1_5]) (t := 71) ?hr ?_; (case hd => rfl); (case hg => rfl); (case hr => first | (go_simp; done) | (go_simp; rfl)); intro gb480 hg w10 hbox hb; obtain ⟨n0_, nl479_⟩ := bt3 (g := gb479) (o := .cells #[.int .i64 a0_0, .int .i64 a0_1, .int .i64 a0_2, .int .i64 a0_3, .int .i64 a0_4, .bool a0_5, .bool a0_6, .string a0_7, .string a0_8, .string a0_9] 69 (0, 0)) (by (with_reducible repeat (first | apply kN | apply kD | apply kA)); exact BK479.out) hb; obtain ⟨n1_, nq_⟩ := bpr (by repeat (first | (with_reducible first | exact HB.out | apply bA | apply bN | apply bD | refine bS ?_ GE479.out) | exact HB.out)) hb; have n2_ := mA (hbox); have n3_ := mA ((by rw [hg]; exact nq_ : w.heap.size ≤ gb480)); have n4_ := mA ((by rw [hg]; exact nq_ : w.heap.size ≤ gb480)); have n5_ := mA ((by rw [hg]; exact Nat.ne_of_lt nl479_ : gb479 ≠ gb480)); have n6_ := mA ((by rw [hg]; exact Nat.ne_of_gt nl479_ : gb480 ≠ gb479)); clear BK479; clear HB; have BK479 := n0_; have HB := n1_; have BK480 := n2_; have GW480 := n3_; have GE480 := n4_; have NB479_480 := n5_; have NB480_479 := n6_; clear nl479_; clear nq_; clear n0_ n1_ n2_ n3_ n4_ n5_ n6_; clear hb hbox hg) | ((with_reducible refine gate_dst (N := 7) rfl ?_); (try (refine gate_guard (by rfl) ?_; dsimp only)); refine box_event ?hg (N := 7) ?hd (cs := #[.int .i64 a2_0, .int .i64 a2_1, .int .u32 a2_2, .int .u32 a2_3, .int .i64 a2_4, .int .i64 a2_5, .int .i64 a2_6, .string a2_7, .string a2_8]) (t := 79) ?hr ?_; (case hd => rfl); (case hg => rfl); (case hr => first | (go_simp; done) | (go_simp; rfl)); intro gb481 hg w11 hbox hb; obtain ⟨n0_, nl479_⟩ := bt3 (g := gb479) (o := .cells #[.int .i64 a0_0, .int .i64 a0_1, .int .i64 a0_2, .int .i64 a0_3, .int .i64 a0_4, .bool a0_5, .bool a0_6, .string a0_7, .string a0_8, .string a0_9] 69 (0, 0)) (by (with_reducible repeat (first | apply kN | apply kD | apply kA)); exact BK479.out) hb; obtain ⟨n1_, nl480_⟩ := bt3 (g := gb480) (o := .cells #[.int .i64 a1_0, .int .i64 a1_1, .int .i64 a1_2, .int .i64 a1_3, .string a1_4, .string a1_5] 71 (0, 0)) (by (with_reducible repeat (first | apply kN | apply kD | apply kA)); exact BK480.out) hb; obtain ⟨n2_, nq_⟩ := bpr (by repeat (first | (with_reducible first | exact HB.out | apply bA | apply bN | apply bD | refine bS ?_ GE479.out | refine bS ?_ GE480.out) | exact HB.out)) hb; have n3_ := mA (hbox); have n4_ := mA ((by rw [hg]; exact nq_ : w.heap.size ≤ gb481)); have n5_ := mA ((by rw [hg]; exact nq_ : w.heap.size ≤ gb481)); have n6_ := mA ((by rw [hg]; exact Nat.ne_of_lt nl479_ : gb479 ≠ gb481)); have n7_ := mA ((by rw [hg]; exact Nat.ne_of_gt nl479_ : gb481 ≠ gb479)); have n8_ := mA ((by rw [hg]; exact Nat.ne_of_lt nl480_ : gb480 ≠ gb481)); have n9_ := mA ((by rw [hg]; exact Nat.ne_of_gt nl480_ : gb481 ≠ gb480)); clear BK479; clear BK480; clear HB; have BK479 := n0_; have BK480 := n1_; have HB := n2_; have BK481 := n3_; have GW481 := n4_; have GE481 := n5_; have NB479_481 := n6_; have NB481_479 := n7_; have NB480_481 := n8_; have NB481_480 := n9_; clear nl479_; clear nl480_; clear nq_; clear n0_ n1_ n2_ n3_ n4_ n5_ n6_ n7_ n8_ n9_; clear hb hbox hg) | ((with_reducible refine gate_dst (N := 8) rfl ?_); (try (refine gate_guard (by rfl) ?_; dsimp only)); refine box_event ?hg (N := 8) ?hd (cs := #[.int .i64 a3_0, .int .i64 a3_1, .string a3_2]) (t := 81) ?hr ?_; (case hd => rfl); (case hg => rfl); (case hr => first | (go_simp; done) | (go_simp; rfl)); intro gb482 hg w12 hbox hb; obtain ⟨n0_, nl479_⟩ := bt3 (g := gb479) (o := .cells #[.int .i64 a0_0, .int .i64 a0_1, .int .i64 a0_2, .int .i64 a0_3, .int .i64 a0_4, .bool a0_5, .bool a0_6, .string a0_7, .string a0_8, .string a0_9] 69 (0, 0)) (by (with_reducible repeat (first | apply kN | apply kD | apply kA)); exact BK479.out) hb; obtain ⟨n1_, nl480_⟩ := bt3 (g := gb480) (o := .cells #[.int .i64 a1_0, .int .i64 a1_1, .int .i64 a1_2, .int .i64 a1_3, .string a1_4, .string a1_5] 71 (0, 0)) (by (with_reducible repeat (first | apply kN | apply kD | apply kA)); exact BK480.out) hb; obtain ⟨n2_, nl481_⟩ := bt3 (g := gb481) (o := .cells #[.int .i64 a2_0, .int .i64 a2_1, .int .u32 a2_2, .int .u32 a2_3, .int .i64 a2_4, .int .i64 a2_5, .int .i64 a2_6, .string a2_7, .string a2_8] 79 (0, 0)) (by (with_reducible repeat (first | apply kN | apply kD | apply kA)); exact BK481.out) hb; obtain ⟨n3_, nq_⟩ := bpr (by repeat (first | (with_reducible first | exact HB.out | apply bA | apply bN | apply bD | refine bS ?_ GE479.out | refine bS ?_ GE480.out | refine bS ?_ GE481.out) | exact HB.out)) hb; have n4_ := mA (hbox); have n5_ := mA ((by rw [hg]; exact nq_ : w.heap.size ≤ gb482)); have n6_ := mA ((by rw [hg]; exact nq_ : w.heap.size ≤ gb482)); have n7_ := mA ((by rw [hg]; exact Nat.ne_of_lt nl479_ : gb479 ≠ gb482)); have n8_ := mA ((by rw [hg]; exact Nat.ne_of_gt nl479_ : gb482 ≠ gb479)); have n9_ := mA ((by rw [hg]; exact Nat.ne_of_lt nl480_ : gb480 ≠ gb482)); have n10_ := mA ((by rw [hg]; exact Nat.ne_of_gt nl480_ : gb482 ≠ gb480)); have n11_ := mA ((by rw [hg]; exact Nat.ne_of_lt nl481_ : gb481 ≠ gb482)); have n12_ := mA ((by rw [hg]; exact Nat.ne_of_gt nl481_ : gb482 ≠ gb481)); clear BK479; clear BK480; clear BK481; clear HB; have BK479 := n0_; have BK480 := n1_; have BK481 := n2_; have HB := n3_; have BK482 := n4_; have GW482 := n5_; have GE482 := n6_; have NB479_482 := n7_; have NB482_479 := n8_; have NB480_482 := n9_; have NB482_480 := n10_; have NB481_482 := n11_; have NB482_481 := n12_; clear nl479_; clear nl480_; clear nl481_; clear nq_; clear n0_ n1_ n2_ n3_ n4_ n5_ n6_ n7_ n8_ n9_ n10_ n11_ n12_; clear hb hbox hg) | (go_at_call 40; (with_reducible refine (palanquinlaw09_awake.calls k  true _ A6.out).mono ?_); rintro e w13 ⟨rfl, hb⟩; have n0_ := mA (blk_below (g := gb479) (o := .cells #[.int .i64 a0_0, .int .i64 a0_1, .int .i64 a0_2, .int .i64 a0_3, .int .i64 a0_4, .bool a0_5, .bool a0_6, .string a0_7, .string a0_8, .string a0_9] 69 (0, 0)) (by (with_reducible repeat (first | apply kN | apply kD | apply kA)); exact BK479.out) hb); have n1_ := mA (blk_below (g := gb480) (o := .cells #[.int .i64 a1_0, .int .i64 a1_1, .int .i64 a1_2, .int .i64 a1_3, .string a1_4, .string a1_5] 71 (0, 0)) (by (with_reducible repeat (first | apply kN | apply kD | apply kA)); exact BK480.out) hb); have n2_ := mA (blk_below (g := gb481) (o := .cells #[.int .i64 a2_0, .int .i64 a2_1, .int .u32 a2_2, .int .u32 a2_3, .int .i64 a2_4, .int .i64 a2_5, .int .i64 a2_6, .string a2_7, .string a2_8] 79 (0, 0)) (by (with_reducible repeat (first | apply kN | apply kD | apply kA)); exact BK481.out) hb); have n3_ := mA (blk_below (g := gb482) (o := .cells #[.int .i64 a3_0, .int .i64 a3_1, .string a3_2] 81 (0, 0)) (by (with_reducible repeat (first | apply kN | apply kD | apply kA)); exact BK482.out) hb); have n4_ := mA (bP (by repeat (first | (with_reducible first | exact HB.out | apply bA | apply bN | apply bD | refine bS ?_ GE479.out | refine bS ?_ GE480.out | refine bS ?_ GE481.out | refine bS ?_ GE482.out) | exact HB.out)) hb); clear BK479; clear BK480; clear BK481; clear BK482; clear HB; have BK479 := n0_; have BK480 := n1_; have BK481 := n2_; have BK482 := n3_; have HB := n4_; clear n0_ n1_ n2_ n3_ n4_; (try clear hb); (try clear hb2); (try clear hk); (try clear hi))))
  (try simp only [Act.put, List.setIfInBounds_toArray, List.set_cons_zero, List.set_cons_succ])
  go_cut [55] (fun v55 wc => ∃ (kq : Nat) (x55_7 : Bool), v55 = .bool x55_7 ∧ Aside0 (palanquinlaw09_FlowValid.j0 kq a4 x55_7 a0_0 a0_1 a0_2 a0_3 a0_4 a0_5 a0_6 a0_7 a0_8 a0_9 a1_0 a1_1 a1_2 a1_3 a1_4 a1_5 a2_0 a2_1 a2_2 a2_3 a2_4 a2_5 a2_6 a2_7 a2_8 a3_0 a3_1 a3_2 = some r) ∧ Aside0 (kq ≤ k) ∧ Aside0 (wc.heap[gb479]? = some (.cells #[.int .i64 a0_0, .int .i64 a0_1, .int .i64 a0_2, .int .i64 a0_3, .int .i64 a0_4, .bool a0_5, .bool a0_6, .string a0_7, .string a0_8, .string a0_9] 69 (0, 0))) ∧ Aside0 (wc.heap[gb480]? = some (.cells #[.int .i64 a1_0, .int .i64 a1_1, .int .i64 a1_2, .int .i64 a1_3, .string a1_4, .string a1_5] 71 (0, 0))) ∧ Aside0 (wc.heap[gb481]? = some (.cells #[.int .i64 a2_0, .int .i64 a2_1, .int .u32 a2_2, .int .u32 a2_3, .int .i64 a2_4, .int .i64 a2_5, .int .i64 a2_6, .string a2_7, .string a2_8] 79 (0, 0))) ∧ Aside0 (wc.heap[gb482]? = some (.cells #[.int .i64 a3_0, .int .i64 a3_1, .string a3_2] 81 (0, 0))) ∧ Aside0 (Below w.heap.size w wc))
  case first =>
   have H := HC8.out
   clear HC8
   replace H := Option.bind_eq_some_iff.mp H
   obtain ⟨t484, A140, H⟩ := H
   try dsimp +instances only at H
   have A14 := mA A140
   clear A140
   by_cases c15 : t484 = true
   ·subst c15
    rw [if_pos rfl] at H
    replace H := Option.bind_eq_some_iff.mp H
    obtain ⟨t485, A160, H⟩ := H
    try dsimp +instances only at H
    have A16 := mA A160
    clear A160
    by_cases c17 : t485 = true
    ·subst c17
     rw [if_pos rfl] at H
     by_cases c18 : (a2_8.size : Int) > 3000
     ·rw [if_pos c18] at H
      have c18b0 : decide (3000 < (a2_8.size : Int)) = true := decide_eq_true c18
      have c18b1 : decide (3000 < a2_8.size) = true := decide_eq_true (by omega)
      clear c18
      (first | rw [c18b0] | (simp only [i64_w, i32_w]; rw [c18b0]) | skip)
      have H' := mA H
      clear H
      have hnb19 := NB479_480.out
      have hnc19 := NB480_479.out
      have hnb20 := NB479_481.out
      have hnc20 := NB481_479.out
      have hnb21 := NB479_482.out
      have hnc21 := NB482_479.out
      obtain ⟨hcz22_0, hcz22_1, hcz22_2, hcz22_3, hcz22_4, hcz22_5, hcz22_6, hcz22_7, hcz22_8, hcz22_9⟩ := bc10 BK479.out
      obtain ⟨hfz22_0, hfz22_1, hfz22_2, hfz22_3, hfz22_4, hfz22_5, hfz22_6, hfz22_7, hfz22_8, hfz22_9⟩ := bf10 BK479.out
      go_wp2_with (first | (go_at_call 42; (with_reducible refine (palanquinlaw09_few.calls a0_7 a0_8 a0_9 true _ A14.out).mono ?_); rintro e w' ⟨rfl, ⟨nd, rfl⟩⟩; (try first | exact ⟨rfl, _, World.drewN_drewN _ _ _⟩ | exact ⟨rfl, _, Eq.trans (World.drewN_drewN _ _ _) (congrArg (World.drewN _) (Nat.add_assoc _ _ _))⟩); have hnb23 := NB480_481.out; have hnc23 := NB481_480.out; have hnb24 := NB480_482.out; have hnc24 := NB482_480.out; obtain ⟨hcz25_0, hcz25_1, hcz25_2, hcz25_3, hcz25_4, hcz25_5⟩ := bc6 BK480.out; obtain ⟨hfz25_0, hfz25_1, hfz25_2, hfz25_3, hfz25_4, hfz25_5⟩ := bf6 BK480.out; have hnb26 := NB481_482.out; have hnc26 := NB482_481.out; obtain ⟨hcz27_0, hcz27_1, hcz27_2, hcz27_3, hcz27_4, hcz27_5, hcz27_6, hcz27_7, hcz27_8⟩ := bc9 BK481.out; obtain ⟨hfz27_0, hfz27_1, hfz27_2, hfz27_3, hfz27_4, hfz27_5, hfz27_6, hfz27_7, hfz27_8⟩ := bf9 BK481.out) | (go_at_call 42; (with_reducible refine (palanquinlaw09_few.calls a1_4 a1_5 a2_7 true _ A16.out).mono ?_); rintro e w' ⟨rfl, ⟨nd, rfl⟩⟩; (try first | exact ⟨rfl, _, World.drewN_drewN _ _ _⟩ | exact ⟨rfl, _, Eq.trans (World.drewN_drewN _ _ _) (congrArg (World.drewN _) (Nat.add_assoc _ _ _))⟩)))
      try obtain ⟨hcz25_0, hcz25_1, hcz25_2, hcz25_3, hcz25_4, hcz25_5⟩ := bc6 BK480.out
      try obtain ⟨hfz25_0, hfz25_1, hfz25_2, hfz25_3, hfz25_4, hfz25_5⟩ := bf6 BK480.out
      try obtain ⟨hcz27_0, hcz27_1, hcz27_2, hcz27_3, hcz27_4, hcz27_5, hcz27_6, hcz27_7, hcz27_8⟩ := bc9 BK481.out
      try obtain ⟨hfz27_0, hfz27_1, hfz27_2, hfz27_3, hfz27_4, hfz27_5, hfz27_6, hfz27_7, hfz27_8⟩ := bf9 BK481.out
      repeat (go_quiet (first | (go_at_call 42; (with_reducible refine (palanquinlaw09_few.calls a0_7 a0_8 a0_9 true _ A14.out).mono ?_); rintro e w' ⟨rfl, ⟨nd, rfl⟩⟩; (try first | exact ⟨rfl, _, World.drewN_drewN _ _ _⟩ | exact ⟨rfl, _, Eq.trans (World.drewN_drewN _ _ _) (congrArg (World.drewN _) (Nat.add_assoc _ _ _))⟩); have hnb23 := NB480_481.out; have hnc23 := NB481_480.out; have hnb24 := NB480_482.out; have hnc24 := NB482_480.out; try obtain ⟨hcz25_0, hcz25_1, hcz25_2, hcz25_3, hcz25_4, hcz25_5⟩ := bc6 BK480.out; try obtain ⟨hfz25_0, hfz25_1, hfz25_2, hfz25_3, hfz25_4, hfz25_5⟩ := bf6 BK480.out; have hnb26 := NB481_482.out; have hnc26 := NB482_481.out; try obtain ⟨hcz27_0, hcz27_1, hcz27_2, hcz27_3, hcz27_4, hcz27_5, hcz27_6, hcz27_7, hcz27_8⟩ := bc9 BK481.out; try obtain ⟨hfz27_0, hfz27_1, hfz27_2, hfz27_3, hfz27_4, hfz27_5, hfz27_6, hfz27_7, hfz27_8⟩ := bf9 BK481.out) | (go_at_call 42; (with_reducible refine (palanquinlaw09_few.calls a1_4 a1_5 a2_7 true _ A16.out).mono ?_); rintro e w' ⟨rfl, ⟨nd, rfl⟩⟩; (try first | exact ⟨rfl, _, World.drewN_drewN _ _ _⟩ | exact ⟨rfl, _, Eq.trans (World.drewN_drewN _ _ _) (congrArg (World.drewN _) (Nat.add_assoc _ _ _))⟩))); try go_wp2_with (first | (go_at_call 42; (with_reducible refine (palanquinlaw09_few.calls a0_7 a0_8 a0_9 true _ A14.out).mono ?_); rintro e w' ⟨rfl, ⟨nd, rfl⟩⟩; (try first | exact ⟨rfl, _, World.drewN_drewN _ _ _⟩ | exact ⟨rfl, _, Eq.trans (World.drewN_drewN _ _ _) (congrArg (World.drewN _) (Nat.add_assoc _ _ _))⟩); have hnb23 := NB480_481.out; have hnc23 := NB481_480.out; have hnb24 := NB480_482.out; have hnc24 := NB482_480.out; try obtain ⟨hcz25_0, hcz25_1, hcz25_2, hcz25_3, hcz25_4, hcz25_5⟩ := bc6 BK480.out; try obtain ⟨hfz25_0, hfz25_1, hfz25_2, hfz25_3, hfz25_4, hfz25_5⟩ := bf6 BK480.out; have hnb26 := NB481_482.out; have hnc26 := NB482_481.out; try obtain ⟨hcz27_0, hcz27_1, hcz27_2, hcz27_3, hcz27_4, hcz27_5, hcz27_6, hcz27_7, hcz27_8⟩ := bc9 BK481.out; try obtain ⟨hfz27_0, hfz27_1, hfz27_2, hfz27_3, hfz27_4, hfz27_5, hfz27_6, hfz27_7, hfz27_8⟩ := bf9 BK481.out) | (go_at_call 42; (with_reducible refine (palanquinlaw09_few.calls a1_4 a1_5 a2_7 true _ A16.out).mono ?_); rintro e w' ⟨rfl, ⟨nd, rfl⟩⟩; (try first | exact ⟨rfl, _, World.drewN_drewN _ _ _⟩ | exact ⟨rfl, _, Eq.trans (World.drewN_drewN _ _ _) (congrArg (World.drewN _) (Nat.add_assoc _ _ _))⟩))))
      go_meet
      case rel => exact ⟨_, (true), (by first | rfl | (simp; done) | (simp [*]; done)), H', ⟨by first | omega | exact Nat.le_refl _⟩, ⟨by (with_reducible repeat (first | apply kN | apply kD | apply kA)); exact BK479.out⟩, ⟨by (with_reducible repeat (first | apply kN | apply kD | apply kA)); exact BK480.out⟩, ⟨by (with_reducible repeat (first | apply kN | apply kD | apply kA)); exact BK481.out⟩, ⟨by (with_reducible repeat (first | apply kN | apply kD | apply kA)); exact BK482.out⟩, ⟨by repeat (first | (with_reducible first | exact HB.out | apply bA | apply bN | apply bD | refine bS ?_ GE479.out | refine bS ?_ GE480.out | refine bS ?_ GE481.out | refine bS ?_ GE482.out) | exact HB.out)⟩⟩
     ·rw [if_neg c18] at H
      have c18b0 : decide (3000 < (a2_8.size : Int)) = false := decide_eq_false c18
      have c18b1 : decide (3000 < a2_8.size) = false := decide_eq_false (by omega)
      clear c18
      (first | rw [c18b0] | (simp only [i64_w, i32_w]; rw [c18b0]) | skip)
      have H' := mA H
      clear H
      have hnb28 := NB479_480.out
      have hnc28 := NB480_479.out
      have hnb29 := NB479_481.out
      have hnc29 := NB481_479.out
      have hnb30 := NB479_482.out
      have hnc30 := NB482_479.out
      obtain ⟨hcz31_0, hcz31_1, hcz31_2, hcz31_3, hcz31_4, hcz31_5, hcz31_6, hcz31_7, hcz31_8, hcz31_9⟩ := bc10 BK479.out
      obtain ⟨hfz31_0, hfz31_1, hfz31_2, hfz31_3, hfz31_4, hfz31_5, hfz31_6, hfz31_7, hfz31_8, hfz31_9⟩ := bf10 BK479.out
      go_wp2_with (first | (go_at_call 42; (with_reducible refine (palanquinlaw09_few.calls a0_7 a0_8 a0_9 true _ A14.out).mono ?_); rintro e w' ⟨rfl, ⟨nd, rfl⟩⟩; (try first | exact ⟨rfl, _, World.drewN_drewN _ _ _⟩ | exact ⟨rfl, _, Eq.trans (World.drewN_drewN _ _ _) (congrArg (World.drewN _) (Nat.add_assoc _ _ _))⟩); have hnb32 := NB480_481.out; have hnc32 := NB481_480.out; have hnb33 := NB480_482.out; have hnc33 := NB482_480.out; obtain ⟨hcz34_0, hcz34_1, hcz34_2, hcz34_3, hcz34_4, hcz34_5⟩ := bc6 BK480.out; obtain ⟨hfz34_0, hfz34_1, hfz34_2, hfz34_3, hfz34_4, hfz34_5⟩ := bf6 BK480.out; have hnb35 := NB481_482.out; have hnc35 := NB482_481.out; obtain ⟨hcz36_0, hcz36_1, hcz36_2, hcz36_3, hcz36_4, hcz36_5, hcz36_6, hcz36_7, hcz36_8⟩ := bc9 BK481.out; obtain ⟨hfz36_0, hfz36_1, hfz36_2, hfz36_3, hfz36_4, hfz36_5, hfz36_6, hfz36_7, hfz36_8⟩ := bf9 BK481.out) | (go_at_call 42; (with_reducible refine (palanquinlaw09_few.calls a1_4 a1_5 a2_7 true _ A16.out).mono ?_); rintro e w' ⟨rfl, ⟨nd, rfl⟩⟩; (try first | exact ⟨rfl, _, World.drewN_drewN _ _ _⟩ | exact ⟨rfl, _, Eq.trans (World.drewN_drewN _ _ _) (congrArg (World.drewN _) (Nat.add_assoc _ _ _))⟩); obtain ⟨hcz37_0, hcz37_1, hcz37_2⟩ := bc3 BK482.out; obtain ⟨hfz37_0, hfz37_1, hfz37_2⟩ := bf3 BK482.out))
      try obtain ⟨hcz34_0, hcz34_1, hcz34_2, hcz34_3, hcz34_4, hcz34_5⟩ := bc6 BK480.out
      try obtain ⟨hfz34_0, hfz34_1, hfz34_2, hfz34_3, hfz34_4, hfz34_5⟩ := bf6 BK480.out
      try obtain ⟨hcz36_0, hcz36_1, hcz36_2, hcz36_3, hcz36_4, hcz36_5, hcz36_6, hcz36_7, hcz36_8⟩ := bc9 BK481.out
      try obtain ⟨hfz36_0, hfz36_1, hfz36_2, hfz36_3, hfz36_4, hfz36_5, hfz36_6, hfz36_7, hfz36_8⟩ := bf9 BK481.out
      try obtain ⟨hcz37_0, hcz37_1, hcz37_2⟩ := bc3 BK482.out
      try obtain ⟨hfz37_0, hfz37_1, hfz37_2⟩ := bf3 BK482.out
      repeat (go_quiet (first | (go_at_call 42; (with_reducible refine (palanquinlaw09_few.calls a0_7 a0_8 a0_9 true _ A14.out).mono ?_); rintro e w' ⟨rfl, ⟨nd, rfl⟩⟩; (try first | exact ⟨rfl, _, World.drewN_drewN _ _ _⟩ | exact ⟨rfl, _, Eq.trans (World.drewN_drewN _ _ _) (congrArg (World.drewN _) (Nat.add_assoc _ _ _))⟩); have hnb32 := NB480_481.out; have hnc32 := NB481_480.out; have hnb33 := NB480_482.out; have hnc33 := NB482_480.out; try obtain ⟨hcz34_0, hcz34_1, hcz34_2, hcz34_3, hcz34_4, hcz34_5⟩ := bc6 BK480.out; try obtain ⟨hfz34_0, hfz34_1, hfz34_2, hfz34_3, hfz34_4, hfz34_5⟩ := bf6 BK480.out; have hnb35 := NB481_482.out; have hnc35 := NB482_481.out; try obtain ⟨hcz36_0, hcz36_1, hcz36_2, hcz36_3, hcz36_4, hcz36_5, hcz36_6, hcz36_7, hcz36_8⟩ := bc9 BK481.out; try obtain ⟨hfz36_0, hfz36_1, hfz36_2, hfz36_3, hfz36_4, hfz36_5, hfz36_6, hfz36_7, hfz36_8⟩ := bf9 BK481.out) | (go_at_call 42; (with_reducible refine (palanquinlaw09_few.calls a1_4 a1_5 a2_7 true _ A16.out).mono ?_); rintro e w' ⟨rfl, ⟨nd, rfl⟩⟩; (try first | exact ⟨rfl, _, World.drewN_drewN _ _ _⟩ | exact ⟨rfl, _, Eq.trans (World.drewN_drewN _ _ _) (congrArg (World.drewN _) (Nat.add_assoc _ _ _))⟩); try obtain ⟨hcz37_0, hcz37_1, hcz37_2⟩ := bc3 BK482.out; try obtain ⟨hfz37_0, hfz37_1, hfz37_2⟩ := bf3 BK482.out)); try go_wp2_with (first | (go_at_call 42; (with_reducible refine (palanquinlaw09_few.calls a0_7 a0_8 a0_9 true _ A14.out).mono ?_); rintro e w' ⟨rfl, ⟨nd, rfl⟩⟩; (try first | exact ⟨rfl, _, World.drewN_drewN _ _ _⟩ | exact ⟨rfl, _, Eq.trans (World.drewN_drewN _ _ _) (congrArg (World.drewN _) (Nat.add_assoc _ _ _))⟩); have hnb32 := NB480_481.out; have hnc32 := NB481_480.out; have hnb33 := NB480_482.out; have hnc33 := NB482_480.out; try obtain ⟨hcz34_0, hcz34_1, hcz34_2, hcz34_3, hcz34_4, hcz34_5⟩ := bc6 BK480.out; try obtain ⟨hfz34_0, hfz34_1, hfz34_2, hfz34_3, hfz34_4, hfz34_5⟩ := bf6 BK480.out; have hnb35 := NB481_482.out; have hnc35 := NB482_481.out; try obtain ⟨hcz36_0, hcz36_1, hcz36_2, hcz36_3, hcz36_4, hcz36_5, hcz36_6, hcz36_7, hcz36_8⟩ := bc9 BK481.out; try obtain ⟨hfz36_0, hfz36_1, hfz36_2, hfz36_3, hfz36_4, hfz36_5, hfz36_6, hfz36_7, hfz36_8⟩ := bf9 BK481.out) | (go_at_call 42; (with_reducible refine (palanquinlaw09_few.calls a1_4 a1_5 a2_7 true _ A16.out).mono ?_); rintro e w' ⟨rfl, ⟨nd, rfl⟩⟩; (try first | exact ⟨rfl, _, World.drewN_drewN _ _ _⟩ | exact ⟨rfl, _, Eq.trans (World.drewN_drewN _ _ _) (congrArg (World.drewN _) (Nat.add_assoc _ _ _))⟩); try obtain ⟨hcz37_0, hcz37_1, hcz37_2⟩ := bc3 BK482.out; try obtain ⟨hfz37_0, hfz37_1, hfz37_2⟩ := bf3 BK482.out)))
      go_meet
      case rel => exact ⟨_, (decide ((a3_2.size : Int) > 3000)), (by first | rfl | (simp; done) | (simp [*]; done)), H', ⟨by first | omega | exact Nat.le_refl _⟩, ⟨by (with_reducible repeat (first | apply kN | apply kD | apply kA)); exact BK479.out⟩, ⟨by (with_reducible repeat (first | apply kN | apply kD | apply kA)); exact BK480.out⟩, ⟨by (with_reducible repeat (first | apply kN | apply kD | apply kA)); exact BK481.out⟩, ⟨by (with_reducible repeat (first | apply kN | apply kD | apply kA)); exact BK482.out⟩, ⟨by repeat (first | (with_reducible first | exact HB.out | apply bA | apply bN | apply bD | refine bS ?_ GE479.out | refine bS ?_ GE480.out | refine bS ?_ GE481.out | refine bS ?_ GE482.out) | exact HB.out)⟩⟩
    ·replace c17 := Bool.eq_false_iff.mpr c17
     subst c17
     rw [if_neg (show ¬ (false = true) by decide)] at H
     have H' := mA H
     clear H
     have hnb38 := NB479_480.out
     have hnc38 := NB480_479.out
     have hnb39 := NB479_481.out
     have hnc39 := NB481_479.out
     have hnb40 := NB479_482.out
     have hnc40 := NB482_479.out
     obtain ⟨hcz41_0, hcz41_1, hcz41_2, hcz41_3, hcz41_4, hcz41_5, hcz41_6, hcz41_7, hcz41_8, hcz41_9⟩ := bc10 BK479.out
     obtain ⟨hfz41_0, hfz41_1, hfz41_2, hfz41_3, hfz41_4, hfz41_5, hfz41_6, hfz41_7, hfz41_8, hfz41_9⟩ := bf10 BK479.out
     go_wp2_with (first | (go_at_call 42; (with_reducible refine (palanquinlaw09_few.calls a0_7 a0_8 a0_9 true _ A14.out).mono ?_); rintro e w' ⟨rfl, ⟨nd, rfl⟩⟩; (try first | exact ⟨rfl, _, World.drewN_drewN _ _ _⟩ | exact ⟨rfl, _, Eq.trans (World.drewN_drewN _ _ _) (congrArg (World.drewN _) (Nat.add_assoc _ _ _))⟩); have hnb42 := NB480_481.out; have hnc42 := NB481_480.out; have hnb43 := NB480_482.out; have hnc43 := NB482_480.out; obtain ⟨hcz44_0, hcz44_1, hcz44_2, hcz44_3, hcz44_4, hcz44_5⟩ := bc6 BK480.out; obtain ⟨hfz44_0, hfz44_1, hfz44_2, hfz44_3, hfz44_4, hfz44_5⟩ := bf6 BK480.out; have hnb45 := NB481_482.out; have hnc45 := NB482_481.out; obtain ⟨hcz46_0, hcz46_1, hcz46_2, hcz46_3, hcz46_4, hcz46_5, hcz46_6, hcz46_7, hcz46_8⟩ := bc9 BK481.out; obtain ⟨hfz46_0, hfz46_1, hfz46_2, hfz46_3, hfz46_4, hfz46_5, hfz46_6, hfz46_7, hfz46_8⟩ := bf9 BK481.out) | (go_at_call 42; (with_reducible refine (palanquinlaw09_few.calls a1_4 a1_5 a2_7 false _ A16.out).mono ?_); rintro e w' ⟨rfl, ⟨nd, rfl⟩⟩; (try first | exact ⟨rfl, _, World.drewN_drewN _ _ _⟩ | exact ⟨rfl, _, Eq.trans (World.drewN_drewN _ _ _) (congrArg (World.drewN _) (Nat.add_assoc _ _ _))⟩)))
     try obtain ⟨hcz44_0, hcz44_1, hcz44_2, hcz44_3, hcz44_4, hcz44_5⟩ := bc6 BK480.out
     try obtain ⟨hfz44_0, hfz44_1, hfz44_2, hfz44_3, hfz44_4, hfz44_5⟩ := bf6 BK480.out
     try obtain ⟨hcz46_0, hcz46_1, hcz46_2, hcz46_3, hcz46_4, hcz46_5, hcz46_6, hcz46_7, hcz46_8⟩ := bc9 BK481.out
     try obtain ⟨hfz46_0, hfz46_1, hfz46_2, hfz46_3, hfz46_4, hfz46_5, hfz46_6, hfz46_7, hfz46_8⟩ := bf9 BK481.out
     repeat (go_quiet (first | (go_at_call 42; (with_reducible refine (palanquinlaw09_few.calls a0_7 a0_8 a0_9 true _ A14.out).mono ?_); rintro e w' ⟨rfl, ⟨nd, rfl⟩⟩; (try first | exact ⟨rfl, _, World.drewN_drewN _ _ _⟩ | exact ⟨rfl, _, Eq.trans (World.drewN_drewN _ _ _) (congrArg (World.drewN _) (Nat.add_assoc _ _ _))⟩); have hnb42 := NB480_481.out; have hnc42 := NB481_480.out; have hnb43 := NB480_482.out; have hnc43 := NB482_480.out; try obtain ⟨hcz44_0, hcz44_1, hcz44_2, hcz44_3, hcz44_4, hcz44_5⟩ := bc6 BK480.out; try obtain ⟨hfz44_0, hfz44_1, hfz44_2, hfz44_3, hfz44_4, hfz44_5⟩ := bf6 BK480.out; have hnb45 := NB481_482.out; have hnc45 := NB482_481.out; try obtain ⟨hcz46_0, hcz46_1, hcz46_2, hcz46_3, hcz46_4, hcz46_5, hcz46_6, hcz46_7, hcz46_8⟩ := bc9 BK481.out; try obtain ⟨hfz46_0, hfz46_1, hfz46_2, hfz46_3, hfz46_4, hfz46_5, hfz46_6, hfz46_7, hfz46_8⟩ := bf9 BK481.out) | (go_at_call 42; (with_reducible refine (palanquinlaw09_few.calls a1_4 a1_5 a2_7 false _ A16.out).mono ?_); rintro e w' ⟨rfl, ⟨nd, rfl⟩⟩; (try first | exact ⟨rfl, _, World.drewN_drewN _ _ _⟩ | exact ⟨rfl, _, Eq.trans (World.drewN_drewN _ _ _) (congrArg (World.drewN _) (Nat.add_assoc _ _ _))⟩))); try go_wp2_with (first | (go_at_call 42; (with_reducible refine (palanquinlaw09_few.calls a0_7 a0_8 a0_9 true _ A14.out).mono ?_); rintro e w' ⟨rfl, ⟨nd, rfl⟩⟩; (try first | exact ⟨rfl, _, World.drewN_drewN _ _ _⟩ | exact ⟨rfl, _, Eq.trans (World.drewN_drewN _ _ _) (congrArg (World.drewN _) (Nat.add_assoc _ _ _))⟩); have hnb42 := NB480_481.out; have hnc42 := NB481_480.out; have hnb43 := NB480_482.out; have hnc43 := NB482_480.out; try obtain ⟨hcz44_0, hcz44_1, hcz44_2, hcz44_3, hcz44_4, hcz44_5⟩ := bc6 BK480.out; try obtain ⟨hfz44_0, hfz44_1, hfz44_2, hfz44_3, hfz44_4, hfz44_5⟩ := bf6 BK480.out; have hnb45 := NB481_482.out; have hnc45 := NB482_481.out; try obtain ⟨hcz46_0, hcz46_1, hcz46_2, hcz46_3, hcz46_4, hcz46_5, hcz46_6, hcz46_7, hcz46_8⟩ := bc9 BK481.out; try obtain ⟨hfz46_0, hfz46_1, hfz46_2, hfz46_3, hfz46_4, hfz46_5, hfz46_6, hfz46_7, hfz46_8⟩ := bf9 BK481.out) | (go_at_call 42; (with_reducible refine (palanquinlaw09_few.calls a1_4 a1_5 a2_7 false _ A16.out).mono ?_); rintro e w' ⟨rfl, ⟨nd, rfl⟩⟩; (try first | exact ⟨rfl, _, World.drewN_drewN _ _ _⟩ | exact ⟨rfl, _, Eq.trans (World.drewN_drewN _ _ _) (congrArg (World.drewN _) (Nat.add_assoc _ _ _))⟩))))
     go_meet
     case rel => exact ⟨_, (true), (by first | rfl | (simp; done) | (simp [*]; done)), H', ⟨by first | omega | exact Nat.le_refl _⟩, ⟨by (with_reducible repeat (first | apply kN | apply kD | apply kA)); exact BK479.out⟩, ⟨by (with_reducible repeat (first | apply kN | apply kD | apply kA)); exact BK480.out⟩, ⟨by (with_reducible repeat (first | apply kN | apply kD | apply kA)); exact BK481.out⟩, ⟨by (with_reducible repeat (first | apply kN | apply kD | apply kA)); exact BK482.out⟩, ⟨by repeat (first | (with_reducible first | exact HB.out | apply bA | apply bN | apply bD | refine bS ?_ GE479.out | refine bS ?_ GE480.out | refine bS ?_ GE481.out | refine bS ?_ GE482.out) | exact HB.out)⟩⟩
   ·replace c15 := Bool.eq_false_iff.mpr c15
    subst c15
    rw [if_neg (show ¬ (false = true) by decide)] at H
    have H' := mA H
    clear H
    have hnb47 := NB479_480.out
    have hnc47 := NB480_479.out
    have hnb48 := NB479_481.out
    have hnc48 := NB481_479.out
    have hnb49 := NB479_482.out
    have hnc49 := NB482_479.out
    obtain ⟨hcz50_0, hcz50_1, hcz50_2, hcz50_3, hcz50_4, hcz50_5, hcz50_6, hcz50_7, hcz50_8, hcz50_9⟩ := bc10 BK479.out
    obtain ⟨hfz50_0, hfz50_1, hfz50_2, hfz50_3, hfz50_4, hfz50_5, hfz50_6, hfz50_7, hfz50_8, hfz50_9⟩ := bf10 BK479.out
    go_wp2_with (first | (go_at_call 42; (with_reducible refine (palanquinlaw09_few.calls a0_7 a0_8 a0_9 false _ A14.out).mono ?_); rintro e w' ⟨rfl, ⟨nd, rfl⟩⟩; (try first | exact ⟨rfl, _, World.drewN_drewN _ _ _⟩ | exact ⟨rfl, _, Eq.trans (World.drewN_drewN _ _ _) (congrArg (World.drewN _) (Nat.add_assoc _ _ _))⟩)))
    repeat (go_quiet (first | (go_at_call 42; (with_reducible refine (palanquinlaw09_few.calls a0_7 a0_8 a0_9 false _ A14.out).mono ?_); rintro e w' ⟨rfl, ⟨nd, rfl⟩⟩; (try first | exact ⟨rfl, _, World.drewN_drewN _ _ _⟩ | exact ⟨rfl, _, Eq.trans (World.drewN_drewN _ _ _) (congrArg (World.drewN _) (Nat.add_assoc _ _ _))⟩))); try go_wp2_with (first | (go_at_call 42; (with_reducible refine (palanquinlaw09_few.calls a0_7 a0_8 a0_9 false _ A14.out).mono ?_); rintro e w' ⟨rfl, ⟨nd, rfl⟩⟩; (try first | exact ⟨rfl, _, World.drewN_drewN _ _ _⟩ | exact ⟨rfl, _, Eq.trans (World.drewN_drewN _ _ _) (congrArg (World.drewN _) (Nat.add_assoc _ _ _))⟩))))
    go_meet
    case rel => exact ⟨_, (true), (by first | rfl | (simp; done) | (simp [*]; done)), H', ⟨by first | omega | exact Nat.le_refl _⟩, ⟨by (with_reducible repeat (first | apply kN | apply kD | apply kA)); exact BK479.out⟩, ⟨by (with_reducible repeat (first | apply kN | apply kD | apply kA)); exact BK480.out⟩, ⟨by (with_reducible repeat (first | apply kN | apply kD | apply kA)); exact BK481.out⟩, ⟨by (with_reducible repeat (first | apply kN | apply kD | apply kA)); exact BK482.out⟩, ⟨by repeat (first | (with_reducible first | exact HB.out | apply bA | apply bN | apply bD | refine bS ?_ GE479.out | refine bS ?_ GE480.out | refine bS ?_ GE481.out | refine bS ?_ GE482.out) | exact HB.out)⟩⟩
  case rest =>
   clear HC8
   try clear c1
   try clear c2
   try clear p2
   try clear c3
   try clear c4
   try clear c7
   try clear c15
   try clear c16
   try clear c17
   try clear c18
   try clear c18b0
   try clear c18b1
   try clear c19
   try clear c20
   try clear c21
   try clear c23
   try clear c24
   try clear c26
   try clear c28
   try clear c29
   try clear c30
   try clear c32
   try clear c33
   try clear c35
   try clear c38
   try clear c39
   try clear c40
   try clear c42
   try clear c43
   try clear c45
   try clear c47
   try clear c48
   try clear c49
   try clear hcz22_0 hcz22_1 hcz22_2 hcz22_3 hcz22_4 hcz22_5 hcz22_6 hcz22_7 hcz22_8 hcz22_9
   try clear hcz25_0 hcz25_1 hcz25_2 hcz25_3 hcz25_4 hcz25_5
   try clear hcz27_0 hcz27_1 hcz27_2 hcz27_3 hcz27_4 hcz27_5 hcz27_6 hcz27_7 hcz27_8
   try clear hcz31_0 hcz31_1 hcz31_2 hcz31_3 hcz31_4 hcz31_5 hcz31_6 hcz31_7 hcz31_8 hcz31_9
   try clear hcz34_0 hcz34_1 hcz34_2 hcz34_3 hcz34_4 hcz34_5
   try clear hcz36_0 hcz36_1 hcz36_2 hcz36_3 hcz36_4 hcz36_5 hcz36_6 hcz36_7 hcz36_8
   try clear hcz37_0 hcz37_1 hcz37_2
   try clear hcz41_0 hcz41_1 hcz41_2 hcz41_3 hcz41_4 hcz41_5 hcz41_6 hcz41_7 hcz41_8 hcz41_9
   try clear hcz44_0 hcz44_1 hcz44_2 hcz44_3 hcz44_4 hcz44_5
   try clear hcz46_0 hcz46_1 hcz46_2 hcz46_3 hcz46_4 hcz46_5 hcz46_6 hcz46_7 hcz46_8
   try clear hcz50_0 hcz50_1 hcz50_2 hcz50_3 hcz50_4 hcz50_5 hcz50_6 hcz50_7 hcz50_8 hcz50_9
   try clear hfz22_0 hfz22_1 hfz22_2 hfz22_3 hfz22_4 hfz22_5 hfz22_6 hfz22_7 hfz22_8 hfz22_9
   try clear hfz25_0 hfz25_1 hfz25_2 hfz25_3 hfz25_4 hfz25_5
   try clear hfz27_0 hfz27_1 hfz27_2 hfz27_3 hfz27_4 hfz27_5 hfz27_6 hfz27_7 hfz27_8
   try clear hfz31_0 hfz31_1 hfz31_2 hfz31_3 hfz31_4 hfz31_5 hfz31_6 hfz31_7 hfz31_8 hfz31_9
   try clear hfz34_0 hfz34_1 hfz34_2 hfz34_3 hfz34_4 hfz34_5
   try clear hfz36_0 hfz36_1 hfz36_2 hfz36_3 hfz36_4 hfz36_5 hfz36_6 hfz36_7 hfz36_8
   try clear hfz37_0 hfz37_1 hfz37_2
   try clear hfz41_0 hfz41_1 hfz41_2 hfz41_3 hfz41_4 hfz41_5 hfz41_6 hfz41_7 hfz41_8 hfz41_9
   try clear hfz44_0 hfz44_1 hfz44_2 hfz44_3 hfz44_4 hfz44_5
   try clear hfz46_0 hfz46_1 hfz46_2 hfz46_3 hfz46_4 hfz46_5 hfz46_6 hfz46_7 hfz46_8
   try clear hfz50_0 hfz50_1 hfz50_2 hfz50_3 hfz50_4 hfz50_5 hfz50_6 hfz50_7 hfz50_8 hfz50_9
   obtain ⟨kq, x55_7, rfl, HA, HJ7, BK479, BK480, BK481, BK482, HB⟩ := hcut
   cases kq with
   | zero => exact absurd HA.out (by simp [palanquinlaw09_FlowValid.j0])
   | succ kj7 =>
    have H := HA.out
    clear HA
    simp only [palanquinlaw09_FlowValid.j0] at H
    by_cases c51 : x55_7 = true
    ·subst c51
     rw [if_pos rfl] at H
     obtain rfl := Option.some.inj H
     go_wp2
     repeat (go_quiet (fail); try go_wp2)
     go_ret
     exact ⟨by first | rfl | (simp [errW_none, errW_some] <;> rfl) | (simp [*, errW_none, errW_some] <;> rfl), by repeat (first | (with_reducible first | exact HB.out | apply bA | apply bN | apply bD | refine bS ?_ GE479.out | refine bS ?_ GE480.out | refine bS ?_ GE481.out | refine bS ?_ GE482.out) | exact HB.out)⟩
    ·replace c51 := Bool.eq_false_iff.mpr c51
     subst c51
     rw [if_neg (show ¬ (false = true) by decide)] at H
     replace H := Option.bind_eq_some_iff.mp H
     obtain ⟨⟨t486, t487⟩, A520, H⟩ := H
     try dsimp +instances only at H
     have A52 := mA A520
     clear A520
     have HC53 := mA H
     clear H
     have hnb54 := NB481_479.out
     have hnc54 := NB479_481.out
     have hnb55 := NB481_480.out
     have hnc55 := NB480_481.out
     have hnb56 := NB481_482.out
     have hnc56 := NB482_481.out
     obtain ⟨hcz57_0, hcz57_1, hcz57_2, hcz57_3, hcz57_4, hcz57_5, hcz57_6, hcz57_7, hcz57_8⟩ := bc9 BK481.out
     obtain ⟨hfz57_0, hfz57_1, hfz57_2, hfz57_3, hfz57_4, hfz57_5, hfz57_6, hfz57_7, hfz57_8⟩ := bf9 BK481.out
     go_upto_if 67 with (first | (go_at_call 48; (with_reducible refine (palanquinref07_Put.calls kj7 a2_0 a2_1 a2_2 a2_3 a2_4 a2_5 a2_6 a2_7 a2_8 0 t486 t487 _ A52.out).mono ?_); rintro e w58 ⟨rfl, hb⟩; have n0_ := mA (blk_below (g := gb479) (o := .cells #[.int .i64 a0_0, .int .i64 a0_1, .int .i64 a0_2, .int .i64 a0_3, .int .i64 a0_4, .bool a0_5, .bool a0_6, .string a0_7, .string a0_8, .string a0_9] 69 (0, 0)) (by (with_reducible repeat (first | apply kN | apply kD | apply kA)); exact BK479.out) hb); have n1_ := mA (blk_below (g := gb480) (o := .cells #[.int .i64 a1_0, .int .i64 a1_1, .int .i64 a1_2, .int .i64 a1_3, .string a1_4, .string a1_5] 71 (0, 0)) (by (with_reducible repeat (first | apply kN | apply kD | apply kA)); exact BK480.out) hb); have n2_ := mA (blk_below (g := gb481) (o := .cells #[.int .i64 a2_0, .int .i64 a2_1, .int .u32 a2_2, .int .u32 a2_3, .int .i64 a2_4, .int .i64 a2_5, .int .i64 a2_6, .string a2_7, .string a2_8] 79 (0, 0)) (by (with_reducible repeat (first | apply kN | apply kD | apply kA)); exact BK481.out) hb); have n3_ := mA (blk_below (g := gb482) (o := .cells #[.int .i64 a3_0, .int .i64 a3_1, .string a3_2] 81 (0, 0)) (by (with_reducible repeat (first | apply kN | apply kD | apply kA)); exact BK482.out) hb); have n4_ := mA (bP (by repeat (first | (with_reducible first | exact HB.out | apply bA | apply bN | apply bD | refine bS ?_ GE479.out | refine bS ?_ GE480.out | refine bS ?_ GE481.out | refine bS ?_ GE482.out) | exact HB.out)) hb); clear BK479; clear BK480; clear BK481; clear BK482; clear HB; have BK479 := n0_; have BK480 := n1_; have BK481 := n2_; have BK482 := n3_; have HB := n4_; clear n0_ n1_ n2_ n3_ n4_; (try clear hb); (try clear hb2); (try clear hk); (try clear hi); obtain ⟨hcz59_0, hcz59_1, hcz59_2, hcz59_3, hcz59_4, hcz59_5, hcz59_6, hcz59_7, hcz59_8⟩ := bc9 BK481.out; obtain ⟨hfz59_0, hfz59_1, hfz59_2, hfz59_3, hfz59_4, hfz59_5, hfz59_6, hfz59_7, hfz59_8⟩ := bf9 BK481.out; have hnb60 := NB479_480.out; have hnc60 := NB480_479.out; have hnb61 := NB479_482.out; have hnc61 := NB482_479.out; obtain ⟨hcz62_0, hcz62_1, hcz62_2, hcz62_3, hcz62_4, hcz62_5, hcz62_6, hcz62_7, hcz62_8, hcz62_9⟩ := bc10 BK479.out; obtain ⟨hfz62_0, hfz62_1, hfz62_2, hfz62_3, hfz62_4, hfz62_5, hfz62_6, hfz62_7, hfz62_8, hfz62_9⟩ := bf10 BK479.out; have hnb63 := NB480_482.out; have hnc63 := NB482_480.out; obtain ⟨hcz64_0, hcz64_1, hcz64_2, hcz64_3, hcz64_4, hcz64_5⟩ := bc6 BK480.out; obtain ⟨hfz64_0, hfz64_1, hfz64_2, hfz64_3, hfz64_4, hfz64_5⟩ := bf6 BK480.out))
     try obtain ⟨hcz59_0, hcz59_1, hcz59_2, hcz59_3, hcz59_4, hcz59_5, hcz59_6, hcz59_7, hcz59_8⟩ := bc9 BK481.out
     try obtain ⟨hfz59_0, hfz59_1, hfz59_2, hfz59_3, hfz59_4, hfz59_5, hfz59_6, hfz59_7, hfz59_8⟩ := bf9 BK481.out
     try obtain ⟨hcz62_0, hcz62_1, hcz62_2, hcz62_3, hcz62_4, hcz62_5, hcz62_6, hcz62_7, hcz62_8, hcz62_9⟩ := bc10 BK479.out
     try obtain ⟨hfz62_0, hfz62_1, hfz62_2, hfz62_3, hfz62_4, hfz62_5, hfz62_6, hfz62_7, hfz62_8, hfz62_9⟩ := bf10 BK479.out
     try obtain ⟨hcz64_0, hcz64_1, hcz64_2, hcz64_3, hcz64_4, hcz64_5⟩ := bc6 BK480.out
     try obtain ⟨hfz64_0, hfz64_1, hfz64_2, hfz64_3, hfz64_4, hfz64_5⟩ := bf6 BK480.out
     repeat (go_quiet (first | (go_at_call 48; (with_reducible refine (palanquinref07_Put.calls kj7 a2_0 a2_1 a2_2 a2_3 a2_4 a2_5 a2_6 a2_7 a2_8 0 t486 t487 _ A52.out).mono ?_); rintro e w58 ⟨rfl, hb⟩; have n0_ := mA (blk_below (g := gb479) (o := .cells #[.int .i64 a0_0, .int .i64 a0_1, .int .i64 a0_2, .int .i64 a0_3, .int .i64 a0_4, .bool a0_5, .bool a0_6, .string a0_7, .string a0_8, .string a0_9] 69 (0, 0)) (by (with_reducible repeat (first | apply kN | apply kD | apply kA)); exact BK479.out) hb); have n1_ := mA (blk_below (g := gb480) (o := .cells #[.int .i64 a1_0, .int .i64 a1_1, .int .i64 a1_2, .int .i64 a1_3, .string a1_4, .string a1_5] 71 (0, 0)) (by (with_reducible repeat (first | apply kN | apply kD | apply kA)); exact BK480.out) hb); have n2_ := mA (blk_below (g := gb481) (o := .cells #[.int .i64 a2_0, .int .i64 a2_1, .int .u32 a2_2, .int .u32 a2_3, .int .i64 a2_4, .int .i64 a2_5, .int .i64 a2_6, .string a2_7, .string a2_8] 79 (0, 0)) (by (with_reducible repeat (first | apply kN | apply kD | apply kA)); exact BK481.out) hb); have n3_ := mA (blk_below (g := gb482) (o := .cells #[.int .i64 a3_0, .int .i64 a3_1, .string a3_2] 81 (0, 0)) (by (with_reducible repeat (first | apply kN | apply kD | apply kA)); exact BK482.out) hb); have n4_ := mA (bP (by repeat (first | (with_reducible first | exact HB.out | apply bA | apply bN | apply bD | refine bS ?_ GE479.out | refine bS ?_ GE480.out | refine bS ?_ GE481.out | refine bS ?_ GE482.out) | exact HB.out)) hb); clear BK479; clear BK480; clear BK481; clear BK482; clear HB; have BK479 := n0_; have BK480 := n1_; have BK481 := n2_; have BK482 := n3_; have HB := n4_; clear n0_ n1_ n2_ n3_ n4_; (try clear hb); (try clear hb2); (try clear hk); (try clear hi); try obtain ⟨hcz59_0, hcz59_1, hcz59_2, hcz59_3, hcz59_4, hcz59_5, hcz59_6, hcz59_7, hcz59_8⟩ := bc9 BK481.out; try obtain ⟨hfz59_0, hfz59_1, hfz59_2, hfz59_3, hfz59_4, hfz59_5, hfz59_6, hfz59_7, hfz59_8⟩ := bf9 BK481.out; have hnb60 := NB479_480.out; have hnc60 := NB480_479.out; have hnb61 := NB479_482.out; have hnc61 := NB482_479.out; try obtain ⟨hcz62_0, hcz62_1, hcz62_2, hcz62_3, hcz62_4, hcz62_5, hcz62_6, hcz62_7, hcz62_8, hcz62_9⟩ := bc10 BK479.out; try obtain ⟨hfz62_0, hfz62_1, hfz62_2, hfz62_3, hfz62_4, hfz62_5, hfz62_6, hfz62_7, hfz62_8, hfz62_9⟩ := bf10 BK479.out; have hnb63 := NB480_482.out; have hnc63 := NB482_480.out; try obtain ⟨hcz64_0, hcz64_1, hcz64_2, hcz64_3, hcz64_4, hcz64_5⟩ := bc6 BK480.out; try obtain ⟨hfz64_0, hfz64_1, hfz64_2, hfz64_3, hfz64_4, hfz64_5⟩ := bf6 BK480.out)); go_upto_if 67 with (first | (go_at_call 48; (with_reducible refine (palanquinref07_Put.calls kj7 a2_0 a2_1 a2_2 a2_3 a2_4 a2_5 a2_6 a2_7 a2_8 0 t486 t487 _ A52.out).mono ?_); rintro e w58 ⟨rfl, hb⟩; have n0_ := mA (blk_below (g := gb479) (o := .cells #[.int .i64 a0_0, .int .i64 a0_1, .int .i64 a0_2, .int .i64 a0_3, .int .i64 a0_4, .bool a0_5, .bool a0_6, .string a0_7, .string a0_8, .string a0_9] 69 (0, 0)) (by (with_reducible repeat (first | apply kN | apply kD | apply kA)); exact BK479.out) hb); have n1_ := mA (blk_below (g := gb480) (o := .cells #[.int .i64 a1_0, .int .i64 a1_1, .int .i64 a1_2, .int .i64 a1_3, .string a1_4, .string a1_5] 71 (0, 0)) (by (with_reducible repeat (first | apply kN | apply kD | apply kA)); exact BK480.out) hb); have n2_ := mA (blk_below (g := gb481) (o := .cells #[.int .i64 a2_0, .int .i64 a2_1, .int .u32 a2_2, .int .u32 a2_3, .int .i64 a2_4, .int .i64 a2_5, .int .i64 a2_6, .string a2_7, .string a2_8] 79 (0, 0)) (by (with_reducible repeat (first | apply kN | apply kD | apply kA)); exact BK481.out) hb); have n3_ := mA (blk_below (g := gb482) (o := .cells #[.int .i64 a3_0, .int .i64 a3_1, .string a3_2] 81 (0, 0)) (by (with_reducible repeat (first | apply kN | apply kD | apply kA)); exact BK482.out) hb); have n4_ := mA (bP (by repeat (first | (with_reducible first | exact HB.out | apply bA | apply bN | apply bD | refine bS ?_ GE479.out | refine bS ?_ GE480.out | refine bS ?_ GE481.out | refine bS ?_ GE482.out) | exact HB.out)) hb); clear BK479; clear BK480; clear BK481; clear BK482; clear HB; have BK479 := n0_; have BK480 := n1_; have BK481 := n2_; have BK482 := n3_; have HB := n4_; clear n0_ n1_ n2_ n3_ n4_; (try clear hb); (try clear hb2); (try clear hk); (try clear hi); try obtain ⟨hcz59_0, hcz59_1, hcz59_2, hcz59_3, hcz59_4, hcz59_5, hcz59_6, hcz59_7, hcz59_8⟩ := bc9 BK481.out; try obtain ⟨hfz59_0, hfz59_1, hfz59_2, hfz59_3, hfz59_4, hfz59_5, hfz59_6, hfz59_7, hfz59_8⟩ := bf9 BK481.out; have hnb60 := NB479_480.out; have hnc60 := NB480_479.out; have hnb61 := NB479_482.out; have hnc61 := NB482_479.out; try obtain ⟨hcz62_0, hcz62_1, hcz62_2, hcz62_3, hcz62_4, hcz62_5, hcz62_6, hcz62_7, hcz62_8, hcz62_9⟩ := bc10 BK479.out; try obtain ⟨hfz62_0, hfz62_1, hfz62_2, hfz62_3, hfz62_4, hfz62_5, hfz62_6, hfz62_7, hfz62_8, hfz62_9⟩ := bf10 BK479.out; have hnb63 := NB480_482.out; have hnc63 := NB482_480.out; try obtain ⟨hcz64_0, hcz64_1, hcz64_2, hcz64_3, hcz64_4, hcz64_5⟩ := bc6 BK480.out; try obtain ⟨hfz64_0, hfz64_1, hfz64_2, hfz64_3, hfz64_4, hfz64_5⟩ := bf6 BK480.out)))
     (try simp only [Act.put, List.setIfInBounds_toArray, List.set_cons_zero, List.set_cons_succ])
     go_cut [11, 12, 13, 14] (fun v11 v12 v13 v14 wc => ∃ (kq : Nat) (x11_52 : ByteArray) (x12_52 : Int) (x13_52 : Int) (x14_52 : Int) (x480004_52 : Int) (x481002_52 : Int), v11 = .string x11_52 ∧ v12 = .int .i64 x12_52 ∧ v13 = .int .i64 x13_52 ∧ v14 = .int .i64 x14_52 ∧ Aside0 (palanquinlaw09_FlowValid.j1 kq a4 x11_52 x12_52 x13_52 x14_52 a0_0 a0_1 a0_2 a0_3 x480004_52 a0_5 a0_6 a0_7 a0_8 a0_9 a1_0 a1_1 x481002_52 a1_3 a1_4 a1_5 a2_0 a2_1 a2_2 a2_3 a2_4 a2_5 a2_6 a2_7 a2_8 = some r) ∧ Aside0 (kq ≤ kj7) ∧ Aside0 (wc.heap[gb479]? = some (.cells #[.int .i64 a0_0, .int .i64 a0_1, .int .i64 a0_2, .int .i64 a0_3, .int .i64 x480004_52, .bool a0_5, .bool a0_6, .string a0_7, .string a0_8, .string a0_9] 69 (0, 0))) ∧ Aside0 (wc.heap[gb480]? = some (.cells #[.int .i64 a1_0, .int .i64 a1_1, .int .i64 x481002_52, .int .i64 a1_3, .string a1_4, .string a1_5] 71 (0, 0))) ∧ Aside0 (wc.heap[gb481]? = some (.cells #[.int .i64 a2_0, .int .i64 a2_1, .int .u32 a2_2, .int .u32 a2_3, .int .i64 a2_4, .int .i64 a2_5, .int .i64 a2_6, .string a2_7, .string a2_8] 79 (0, 0))) ∧ Aside0 (wc.heap[gb482]? = some (.cells #[.int .i64 a3_0, .int .i64 a3_1, .string a3_2] 81 (0, 0))) ∧ Aside0 (Below w.heap.size w wc))
     case first =>
      have H := HC53.out
      clear HC53
      by_cases c65 : a4 = true
      ·subst c65
       rw [if_pos rfl] at H
       replace H := Option.bind_eq_some_iff.mp H
       obtain ⟨⟨t488, t489⟩, A660, H⟩ := H
       try dsimp +instances only at H
       have A66 := mA A660
       clear A660
       have H' := mA H
       clear H
       have hnb67 := NB482_479.out
       have hnc67 := NB479_482.out
       have hnb68 := NB482_480.out
       have hnc68 := NB480_482.out
       have hnb69 := NB482_481.out
       have hnc69 := NB481_482.out
       obtain ⟨hcz70_0, hcz70_1, hcz70_2⟩ := bc3 BK482.out
       obtain ⟨hfz70_0, hfz70_1, hfz70_2⟩ := bf3 BK482.out
       go_wp2_with (first | (go_at_call 49; (with_reducible refine (palanquinref08_Put.calls kj7 a3_0 a3_1 a3_2 0 t488 t489 _ A66.out).mono ?_); rintro e w71 ⟨rfl, hb⟩; have n0_ := mA (blk_below (g := gb479) (o := .cells #[.int .i64 a0_0, .int .i64 a0_1, .int .i64 a0_2, .int .i64 a0_3, .int .i64 6, .bool a0_5, .bool a0_6, .string a0_7, .string a0_8, .string a0_9] 69 (0, 0)) (by (with_reducible repeat (first | apply kN | apply kD | apply kA)); refine blk_far ?_ NB479_480.out _; (with_reducible repeat (first | apply kN | apply kD | apply kA)); refine blk_put (cs := #[.int .i64 a0_0, .int .i64 a0_1, .int .i64 a0_2, .int .i64 a0_3, .int .i64 a0_4, .bool a0_5, .bool a0_6, .string a0_7, .string a0_8, .string a0_9]) ?_ 4 _ (by first | rfl | (simp [*]; done)); (with_reducible repeat (first | apply kN | apply kD | apply kA)); exact BK479.out) hb); have n1_ := mA (blk_below (g := gb480) (o := .cells #[.int .i64 a1_0, .int .i64 a1_1, .int .i64 6, .int .i64 a1_3, .string a1_4, .string a1_5] 71 (0, 0)) (by (with_reducible repeat (first | apply kN | apply kD | apply kA)); refine blk_put (cs := #[.int .i64 a1_0, .int .i64 a1_1, .int .i64 a1_2, .int .i64 a1_3, .string a1_4, .string a1_5]) ?_ 2 _ (by first | rfl | (simp [*]; done)); (with_reducible repeat (first | apply kN | apply kD | apply kA)); refine blk_far ?_ NB480_479.out _; (with_reducible repeat (first | apply kN | apply kD | apply kA)); exact BK480.out) hb); have n2_ := mA (blk_below (g := gb481) (o := .cells #[.int .i64 a2_0, .int .i64 a2_1, .int .u32 a2_2, .int .u32 a2_3, .int .i64 a2_4, .int .i64 a2_5, .int .i64 a2_6, .string a2_7, .string a2_8] 79 (0, 0)) (by (with_reducible repeat (first | apply kN | apply kD | apply kA | refine blk_far ?_ NB481_480.out _ | refine blk_far ?_ NB481_479.out _)); exact BK481.out) hb); have n3_ := mA (blk_below (g := gb482) (o := .cells #[.int .i64 a3_0, .int .i64 a3_1, .string a3_2] 81 (0, 0)) (by (with_reducible repeat (first | apply kN | apply kD | apply kA | refine blk_far ?_ NB482_480.out _ | refine blk_far ?_ NB482_479.out _)); exact BK482.out) hb); have n4_ := mA (bP (by repeat (first | (with_reducible first | exact HB.out | apply bA | apply bN | apply bD | refine bS ?_ GE479.out | refine bS ?_ GE480.out | refine bS ?_ GE481.out | refine bS ?_ GE482.out) | exact HB.out)) hb); clear BK479; clear BK480; clear BK481; clear BK482; clear HB; have BK479 := n0_; have BK480 := n1_; have BK481 := n2_; have BK482 := n3_; have HB := n4_; clear n0_ n1_ n2_ n3_ n4_; (try clear hb); (try clear hb2); (try clear hk); (try clear hi); obtain ⟨hcz72_0, hcz72_1, hcz72_2⟩ := bc3 BK482.out; obtain ⟨hfz72_0, hfz72_1, hfz72_2⟩ := bf3 BK482.out; have hnb73 := NB479_480.out; have hnc73 := NB480_479.out; have hnb74 := NB479_481.out; have hnc74 := NB481_479.out; obtain ⟨hcz75_0, hcz75_1, hcz75_2, hcz75_3, hcz75_4, hcz75_5, hcz75_6, hcz75_7, hcz75_8, hcz75_9⟩ := bc10 BK479.out; obtain ⟨hfz75_0, hfz75_1, hfz75_2, hfz75_3, hfz75_4, hfz75_5, hfz75_6, hfz75_7, hfz75_8, hfz75_9⟩ := bf10 BK479.out; have hnb76 := NB480_481.out; have hnc76 := NB481_480.out; obtain ⟨hcz77_0, hcz77_1, hcz77_2, hcz77_3, hcz77_4, hcz77_5⟩ := bc6 BK480.out; obtain ⟨hfz77_0, hfz77_1, hfz77_2, hfz77_3, hfz77_4, hfz77_5⟩ := bf6 BK480.out))
       try obtain ⟨hcz72_0, hcz72_1, hcz72_2⟩ := bc3 BK482.out
       try obtain ⟨hfz72_0, hfz72_1, hfz72_2⟩ := bf3 BK482.out
       try obtain ⟨hcz75_0, hcz75_1, hcz75_2, hcz75_3, hcz75_4, hcz75_5, hcz75_6, hcz75_7, hcz75_8, hcz75_9⟩ := bc10 BK479.out
       try obtain ⟨hfz75_0, hfz75_1, hfz75_2, hfz75_3, hfz75_4, hfz75_5, hfz75_6, hfz75_7, hfz75_8, hfz75_9⟩ := bf10 BK479.out
       try obtain ⟨hcz77_0, hcz77_1, hcz77_2, hcz77_3, hcz77_4, hcz77_5⟩ := bc6 BK480.out
       try obtain ⟨hfz77_0, hfz77_1, hfz77_2, hfz77_3, hfz77_4, hfz77_5⟩ := bf6 BK480.out
       repeat (go_quiet (fail); try go_wp2_with (first | (go_at_call 49; (with_reducible refine (palanquinref08_Put.calls kj7 a3_0 a3_1 a3_2 0 t488 t489 _ A66.out).mono ?_); rintro e w71 ⟨rfl, hb⟩; have n0_ := mA (blk_below (g := gb479) (o := .cells #[.int .i64 a0_0, .int .i64 a0_1, .int .i64 a0_2, .int .i64 a0_3, .int .i64 6, .bool a0_5, .bool a0_6, .string a0_7, .string a0_8, .string a0_9] 69 (0, 0)) (by (with_reducible repeat (first | apply kN | apply kD | apply kA)); refine blk_far ?_ NB479_480.out _; (with_reducible repeat (first | apply kN | apply kD | apply kA)); refine blk_put (cs := #[.int .i64 a0_0, .int .i64 a0_1, .int .i64 a0_2, .int .i64 a0_3, .int .i64 a0_4, .bool a0_5, .bool a0_6, .string a0_7, .string a0_8, .string a0_9]) ?_ 4 _ (by first | rfl | (simp [*]; done)); (with_reducible repeat (first | apply kN | apply kD | apply kA)); exact BK479.out) hb); have n1_ := mA (blk_below (g := gb480) (o := .cells #[.int .i64 a1_0, .int .i64 a1_1, .int .i64 6, .int .i64 a1_3, .string a1_4, .string a1_5] 71 (0, 0)) (by (with_reducible repeat (first | apply kN | apply kD | apply kA)); refine blk_put (cs := #[.int .i64 a1_0, .int .i64 a1_1, .int .i64 a1_2, .int .i64 a1_3, .string a1_4, .string a1_5]) ?_ 2 _ (by first | rfl | (simp [*]; done)); (with_reducible repeat (first | apply kN | apply kD | apply kA)); refine blk_far ?_ NB480_479.out _; (with_reducible repeat (first | apply kN | apply kD | apply kA)); exact BK480.out) hb); have n2_ := mA (blk_below (g := gb481) (o := .cells #[.int .i64 a2_0, .int .i64 a2_1, .int .u32 a2_2, .int .u32 a2_3, .int .i64 a2_4, .int .i64 a2_5, .int .i64 a2_6, .string a2_7, .string a2_8] 79 (0, 0)) (by (with_reducible repeat (first | apply kN | apply kD | apply kA | refine blk_far ?_ NB481_480.out _ | refine blk_far ?_ NB481_479.out _)); exact BK481.out) hb); have n3_ := mA (blk_below (g := gb482) (o := .cells #[.int .i64 a3_0, .int .i64 a3_1, .string a3_2] 81 (0, 0)) (by (with_reducible repeat (first | apply kN | apply kD | apply kA | refine blk_far ?_ NB482_480.out _ | refine blk_far ?_ NB482_479.out _)); exact BK482.out) hb); have n4_ := mA (bP (by repeat (first | (with_reducible first | exact HB.out | apply bA | apply bN | apply bD | refine bS ?_ GE479.out | refine bS ?_ GE480.out | refine bS ?_ GE481.out | refine bS ?_ GE482.out) | exact HB.out)) hb); clear BK479; clear BK480; clear BK481; clear BK482; clear HB; have BK479 := n0_; have BK480 := n1_; have BK481 := n2_; have BK482 := n3_; have HB := n4_; clear n0_ n1_ n2_ n3_ n4_; (try clear hb); (try clear hb2); (try clear hk); (try clear hi); try obtain ⟨hcz72_0, hcz72_1, hcz72_2⟩ := bc3 BK482.out; try obtain ⟨hfz72_0, hfz72_1, hfz72_2⟩ := bf3 BK482.out; have hnb73 := NB479_480.out; have hnc73 := NB480_479.out; have hnb74 := NB479_481.out; have hnc74 := NB481_479.out; try obtain ⟨hcz75_0, hcz75_1, hcz75_2, hcz75_3, hcz75_4, hcz75_5, hcz75_6, hcz75_7, hcz75_8, hcz75_9⟩ := bc10 BK479.out; try obtain ⟨hfz75_0, hfz75_1, hfz75_2, hfz75_3, hfz75_4, hfz75_5, hfz75_6, hfz75_7, hfz75_8, hfz75_9⟩ := bf10 BK479.out; have hnb76 := NB480_481.out; have hnc76 := NB481_480.out; try obtain ⟨hcz77_0, hcz77_1, hcz77_2, hcz77_3, hcz77_4, hcz77_5⟩ := bc6 BK480.out; try obtain ⟨hfz77_0, hfz77_1, hfz77_2, hfz77_3, hfz77_4, hfz77_5⟩ := bf6 BK480.out)))
       go_meet
       case rel => exact ⟨_, (t488), (t489), (a3_0), (a3_1), (17), (17), (by first | rfl | (simp; done) | (simp [*]; done)), (by first | rfl | (simp; done) | (simp [*]; done)), (by first | rfl | (simp; done) | (simp [*]; done)), (by first | rfl | (simp; done) | (simp [*]; done)), H', ⟨by have := HJ7.out; first | omega | exact Nat.le_refl _⟩, ⟨by (with_reducible repeat (first | apply kN | apply kD | apply kA)); refine blk_far ?_ NB479_480.out _; (with_reducible repeat (first | apply kN | apply kD | apply kA)); refine blk_put (cs := #[.int .i64 a0_0, .int .i64 a0_1, .int .i64 a0_2, .int .i64 a0_3, .int .i64 6, .bool a0_5, .bool a0_6, .string a0_7, .string a0_8, .string a0_9]) ?_ 4 _ (by first | rfl | (simp [*]; done)); (with_reducible repeat (first | apply kN | apply kD | apply kA)); exact BK479.out⟩, ⟨by (with_reducible repeat (first | apply kN | apply kD | apply kA)); refine blk_put (cs := #[.int .i64 a1_0, .int .i64 a1_1, .int .i64 6, .int .i64 a1_3, .string a1_4, .string a1_5]) ?_ 2 _ (by first | rfl | (simp [*]; done)); (with_reducible repeat (first | apply kN | apply kD | apply kA)); refine blk_far ?_ NB480_479.out _; (with_reducible repeat (first | apply kN | apply kD | apply kA)); exact BK480.out⟩, ⟨by (with_reducible repeat (first | apply kN | apply kD | apply kA | refine blk_far ?_ NB481_480.out _ | refine blk_far ?_ NB481_479.out _)); exact BK481.out⟩, ⟨by (with_reducible repeat (first | apply kN | apply kD | apply kA | refine blk_far ?_ NB482_480.out _ | refine blk_far ?_ NB482_479.out _)); exact BK482.out⟩, ⟨by repeat (first | (with_reducible first | exact HB.out | apply bA | apply bN | apply bD | refine bS ?_ GE479.out | refine bS ?_ GE480.out | refine bS ?_ GE481.out | refine bS ?_ GE482.out) | exact HB.out)⟩⟩
      ·replace c65 := Bool.eq_false_iff.mpr c65
       subst c65
       rw [if_neg (show ¬ (false = true) by decide)] at H
       have H' := mA H
       clear H
       go_wp2
       repeat (go_quiet (fail); try go_wp2)
       go_meet
       case rel => exact ⟨_, (t486), (t487), (a2_0), (a2_1), (6), (6), (by first | rfl | (simp; done) | (simp [*]; done)), (by first | rfl | (simp; done) | (simp [*]; done)), (by first | rfl | (simp; done) | (simp [*]; done)), (by first | rfl | (simp; done) | (simp [*]; done)), H', ⟨by have := HJ7.out; first | omega | exact Nat.le_refl _⟩, ⟨by (with_reducible repeat (first | apply kN | apply kD | apply kA)); refine blk_far ?_ NB479_480.out _; (with_reducible repeat (first | apply kN | apply kD | apply kA)); refine blk_put (cs := #[.int .i64 a0_0, .int .i64 a0_1, .int .i64 a0_2, .int .i64 a0_3, .int .i64 a0_4, .bool a0_5, .bool a0_6, .string a0_7, .string a0_8, .string a0_9]) ?_ 4 _ (by first | rfl | (simp [*]; done)); (with_reducible repeat (first | apply kN | apply kD | apply kA)); exact BK479.out⟩, ⟨by (with_reducible repeat (first | apply kN | apply kD | apply kA)); refine blk_put (cs := #[.int .i64 a1_0, .int .i64 a1_1, .int .i64 a1_2, .int .i64 a1_3, .string a1_4, .string a1_5]) ?_ 2 _ (by first | rfl | (simp [*]; done)); (with_reducible repeat (first | apply kN | apply kD | apply kA)); refine blk_far ?_ NB480_479.out _; (with_reducible repeat (first | apply kN | apply kD | apply kA)); exact BK480.out⟩, ⟨by (with_reducible repeat (first | apply kN | apply kD | apply kA | refine blk_far ?_ NB481_480.out _ | refine blk_far ?_ NB481_479.out _)); exact BK481.out⟩, ⟨by (with_reducible repeat (first | apply kN | apply kD | apply kA | refine blk_far ?_ NB482_480.out _ | refine blk_far ?_ NB482_479.out _)); exact BK482.out⟩, ⟨by repeat (first | (with_reducible first | exact HB.out | apply bA | apply bN | apply bD | refine bS ?_ GE479.out | refine bS ?_ GE480.out | refine bS ?_ GE481.out | refine bS ?_ GE482.out) | exact HB.out)⟩⟩
     case rest =>
      clear HC53
      try clear c1
      try clear c2
      try clear p2
      try clear c3
      try clear c4
      try clear c5
      try clear c6
      try clear c7
      try clear c15
      try clear c16
      try clear c17
      try clear c18
      try clear c18b0
      try clear c18b1
      try clear c19
      try clear c20
      try clear c21
      try clear c23
      try clear c24
      try clear c26
      try clear c28
      try clear c29
      try clear c30
      try clear c32
      try clear c33
      try clear c35
      try clear c38
      try clear c39
      try clear c40
      try clear c42
      try clear c43
      try clear c45
      try clear c47
      try clear c48
      try clear c49
      try clear c51
      try clear c54
      try clear c55
      try clear c56
      try clear c60
      try clear c61
      try clear c63
      try clear c65
      try clear c67
      try clear c68
      try clear c69
      try clear c73
      try clear c74
      try clear c76
      try clear hcz22_0 hcz22_1 hcz22_2 hcz22_3 hcz22_4 hcz22_5 hcz22_6 hcz22_7 hcz22_8 hcz22_9
      try clear hcz25_0 hcz25_1 hcz25_2 hcz25_3 hcz25_4 hcz25_5
      try clear hcz27_0 hcz27_1 hcz27_2 hcz27_3 hcz27_4 hcz27_5 hcz27_6 hcz27_7 hcz27_8
      try clear hcz31_0 hcz31_1 hcz31_2 hcz31_3 hcz31_4 hcz31_5 hcz31_6 hcz31_7 hcz31_8 hcz31_9
      try clear hcz34_0 hcz34_1 hcz34_2 hcz34_3 hcz34_4 hcz34_5
      try clear hcz36_0 hcz36_1 hcz36_2 hcz36_3 hcz36_4 hcz36_5 hcz36_6 hcz36_7 hcz36_8
      try clear hcz37_0 hcz37_1 hcz37_2
      try clear hcz41_0 hcz41_1 hcz41_2 hcz41_3 hcz41_4 hcz41_5 hcz41_6 hcz41_7 hcz41_8 hcz41_9
      try clear hcz44_0 hcz44_1 hcz44_2 hcz44_3 hcz44_4 hcz44_5
      try clear hcz46_0 hcz46_1 hcz46_2 hcz46_3 hcz46_4 hcz46_5 hcz46_6 hcz46_7 hcz46_8
      try clear hcz50_0 hcz50_1 hcz50_2 hcz50_3 hcz50_4 hcz50_5 hcz50_6 hcz50_7 hcz50_8 hcz50_9
      try clear hcz57_0 hcz57_1 hcz57_2 hcz57_3 hcz57_4 hcz57_5 hcz57_6 hcz57_7 hcz57_8
      try clear hcz59_0 hcz59_1 hcz59_2 hcz59_3 hcz59_4 hcz59_5 hcz59_6 hcz59_7 hcz59_8
      try clear hcz62_0 hcz62_1 hcz62_2 hcz62_3 hcz62_4 hcz62_5 hcz62_6 hcz62_7 hcz62_8 hcz62_9
      try clear hcz64_0 hcz64_1 hcz64_2 hcz64_3 hcz64_4 hcz64_5
      try clear hcz70_0 hcz70_1 hcz70_2
      try clear hcz72_0 hcz72_1 hcz72_2
      try clear hcz75_0 hcz75_1 hcz75_2 hcz75_3 hcz75_4 hcz75_5 hcz75_6 hcz75_7 hcz75_8 hcz75_9
      try clear hcz77_0 hcz77_1 hcz77_2 hcz77_3 hcz77_4 hcz77_5
      try clear hfz22_0 hfz22_1 hfz22_2 hfz22_3 hfz22_4 hfz22_5 hfz22_6 hfz22_7 hfz22_8 hfz22_9
      try clear hfz25_0 hfz25_1 hfz25_2 hfz25_3 hfz25_4 hfz25_5
      try clear hfz27_0 hfz27_1 hfz27_2 hfz27_3 hfz27_4 hfz27_5 hfz27_6 hfz27_7 hfz27_8
      try clear hfz31_0 hfz31_1 hfz31_2 hfz31_3 hfz31_4 hfz31_5 hfz31_6 hfz31_7 hfz31_8 hfz31_9
      try clear hfz34_0 hfz34_1 hfz34_2 hfz34_3 hfz34_4 hfz34_5
      try clear hfz36_0 hfz36_1 hfz36_2 hfz36_3 hfz36_4 hfz36_5 hfz36_6 hfz36_7 hfz36_8
      try clear hfz37_0 hfz37_1 hfz37_2
      try clear hfz41_0 hfz41_1 hfz41_2 hfz41_3 hfz41_4 hfz41_5 hfz41_6 hfz41_7 hfz41_8 hfz41_9
      try clear hfz44_0 hfz44_1 hfz44_2 hfz44_3 hfz44_4 hfz44_5
      try clear hfz46_0 hfz46_1 hfz46_2 hfz46_3 hfz46_4 hfz46_5 hfz46_6 hfz46_7 hfz46_8
      try clear hfz50_0 hfz50_1 hfz50_2 hfz50_3 hfz50_4 hfz50_5 hfz50_6 hfz50_7 hfz50_8 hfz50_9
      try clear hfz57_0 hfz57_1 hfz57_2 hfz57_3 hfz57_4 hfz57_5 hfz57_6 hfz57_7 hfz57_8
      try clear hfz59_0 hfz59_1 hfz59_2 hfz59_3 hfz59_4 hfz59_5 hfz59_6 hfz59_7 hfz59_8
      try clear hfz62_0 hfz62_1 hfz62_2 hfz62_3 hfz62_4 hfz62_5 hfz62_6 hfz62_7 hfz62_8 hfz62_9
      try clear hfz64_0 hfz64_1 hfz64_2 hfz64_3 hfz64_4 hfz64_5
      try clear hfz70_0 hfz70_1 hfz70_2
      try clear hfz72_0 hfz72_1 hfz72_2
      try clear hfz75_0 hfz75_1 hfz75_2 hfz75_3 hfz75_4 hfz75_5 hfz75_6 hfz75_7 hfz75_8 hfz75_9
      try clear hfz77_0 hfz77_1 hfz77_2 hfz77_3 hfz77_4 hfz77_5
      try clear p2
      obtain ⟨kq, x11_52, x12_52, x13_52, x14_52, x480004_52, x481002_52, rfl, rfl, rfl, rfl, HA, HJ52, BK479, BK480, BK481, BK482, HB⟩ := hcut
      cases kq with
      | zero => exact absurd HA.out (by simp [palanquinlaw09_FlowValid.j1])
      | succ kj52 =>
       have H := HA.out
       clear HA
       simp only [palanquinlaw09_FlowValid.j1] at H
       replace H := Option.bind_eq_some_iff.mp H
       obtain ⟨⟨t490, t491⟩, A780, H⟩ := H
       try dsimp +instances only at H
       have A78 := mA A780
       clear A780
       have HC79 := mA H
       clear H
       have hnb80 := NB481_479.out
       have hnc80 := NB479_481.out
       have hnb81 := NB481_480.out
       have hnc81 := NB480_481.out
       have hnb82 := NB481_482.out
       have hnc82 := NB482_481.out
       obtain ⟨hcz83_0, hcz83_1, hcz83_2, hcz83_3, hcz83_4, hcz83_5, hcz83_6, hcz83_7, hcz83_8⟩ := bc9 BK481.out
       obtain ⟨hfz83_0, hfz83_1, hfz83_2, hfz83_3, hfz83_4, hfz83_5, hfz83_6, hfz83_7, hfz83_8⟩ := bf9 BK481.out
       go_upto_region 13 with (first | (go_at_call 50; (with_reducible refine (palanquinref07_Walk.calls kj52 a2_7 t490 t491 _ A78.out).mono ?_); rintro e w84 ⟨v492, rfl, ho0, hb⟩; have n0_ := mA (Kd.R_lower ho0 (below_size (by repeat (first | (with_reducible first | exact HB.out | apply bA | apply bN | apply bD | refine bS ?_ GE479.out | refine bS ?_ GE480.out | refine bS ?_ GE481.out | refine bS ?_ GE482.out) | exact HB.out)))); have n1_ := mA (blk_below (g := gb479) (o := .cells #[.int .i64 a0_0, .int .i64 a0_1, .int .i64 a0_2, .int .i64 a0_3, .int .i64 x480004_52, .bool a0_5, .bool a0_6, .string a0_7, .string a0_8, .string a0_9] 69 (0, 0)) (by (with_reducible repeat (first | apply kN | apply kD | apply kA)); exact BK479.out) hb); have n2_ := mA (blk_below (g := gb480) (o := .cells #[.int .i64 a1_0, .int .i64 a1_1, .int .i64 x481002_52, .int .i64 a1_3, .string a1_4, .string a1_5] 71 (0, 0)) (by (with_reducible repeat (first | apply kN | apply kD | apply kA)); exact BK480.out) hb); have n3_ := mA (blk_below (g := gb481) (o := .cells #[.int .i64 a2_0, .int .i64 a2_1, .int .u32 a2_2, .int .u32 a2_3, .int .i64 a2_4, .int .i64 a2_5, .int .i64 a2_6, .string a2_7, .string a2_8] 79 (0, 0)) (by (with_reducible repeat (first | apply kN | apply kD | apply kA)); exact BK481.out) hb); have n4_ := mA (blk_below (g := gb482) (o := .cells #[.int .i64 a3_0, .int .i64 a3_1, .string a3_2] 81 (0, 0)) (by (with_reducible repeat (first | apply kN | apply kD | apply kA)); exact BK482.out) hb); have n5_ := mA (bP (by repeat (first | (with_reducible first | exact HB.out | apply bA | apply bN | apply bD | refine bS ?_ GE479.out | refine bS ?_ GE480.out | refine bS ?_ GE481.out | refine bS ?_ GE482.out) | exact HB.out)) hb); clear BK479; clear BK480; clear BK481; clear BK482; clear HB; have HO493 := n0_; have BK479 := n1_; have BK480 := n2_; have BK481 := n3_; have BK482 := n4_; have HB := n5_; clear n0_ n1_ n2_ n3_ n4_ n5_; (try clear hb); (try clear hb2); (try clear hk); (try clear hi); (try clear ho0)))
       repeat (go_quiet (first | (go_at_call 50; (with_reducible refine (palanquinref07_Walk.calls kj52 a2_7 t490 t491 _ A78.out).mono ?_); rintro e w84 ⟨v492, rfl, ho0, hb⟩; have n0_ := mA (Kd.R_lower ho0 (below_size (by repeat (first | (with_reducible first | exact HB.out | apply bA | apply bN | apply bD | refine bS ?_ GE479.out | refine bS ?_ GE480.out | refine bS ?_ GE481.out | refine bS ?_ GE482.out) | exact HB.out)))); have n1_ := mA (blk_below (g := gb479) (o := .cells #[.int .i64 a0_0, .int .i64 a0_1, .int .i64 a0_2, .int .i64 a0_3, .int .i64 x480004_52, .bool a0_5, .bool a0_6, .string a0_7, .string a0_8, .string a0_9] 69 (0, 0)) (by (with_reducible repeat (first | apply kN | apply kD | apply kA)); exact BK479.out) hb); have n2_ := mA (blk_below (g := gb480) (o := .cells #[.int .i64 a1_0, .int .i64 a1_1, .int .i64 x481002_52, .int .i64 a1_3, .string a1_4, .string a1_5] 71 (0, 0)) (by (with_reducible repeat (first | apply kN | apply kD | apply kA)); exact BK480.out) hb); have n3_ := mA (blk_below (g := gb481) (o := .cells #[.int .i64 a2_0, .int .i64 a2_1, .int .u32 a2_2, .int .u32 a2_3, .int .i64 a2_4, .int .i64 a2_5, .int .i64 a2_6, .string a2_7, .string a2_8] 79 (0, 0)) (by (with_reducible repeat (first | apply kN | apply kD | apply kA)); exact BK481.out) hb); have n4_ := mA (blk_below (g := gb482) (o := .cells #[.int .i64 a3_0, .int .i64 a3_1, .string a3_2] 81 (0, 0)) (by (with_reducible repeat (first | apply kN | apply kD | apply kA)); exact BK482.out) hb); have n5_ := mA (bP (by repeat (first | (with_reducible first | exact HB.out | apply bA | apply bN | apply bD | refine bS ?_ GE479.out | refine bS ?_ GE480.out | refine bS ?_ GE481.out | refine bS ?_ GE482.out) | exact HB.out)) hb); clear BK479; clear BK480; clear BK481; clear BK482; clear HB; have HO493 := n0_; have BK479 := n1_; have BK480 := n2_; have BK481 := n3_; have BK482 := n4_; have HB := n5_; clear n0_ n1_ n2_ n3_ n4_ n5_; (try clear hb); (try clear hb2); (try clear hk); (try clear hi); (try clear ho0))); go_upto_region 13 with (first | (go_at_call 50; (with_reducible refine (palanquinref07_Walk.calls kj52 a2_7 t490 t491 _ A78.out).mono ?_); rintro e w84 ⟨v492, rfl, ho0, hb⟩; have n0_ := mA (Kd.R_lower ho0 (below_size (by repeat (first | (with_reducible first | exact HB.out | apply bA | apply bN | apply bD | refine bS ?_ GE479.out | refine bS ?_ GE480.out | refine bS ?_ GE481.out | refine bS ?_ GE482.out) | exact HB.out)))); have n1_ := mA (blk_below (g := gb479) (o := .cells #[.int .i64 a0_0, .int .i64 a0_1, .int .i64 a0_2, .int .i64 a0_3, .int .i64 x480004_52, .bool a0_5, .bool a0_6, .string a0_7, .string a0_8, .string a0_9] 69 (0, 0)) (by (with_reducible repeat (first | apply kN | apply kD | apply kA)); exact BK479.out) hb); have n2_ := mA (blk_below (g := gb480) (o := .cells #[.int .i64 a1_0, .int .i64 a1_1, .int .i64 x481002_52, .int .i64 a1_3, .string a1_4, .string a1_5] 71 (0, 0)) (by (with_reducible repeat (first | apply kN | apply kD | apply kA)); exact BK480.out) hb); have n3_ := mA (blk_below (g := gb481) (o := .cells #[.int .i64 a2_0, .int .i64 a2_1, .int .u32 a2_2, .int .u32 a2_3, .int .i64 a2_4, .int .i64 a2_5, .int .i64 a2_6, .string a2_7, .string a2_8] 79 (0, 0)) (by (with_reducible repeat (first | apply kN | apply kD | apply kA)); exact BK481.out) hb); have n4_ := mA (blk_below (g := gb482) (o := .cells #[.int .i64 a3_0, .int .i64 a3_1, .string a3_2] 81 (0, 0)) (by (with_reducible repeat (first | apply kN | apply kD | apply kA)); exact BK482.out) hb); have n5_ := mA (bP (by repeat (first | (with_reducible first | exact HB.out | apply bA | apply bN | apply bD | refine bS ?_ GE479.out | refine bS ?_ GE480.out | refine bS ?_ GE481.out | refine bS ?_ GE482.out) | exact HB.out)) hb); clear BK479; clear BK480; clear BK481; clear BK482; clear HB; have HO493 := n0_; have BK479 := n1_; have BK480 := n2_; have BK481 := n3_; have BK482 := n4_; have HB := n5_; clear n0_ n1_ n2_ n3_ n4_ n5_; (try clear hb); (try clear hb2); (try clear hk); (try clear hi); (try clear ho0))))
       (try simp only [Act.put, List.setIfInBounds_toArray, List.set_cons_zero, List.set_cons_succ])
       go_cut [94] (fun v94 wc => ∃ (kq : Nat) (x94_78 : Bool), v94 = .bool x94_78 ∧ Aside0 (palanquinlaw09_FlowValid.j2 kq x11_52 x13_52 x14_52 x94_78 a0_0 a0_1 a0_2 a0_3 x480004_52 a0_5 a0_6 a0_7 a0_8 a0_9 a1_0 a1_1 x481002_52 a1_3 a1_4 a1_5 = some r) ∧ Aside0 (kq ≤ kj52) ∧ Aside0 (wc.heap[gb479]? = some (.cells #[.int .i64 a0_0, .int .i64 a0_1, .int .i64 a0_2, .int .i64 a0_3, .int .i64 x480004_52, .bool a0_5, .bool a0_6, .string a0_7, .string a0_8, .string a0_9] 69 (0, 0))) ∧ Aside0 (wc.heap[gb480]? = some (.cells #[.int .i64 a1_0, .int .i64 a1_1, .int .i64 x481002_52, .int .i64 a1_3, .string a1_4, .string a1_5] 71 (0, 0))) ∧ Aside0 (wc.heap[gb481]? = some (.cells #[.int .i64 a2_0, .int .i64 a2_1, .int .u32 a2_2, .int .u32 a2_3, .int .i64 a2_4, .int .i64 a2_5, .int .i64 a2_6, .string a2_7, .string a2_8] 79 (0, 0))) ∧ Aside0 (wc.heap[gb482]? = some (.cells #[.int .i64 a3_0, .int .i64 a3_1, .string a3_2] 81 (0, 0))) ∧ Aside0 (Below w.heap.size w wc))
       case first =>
        have H := HC79.out
        clear HC79
        by_cases c85 : x12_52 = 0
        ·rw [if_pos c85] at H
         have c85b0 : (x12_52 == 0) = true := beq_iff_eq.mpr c85
         have c85b1 : (x12_52 != 0) = false := bne_eq_false_iff_eq.mpr c85
         clear c85
         (first | rw [c85b0] | (simp only [i64_w, i32_w]; rw [c85b0]) | skip)
         by_cases c86 : a4 = true
         ·subst c86
          rw [if_pos rfl] at H
          have H' := mA H
          clear H
          go_wp2
          repeat (go_quiet (fail); try go_wp2)
          go_meet
          case rel => exact ⟨_, (false), (by first | rfl | (simp; done) | (simp [*]; done)), H', ⟨by have := HJ7.out; have := HJ52.out; first | omega | exact Nat.le_refl _⟩, ⟨by (with_reducible repeat (first | apply kN | apply kD | apply kA)); exact BK479.out⟩, ⟨by (with_reducible repeat (first | apply kN | apply kD | apply kA)); exact BK480.out⟩, ⟨by (with_reducible repeat (first | apply kN | apply kD | apply kA)); exact BK481.out⟩, ⟨by (with_reducible repeat (first | apply kN | apply kD | apply kA)); exact BK482.out⟩, ⟨by repeat (first | (with_reducible first | exact HB.out | apply bA | apply bN | apply bD | refine bS ?_ GE479.out | refine bS ?_ GE480.out | refine bS ?_ GE481.out | refine bS ?_ GE482.out) | exact HB.out)⟩⟩
         ·replace c86 := Bool.eq_false_iff.mpr c86
          subst c86
          rw [if_neg (show ¬ (false = true) by decide)] at H
          have H' := mA H
          clear H
          go_wp2
          repeat (go_quiet (fail); try go_wp2)
          go_meet
          case rel => exact ⟨_, (!t491), (by first | rfl | (simp; done) | (simp [*]; done)), H', ⟨by have := HJ7.out; have := HJ52.out; first | omega | exact Nat.le_refl _⟩, ⟨by (with_reducible repeat (first | apply kN | apply kD | apply kA)); exact BK479.out⟩, ⟨by (with_reducible repeat (first | apply kN | apply kD | apply kA)); exact BK480.out⟩, ⟨by (with_reducible repeat (first | apply kN | apply kD | apply kA)); exact BK481.out⟩, ⟨by (with_reducible repeat (first | apply kN | apply kD | apply kA)); exact BK482.out⟩, ⟨by repeat (first | (with_reducible first | exact HB.out | apply bA | apply bN | apply bD | refine bS ?_ GE479.out | refine bS ?_ GE480.out | refine bS ?_ GE481.out | refine bS ?_ GE482.out) | exact HB.out)⟩⟩
        ·rw [if_neg c85] at H
         have c85b0 : (x12_52 == 0) = false := beq_eq_false_iff_ne.mpr c85
         have c85b1 : (x12_52 != 0) = true := bne_iff_ne.mpr c85
         (first | rw [c85b0] | (simp only [i64_w, i32_w]; rw [c85b0]) | skip)
         have H' := mA H
         clear H
         go_wp2
         repeat (go_quiet (fail); try go_wp2)
         go_meet
         case rel => exact ⟨_, (true), (by first | rfl | (simp; done) | (simp [*]; done)), H', ⟨by have := HJ7.out; have := HJ52.out; first | omega | exact Nat.le_refl _⟩, ⟨by (with_reducible repeat (first | apply kN | apply kD | apply kA)); exact BK479.out⟩, ⟨by (with_reducible repeat (first | apply kN | apply kD | apply kA)); exact BK480.out⟩, ⟨by (with_reducible repeat (first | apply kN | apply kD | apply kA)); exact BK481.out⟩, ⟨by (with_reducible repeat (first | apply kN | apply kD | apply kA)); exact BK482.out⟩, ⟨by repeat (first | (with_reducible first | exact HB.out | apply bA | apply bN | apply bD | refine bS ?_ GE479.out | refine bS ?_ GE480.out | refine bS ?_ GE481.out | refine bS ?_ GE482.out) | exact HB.out)⟩⟩
       case rest =>
        clear HC79
        try clear c1
        try clear c2
        try clear p2
        try clear c3
        try clear c4
        try clear c5
        try clear c6
        try clear c7
        try clear c8
        try clear c15
        try clear c16
        try clear c17
        try clear c18
        try clear c18b0
        try clear c18b1
        try clear c19
        try clear c20
        try clear c21
        try clear c23
        try clear c24
        try clear c26
        try clear c28
        try clear c29
        try clear c30
        try clear c32
        try clear c33
        try clear c35
        try clear c38
        try clear c39
        try clear c40
        try clear c42
        try clear c43
        try clear c45
        try clear c47
        try clear c48
        try clear c49
        try clear c51
        try clear c54
        try clear c55
        try clear c56
        try clear c60
        try clear c61
        try clear c63
        try clear c65
        try clear c67
        try clear c68
        try clear c69
        try clear c73
        try clear c74
        try clear c76
        try clear c80
        try clear c81
        try clear c82
        try clear c85
        try clear c85b0
        try clear c85b1
        try clear c86
        try clear hcz22_0 hcz22_1 hcz22_2 hcz22_3 hcz22_4 hcz22_5 hcz22_6 hcz22_7 hcz22_8 hcz22_9
        try clear hcz25_0 hcz25_1 hcz25_2 hcz25_3 hcz25_4 hcz25_5
        try clear hcz27_0 hcz27_1 hcz27_2 hcz27_3 hcz27_4 hcz27_5 hcz27_6 hcz27_7 hcz27_8
        try clear hcz31_0 hcz31_1 hcz31_2 hcz31_3 hcz31_4 hcz31_5 hcz31_6 hcz31_7 hcz31_8 hcz31_9
        try clear hcz34_0 hcz34_1 hcz34_2 hcz34_3 hcz34_4 hcz34_5
        try clear hcz36_0 hcz36_1 hcz36_2 hcz36_3 hcz36_4 hcz36_5 hcz36_6 hcz36_7 hcz36_8
        try clear hcz37_0 hcz37_1 hcz37_2
        try clear hcz41_0 hcz41_1 hcz41_2 hcz41_3 hcz41_4 hcz41_5 hcz41_6 hcz41_7 hcz41_8 hcz41_9
        try clear hcz44_0 hcz44_1 hcz44_2 hcz44_3 hcz44_4 hcz44_5
        try clear hcz46_0 hcz46_1 hcz46_2 hcz46_3 hcz46_4 hcz46_5 hcz46_6 hcz46_7 hcz46_8
        try clear hcz50_0 hcz50_1 hcz50_2 hcz50_3 hcz50_4 hcz50_5 hcz50_6 hcz50_7 hcz50_8 hcz50_9
        try clear hcz57_0 hcz57_1 hcz57_2 hcz57_3 hcz57_4 hcz57_5 hcz57_6 hcz57_7 hcz57_8
        try clear hcz59_0 hcz59_1 hcz59_2 hcz59_3 hcz59_4 hcz59_5 hcz59_6 hcz59_7 hcz59_8
        try clear hcz62_0 hcz62_1 hcz62_2 hcz62_3 hcz62_4 hcz62_5 hcz62_6 hcz62_7 hcz62_8 hcz62_9
        try clear hcz64_0 hcz64_1 hcz64_2 hcz64_3 hcz64_4 hcz64_5
        try clear hcz70_0 hcz70_1 hcz70_2
        try clear hcz72_0 hcz72_1 hcz72_2
        try clear hcz75_0 hcz75_1 hcz75_2 hcz75_3 hcz75_4 hcz75_5 hcz75_6 hcz75_7 hcz75_8 hcz75_9
        try clear hcz77_0 hcz77_1 hcz77_2 hcz77_3 hcz77_4 hcz77_5
        try clear hcz83_0 hcz83_1 hcz83_2 hcz83_3 hcz83_4 hcz83_5 hcz83_6 hcz83_7 hcz83_8
        try clear hfz22_0 hfz22_1 hfz22_2 hfz22_3 hfz22_4 hfz22_5 hfz22_6 hfz22_7 hfz22_8 hfz22_9
        try clear hfz25_0 hfz25_1 hfz25_2 hfz25_3 hfz25_4 hfz25_5
        try clear hfz27_0 hfz27_1 hfz27_2 hfz27_3 hfz27_4 hfz27_5 hfz27_6 hfz27_7 hfz27_8
        try clear hfz31_0 hfz31_1 hfz31_2 hfz31_3 hfz31_4 hfz31_5 hfz31_6 hfz31_7 hfz31_8 hfz31_9
        try clear hfz34_0 hfz34_1 hfz34_2 hfz34_3 hfz34_4 hfz34_5
        try clear hfz36_0 hfz36_1 hfz36_2 hfz36_3 hfz36_4 hfz36_5 hfz36_6 hfz36_7 hfz36_8
        try clear hfz37_0 hfz37_1 hfz37_2
        try clear hfz41_0 hfz41_1 hfz41_2 hfz41_3 hfz41_4 hfz41_5 hfz41_6 hfz41_7 hfz41_8 hfz41_9
        try clear hfz44_0 hfz44_1 hfz44_2 hfz44_3 hfz44_4 hfz44_5
        try clear hfz46_0 hfz46_1 hfz46_2 hfz46_3 hfz46_4 hfz46_5 hfz46_6 hfz46_7 hfz46_8
        try clear hfz50_0 hfz50_1 hfz50_2 hfz50_3 hfz50_4 hfz50_5 hfz50_6 hfz50_7 hfz50_8 hfz50_9
        try clear hfz57_0 hfz57_1 hfz57_2 hfz57_3 hfz57_4 hfz57_5 hfz57_6 hfz57_7 hfz57_8
        try clear hfz59_0 hfz59_1 hfz59_2 hfz59_3 hfz59_4 hfz59_5 hfz59_6 hfz59_7 hfz59_8
        try clear hfz62_0 hfz62_1 hfz62_2 hfz62_3 hfz62_4 hfz62_5 hfz62_6 hfz62_7 hfz62_8 hfz62_9
        try clear hfz64_0 hfz64_1 hfz64_2 hfz64_3 hfz64_4 hfz64_5
        try clear hfz70_0 hfz70_1 hfz70_2
        try clear hfz72_0 hfz72_1 hfz72_2
        try clear hfz75_0 hfz75_1 hfz75_2 hfz75_3 hfz75_4 hfz75_5 hfz75_6 hfz75_7 hfz75_8 hfz75_9
        try clear hfz77_0 hfz77_1 hfz77_2 hfz77_3 hfz77_4 hfz77_5
        try clear hfz83_0 hfz83_1 hfz83_2 hfz83_3 hfz83_4 hfz83_5 hfz83_6 hfz83_7 hfz83_8
        try clear p2
        obtain ⟨kq, x94_78, rfl, HA, HJ78, BK479, BK480, BK481, BK482, HB⟩ := hcut
        cases kq with
        | zero => exact absurd HA.out (by simp [palanquinlaw09_FlowValid.j2])
        | succ kj78 =>
         have H := HA.out
         clear HA
         simp only [palanquinlaw09_FlowValid.j2] at H
         by_cases c87 : x94_78 = true
         ·subst c87
          rw [if_pos rfl] at H
          obtain rfl := Option.some.inj H
          go_wp2
          repeat (go_quiet (fail); try go_wp2)
          go_ret
          exact ⟨by first | rfl | (simp [errW_none, errW_some] <;> rfl) | (simp [*, errW_none, errW_some] <;> rfl), by repeat (first | (with_reducible first | exact HB.out | apply bA | apply bN | apply bD | refine bS ?_ GE479.out | refine bS ?_ GE480.out | refine bS ?_ GE481.out | refine bS ?_ GE482.out) | exact HB.out)⟩
         ·replace c87 := Bool.eq_false_iff.mpr c87
          subst c87
          rw [if_neg (show ¬ (false = true) by decide)] at H
          replace H := Option.bind_eq_some_iff.mp H
          obtain ⟨⟨t494, t495⟩, A880, H⟩ := H
          try dsimp +instances only at H
          have A88 := mA A880
          clear A880
          have HC89 := mA H
          clear H
          have hnb90 := NB479_480.out
          have hnc90 := NB480_479.out
          have hnb91 := NB479_481.out
          have hnc91 := NB481_479.out
          have hnb92 := NB479_482.out
          have hnc92 := NB482_479.out
          obtain ⟨hcz93_0, hcz93_1, hcz93_2, hcz93_3, hcz93_4, hcz93_5, hcz93_6, hcz93_7, hcz93_8, hcz93_9⟩ := bc10 BK479.out
          obtain ⟨hfz93_0, hfz93_1, hfz93_2, hfz93_3, hfz93_4, hfz93_5, hfz93_6, hfz93_7, hfz93_8, hfz93_9⟩ := bf10 BK479.out
          go_upto_if 104 with (first | (go_at_call 43; (with_reducible refine (flow_Build4.calls a0_0 a0_1 0 a0_3 x480004_52 a0_5 false a0_7 a0_8 a0_9 x11_52 t494 t495 _ A88.out (GP.below HgP_.out (by repeat (first | (with_reducible first | exact HB.out | apply bA | apply bN | apply bD | refine bS ?_ GE479.out | refine bS ?_ GE480.out | refine bS ?_ GE481.out | refine bS ?_ GE482.out | refine bS ?_ GE502.out | refine bS ?_ GE511.out) | exact HB.out)))).mono ?_); rintro e w94 ⟨rfl, hb⟩; have n0_ := mA (blk_below (g := gb479) (o := .cells #[.int .i64 a0_0, .int .i64 a0_1, .int .i64 0, .int .i64 a0_3, .int .i64 x480004_52, .bool a0_5, .bool false, .string a0_7, .string a0_8, .string a0_9] 69 (0, 0)) (by (with_reducible repeat (first | apply kN | apply kD | apply kA)); refine blk_put (cs := #[.int .i64 a0_0, .int .i64 a0_1, .int .i64 0, .int .i64 a0_3, .int .i64 x480004_52, .bool a0_5, .bool a0_6, .string a0_7, .string a0_8, .string a0_9]) ?_ 6 _ (by first | rfl | (simp [*]; done)); (with_reducible repeat (first | apply kN | apply kD | apply kA)); refine blk_put (cs := #[.int .i64 a0_0, .int .i64 a0_1, .int .i64 a0_2, .int .i64 a0_3, .int .i64 x480004_52, .bool a0_5, .bool a0_6, .string a0_7, .string a0_8, .string a0_9]) ?_ 2 _ (by first | rfl | (simp [*]; done)); (with_reducible repeat (first | apply kN | apply kD | apply kA)); exact BK479.out) hb); have n1_ := mA (blk_below (g := gb480) (o := .cells #[.int .i64 a1_0, .int .i64 a1_1, .int .i64 x481002_52, .int .i64 a1_3, .string a1_4, .string a1_5] 71 (0, 0)) (by (with_reducible repeat (first | apply kN | apply kD | apply kA | refine blk_far ?_ NB480_479.out _)); exact BK480.out) hb); have n2_ := mA (blk_below (g := gb481) (o := .cells #[.int .i64 a2_0, .int .i64 a2_1, .int .u32 a2_2, .int .u32 a2_3, .int .i64 a2_4, .int .i64 a2_5, .int .i64 a2_6, .string a2_7, .string a2_8] 79 (0, 0)) (by (with_reducible repeat (first | apply kN | apply kD | apply kA | refine blk_far ?_ NB481_479.out _)); exact BK481.out) hb); have n3_ := mA (blk_below (g := gb482) (o := .cells #[.int .i64 a3_0, .int .i64 a3_1, .string a3_2] 81 (0, 0)) (by (with_reducible repeat (first | apply kN | apply kD | apply kA | refine blk_far ?_ NB482_479.out _)); exact BK482.out) hb); have n4_ := mA (bP (by repeat (first | (with_reducible first | exact HB.out | apply bA | apply bN | apply bD | refine bS ?_ GE479.out | refine bS ?_ GE480.out | refine bS ?_ GE481.out | refine bS ?_ GE482.out) | exact HB.out)) hb); clear BK479; clear BK480; clear BK481; clear BK482; clear HB; have BK479 := n0_; have BK480 := n1_; have BK481 := n2_; have BK482 := n3_; have HB := n4_; clear n0_ n1_ n2_ n3_ n4_; (try clear hb); (try clear hb2); (try clear hk); (try clear hi)))
          repeat (go_quiet (first | (go_at_call 43; (with_reducible refine (flow_Build4.calls a0_0 a0_1 0 a0_3 x480004_52 a0_5 false a0_7 a0_8 a0_9 x11_52 t494 t495 _ A88.out (GP.below HgP_.out (by repeat (first | (with_reducible first | exact HB.out | apply bA | apply bN | apply bD | refine bS ?_ GE479.out | refine bS ?_ GE480.out | refine bS ?_ GE481.out | refine bS ?_ GE482.out | refine bS ?_ GE502.out | refine bS ?_ GE511.out) | exact HB.out)))).mono ?_); rintro e w94 ⟨rfl, hb⟩; have n0_ := mA (blk_below (g := gb479) (o := .cells #[.int .i64 a0_0, .int .i64 a0_1, .int .i64 0, .int .i64 a0_3, .int .i64 x480004_52, .bool a0_5, .bool false, .string a0_7, .string a0_8, .string a0_9] 69 (0, 0)) (by (with_reducible repeat (first | apply kN | apply kD | apply kA)); refine blk_put (cs := #[.int .i64 a0_0, .int .i64 a0_1, .int .i64 0, .int .i64 a0_3, .int .i64 x480004_52, .bool a0_5, .bool a0_6, .string a0_7, .string a0_8, .string a0_9]) ?_ 6 _ (by first | rfl | (simp [*]; done)); (with_reducible repeat (first | apply kN | apply kD | apply kA)); refine blk_put (cs := #[.int .i64 a0_0, .int .i64 a0_1, .int .i64 a0_2, .int .i64 a0_3, .int .i64 x480004_52, .bool a0_5, .bool a0_6, .string a0_7, .string a0_8, .string a0_9]) ?_ 2 _ (by first | rfl | (simp [*]; done)); (with_reducible repeat (first | apply kN | apply kD | apply kA)); exact BK479.out) hb); have n1_ := mA (blk_below (g := gb480) (o := .cells #[.int .i64 a1_0, .int .i64 a1_1, .int .i64 x481002_52, .int .i64 a1_3, .string a1_4, .string a1_5] 71 (0, 0)) (by (with_reducible repeat (first | apply kN | apply kD | apply kA | refine blk_far ?_ NB480_479.out _)); exact BK480.out) hb); have n2_ := mA (blk_below (g := gb481) (o := .cells #[.int .i64 a2_0, .int .i64 a2_1, .int .u32 a2_2, .int .u32 a2_3, .int .i64 a2_4, .int .i64 a2_5, .int .i64 a2_6, .string a2_7, .string a2_8] 79 (0, 0)) (by (with_reducible repeat (first | apply kN | apply kD | apply kA | refine blk_far ?_ NB481_479.out _)); exact BK481.out) hb); have n3_ := mA (blk_below (g := gb482) (o := .cells #[.int .i64 a3_0, .int .i64 a3_1, .string a3_2] 81 (0, 0)) (by (with_reducible repeat (first | apply kN | apply kD | apply kA | refine blk_far ?_ NB482_479.out _)); exact BK482.out) hb); have n4_ := mA (bP (by repeat (first | (with_reducible first | exact HB.out | apply bA | apply bN | apply bD | refine bS ?_ GE479.out | refine bS ?_ GE480.out | refine bS ?_ GE481.out | refine bS ?_ GE482.out) | exact HB.out)) hb); clear BK479; clear BK480; clear BK481; clear BK482; clear HB; have BK479 := n0_; have BK480 := n1_; have BK481 := n2_; have BK482 := n3_; have HB := n4_; clear n0_ n1_ n2_ n3_ n4_; (try clear hb); (try clear hb2); (try clear hk); (try clear hi))); go_upto_if 104 with (first | (go_at_call 43; (with_reducible refine (flow_Build4.calls a0_0 a0_1 0 a0_3 x480004_52 a0_5 false a0_7 a0_8 a0_9 x11_52 t494 t495 _ A88.out (GP.below HgP_.out (by repeat (first | (with_reducible first | exact HB.out | apply bA | apply bN | apply bD | refine bS ?_ GE479.out | refine bS ?_ GE480.out | refine bS ?_ GE481.out | refine bS ?_ GE482.out | refine bS ?_ GE502.out | refine bS ?_ GE511.out) | exact HB.out)))).mono ?_); rintro e w94 ⟨rfl, hb⟩; have n0_ := mA (blk_below (g := gb479) (o := .cells #[.int .i64 a0_0, .int .i64 a0_1, .int .i64 0, .int .i64 a0_3, .int .i64 x480004_52, .bool a0_5, .bool false, .string a0_7, .string a0_8, .string a0_9] 69 (0, 0)) (by (with_reducible repeat (first | apply kN | apply kD | apply kA)); refine blk_put (cs := #[.int .i64 a0_0, .int .i64 a0_1, .int .i64 0, .int .i64 a0_3, .int .i64 x480004_52, .bool a0_5, .bool a0_6, .string a0_7, .string a0_8, .string a0_9]) ?_ 6 _ (by first | rfl | (simp [*]; done)); (with_reducible repeat (first | apply kN | apply kD | apply kA)); refine blk_put (cs := #[.int .i64 a0_0, .int .i64 a0_1, .int .i64 a0_2, .int .i64 a0_3, .int .i64 x480004_52, .bool a0_5, .bool a0_6, .string a0_7, .string a0_8, .string a0_9]) ?_ 2 _ (by first | rfl | (simp [*]; done)); (with_reducible repeat (first | apply kN | apply kD | apply kA)); exact BK479.out) hb); have n1_ := mA (blk_below (g := gb480) (o := .cells #[.int .i64 a1_0, .int .i64 a1_1, .int .i64 x481002_52, .int .i64 a1_3, .string a1_4, .string a1_5] 71 (0, 0)) (by (with_reducible repeat (first | apply kN | apply kD | apply kA | refine blk_far ?_ NB480_479.out _)); exact BK480.out) hb); have n2_ := mA (blk_below (g := gb481) (o := .cells #[.int .i64 a2_0, .int .i64 a2_1, .int .u32 a2_2, .int .u32 a2_3, .int .i64 a2_4, .int .i64 a2_5, .int .i64 a2_6, .string a2_7, .string a2_8] 79 (0, 0)) (by (with_reducible repeat (first | apply kN | apply kD | apply kA | refine blk_far ?_ NB481_479.out _)); exact BK481.out) hb); have n3_ := mA (blk_below (g := gb482) (o := .cells #[.int .i64 a3_0, .int .i64 a3_1, .string a3_2] 81 (0, 0)) (by (with_reducible repeat (first | apply kN | apply kD | apply kA | refine blk_far ?_ NB482_479.out _)); exact BK482.out) hb); have n4_ := mA (bP (by repeat (first | (with_reducible first | exact HB.out | apply bA | apply bN | apply bD | refine bS ?_ GE479.out | refine bS ?_ GE480.out | refine bS ?_ GE481.out | refine bS ?_ GE482.out) | exact HB.out)) hb); clear BK479; clear BK480; clear BK481; clear BK482; clear HB; have BK479 := n0_; have BK480 := n1_; have BK481 := n2_; have BK482 := n3_; have HB := n4_; clear n0_ n1_ n2_ n3_ n4_; (try clear hb); (try clear hb2); (try clear hk); (try clear hi))))
          (try simp only [Act.put, List.setIfInBounds_toArray, List.set_cons_zero, List.set_cons_succ])
          go_cut [] (fun wc => ∃ (kq : Nat), Aside0 (palanquinlaw09_FlowValid.j3 kq x11_52 x13_52 x14_52 a1_0 a1_1 x481002_52 a1_3 a1_4 a1_5 = some r) ∧ Aside0 (kq ≤ kj78) ∧ Aside0 (wc.heap[gb479]? = some (.cells #[.int .i64 a0_0, .int .i64 a0_1, .int .i64 0, .int .i64 a0_3, .int .i64 x480004_52, .bool a0_5, .bool false, .string a0_7, .string a0_8, .string a0_9] 69 (0, 0))) ∧ Aside0 (wc.heap[gb480]? = some (.cells #[.int .i64 a1_0, .int .i64 a1_1, .int .i64 x481002_52, .int .i64 a1_3, .string a1_4, .string a1_5] 71 (0, 0))) ∧ Aside0 (wc.heap[gb481]? = some (.cells #[.int .i64 a2_0, .int .i64 a2_1, .int .u32 a2_2, .int .u32 a2_3, .int .i64 a2_4, .int .i64 a2_5, .int .i64 a2_6, .string a2_7, .string a2_8] 79 (0, 0))) ∧ Aside0 (wc.heap[gb482]? = some (.cells #[.int .i64 a3_0, .int .i64 a3_1, .string a3_2] 81 (0, 0))) ∧ Aside0 (Below w.heap.size w wc))
          case first =>
           have H := HC89.out
           clear HC89
           by_cases c95 : t495 = 0
           ·rw [if_pos c95] at H
            have c95b0 : (t495 == 0) = true := beq_iff_eq.mpr c95
            have c95b1 : (t495 != 0) = false := bne_eq_false_iff_eq.mpr c95
            clear c95
            (first | rw [c95b0] | (simp only [i64_w, i32_w]; rw [c95b0]) | skip)
            replace H := Option.bind_eq_some_iff.mp H
            obtain ⟨⟨t496, t497, t498, t499, t500, t501⟩, A960, H⟩ := H
            try dsimp +instances only at H
            have A96 := mA A960
            clear A960
            by_cases c97 : t501 = 0
            ·rw [if_pos c97] at H
             have c97b0 : (t501 == 0) = true := beq_iff_eq.mpr c97
             have c97b1 : (t501 != 0) = false := bne_eq_false_iff_eq.mpr c97
             clear c97
             by_cases c98 : (!(t496 == x480004_52) || (!(t497.toList == a0_7.toList) || (!(t498.toList == a0_8.toList) || (!(t499 == x13_52) || (!(t500 == x14_52)))))) = true
             ·rw [if_pos c98] at H
              exact absurd ((Option.some.inj H).trans hrt_.out) (by decide)
             ·rw [if_neg c98] at H
              have c98b0 : (!(t496 == x480004_52) || (!(t497.toList == a0_7.toList) || (!(t498.toList == a0_8.toList) || (!(t499 == x13_52) || (!(t500 == x14_52)))))) = false := by simpa using c98
              clear c98
              have H' := mA H
              clear H
              go_wp2_with (first | (go_at_call 51; (with_reducible refine (flow_Get.calls t494 t496 t497 t498 t499 t500 t501 _ A96.out).mono ?_); rintro e w110 ⟨rfl, hb⟩; have n0_ := mA (blk_below (g := gb479) (o := .cells #[.int .i64 a0_0, .int .i64 a0_1, .int .i64 0, .int .i64 a0_3, .int .i64 x480004_52, .bool a0_5, .bool false, .string a0_7, .string a0_8, .string a0_9] 69 (0, 0)) (by (with_reducible repeat (first | apply kN | apply kD | apply kA)); exact BK479.out) hb); have n1_ := mA (blk_below (g := gb480) (o := .cells #[.int .i64 a1_0, .int .i64 a1_1, .int .i64 x481002_52, .int .i64 a1_3, .string a1_4, .string a1_5] 71 (0, 0)) (by (with_reducible repeat (first | apply kN | apply kD | apply kA)); exact BK480.out) hb); have n2_ := mA (blk_below (g := gb481) (o := .cells #[.int .i64 a2_0, .int .i64 a2_1, .int .u32 a2_2, .int .u32 a2_3, .int .i64 a2_4, .int .i64 a2_5, .int .i64 a2_6, .string a2_7, .string a2_8] 79 (0, 0)) (by (with_reducible repeat (first | apply kN | apply kD | apply kA)); exact BK481.out) hb); have n3_ := mA (blk_below (g := gb482) (o := .cells #[.int .i64 a3_0, .int .i64 a3_1, .string a3_2] 81 (0, 0)) (by (with_reducible repeat (first | apply kN | apply kD | apply kA)); exact BK482.out) hb); have n4_ := mA (bP (by repeat (first | (with_reducible first | exact HB.out | apply bA | apply bN | apply bD | refine bS ?_ GE479.out | refine bS ?_ GE480.out | refine bS ?_ GE481.out | refine bS ?_ GE482.out) | exact HB.out)) hb); clear BK479; clear BK480; clear BK481; clear BK482; clear HB; have BK479 := n0_; have BK480 := n1_; have BK481 := n2_; have BK482 := n3_; have HB := n4_; clear n0_ n1_ n2_ n3_ n4_; (try clear hb); (try clear hb2); (try clear hk); (try clear hi)) | ((with_reducible refine gate_dst (N := 19) rfl ?_); (try (refine gate_guard (by rfl) ?_; dsimp only)); refine box_event ?hg (N := 19) ?hd (cs := #[.int .i64 0, .string ⟨#[]⟩, .string ⟨#[]⟩, .int .i64 0, .int .i64 0]) (t := 88) ?hr ?_; (case hd => rfl); (case hg => rfl); (case hr => first | (go_simp; done) | (go_simp; rfl)); intro gb502 hg w111 hbox hb; obtain ⟨n0_, nl479_⟩ := bt3 (g := gb479) (o := .cells #[.int .i64 a0_0, .int .i64 a0_1, .int .i64 0, .int .i64 a0_3, .int .i64 x480004_52, .bool a0_5, .bool false, .string a0_7, .string a0_8, .string a0_9] 69 (0, 0)) (by (with_reducible repeat (first | apply kN | apply kD | apply kA)); exact BK479.out) hb; obtain ⟨n1_, nl480_⟩ := bt3 (g := gb480) (o := .cells #[.int .i64 a1_0, .int .i64 a1_1, .int .i64 x481002_52, .int .i64 a1_3, .string a1_4, .string a1_5] 71 (0, 0)) (by (with_reducible repeat (first | apply kN | apply kD | apply kA)); exact BK480.out) hb; obtain ⟨n2_, nl481_⟩ := bt3 (g := gb481) (o := .cells #[.int .i64 a2_0, .int .i64 a2_1, .int .u32 a2_2, .int .u32 a2_3, .int .i64 a2_4, .int .i64 a2_5, .int .i64 a2_6, .string a2_7, .string a2_8] 79 (0, 0)) (by (with_reducible repeat (first | apply kN | apply kD | apply kA)); exact BK481.out) hb; obtain ⟨n3_, nl482_⟩ := bt3 (g := gb482) (o := .cells #[.int .i64 a3_0, .int .i64 a3_1, .string a3_2] 81 (0, 0)) (by (with_reducible repeat (first | apply kN | apply kD | apply kA)); exact BK482.out) hb; obtain ⟨n4_, nq_⟩ := bpr (by repeat (first | (with_reducible first | exact HB.out | apply bA | apply bN | apply bD | refine bS ?_ GE479.out | refine bS ?_ GE480.out | refine bS ?_ GE481.out | refine bS ?_ GE482.out) | exact HB.out)) hb; have n5_ := mA (hbox); have n6_ := mA ((by rw [hg]; exact nq_ : w.heap.size ≤ gb502)); have n7_ := mA ((by rw [hg]; exact nq_ : w.heap.size ≤ gb502)); have n8_ := mA ((by rw [hg]; exact Nat.ne_of_lt nl479_ : gb479 ≠ gb502)); have n9_ := mA ((by rw [hg]; exact Nat.ne_of_gt nl479_ : gb502 ≠ gb479)); have n10_ := mA ((by rw [hg]; exact Nat.ne_of_lt nl480_ : gb480 ≠ gb502)); have n11_ := mA ((by rw [hg]; exact Nat.ne_of_gt nl480_ : gb502 ≠ gb480)); have n12_ := mA ((by rw [hg]; exact Nat.ne_of_lt nl481_ : gb481 ≠ gb502)); have n13_ := mA ((by rw [hg]; exact Nat.ne_of_gt nl481_ : gb502 ≠ gb481)); have n14_ := mA ((by rw [hg]; exact Nat.ne_of_lt nl482_ : gb482 ≠ gb502)); have n15_ := mA ((by rw [hg]; exact Nat.ne_of_gt nl482_ : gb502 ≠ gb482)); clear BK479; clear BK480; clear BK481; clear BK482; clear HB; have BK479 := n0_; have BK480 := n1_; have BK481 := n2_; have BK482 := n3_; have HB := n4_; have BK502 := n5_; have GW502 := n6_; have GE502 := n7_; have NB479_502 := n8_; have NB502_479 := n9_; have NB480_502 := n10_; have NB502_480 := n11_; have NB481_502 := n12_; have NB502_481 := n13_; have NB482_502 := n14_; have NB502_482 := n15_; clear nl479_; clear nl480_; clear nl481_; clear nl482_; clear nq_; clear n0_ n1_ n2_ n3_ n4_ n5_ n6_ n7_ n8_ n9_ n10_ n11_ n12_ n13_ n14_ n15_; clear hb hbox hg; have hnb112 := NB502_479.out; have hnc112 := NB479_502.out; have hnb113 := NB502_480.out; have hnc113 := NB480_502.out; have hnb114 := NB502_481.out; have hnc114 := NB481_502.out; have hnb115 := NB502_482.out; have hnc115 := NB482_502.out; obtain ⟨hcz116_0, hcz116_1, hcz116_2, hcz116_3, hcz116_4⟩ := bc5 BK502.out; obtain ⟨hfz116_0, hfz116_1, hfz116_2, hfz116_3, hfz116_4⟩ := bf5 BK502.out; have hnb117 := NB479_480.out; have hnc117 := NB480_479.out; have hnb118 := NB479_481.out; have hnc118 := NB481_479.out; have hnb119 := NB479_482.out; have hnc119 := NB482_479.out; obtain ⟨hcz120_0, hcz120_1, hcz120_2, hcz120_3, hcz120_4, hcz120_5, hcz120_6, hcz120_7, hcz120_8, hcz120_9⟩ := bc10 BK479.out; obtain ⟨hfz120_0, hfz120_1, hfz120_2, hfz120_3, hfz120_4, hfz120_5, hfz120_6, hfz120_7, hfz120_8, hfz120_9⟩ := bf10 BK479.out))
              try obtain ⟨hcz116_0, hcz116_1, hcz116_2, hcz116_3, hcz116_4⟩ := bc5 BK502.out
              try obtain ⟨hfz116_0, hfz116_1, hfz116_2, hfz116_3, hfz116_4⟩ := bf5 BK502.out
              try obtain ⟨hcz120_0, hcz120_1, hcz120_2, hcz120_3, hcz120_4, hcz120_5, hcz120_6, hcz120_7, hcz120_8, hcz120_9⟩ := bc10 BK479.out
              try obtain ⟨hfz120_0, hfz120_1, hfz120_2, hfz120_3, hfz120_4, hfz120_5, hfz120_6, hfz120_7, hfz120_8, hfz120_9⟩ := bf10 BK479.out
              repeat (go_quiet (fail); try go_wp2_with (first | (go_at_call 51; (with_reducible refine (flow_Get.calls t494 t496 t497 t498 t499 t500 t501 _ A96.out).mono ?_); rintro e w110 ⟨rfl, hb⟩; have n0_ := mA (blk_below (g := gb479) (o := .cells #[.int .i64 a0_0, .int .i64 a0_1, .int .i64 0, .int .i64 a0_3, .int .i64 x480004_52, .bool a0_5, .bool false, .string a0_7, .string a0_8, .string a0_9] 69 (0, 0)) (by (with_reducible repeat (first | apply kN | apply kD | apply kA)); exact BK479.out) hb); have n1_ := mA (blk_below (g := gb480) (o := .cells #[.int .i64 a1_0, .int .i64 a1_1, .int .i64 x481002_52, .int .i64 a1_3, .string a1_4, .string a1_5] 71 (0, 0)) (by (with_reducible repeat (first | apply kN | apply kD | apply kA)); exact BK480.out) hb); have n2_ := mA (blk_below (g := gb481) (o := .cells #[.int .i64 a2_0, .int .i64 a2_1, .int .u32 a2_2, .int .u32 a2_3, .int .i64 a2_4, .int .i64 a2_5, .int .i64 a2_6, .string a2_7, .string a2_8] 79 (0, 0)) (by (with_reducible repeat (first | apply kN | apply kD | apply kA)); exact BK481.out) hb); have n3_ := mA (blk_below (g := gb482) (o := .cells #[.int .i64 a3_0, .int .i64 a3_1, .string a3_2] 81 (0, 0)) (by (with_reducible repeat (first | apply kN | apply kD | apply kA)); exact BK482.out) hb); have n4_ := mA (bP (by repeat (first | (with_reducible first | exact HB.out | apply bA | apply bN | apply bD | refine bS ?_ GE479.out | refine bS ?_ GE480.out | refine bS ?_ GE481.out | refine bS ?_ GE482.out) | exact HB.out)) hb); clear BK479; clear BK480; clear BK481; clear BK482; clear HB; have BK479 := n0_; have BK480 := n1_; have BK481 := n2_; have BK482 := n3_; have HB := n4_; clear n0_ n1_ n2_ n3_ n4_; (try clear hb); (try clear hb2); (try clear hk); (try clear hi)) | ((with_reducible refine gate_dst (N := 19) rfl ?_); (try (refine gate_guard (by rfl) ?_; dsimp only)); refine box_event ?hg (N := 19) ?hd (cs := #[.int .i64 0, .string ⟨#[]⟩, .string ⟨#[]⟩, .int .i64 0, .int .i64 0]) (t := 88) ?hr ?_; (case hd => rfl); (case hg => rfl); (case hr => first | (go_simp; done) | (go_simp; rfl)); intro gb502 hg w111 hbox hb; obtain ⟨n0_, nl479_⟩ := bt3 (g := gb479) (o := .cells #[.int .i64 a0_0, .int .i64 a0_1, .int .i64 0, .int .i64 a0_3, .int .i64 x480004_52, .bool a0_5, .bool false, .string a0_7, .string a0_8, .string a0_9] 69 (0, 0)) (by (with_reducible repeat (first | apply kN | apply kD | apply kA)); exact BK479.out) hb; obtain ⟨n1_, nl480_⟩ := bt3 (g := gb480) (o := .cells #[.int .i64 a1_0, .int .i64 a1_1, .int .i64 x481002_52, .int .i64 a1_3, .string a1_4, .string a1_5] 71 (0, 0)) (by (with_reducible repeat (first | apply kN | apply kD | apply kA)); exact BK480.out) hb; obtain ⟨n2_, nl481_⟩ := bt3 (g := gb481) (o := .cells #[.int .i64 a2_0, .int .i64 a2_1, .int .u32 a2_2, .int .u32 a2_3, .int .i64 a2_4, .int .i64 a2_5, .int .i64 a2_6, .string a2_7, .string a2_8] 79 (0, 0)) (by (with_reducible repeat (first | apply kN | apply kD | apply kA)); exact BK481.out) hb; obtain ⟨n3_, nl482_⟩ := bt3 (g := gb482) (o := .cells #[.int .i64 a3_0, .int .i64 a3_1, .string a3_2] 81 (0, 0)) (by (with_reducible repeat (first | apply kN | apply kD | apply kA)); exact BK482.out) hb; obtain ⟨n4_, nq_⟩ := bpr (by repeat (first | (with_reducible first | exact HB.out | apply bA | apply bN | apply bD | refine bS ?_ GE479.out | refine bS ?_ GE480.out | refine bS ?_ GE481.out | refine bS ?_ GE482.out) | exact HB.out)) hb; have n5_ := mA (hbox); have n6_ := mA ((by rw [hg]; exact nq_ : w.heap.size ≤ gb502)); have n7_ := mA ((by rw [hg]; exact nq_ : w.heap.size ≤ gb502)); have n8_ := mA ((by rw [hg]; exact Nat.ne_of_lt nl479_ : gb479 ≠ gb502)); have n9_ := mA ((by rw [hg]; exact Nat.ne_of_gt nl479_ : gb502 ≠ gb479)); have n10_ := mA ((by rw [hg]; exact Nat.ne_of_lt nl480_ : gb480 ≠ gb502)); have n11_ := mA ((by rw [hg]; exact Nat.ne_of_gt nl480_ : gb502 ≠ gb480)); have n12_ := mA ((by rw [hg]; exact Nat.ne_of_lt nl481_ : gb481 ≠ gb502)); have n13_ := mA ((by rw [hg]; exact Nat.ne_of_gt nl481_ : gb502 ≠ gb481)); have n14_ := mA ((by rw [hg]; exact Nat.ne_of_lt nl482_ : gb482 ≠ gb502)); have n15_ := mA ((by rw [hg]; exact Nat.ne_of_gt nl482_ : gb502 ≠ gb482)); clear BK479; clear BK480; clear BK481; clear BK482; clear HB; have BK479 := n0_; have BK480 := n1_; have BK481 := n2_; have BK482 := n3_; have HB := n4_; have BK502 := n5_; have GW502 := n6_; have GE502 := n7_; have NB479_502 := n8_; have NB502_479 := n9_; have NB480_502 := n10_; have NB502_480 := n11_; have NB481_502 := n12_; have NB502_481 := n13_; have NB482_502 := n14_; have NB502_482 := n15_; clear nl479_; clear nl480_; clear nl481_; clear nl482_; clear nq_; clear n0_ n1_ n2_ n3_ n4_ n5_ n6_ n7_ n8_ n9_ n10_ n11_ n12_ n13_ n14_ n15_; clear hb hbox hg; have hnb112 := NB502_479.out; have hnc112 := NB479_502.out; have hnb113 := NB502_480.out; have hnc113 := NB480_502.out; have hnb114 := NB502_481.out; have hnc114 := NB481_502.out; have hnb115 := NB502_482.out; have hnc115 := NB482_502.out; try obtain ⟨hcz116_0, hcz116_1, hcz116_2, hcz116_3, hcz116_4⟩ := bc5 BK502.out; try obtain ⟨hfz116_0, hfz116_1, hfz116_2, hfz116_3, hfz116_4⟩ := bf5 BK502.out; have hnb117 := NB479_480.out; have hnc117 := NB480_479.out; have hnb118 := NB479_481.out; have hnc118 := NB481_479.out; have hnb119 := NB479_482.out; have hnc119 := NB482_479.out; try obtain ⟨hcz120_0, hcz120_1, hcz120_2, hcz120_3, hcz120_4, hcz120_5, hcz120_6, hcz120_7, hcz120_8, hcz120_9⟩ := bc10 BK479.out; try obtain ⟨hfz120_0, hfz120_1, hfz120_2, hfz120_3, hfz120_4, hfz120_5, hfz120_6, hfz120_7, hfz120_8, hfz120_9⟩ := bf10 BK479.out)))
              go_meet
              case rel => exact ⟨_, H', ⟨by have := HJ7.out; have := HJ52.out; have := HJ78.out; first | omega | exact Nat.le_refl _⟩, ⟨by (with_reducible repeat (first | apply kN | apply kD | apply kA | refine blk_far ?_ NB479_502.out _)); exact BK479.out⟩, ⟨by (with_reducible repeat (first | apply kN | apply kD | apply kA | refine blk_far ?_ NB480_502.out _)); exact BK480.out⟩, ⟨by (with_reducible repeat (first | apply kN | apply kD | apply kA | refine blk_far ?_ NB481_502.out _)); exact BK481.out⟩, ⟨by (with_reducible repeat (first | apply kN | apply kD | apply kA | refine blk_far ?_ NB482_502.out _)); exact BK482.out⟩, ⟨by repeat (first | (with_reducible first | exact HB.out | apply bA | apply bN | apply bD | refine bS ?_ GE479.out | refine bS ?_ GE480.out | refine bS ?_ GE481.out | refine bS ?_ GE482.out | refine bS ?_ GE502.out) | exact HB.out)⟩⟩
            ·rw [if_neg c97] at H
             exact absurd ((Option.some.inj H).trans hrt_.out) (by decide)
           ·rw [if_neg c95] at H
            have c95b0 : (t495 == 0) = false := beq_eq_false_iff_ne.mpr c95
            have c95b1 : (t495 != 0) = true := bne_iff_ne.mpr c95
            (first | rw [c95b0] | (simp only [i64_w, i32_w]; rw [c95b0]) | skip)
            have H' := mA H
            clear H
            go_wp2
            repeat (go_quiet (fail); try go_wp2)
            go_meet
            case rel => exact ⟨_, H', ⟨by have := HJ7.out; have := HJ52.out; have := HJ78.out; first | omega | exact Nat.le_refl _⟩, ⟨by (with_reducible repeat (first | apply kN | apply kD | apply kA)); exact BK479.out⟩, ⟨by (with_reducible repeat (first | apply kN | apply kD | apply kA)); exact BK480.out⟩, ⟨by (with_reducible repeat (first | apply kN | apply kD | apply kA)); exact BK481.out⟩, ⟨by (with_reducible repeat (first | apply kN | apply kD | apply kA)); exact BK482.out⟩, ⟨by repeat (first | (with_reducible first | exact HB.out | apply bA | apply bN | apply bD | refine bS ?_ GE479.out | refine bS ?_ GE480.out | refine bS ?_ GE481.out | refine bS ?_ GE482.out) | exact HB.out)⟩⟩
          case rest =>
           clear HC89
           try clear c1
           try clear c2
           try clear p2
           try clear c3
           try clear c4
           try clear c5
           try clear c6
           try clear c7
           try clear c8
           try clear c9
           try clear c10
           try clear c11
           try clear c12
           try clear c15
           try clear c16
           try clear c17
           try clear c18
           try clear c18b0
           try clear c18b1
           try clear c19
           try clear c20
           try clear c21
           try clear c23
           try clear c24
           try clear c26
           try clear c28
           try clear c29
           try clear c30
           try clear c32
           try clear c33
           try clear c35
           try clear c38
           try clear c39
           try clear c40
           try clear c42
           try clear c43
           try clear c45
           try clear c47
           try clear c48
           try clear c49
           try clear c51
           try clear c54
           try clear c55
           try clear c56
           try clear c60
           try clear c61
           try clear c63
           try clear c65
           try clear c67
           try clear c68
           try clear c69
           try clear c73
           try clear c74
           try clear c76
           try clear c80
           try clear c81
           try clear c82
           try clear c85
           try clear c85b0
           try clear c85b1
           try clear c86
           try clear c87
           try clear c90
           try clear c91
           try clear c92
           try clear c95
           try clear c95b0
           try clear c95b1
           try clear c97
           try clear c97b0
           try clear c97b1
           try clear c98
           try clear c98b0
           try clear c101
           try clear c102
           try clear c103
           try clear c104
           try clear c106
           try clear c107
           try clear c108
           try clear c112
           try clear c113
           try clear c114
           try clear c115
           try clear c117
           try clear c118
           try clear c119
           try clear c123
           try clear c124
           try clear c125
           try clear c126
           try clear hcz105_0 hcz105_1 hcz105_2 hcz105_3 hcz105_4
           try clear hcz109_0 hcz109_1 hcz109_2 hcz109_3 hcz109_4 hcz109_5 hcz109_6 hcz109_7 hcz109_8 hcz109_9
           try clear hcz116_0 hcz116_1 hcz116_2 hcz116_3 hcz116_4
           try clear hcz120_0 hcz120_1 hcz120_2 hcz120_3 hcz120_4 hcz120_5 hcz120_6 hcz120_7 hcz120_8 hcz120_9
           try clear hcz127_0 hcz127_1 hcz127_2 hcz127_3 hcz127_4
           try clear hcz22_0 hcz22_1 hcz22_2 hcz22_3 hcz22_4 hcz22_5 hcz22_6 hcz22_7 hcz22_8 hcz22_9
           try clear hcz25_0 hcz25_1 hcz25_2 hcz25_3 hcz25_4 hcz25_5
           try clear hcz27_0 hcz27_1 hcz27_2 hcz27_3 hcz27_4 hcz27_5 hcz27_6 hcz27_7 hcz27_8
           try clear hcz31_0 hcz31_1 hcz31_2 hcz31_3 hcz31_4 hcz31_5 hcz31_6 hcz31_7 hcz31_8 hcz31_9
           try clear hcz34_0 hcz34_1 hcz34_2 hcz34_3 hcz34_4 hcz34_5
           try clear hcz36_0 hcz36_1 hcz36_2 hcz36_3 hcz36_4 hcz36_5 hcz36_6 hcz36_7 hcz36_8
           try clear hcz37_0 hcz37_1 hcz37_2
           try clear hcz41_0 hcz41_1 hcz41_2 hcz41_3 hcz41_4 hcz41_5 hcz41_6 hcz41_7 hcz41_8 hcz41_9
           try clear hcz44_0 hcz44_1 hcz44_2 hcz44_3 hcz44_4 hcz44_5
           try clear hcz46_0 hcz46_1 hcz46_2 hcz46_3 hcz46_4 hcz46_5 hcz46_6 hcz46_7 hcz46_8
           try clear hcz50_0 hcz50_1 hcz50_2 hcz50_3 hcz50_4 hcz50_5 hcz50_6 hcz50_7 hcz50_8 hcz50_9
           try clear hcz57_0 hcz57_1 hcz57_2 hcz57_3 hcz57_4 hcz57_5 hcz57_6 hcz57_7 hcz57_8
           try clear hcz59_0 hcz59_1 hcz59_2 hcz59_3 hcz59_4 hcz59_5 hcz59_6 hcz59_7 hcz59_8
           try clear hcz62_0 hcz62_1 hcz62_2 hcz62_3 hcz62_4 hcz62_5 hcz62_6 hcz62_7 hcz62_8 hcz62_9
           try clear hcz64_0 hcz64_1 hcz64_2 hcz64_3 hcz64_4 hcz64_5
           try clear hcz70_0 hcz70_1 hcz70_2
           try clear hcz72_0 hcz72_1 hcz72_2
           try clear hcz75_0 hcz75_1 hcz75_2 hcz75_3 hcz75_4 hcz75_5 hcz75_6 hcz75_7 hcz75_8 hcz75_9
           try clear hcz77_0 hcz77_1 hcz77_2 hcz77_3 hcz77_4 hcz77_5
           try clear hcz83_0 hcz83_1 hcz83_2 hcz83_3 hcz83_4 hcz83_5 hcz83_6 hcz83_7 hcz83_8
           try clear hcz93_0 hcz93_1 hcz93_2 hcz93_3 hcz93_4 hcz93_5 hcz93_6 hcz93_7 hcz93_8 hcz93_9
           try clear hfz105_0 hfz105_1 hfz105_2 hfz105_3 hfz105_4
           try clear hfz109_0 hfz109_1 hfz109_2 hfz109_3 hfz109_4 hfz109_5 hfz109_6 hfz109_7 hfz109_8 hfz109_9
           try clear hfz116_0 hfz116_1 hfz116_2 hfz116_3 hfz116_4
           try clear hfz120_0 hfz120_1 hfz120_2 hfz120_3 hfz120_4 hfz120_5 hfz120_6 hfz120_7 hfz120_8 hfz120_9
           try clear hfz127_0 hfz127_1 hfz127_2 hfz127_3 hfz127_4
           try clear hfz22_0 hfz22_1 hfz22_2 hfz22_3 hfz22_4 hfz22_5 hfz22_6 hfz22_7 hfz22_8 hfz22_9
           try clear hfz25_0 hfz25_1 hfz25_2 hfz25_3 hfz25_4 hfz25_5
           try clear hfz27_0 hfz27_1 hfz27_2 hfz27_3 hfz27_4 hfz27_5 hfz27_6 hfz27_7 hfz27_8
           try clear hfz31_0 hfz31_1 hfz31_2 hfz31_3 hfz31_4 hfz31_5 hfz31_6 hfz31_7 hfz31_8 hfz31_9
           try clear hfz34_0 hfz34_1 hfz34_2 hfz34_3 hfz34_4 hfz34_5
           try clear hfz36_0 hfz36_1 hfz36_2 hfz36_3 hfz36_4 hfz36_5 hfz36_6 hfz36_7 hfz36_8
           try clear hfz37_0 hfz37_1 hfz37_2
           try clear hfz41_0 hfz41_1 hfz41_2 hfz41_3 hfz41_4 hfz41_5 hfz41_6 hfz41_7 hfz41_8 hfz41_9
           try clear hfz44_0 hfz44_1 hfz44_2 hfz44_3 hfz44_4 hfz44_5
           try clear hfz46_0 hfz46_1 hfz46_2 hfz46_3 hfz46_4 hfz46_5 hfz46_6 hfz46_7 hfz46_8
           try clear hfz50_0 hfz50_1 hfz50_2 hfz50_3 hfz50_4 hfz50_5 hfz50_6 hfz50_7 hfz50_8 hfz50_9
           try clear hfz57_0 hfz57_1 hfz57_2 hfz57_3 hfz57_4 hfz57_5 hfz57_6 hfz57_7 hfz57_8
           try clear hfz59_0 hfz59_1 hfz59_2 hfz59_3 hfz59_4 hfz59_5 hfz59_6 hfz59_7 hfz59_8
           try clear hfz62_0 hfz62_1 hfz62_2 hfz62_3 hfz62_4 hfz62_5 hfz62_6 hfz62_7 hfz62_8 hfz62_9
           try clear hfz64_0 hfz64_1 hfz64_2 hfz64_3 hfz64_4 hfz64_5
           try clear hfz70_0 hfz70_1 hfz70_2
           try clear hfz72_0 hfz72_1 hfz72_2
           try clear hfz75_0 hfz75_1 hfz75_2 hfz75_3 hfz75_4 hfz75_5 hfz75_6 hfz75_7 hfz75_8 hfz75_9
           try clear hfz77_0 hfz77_1 hfz77_2 hfz77_3 hfz77_4 hfz77_5
           try clear hfz83_0 hfz83_1 hfz83_2 hfz83_3 hfz83_4 hfz83_5 hfz83_6 hfz83_7 hfz83_8
           try clear hfz93_0 hfz93_1 hfz93_2 hfz93_3 hfz93_4 hfz93_5 hfz93_6 hfz93_7 hfz93_8 hfz93_9
           try clear p2
           obtain ⟨kq, HA, HJ88, BK479, BK480, BK481, BK482, HB⟩ := hcut
           cases kq with
           | zero => exact absurd HA.out (by simp [palanquinlaw09_FlowValid.j3])
           | succ kj88 =>
            have H := HA.out
            clear HA
            simp only [palanquinlaw09_FlowValid.j3] at H
            replace H := Option.bind_eq_some_iff.mp H
            obtain ⟨⟨t503, t504⟩, A1280, H⟩ := H
            try dsimp +instances only at H
            have A128 := mA A1280
            clear A1280
            by_cases c129 : t504 = 0
            ·rw [if_pos c129] at H
             have c129b0 : (t504 == 0) = true := beq_iff_eq.mpr c129
             have c129b1 : (t504 != 0) = false := bne_eq_false_iff_eq.mpr c129
             clear c129
             replace H := Option.bind_eq_some_iff.mp H
             obtain ⟨⟨t505, t506, t507, t508, t509, t510⟩, A1300, H⟩ := H
             try dsimp +instances only at H
             have A130 := mA A1300
             clear A1300
             by_cases c131 : t510 = 0
             ·rw [if_pos c131] at H
              have c131b0 : (t510 == 0) = true := beq_iff_eq.mpr c131
              have c131b1 : (t510 != 0) = false := bne_eq_false_iff_eq.mpr c131
              clear c131
              obtain rfl := Option.some.inj H
              have hnb132 := NB480_479.out
              have hnc132 := NB479_480.out
              have hnb133 := NB480_481.out
              have hnc133 := NB481_480.out
              have hnb134 := NB480_482.out
              have hnc134 := NB482_480.out
              obtain ⟨hcz135_0, hcz135_1, hcz135_2, hcz135_3, hcz135_4, hcz135_5⟩ := bc6 BK480.out
              obtain ⟨hfz135_0, hfz135_1, hfz135_2, hfz135_3, hfz135_4, hfz135_5⟩ := bf6 BK480.out
              go_wp2_with (first | (go_at_call 45; (with_reducible refine (flow_Build6.calls a1_0 a1_1 x481002_52 a1_3 a1_4 a1_5 x11_52 t503 t504 _ A128.out (GP.below HgP_.out (by repeat (first | (with_reducible first | exact HB.out | apply bA | apply bN | apply bD | refine bS ?_ GE479.out | refine bS ?_ GE480.out | refine bS ?_ GE481.out | refine bS ?_ GE482.out | refine bS ?_ GE502.out | refine bS ?_ GE511.out) | exact HB.out)))).mono ?_); rintro e w136 ⟨rfl, hb⟩; have n0_ := mA (blk_below (g := gb479) (o := .cells #[.int .i64 a0_0, .int .i64 a0_1, .int .i64 0, .int .i64 a0_3, .int .i64 x480004_52, .bool a0_5, .bool false, .string a0_7, .string a0_8, .string a0_9] 69 (0, 0)) (by (with_reducible repeat (first | apply kN | apply kD | apply kA)); exact BK479.out) hb); have n1_ := mA (blk_below (g := gb480) (o := .cells #[.int .i64 a1_0, .int .i64 a1_1, .int .i64 x481002_52, .int .i64 a1_3, .string a1_4, .string a1_5] 71 (0, 0)) (by (with_reducible repeat (first | apply kN | apply kD | apply kA)); exact BK480.out) hb); have n2_ := mA (blk_below (g := gb481) (o := .cells #[.int .i64 a2_0, .int .i64 a2_1, .int .u32 a2_2, .int .u32 a2_3, .int .i64 a2_4, .int .i64 a2_5, .int .i64 a2_6, .string a2_7, .string a2_8] 79 (0, 0)) (by (with_reducible repeat (first | apply kN | apply kD | apply kA)); exact BK481.out) hb); have n3_ := mA (blk_below (g := gb482) (o := .cells #[.int .i64 a3_0, .int .i64 a3_1, .string a3_2] 81 (0, 0)) (by (with_reducible repeat (first | apply kN | apply kD | apply kA)); exact BK482.out) hb); have n4_ := mA (bP (by repeat (first | (with_reducible first | exact HB.out | apply bA | apply bN | apply bD | refine bS ?_ GE479.out | refine bS ?_ GE480.out | refine bS ?_ GE481.out | refine bS ?_ GE482.out) | exact HB.out)) hb); clear BK479; clear BK480; clear BK481; clear BK482; clear HB; have BK479 := n0_; have BK480 := n1_; have BK481 := n2_; have BK482 := n3_; have HB := n4_; clear n0_ n1_ n2_ n3_ n4_; (try clear hb); (try clear hb2); (try clear hk); (try clear hi)) | (go_at_call 51; (with_reducible refine (flow_Get.calls t503 t505 t506 t507 t508 t509 t510 _ A130.out).mono ?_); rintro e w137 ⟨rfl, hb⟩; have n0_ := mA (blk_below (g := gb479) (o := .cells #[.int .i64 a0_0, .int .i64 a0_1, .int .i64 0, .int .i64 a0_3, .int .i64 x480004_52, .bool a0_5, .bool false, .string a0_7, .string a0_8, .string a0_9] 69 (0, 0)) (by (with_reducible repeat (first | apply kN | apply kD | apply kA)); exact BK479.out) hb); have n1_ := mA (blk_below (g := gb480) (o := .cells #[.int .i64 a1_0, .int .i64 a1_1, .int .i64 x481002_52, .int .i64 a1_3, .string a1_4, .string a1_5] 71 (0, 0)) (by (with_reducible repeat (first | apply kN | apply kD | apply kA)); exact BK480.out) hb); have n2_ := mA (blk_below (g := gb481) (o := .cells #[.int .i64 a2_0, .int .i64 a2_1, .int .u32 a2_2, .int .u32 a2_3, .int .i64 a2_4, .int .i64 a2_5, .int .i64 a2_6, .string a2_7, .string a2_8] 79 (0, 0)) (by (with_reducible repeat (first | apply kN | apply kD | apply kA)); exact BK481.out) hb); have n3_ := mA (blk_below (g := gb482) (o := .cells #[.int .i64 a3_0, .int .i64 a3_1, .string a3_2] 81 (0, 0)) (by (with_reducible repeat (first | apply kN | apply kD | apply kA)); exact BK482.out) hb); have n4_ := mA (bP (by repeat (first | (with_reducible first | exact HB.out | apply bA | apply bN | apply bD | refine bS ?_ GE479.out | refine bS ?_ GE480.out | refine bS ?_ GE481.out | refine bS ?_ GE482.out) | exact HB.out)) hb); clear BK479; clear BK480; clear BK481; clear BK482; clear HB; have BK479 := n0_; have BK480 := n1_; have BK481 := n2_; have BK482 := n3_; have HB := n4_; clear n0_ n1_ n2_ n3_ n4_; (try clear hb); (try clear hb2); (try clear hk); (try clear hi)) | ((with_reducible refine gate_dst (N := 22) rfl ?_); (try (refine gate_guard (by rfl) ?_; dsimp only)); refine box_event ?hg (N := 22) ?hd (cs := #[.int .i64 0, .string ⟨#[]⟩, .string ⟨#[]⟩, .int .i64 0, .int .i64 0]) (t := 88) ?hr ?_; (case hd => rfl); (case hg => rfl); (case hr => first | (go_simp; done) | (go_simp; rfl)); intro gb511 hg w138 hbox hb; obtain ⟨n0_, nl479_⟩ := bt3 (g := gb479) (o := .cells #[.int .i64 a0_0, .int .i64 a0_1, .int .i64 0, .int .i64 a0_3, .int .i64 x480004_52, .bool a0_5, .bool false, .string a0_7, .string a0_8, .string a0_9] 69 (0, 0)) (by (with_reducible repeat (first | apply kN | apply kD | apply kA)); exact BK479.out) hb; obtain ⟨n1_, nl480_⟩ := bt3 (g := gb480) (o := .cells #[.int .i64 a1_0, .int .i64 a1_1, .int .i64 x481002_52, .int .i64 a1_3, .string a1_4, .string a1_5] 71 (0, 0)) (by (with_reducible repeat (first | apply kN | apply kD | apply kA)); exact BK480.out) hb; obtain ⟨n2_, nl481_⟩ := bt3 (g := gb481) (o := .cells #[.int .i64 a2_0, .int .i64 a2_1, .int .u32 a2_2, .int .u32 a2_3, .int .i64 a2_4, .int .i64 a2_5, .int .i64 a2_6, .string a2_7, .string a2_8] 79 (0, 0)) (by (with_reducible repeat (first | apply kN | apply kD | apply kA)); exact BK481.out) hb; obtain ⟨n3_, nl482_⟩ := bt3 (g := gb482) (o := .cells #[.int .i64 a3_0, .int .i64 a3_1, .string a3_2] 81 (0, 0)) (by (with_reducible repeat (first | apply kN | apply kD | apply kA)); exact BK482.out) hb; obtain ⟨n4_, nq_⟩ := bpr (by repeat (first | (with_reducible first | exact HB.out | apply bA | apply bN | apply bD | refine bS ?_ GE479.out | refine bS ?_ GE480.out | refine bS ?_ GE481.out | refine bS ?_ GE482.out) | exact HB.out)) hb; have n5_ := mA (hbox); have n6_ := mA ((by rw [hg]; exact nq_ : w.heap.size ≤ gb511)); have n7_ := mA ((by rw [hg]; exact nq_ : w.heap.size ≤ gb511)); have n8_ := mA ((by rw [hg]; exact Nat.ne_of_lt nl479_ : gb479 ≠ gb511)); have n9_ := mA ((by rw [hg]; exact Nat.ne_of_gt nl479_ : gb511 ≠ gb479)); have n10_ := mA ((by rw [hg]; exact Nat.ne_of_lt nl480_ : gb480 ≠ gb511)); have n11_ := mA ((by rw [hg]; exact Nat.ne_of_gt nl480_ : gb511 ≠ gb480)); have n12_ := mA ((by rw [hg]; exact Nat.ne_of_lt nl481_ : gb481 ≠ gb511)); have n13_ := mA ((by rw [hg]; exact Nat.ne_of_gt nl481_ : gb511 ≠ gb481)); have n14_ := mA ((by rw [hg]; exact Nat.ne_of_lt nl482_ : gb482 ≠ gb511)); have n15_ := mA ((by rw [hg]; exact Nat.ne_of_gt nl482_ : gb511 ≠ gb482)); clear BK479; clear BK480; clear BK481; clear BK482; clear HB; have BK479 := n0_; have BK480 := n1_; have BK481 := n2_; have BK482 := n3_; have HB := n4_; have BK511 := n5_; have GW511 := n6_; have GE511 := n7_; have NB479_511 := n8_; have NB511_479 := n9_; have NB480_511 := n10_; have NB511_480 := n11_; have NB481_511 := n12_; have NB511_481 := n13_; have NB482_511 := n14_; have NB511_482 := n15_; clear nl479_; clear nl480_; clear nl481_; clear nl482_; clear nq_; clear n0_ n1_ n2_ n3_ n4_ n5_ n6_ n7_ n8_ n9_ n10_ n11_ n12_ n13_ n14_ n15_; clear hb hbox hg; have hnb139 := NB511_479.out; have hnc139 := NB479_511.out; have hnb140 := NB511_480.out; have hnc140 := NB480_511.out; have hnb141 := NB511_481.out; have hnc141 := NB481_511.out; have hnb142 := NB511_482.out; have hnc142 := NB482_511.out; obtain ⟨hcz143_0, hcz143_1, hcz143_2, hcz143_3, hcz143_4⟩ := bc5 BK511.out; obtain ⟨hfz143_0, hfz143_1, hfz143_2, hfz143_3, hfz143_4⟩ := bf5 BK511.out; obtain ⟨hcz144_0, hcz144_1, hcz144_2, hcz144_3, hcz144_4, hcz144_5⟩ := bc6 BK480.out; obtain ⟨hfz144_0, hfz144_1, hfz144_2, hfz144_3, hfz144_4, hfz144_5⟩ := bf6 BK480.out))
              try obtain ⟨hcz143_0, hcz143_1, hcz143_2, hcz143_3, hcz143_4⟩ := bc5 BK511.out
              try obtain ⟨hfz143_0, hfz143_1, hfz143_2, hfz143_3, hfz143_4⟩ := bf5 BK511.out
              try obtain ⟨hcz144_0, hcz144_1, hcz144_2, hcz144_3, hcz144_4, hcz144_5⟩ := bc6 BK480.out
              try obtain ⟨hfz144_0, hfz144_1, hfz144_2, hfz144_3, hfz144_4, hfz144_5⟩ := bf6 BK480.out
              repeat (go_quiet (fail); try go_wp2_with (first | (go_at_call 45; (with_reducible refine (flow_Build6.calls a1_0 a1_1 x481002_52 a1_3 a1_4 a1_5 x11_52 t503 t504 _ A128.out (GP.below HgP_.out (by repeat (first | (with_reducible first | exact HB.out | apply bA | apply bN | apply bD | refine bS ?_ GE479.out | refine bS ?_ GE480.out | refine bS ?_ GE481.out | refine bS ?_ GE482.out | refine bS ?_ GE502.out | refine bS ?_ GE511.out) | exact HB.out)))).mono ?_); rintro e w136 ⟨rfl, hb⟩; have n0_ := mA (blk_below (g := gb479) (o := .cells #[.int .i64 a0_0, .int .i64 a0_1, .int .i64 0, .int .i64 a0_3, .int .i64 x480004_52, .bool a0_5, .bool false, .string a0_7, .string a0_8, .string a0_9] 69 (0, 0)) (by (with_reducible repeat (first | apply kN | apply kD | apply kA)); exact BK479.out) hb); have n1_ := mA (blk_below (g := gb480) (o := .cells #[.int .i64 a1_0, .int .i64 a1_1, .int .i64 x481002_52, .int .i64 a1_3, .string a1_4, .string a1_5] 71 (0, 0)) (by (with_reducible repeat (first | apply kN | apply kD | apply kA)); exact BK480.out) hb); have n2_ := mA (blk_below (g := gb481) (o := .cells #[.int .i64 a2_0, .int .i64 a2_1, .int .u32 a2_2, .int .u32 a2_3, .int .i64 a2_4, .int .i64 a2_5, .int .i64 a2_6, .string a2_7, .string a2_8] 79 (0, 0)) (by (with_reducible repeat (first | apply kN | apply kD | apply kA)); exact BK481.out) hb); have n3_ := mA (blk_below (g := gb482) (o := .cells #[.int .i64 a3_0, .int .i64 a3_1, .string a3_2] 81 (0, 0)) (by (with_reducible repeat (first | apply kN | apply kD | apply kA)); exact BK482.out) hb); have n4_ := mA (bP (by repeat (first | (with_reducible first | exact HB.out | apply bA | apply bN | apply bD | refine bS ?_ GE479.out | refine bS ?_ GE480.out | refine bS ?_ GE481.out | refine bS ?_ GE482.out) | exact HB.out)) hb); clear BK479; clear BK480; clear BK481; clear BK482; clear HB; have BK479 := n0_; have BK480 := n1_; have BK481 := n2_; have BK482 := n3_; have HB := n4_; clear n0_ n1_ n2_ n3_ n4_; (try clear hb); (try clear hb2); (try clear hk); (try clear hi)) | (go_at_call 51; (with_reducible refine (flow_Get.calls t503 t505 t506 t507 t508 t509 t510 _ A130.out).mono ?_); rintro e w137 ⟨rfl, hb⟩; have n0_ := mA (blk_below (g := gb479) (o := .cells #[.int .i64 a0_0, .int .i64 a0_1, .int .i64 0, .int .i64 a0_3, .int .i64 x480004_52, .bool a0_5, .bool false, .string a0_7, .string a0_8, .string a0_9] 69 (0, 0)) (by (with_reducible repeat (first | apply kN | apply kD | apply kA)); exact BK479.out) hb); have n1_ := mA (blk_below (g := gb480) (o := .cells #[.int .i64 a1_0, .int .i64 a1_1, .int .i64 x481002_52, .int .i64 a1_3, .string a1_4, .string a1_5] 71 (0, 0)) (by (with_reducible repeat (first | apply kN | apply kD | apply kA)); exact BK480.out) hb); have n2_ := mA (blk_below (g := gb481) (o := .cells #[.int .i64 a2_0, .int .i64 a2_1, .int .u32 a2_2, .int .u32 a2_3, .int .i64 a2_4, .int .i64 a2_5, .int .i64 a2_6, .string a2_7, .string a2_8] 79 (0, 0)) (by (with_reducible repeat (first | apply kN | apply kD | apply kA)); exact BK481.out) hb); have n3_ := mA (blk_below (g := gb482) (o := .cells #[.int .i64 a3_0, .int .i64 a3_1, .string a3_2] 81 (0, 0)) (by (with_reducible repeat (first | apply kN | apply kD | apply kA)); exact BK482.out) hb); have n4_ := mA (bP (by repeat (first | (with_reducible first | exact HB.out | apply bA | apply bN | apply bD | refine bS ?_ GE479.out | refine bS ?_ GE480.out | refine bS ?_ GE481.out | refine bS ?_ GE482.out) | exact HB.out)) hb); clear BK479; clear BK480; clear BK481; clear BK482; clear HB; have BK479 := n0_; have BK480 := n1_; have BK481 := n2_; have BK482 := n3_; have HB := n4_; clear n0_ n1_ n2_ n3_ n4_; (try clear hb); (try clear hb2); (try clear hk); (try clear hi)) | ((with_reducible refine gate_dst (N := 22) rfl ?_); (try (refine gate_guard (by rfl) ?_; dsimp only)); refine box_event ?hg (N := 22) ?hd (cs := #[.int .i64 0, .string ⟨#[]⟩, .string ⟨#[]⟩, .int .i64 0, .int .i64 0]) (t := 88) ?hr ?_; (case hd => rfl); (case hg => rfl); (case hr => first | (go_simp; done) | (go_simp; rfl)); intro gb511 hg w138 hbox hb; obtain ⟨n0_, nl479_⟩ := bt3 (g := gb479) (o := .cells #[.int .i64 a0_0, .int .i64 a0_1, .int .i64 0, .int .i64 a0_3, .int .i64 x480004_52, .bool a0_5, .bool false, .string a0_7, .string a0_8, .string a0_9] 69 (0, 0)) (by (with_reducible repeat (first | apply kN | apply kD | apply kA)); exact BK479.out) hb; obtain ⟨n1_, nl480_⟩ := bt3 (g := gb480) (o := .cells #[.int .i64 a1_0, .int .i64 a1_1, .int .i64 x481002_52, .int .i64 a1_3, .string a1_4, .string a1_5] 71 (0, 0)) (by (with_reducible repeat (first | apply kN | apply kD | apply kA)); exact BK480.out) hb; obtain ⟨n2_, nl481_⟩ := bt3 (g := gb481) (o := .cells #[.int .i64 a2_0, .int .i64 a2_1, .int .u32 a2_2, .int .u32 a2_3, .int .i64 a2_4, .int .i64 a2_5, .int .i64 a2_6, .string a2_7, .string a2_8] 79 (0, 0)) (by (with_reducible repeat (first | apply kN | apply kD | apply kA)); exact BK481.out) hb; obtain ⟨n3_, nl482_⟩ := bt3 (g := gb482) (o := .cells #[.int .i64 a3_0, .int .i64 a3_1, .string a3_2] 81 (0, 0)) (by (with_reducible repeat (first | apply kN | apply kD | apply kA)); exact BK482.out) hb; obtain ⟨n4_, nq_⟩ := bpr (by repeat (first | (with_reducible first | exact HB.out | apply bA | apply bN | apply bD | refine bS ?_ GE479.out | refine bS ?_ GE480.out | refine bS ?_ GE481.out | refine bS ?_ GE482.out) | exact HB.out)) hb; have n5_ := mA (hbox); have n6_ := mA ((by rw [hg]; exact nq_ : w.heap.size ≤ gb511)); have n7_ := mA ((by rw [hg]; exact nq_ : w.heap.size ≤ gb511)); have n8_ := mA ((by rw [hg]; exact Nat.ne_of_lt nl479_ : gb479 ≠ gb511)); have n9_ := mA ((by rw [hg]; exact Nat.ne_of_gt nl479_ : gb511 ≠ gb479)); have n10_ := mA ((by rw [hg]; exact Nat.ne_of_lt nl480_ : gb480 ≠ gb511)); have n11_ := mA ((by rw [hg]; exact Nat.ne_of_gt nl480_ : gb511 ≠ gb480)); have n12_ := mA ((by rw [hg]; exact Nat.ne_of_lt nl481_ : gb481 ≠ gb511)); have n13_ := mA ((by rw [hg]; exact Nat.ne_of_gt nl481_ : gb511 ≠ gb481)); have n14_ := mA ((by rw [hg]; exact Nat.ne_of_lt nl482_ : gb482 ≠ gb511)); have n15_ := mA ((by rw [hg]; exact Nat.ne_of_gt nl482_ : gb511 ≠ gb482)); clear BK479; clear BK480; clear BK481; clear BK482; clear HB; have BK479 := n0_; have BK480 := n1_; have BK481 := n2_; have BK482 := n3_; have HB := n4_; have BK511 := n5_; have GW511 := n6_; have GE511 := n7_; have NB479_511 := n8_; have NB511_479 := n9_; have NB480_511 := n10_; have NB511_480 := n11_; have NB481_511 := n12_; have NB511_481 := n13_; have NB482_511 := n14_; have NB511_482 := n15_; clear nl479_; clear nl480_; clear nl481_; clear nl482_; clear nq_; clear n0_ n1_ n2_ n3_ n4_ n5_ n6_ n7_ n8_ n9_ n10_ n11_ n12_ n13_ n14_ n15_; clear hb hbox hg; have hnb139 := NB511_479.out; have hnc139 := NB479_511.out; have hnb140 := NB511_480.out; have hnc140 := NB480_511.out; have hnb141 := NB511_481.out; have hnc141 := NB481_511.out; have hnb142 := NB511_482.out; have hnc142 := NB482_511.out; try obtain ⟨hcz143_0, hcz143_1, hcz143_2, hcz143_3, hcz143_4⟩ := bc5 BK511.out; try obtain ⟨hfz143_0, hfz143_1, hfz143_2, hfz143_3, hfz143_4⟩ := bf5 BK511.out; try obtain ⟨hcz144_0, hcz144_1, hcz144_2, hcz144_3, hcz144_4, hcz144_5⟩ := bc6 BK480.out; try obtain ⟨hfz144_0, hfz144_1, hfz144_2, hfz144_3, hfz144_4, hfz144_5⟩ := bf6 BK480.out)))
              go_ret
              exact ⟨by first | rfl | (simp [errW_none, errW_some] <;> rfl) | (simp [*, errW_none, errW_some] <;> rfl), by repeat (first | (with_reducible first | exact HB.out | apply bA | apply bN | apply bD | refine bS ?_ GE479.out | refine bS ?_ GE480.out | refine bS ?_ GE481.out | refine bS ?_ GE482.out | refine bS ?_ GE511.out) | exact HB.out)⟩
             ·rw [if_neg c131] at H
              exact absurd ((Option.some.inj H).trans hrt_.out) (by decide)
            ·rw [if_neg c129] at H
             have c129b0 : (t504 == 0) = false := beq_eq_false_iff_ne.mpr c129
             have c129b1 : (t504 != 0) = true := bne_iff_ne.mpr c129
             obtain rfl := Option.some.inj H
             have hnb157 := NB480_479.out
             have hnc157 := NB479_480.out
             have hnb158 := NB480_481.out
             have hnc158 := NB481_480.out
             have hnb159 := NB480_482.out
             have hnc159 := NB482_480.out
             obtain ⟨hcz160_0, hcz160_1, hcz160_2, hcz160_3, hcz160_4, hcz160_5⟩ := bc6 BK480.out
             obtain ⟨hfz160_0, hfz160_1, hfz160_2, hfz160_3, hfz160_4, hfz160_5⟩ := bf6 BK480.out
             go_wp2_with (first | (go_at_call 45; (with_reducible refine (flow_Build6.calls a1_0 a1_1 x481002_52 a1_3 a1_4 a1_5 x11_52 t503 t504 _ A128.out (GP.below HgP_.out (by repeat (first | (with_reducible first | exact HB.out | apply bA | apply bN | apply bD | refine bS ?_ GE479.out | refine bS ?_ GE480.out | refine bS ?_ GE481.out | refine bS ?_ GE482.out | refine bS ?_ GE502.out | refine bS ?_ GE511.out) | exact HB.out)))).mono ?_); rintro e w161 ⟨rfl, hb⟩; have n0_ := mA (blk_below (g := gb479) (o := .cells #[.int .i64 a0_0, .int .i64 a0_1, .int .i64 0, .int .i64 a0_3, .int .i64 x480004_52, .bool a0_5, .bool false, .string a0_7, .string a0_8, .string a0_9] 69 (0, 0)) (by (with_reducible repeat (first | apply kN | apply kD | apply kA)); exact BK479.out) hb); have n1_ := mA (blk_below (g := gb480) (o := .cells #[.int .i64 a1_0, .int .i64 a1_1, .int .i64 x481002_52, .int .i64 a1_3, .string a1_4, .string a1_5] 71 (0, 0)) (by (with_reducible repeat (first | apply kN | apply kD | apply kA)); exact BK480.out) hb); have n2_ := mA (blk_below (g := gb481) (o := .cells #[.int .i64 a2_0, .int .i64 a2_1, .int .u32 a2_2, .int .u32 a2_3, .int .i64 a2_4, .int .i64 a2_5, .int .i64 a2_6, .string a2_7, .string a2_8] 79 (0, 0)) (by (with_reducible repeat (first | apply kN | apply kD | apply kA)); exact BK481.out) hb); have n3_ := mA (blk_below (g := gb482) (o := .cells #[.int .i64 a3_0, .int .i64 a3_1, .string a3_2] 81 (0, 0)) (by (with_reducible repeat (first | apply kN | apply kD | apply kA)); exact BK482.out) hb); have n4_ := mA (bP (by repeat (first | (with_reducible first | exact HB.out | apply bA | apply bN | apply bD | refine bS ?_ GE479.out | refine bS ?_ GE480.out | refine bS ?_ GE481.out | refine bS ?_ GE482.out) | exact HB.out)) hb); clear BK479; clear BK480; clear BK481; clear BK482; clear HB; have BK479 := n0_; have BK480 := n1_; have BK481 := n2_; have BK482 := n3_; have HB := n4_; clear n0_ n1_ n2_ n3_ n4_; (try clear hb); (try clear hb2); (try clear hk); (try clear hi)))
             repeat (go_quiet (fail); try go_wp2_with (first | (go_at_call 45; (with_reducible refine (flow_Build6.calls a1_0 a1_1 x481002_52 a1_3 a1_4 a1_5 x11_52 t503 t504 _ A128.out (GP.below HgP_.out (by repeat (first | (with_reducible first | exact HB.out | apply bA | apply bN | apply bD | refine bS ?_ GE479.out | refine bS ?_ GE480.out | refine bS ?_ GE481.out | refine bS ?_ GE482.out | refine bS ?_ GE502.out | refine bS ?_ GE511.out) | exact HB.out)))).mono ?_); rintro e w161 ⟨rfl, hb⟩; have n0_ := mA (blk_below (g := gb479) (o := .cells #[.int .i64 a0_0, .int .i64 a0_1, .int .i64 0, .int .i64 a0_3, .int .i64 x480004_52, .bool a0_5, .bool false, .string a0_7, .string a0_8, .string a0_9] 69 (0, 0)) (by (with_reducible repeat (first | apply kN | apply kD | apply kA)); exact BK479.out) hb); have n1_ := mA (blk_below (g := gb480) (o := .cells #[.int .i64 a1_0, .int .i64 a1_1, .int .i64 x481002_52, .int .i64 a1_3, .string a1_4, .string a1_5] 71 (0, 0)) (by (with_reducible repeat (first | apply kN | apply kD | apply kA)); exact BK480.out) hb); have n2_ := mA (blk_below (g := gb481) (o := .cells #[.int .i64 a2_0, .int .i64 a2_1, .int .u32 a2_2, .int .u32 a2_3, .int .i64 a2_4, .int .i64 a2_5, .int .i64 a2_6, .string a2_7, .string a2_8] 79 (0, 0)) (by (with_reducible repeat (first | apply kN | apply kD | apply kA)); exact BK481.out) hb); have n3_ := mA (blk_below (g := gb482) (o := .cells #[.int .i64 a3_0, .int .i64 a3_1, .string a3_2] 81 (0, 0)) (by (with_reducible repeat (first | apply kN | apply kD | apply kA)); exact BK482.out) hb); have n4_ := mA (bP (by repeat (first | (with_reducible first | exact HB.out | apply bA | apply bN | apply bD | refine bS ?_ GE479.out | refine bS ?_ GE480.out | refine bS ?_ GE481.out | refine bS ?_ GE482.out) | exact HB.out)) hb); clear BK479; clear BK480; clear BK481; clear BK482; clear HB; have BK479 := n0_; have BK480 := n1_; have BK481 := n2_; have BK482 := n3_; have HB := n4_; clear n0_ n1_ n2_ n3_ n4_; (try clear hb); (try clear hb2); (try clear hk); (try clear hi))))
             go_ret
             exact ⟨by first | rfl | (simp [errW_none, errW_some] <;> rfl) | (simp [*, errW_none, errW_some] <;> rfl), by repeat (first | (with_reducible first | exact HB.out | apply bA | apply bN | apply bD | refine bS ?_ GE479.out | refine bS ?_ GE480.out | refine bS ?_ GE481.out | refine bS ?_ GE482.out) | exact HB.out)⟩
 ·replace c7 := Bool.eq_false_iff.mpr c7
  subst c7
  have H1 : (some false) = some r := by rw [if_neg (show ¬ (false = true) by decide)] at H; exact H
  exact absurd ((Option.some.inj H1).trans hrt_.out) (by decide)
end Go.Proofs.YtcmalglippmocaaDoor.G
end
