/- Texts of this session, joined: each is a section. -/
import Derived.Test.YtcmalglippmocaaDoorMFlowb1
import Derived.Test.YtcmalglippmocaaDoorMFlowBuilds1
import Derived.Test.YtcmalglippmocaaDoorMFlowb7
import Derived.Test.YtcmalglippmocaaDoorMFlowb8
import Derived.Test.YtcmalglippmocaaDoorMFlowb6
import Derived.Test.YtcmalglippmocaaDoorMFlowb3
import Derived.Test.YtcmalglippmocaaDoorMFlowb4
import Derived.Test.YtcmalglippmocaaDoorMFlowb2
import Derived.Test.YtcmalglippmocaaDoorMFlowb5
import Derived.Test.YtcmalglippmocaaDoorWWords
import Derived.Deep.Fields
import Derived.Deep.Strs
import Derived.WideShapes
import Derived.ChangeArms
set_option linter.unusedVariables false
set_option linter.unusedSimpArgs false
section
namespace Go.Proofs.YtcmalglippmocaaDoor.G
open Go.RowKit Go.Proofs.YtcmalglippmocaaDoorW.PrintWords Go.Proofs.YtcmalglippmocaaDoorW.PrintLast Go.Proofs.YtcmalglippmocaaDoorW.PrintMore
set_option linter.unusedVariables false
set_option linter.unusedSimpArgs false

def palanquinlaw09_FlowBuilds.j0 : Nat → Int → ByteArray → Bool → Int → Int → Int → Int → Int → Bool → Bool → ByteArray → ByteArray → ByteArray → Int → Int → Int → Int → ByteArray → ByteArray → Option (Bool)
 | 0, _, _, _, _, _, _, _, _, _, _, _, _, _, _, _, _, _, _, _ => none
 | k + 1, x2, x3, x39, x443000, x443001, x443002, x443003, x443004, x443005, x443006, x443007, x443008, x443009, x444000, x444001, x444002, x444003, x444004, x444005 => if x39 = true then (some true) else ((flow_Build4.f x443000 x443001 x443002 x443003 x443004 x443005 x443006 x443007 x443008 x443009 x3).bind fun bt447 => ((palanquinref09_Build4.f k x443000 x443001 x443002 x443003 x443004 x443005 x443006 x443007 x443008 x443009 x3).bind fun bt449 => ((flow_Build6.f x444000 x444001 x444002 x444003 x444004 x444005 x3).bind fun bt451 => ((palanquinref09_Build6.f k x444000 x444001 x444002 x444003 x444004 x444005 x3).bind fun bt453 => (if bt447.1.toList = bt449.1.toList then (if bt447.2 = bt449.2 then (if bt451.1.toList = bt453.1.toList then (if bt451.2 = bt453.2 then ((flow_Seal.f x2 x443007 x443008 x3).bind fun t455 => ((palanquinref09_Seal.f k x2 x443007 x443008 x3).bind fun t456 => (some (t455.toList == t456.toList)))) else (some false)) else (some false)) else (some false)) else (some false))))))
def palanquinlaw09_FlowBuilds.f (k : Nat) (a0_0 : Int) (a0_1 : Int) (a0_2 : Int) (a0_3 : Int) (a0_4 : Int) (a0_5 : Bool) (a0_6 : Bool) (a0_7 : ByteArray) (a0_8 : ByteArray) (a0_9 : ByteArray) (a1_0 : Int) (a1_1 : Int) (a1_2 : Int) (a1_3 : Int) (a1_4 : ByteArray) (a1_5 : ByteArray) (a2 : Int) (a3 : ByteArray) : Option (Bool) := (palanquinlaw09_awake.f k).bind fun t444 => (if t444 = true then ((palanquinlaw09_few.f a0_7 a0_8 a0_9).bind fun t445 => (if t445 = true then ((palanquinlaw09_few.f a1_4 a1_5 (⟨#[]⟩ : ByteArray)).bind fun t446 => (if t446 = true then (palanquinlaw09_FlowBuilds.j0 k a2 a3 (decide ((a3.size : Int) > 70000)) a0_0 a0_1 a0_2 a0_3 a0_4 a0_5 a0_6 a0_7 a0_8 a0_9 a1_0 a1_1 a1_2 a1_3 a1_4 a1_5) else (palanquinlaw09_FlowBuilds.j0 k a2 a3 true a0_0 a0_1 a0_2 a0_3 a0_4 a0_5 a0_6 a0_7 a0_8 a0_9 a1_0 a1_1 a1_2 a1_3 a1_4 a1_5))) else (palanquinlaw09_FlowBuilds.j0 k a2 a3 true a0_0 a0_1 a0_2 a0_3 a0_4 a0_5 a0_6 a0_7 a0_8 a0_9 a1_0 a1_1 a1_2 a1_3 a1_4 a1_5))) else (some false))
def palanquinlaw09_FlowBuilds.T9 : Bool × List (List Nat × List Nat) := (true, [([], []), ([], []), ([0, 1], [0, 1]), ([2], [2]), ([3], [3]), ([3], [3]), ([4, 5, 3], [3, 4, 5]), ([3, 6], [3, 6]), ([7, 3], [7]), ([8], [8]), ([8], [8]), ([9, 10, 8], [8, 9, 10]), ([8, 11], [8, 11]), ([12, 8], [12]), ([13], [13]), ([13], [13]), ([14, 15, 13], [13, 14, 15]), ([13, 16], [13, 16]), ([17, 13], [17]), ([18], [18]), ([18], [18]), ([20, 18], [18, 20]), ([18], [18]), ([22, 18], [18, 22]), ([18], [18]), ([19, 21, 23, 24, 18, 18], [18, 19, 21, 23, 24]), ([18], [18]), ([18], [18]), ([27, 18], [18, 27]), ([18], [18]), ([29, 18], [18, 29]), ([18], [18]), ([26, 28, 30, 31, 25, 18], [18, 26, 28, 30, 31]), ([25, 32, 18], [18, 25, 32]), ([18, 33], [18, 33]), ([34, 32, 0, 1, 2, 3, 4, 5, 6, 7, 8, 9, 10, 11, 12, 13, 14, 15, 16, 17, 18, 19, 20, 21, 22, 23, 24, 25, 26, 27, 28, 29, 30, 31, 32, 33, 34], [34])])
def palanquinlaw09_FlowBuilds.B9 : List Nat := [0, 0, 3, 7, 15, 15, 63, 127, 255, 511, 511, 2047, 4095, 8191, 16383, 16383, 65535, 131071, 262143, 524287, 524287, 1572863, 524287, 4718591, 524287, 33554431, 524287, 524287, 134742015, 524287, 537395199, 524287, 4294967295, 8589934591, 17179869183, 34359738367]
theorem palanquinlaw09_FlowBuilds.tab9 : rtab .any (opsOf Tryd.f15 9) = palanquinlaw09_FlowBuilds.T9 := by kernel_rfl
theorem palanquinlaw09_FlowBuilds.bits9 : waitsOk palanquinlaw09_FlowBuilds.T9.2 palanquinlaw09_FlowBuilds.B9 = true := by kernel_rfl
set_option maxHeartbeats 8000000 in
set_option maxRecDepth 100000 in
theorem palanquinlaw09_FlowBuilds.calls (k : Nat) (a0_0 : Int) (a0_1 : Int) (a0_2 : Int) (a0_3 : Int) (a0_4 : Int) (a0_5 : Bool) (a0_6 : Bool) (a0_7 : ByteArray) (a0_8 : ByteArray) (a0_9 : ByteArray) (a1_0 : Int) (a1_1 : Int) (a1_2 : Int) (a1_3 : Int) (a1_4 : ByteArray) (a1_5 : ByteArray) (a2 : Int) (a3 : ByteArray) (r : Bool) (w : World) (h : palanquinlaw09_FlowBuilds.f k a0_0 a0_1 a0_2 a0_3 a0_4 a0_5 a0_6 a0_7 a0_8 a0_9 a1_0 a1_1 a1_2 a1_3 a1_4 a1_5 a2 a3 = some r) (hrt_ : Aside0 (r = true)) (hgP_ : GP w) :
  Calls Tryd.prog 15 #[.agg #[.int .i64 a0_0, .int .i64 a0_1, .int .i64 a0_2, .int .i64 a0_3, .int .i64 a0_4, .bool a0_5, .bool a0_6, .string a0_7, .string a0_8, .string a0_9], .agg #[.int .i64 a1_0, .int .i64 a1_1, .int .i64 a1_2, .int .i64 a1_3, .string a1_4, .string a1_5], .int .i64 a2, .string a3] w fun e w' => e = .returned (.bool r) ∧ Below w.heap.size w w' := by
 have HgP_ := mA hgP_
 clear hgP_
 have hu69 := Tryd.underlying69
 have hu71 := Tryd.underlying71
 have HB := mA (Below.refl w.heap.size w)
 have H : ((palanquinlaw09_awake.f k).bind fun t444 => (if t444 = true then ((palanquinlaw09_few.f a0_7 a0_8 a0_9).bind fun t445 => (if t445 = true then ((palanquinlaw09_few.f a1_4 a1_5 (⟨#[]⟩ : ByteArray)).bind fun t446 => (if t446 = true then (palanquinlaw09_FlowBuilds.j0 k a2 a3 (decide ((a3.size : Int) > 70000)) a0_0 a0_1 a0_2 a0_3 a0_4 a0_5 a0_6 a0_7 a0_8 a0_9 a1_0 a1_1 a1_2 a1_3 a1_4 a1_5) else (palanquinlaw09_FlowBuilds.j0 k a2 a3 true a0_0 a0_1 a0_2 a0_3 a0_4 a0_5 a0_6 a0_7 a0_8 a0_9 a1_0 a1_1 a1_2 a1_3 a1_4 a1_5))) else (palanquinlaw09_FlowBuilds.j0 k a2 a3 true a0_0 a0_1 a0_2 a0_3 a0_4 a0_5 a0_6 a0_7 a0_8 a0_9 a1_0 a1_1 a1_2 a1_3 a1_4 a1_5))) else (some false))) = some r := h
 clear h
 replace H := Option.bind_eq_some_iff.mp H
 obtain ⟨t444, A50, H⟩ := H
 replace H : (if t444 = true then ((palanquinlaw09_few.f a0_7 a0_8 a0_9).bind fun t445 => (if t445 = true then ((palanquinlaw09_few.f a1_4 a1_5 (⟨#[]⟩ : ByteArray)).bind fun t446 => (if t446 = true then (palanquinlaw09_FlowBuilds.j0 k a2 a3 (decide ((a3.size : Int) > 70000)) a0_0 a0_1 a0_2 a0_3 a0_4 a0_5 a0_6 a0_7 a0_8 a0_9 a1_0 a1_1 a1_2 a1_3 a1_4 a1_5) else (palanquinlaw09_FlowBuilds.j0 k a2 a3 true a0_0 a0_1 a0_2 a0_3 a0_4 a0_5 a0_6 a0_7 a0_8 a0_9 a1_0 a1_1 a1_2 a1_3 a1_4 a1_5))) else (palanquinlaw09_FlowBuilds.j0 k a2 a3 true a0_0 a0_1 a0_2 a0_3 a0_4 a0_5 a0_6 a0_7 a0_8 a0_9 a1_0 a1_1 a1_2 a1_3 a1_4 a1_5))) else (some false)) = some r := H
 have A5 := mA A50
 clear A50
 by_cases c6 : t444 = true
 ·subst c6
  have H1 : ((palanquinlaw09_few.f a0_7 a0_8 a0_9).bind fun t445 => (if t445 = true then ((palanquinlaw09_few.f a1_4 a1_5 (⟨#[]⟩ : ByteArray)).bind fun t446 => (if t446 = true then (palanquinlaw09_FlowBuilds.j0 k a2 a3 (decide ((a3.size : Int) > 70000)) a0_0 a0_1 a0_2 a0_3 a0_4 a0_5 a0_6 a0_7 a0_8 a0_9 a1_0 a1_1 a1_2 a1_3 a1_4 a1_5) else (palanquinlaw09_FlowBuilds.j0 k a2 a3 true a0_0 a0_1 a0_2 a0_3 a0_4 a0_5 a0_6 a0_7 a0_8 a0_9 a1_0 a1_1 a1_2 a1_3 a1_4 a1_5))) else (palanquinlaw09_FlowBuilds.j0 k a2 a3 true a0_0 a0_1 a0_2 a0_3 a0_4 a0_5 a0_6 a0_7 a0_8 a0_9 a1_0 a1_1 a1_2 a1_3 a1_4 a1_5))) = some r := by rw [if_pos rfl] at H; exact H
  clear H
  have H := H1
  clear H1
  have HC7 := mA H
  clear H
  go_enter Tryd.func15, Tryd.ntmps15
  go_upto_region 3 with (first | ((with_reducible refine gate_dst (N := 4) rfl ?_); (try (refine gate_guard (by rfl) ?_; dsimp only)); refine box_event ?hg (N := 4) ?hd (cs := #[.int .i64 a0_0, .int .i64 a0_1, .int .i64 a0_2, .int .i64 a0_3, .int .i64 a0_4, .bool a0_5, .bool a0_6, .string a0_7, .string a0_8, .string a0_9]) (t := 69) ?hr ?_; (case hd => rfl); (case hg => rfl); (case hr => first | (go_simp; done) | (go_simp; rfl)); intro gb442 hg w8 hbox hb; obtain ⟨n0_, nq_⟩ := bpr (by repeat (first | (with_reducible first | exact HB.out | apply bA | apply bN | apply bD) | exact HB.out)) hb; have n1_ := mA (hbox); have n2_ := mA ((by rw [hg]; exact nq_ : w.heap.size ≤ gb442)); have n3_ := mA ((by rw [hg]; exact nq_ : w.heap.size ≤ gb442)); clear HB; have HB := n0_; have BK442 := n1_; have GW442 := n2_; have GE442 := n3_; clear nq_; clear n0_ n1_ n2_ n3_; clear hb hbox hg) | ((with_reducible refine gate_dst (N := 5) rfl ?_); (try (refine gate_guard (by rfl) ?_; dsimp only)); refine box_event ?hg (N := 5) ?hd (cs := #[.int .i64 a1_0, .int .i64 a1_1, .int .i64 a1_2, .int .i64 a1_3, .string a1_4, .string a1_5]) (t := 71) ?hr ?_; (case hd => rfl); (case hg => rfl); (case hr => first | (go_simp; done) | (go_simp; rfl)); intro gb443 hg w9 hbox hb; obtain ⟨n0_, nl442_⟩ := bt3 (g := gb442) (o := .cells #[.int .i64 a0_0, .int .i64 a0_1, .int .i64 a0_2, .int .i64 a0_3, .int .i64 a0_4, .bool a0_5, .bool a0_6, .string a0_7, .string a0_8, .string a0_9] 69 (0, 0)) (by (with_reducible repeat (first | apply kN | apply kD | apply kA)); exact BK442.out) hb; obtain ⟨n1_, nq_⟩ := bpr (by repeat (first | (with_reducible first | exact HB.out | apply bA | apply bN | apply bD | refine bS ?_ GE442.out) | exact HB.out)) hb; have n2_ := mA (hbox); have n3_ := mA ((by rw [hg]; exact nq_ : w.heap.size ≤ gb443)); have n4_ := mA ((by rw [hg]; exact nq_ : w.heap.size ≤ gb443)); have n5_ := mA ((by rw [hg]; exact Nat.ne_of_lt nl442_ : gb442 ≠ gb443)); have n6_ := mA ((by rw [hg]; exact Nat.ne_of_gt nl442_ : gb443 ≠ gb442)); clear BK442; clear HB; have BK442 := n0_; have HB := n1_; have BK443 := n2_; have GW443 := n3_; have GE443 := n4_; have NB442_443 := n5_; have NB443_442 := n6_; clear nl442_; clear nq_; clear n0_ n1_ n2_ n3_ n4_ n5_ n6_; clear hb hbox hg) | ((with_reducible refine gate_callee (f := 40) rfl ?_); refine goesL_ (some 17) rfl rfl Tryd.func40 (by kernel_rfl) rfl #[] rfl (by (try simp only [List.map_toArray, List.map_cons, List.map_nil]); first | done | rfl | (simp only [List.length_drop, List.length_take]; rfl)) ?_; (with_reducible refine (palanquinlaw09_awake.calls k  true _ A5.out).mono ?_); rintro e w10 ⟨rfl, hb⟩; refine ⟨_, rfl, ?_⟩; have n0_ := mA (blk_below (g := gb442) (o := .cells #[.int .i64 a0_0, .int .i64 a0_1, .int .i64 a0_2, .int .i64 a0_3, .int .i64 a0_4, .bool a0_5, .bool a0_6, .string a0_7, .string a0_8, .string a0_9] 69 (0, 0)) (by (with_reducible repeat (first | apply kN | apply kD | apply kA)); exact BK442.out) hb); have n1_ := mA (blk_below (g := gb443) (o := .cells #[.int .i64 a1_0, .int .i64 a1_1, .int .i64 a1_2, .int .i64 a1_3, .string a1_4, .string a1_5] 71 (0, 0)) (by (with_reducible repeat (first | apply kN | apply kD | apply kA)); exact BK443.out) hb); have n2_ := mA (bP (by repeat (first | (with_reducible first | exact HB.out | apply bA | apply bN | apply bD | refine bS ?_ GE442.out | refine bS ?_ GE443.out) | exact HB.out)) hb); clear BK442; clear BK443; clear HB; have BK442 := n0_; have BK443 := n1_; have HB := n2_; clear n0_ n1_ n2_; (try clear hb); (try clear hb2); (try clear hk); (try clear hi)))
  (try simp only [Act.put, List.setIfInBounds_toArray, List.set_cons_zero, List.set_cons_succ])
  go_cut [39] (fun v39 wc => ∃ (kq : Nat) (x39_6 : Bool), v39 = .bool x39_6 ∧ Aside0 (palanquinlaw09_FlowBuilds.j0 kq a2 a3 x39_6 a0_0 a0_1 a0_2 a0_3 a0_4 a0_5 a0_6 a0_7 a0_8 a0_9 a1_0 a1_1 a1_2 a1_3 a1_4 a1_5 = some r) ∧ Aside0 (kq ≤ k) ∧ Aside0 (wc.heap[gb442]? = some (.cells #[.int .i64 a0_0, .int .i64 a0_1, .int .i64 a0_2, .int .i64 a0_3, .int .i64 a0_4, .bool a0_5, .bool a0_6, .string a0_7, .string a0_8, .string a0_9] 69 (0, 0))) ∧ Aside0 (wc.heap[gb443]? = some (.cells #[.int .i64 a1_0, .int .i64 a1_1, .int .i64 a1_2, .int .i64 a1_3, .string a1_4, .string a1_5] 71 (0, 0))) ∧ Aside0 (Below w.heap.size w wc))
  case first =>
   have H := HC7.out
   clear HC7
   replace H := Option.bind_eq_some_iff.mp H
   obtain ⟨t445, A110, H⟩ := H
   replace H : (if t445 = true then ((palanquinlaw09_few.f a1_4 a1_5 (⟨#[]⟩ : ByteArray)).bind fun t446 => (if t446 = true then (palanquinlaw09_FlowBuilds.j0 k a2 a3 (decide ((a3.size : Int) > 70000)) a0_0 a0_1 a0_2 a0_3 a0_4 a0_5 a0_6 a0_7 a0_8 a0_9 a1_0 a1_1 a1_2 a1_3 a1_4 a1_5) else (palanquinlaw09_FlowBuilds.j0 k a2 a3 true a0_0 a0_1 a0_2 a0_3 a0_4 a0_5 a0_6 a0_7 a0_8 a0_9 a1_0 a1_1 a1_2 a1_3 a1_4 a1_5))) else (palanquinlaw09_FlowBuilds.j0 k a2 a3 true a0_0 a0_1 a0_2 a0_3 a0_4 a0_5 a0_6 a0_7 a0_8 a0_9 a1_0 a1_1 a1_2 a1_3 a1_4 a1_5)) = some r := H
   have A11 := mA A110
   clear A110
   by_cases c12 : t445 = true
   ·subst c12
    have H1 : ((palanquinlaw09_few.f a1_4 a1_5 (⟨#[]⟩ : ByteArray)).bind fun t446 => (if t446 = true then (palanquinlaw09_FlowBuilds.j0 k a2 a3 (decide ((a3.size : Int) > 70000)) a0_0 a0_1 a0_2 a0_3 a0_4 a0_5 a0_6 a0_7 a0_8 a0_9 a1_0 a1_1 a1_2 a1_3 a1_4 a1_5) else (palanquinlaw09_FlowBuilds.j0 k a2 a3 true a0_0 a0_1 a0_2 a0_3 a0_4 a0_5 a0_6 a0_7 a0_8 a0_9 a1_0 a1_1 a1_2 a1_3 a1_4 a1_5))) = some r := by rw [if_pos rfl] at H; exact H
    clear H
    have H := H1
    clear H1
    replace H := Option.bind_eq_some_iff.mp H
    obtain ⟨t446, A130, H⟩ := H
    replace H : (if t446 = true then (palanquinlaw09_FlowBuilds.j0 k a2 a3 (decide ((a3.size : Int) > 70000)) a0_0 a0_1 a0_2 a0_3 a0_4 a0_5 a0_6 a0_7 a0_8 a0_9 a1_0 a1_1 a1_2 a1_3 a1_4 a1_5) else (palanquinlaw09_FlowBuilds.j0 k a2 a3 true a0_0 a0_1 a0_2 a0_3 a0_4 a0_5 a0_6 a0_7 a0_8 a0_9 a1_0 a1_1 a1_2 a1_3 a1_4 a1_5)) = some r := H
    have A13 := mA A130
    clear A130
    by_cases c14 : t446 = true
    ·subst c14
     have H1 : (palanquinlaw09_FlowBuilds.j0 k a2 a3 (decide ((a3.size : Int) > 70000)) a0_0 a0_1 a0_2 a0_3 a0_4 a0_5 a0_6 a0_7 a0_8 a0_9 a1_0 a1_1 a1_2 a1_3 a1_4 a1_5) = some r := by rw [if_pos rfl] at H; exact H
     clear H
     have H := H1
     clear H1
     have H' := mA H
     clear H
     have hnb15 := NB442_443.out
     have hnc15 := NB443_442.out
     obtain ⟨hcz16_0, hcz16_1, hcz16_2, hcz16_3, hcz16_4, hcz16_5, hcz16_6, hcz16_7, hcz16_8, hcz16_9⟩ := bc10 BK442.out
     obtain ⟨hfz16_0, hfz16_1, hfz16_2, hfz16_3, hfz16_4, hfz16_5, hfz16_6, hfz16_7, hfz16_8, hfz16_9⟩ := bf10 BK442.out
     go_wp2_with (first | ((with_reducible refine gate_callee (f := 42) rfl ?_); refine goesL_ (some 25) rfl rfl Tryd.func42 (by kernel_rfl) rfl #[.string a0_7, .string a0_8, .string a0_9] rfl (by (try simp only [List.map_toArray, List.map_cons, List.map_nil]); first | done | rfl | (simp only [List.length_drop, List.length_take]; rfl)) ?_; (with_reducible refine (palanquinlaw09_few.calls a0_7 a0_8 a0_9 true _ A11.out).mono ?_); rintro e w' ⟨rfl, ⟨nd, rfl⟩⟩; refine ⟨_, rfl, ?_⟩; obtain ⟨hcz17_0, hcz17_1, hcz17_2, hcz17_3, hcz17_4, hcz17_5⟩ := bc6 BK443.out; obtain ⟨hfz17_0, hfz17_1, hfz17_2, hfz17_3, hfz17_4, hfz17_5⟩ := bf6 BK443.out) | (go_at_call 42; (with_reducible refine (palanquinlaw09_few.calls a1_4 a1_5 (⟨#[]⟩ : ByteArray) true _ A13.out).mono ?_); rintro e w' ⟨rfl, ⟨nd, rfl⟩⟩))
     go_meet
     case rel => exact ⟨_, (decide ((a3.size : Int) > 70000)), (by first | rfl | (simp; done) | (simp [*]; done)), H', ⟨by first | omega | exact Nat.le_refl _⟩, ⟨by (with_reducible repeat (first | apply kN | apply kD | apply kA)); exact BK442.out⟩, ⟨by (with_reducible repeat (first | apply kN | apply kD | apply kA)); exact BK443.out⟩, ⟨by repeat (first | (with_reducible first | exact HB.out | apply bA | apply bN | apply bD | refine bS ?_ GE442.out | refine bS ?_ GE443.out) | exact HB.out)⟩⟩
    ·replace c14 := Bool.eq_false_iff.mpr c14
     subst c14
     have H1 : (palanquinlaw09_FlowBuilds.j0 k a2 a3 true a0_0 a0_1 a0_2 a0_3 a0_4 a0_5 a0_6 a0_7 a0_8 a0_9 a1_0 a1_1 a1_2 a1_3 a1_4 a1_5) = some r := by rw [if_neg (show ¬ (false = true) by decide)] at H; exact H
     clear H
     have H := H1
     clear H1
     have H' := mA H
     clear H
     have hnb18 := NB442_443.out
     have hnc18 := NB443_442.out
     obtain ⟨hcz19_0, hcz19_1, hcz19_2, hcz19_3, hcz19_4, hcz19_5, hcz19_6, hcz19_7, hcz19_8, hcz19_9⟩ := bc10 BK442.out
     obtain ⟨hfz19_0, hfz19_1, hfz19_2, hfz19_3, hfz19_4, hfz19_5, hfz19_6, hfz19_7, hfz19_8, hfz19_9⟩ := bf10 BK442.out
     go_wp2_with (first | ((with_reducible refine gate_callee (f := 42) rfl ?_); refine goesL_ (some 25) rfl rfl Tryd.func42 (by kernel_rfl) rfl #[.string a0_7, .string a0_8, .string a0_9] rfl (by (try simp only [List.map_toArray, List.map_cons, List.map_nil]); first | done | rfl | (simp only [List.length_drop, List.length_take]; rfl)) ?_; (with_reducible refine (palanquinlaw09_few.calls a0_7 a0_8 a0_9 true _ A11.out).mono ?_); rintro e w' ⟨rfl, ⟨nd, rfl⟩⟩; refine ⟨_, rfl, ?_⟩; obtain ⟨hcz20_0, hcz20_1, hcz20_2, hcz20_3, hcz20_4, hcz20_5⟩ := bc6 BK443.out; obtain ⟨hfz20_0, hfz20_1, hfz20_2, hfz20_3, hfz20_4, hfz20_5⟩ := bf6 BK443.out) | (go_at_call 42; (with_reducible refine (palanquinlaw09_few.calls a1_4 a1_5 (⟨#[]⟩ : ByteArray) false _ A13.out).mono ?_); rintro e w' ⟨rfl, ⟨nd, rfl⟩⟩))
     go_meet
     case rel => exact ⟨_, (true), (by first | rfl | (simp; done) | (simp [*]; done)), H', ⟨by first | omega | exact Nat.le_refl _⟩, ⟨by (with_reducible repeat (first | apply kN | apply kD | apply kA)); exact BK442.out⟩, ⟨by (with_reducible repeat (first | apply kN | apply kD | apply kA)); exact BK443.out⟩, ⟨by repeat (first | (with_reducible first | exact HB.out | apply bA | apply bN | apply bD | refine bS ?_ GE442.out | refine bS ?_ GE443.out) | exact HB.out)⟩⟩
   ·replace c12 := Bool.eq_false_iff.mpr c12
    subst c12
    have H1 : (palanquinlaw09_FlowBuilds.j0 k a2 a3 true a0_0 a0_1 a0_2 a0_3 a0_4 a0_5 a0_6 a0_7 a0_8 a0_9 a1_0 a1_1 a1_2 a1_3 a1_4 a1_5) = some r := by rw [if_neg (show ¬ (false = true) by decide)] at H; exact H
    clear H
    have H := H1
    clear H1
    have H' := mA H
    clear H
    have hnb21 := NB442_443.out
    have hnc21 := NB443_442.out
    obtain ⟨hcz22_0, hcz22_1, hcz22_2, hcz22_3, hcz22_4, hcz22_5, hcz22_6, hcz22_7, hcz22_8, hcz22_9⟩ := bc10 BK442.out
    obtain ⟨hfz22_0, hfz22_1, hfz22_2, hfz22_3, hfz22_4, hfz22_5, hfz22_6, hfz22_7, hfz22_8, hfz22_9⟩ := bf10 BK442.out
    go_wp2_with (first | ((with_reducible refine gate_callee (f := 42) rfl ?_); refine goesL_ (some 25) rfl rfl Tryd.func42 (by kernel_rfl) rfl #[.string a0_7, .string a0_8, .string a0_9] rfl (by (try simp only [List.map_toArray, List.map_cons, List.map_nil]); first | done | rfl | (simp only [List.length_drop, List.length_take]; rfl)) ?_; (with_reducible refine (palanquinlaw09_few.calls a0_7 a0_8 a0_9 false _ A11.out).mono ?_); rintro e w' ⟨rfl, ⟨nd, rfl⟩⟩; refine ⟨_, rfl, ?_⟩))
    go_meet
    case rel => exact ⟨_, (true), (by first | rfl | (simp; done) | (simp [*]; done)), H', ⟨by first | omega | exact Nat.le_refl _⟩, ⟨by (with_reducible repeat (first | apply kN | apply kD | apply kA)); exact BK442.out⟩, ⟨by (with_reducible repeat (first | apply kN | apply kD | apply kA)); exact BK443.out⟩, ⟨by repeat (first | (with_reducible first | exact HB.out | apply bA | apply bN | apply bD | refine bS ?_ GE442.out | refine bS ?_ GE443.out) | exact HB.out)⟩⟩
  case rest =>
   clear HC7
   try clear c1
   try clear c2
   try clear p2
   try clear c4
   try clear c6
   try clear c12
   try clear c14
   try clear c15
   try clear c18
   try clear c21
   try clear hcz16_0 hcz16_1 hcz16_2 hcz16_3 hcz16_4 hcz16_5 hcz16_6 hcz16_7 hcz16_8 hcz16_9
   try clear hcz17_0 hcz17_1 hcz17_2 hcz17_3 hcz17_4 hcz17_5
   try clear hcz19_0 hcz19_1 hcz19_2 hcz19_3 hcz19_4 hcz19_5 hcz19_6 hcz19_7 hcz19_8 hcz19_9
   try clear hcz20_0 hcz20_1 hcz20_2 hcz20_3 hcz20_4 hcz20_5
   try clear hcz22_0 hcz22_1 hcz22_2 hcz22_3 hcz22_4 hcz22_5 hcz22_6 hcz22_7 hcz22_8 hcz22_9
   try clear hfz16_0 hfz16_1 hfz16_2 hfz16_3 hfz16_4 hfz16_5 hfz16_6 hfz16_7 hfz16_8 hfz16_9
   try clear hfz17_0 hfz17_1 hfz17_2 hfz17_3 hfz17_4 hfz17_5
   try clear hfz19_0 hfz19_1 hfz19_2 hfz19_3 hfz19_4 hfz19_5 hfz19_6 hfz19_7 hfz19_8 hfz19_9
   try clear hfz20_0 hfz20_1 hfz20_2 hfz20_3 hfz20_4 hfz20_5
   try clear hfz22_0 hfz22_1 hfz22_2 hfz22_3 hfz22_4 hfz22_5 hfz22_6 hfz22_7 hfz22_8 hfz22_9
   obtain ⟨kq, x39_6, rfl, HA, HJ6, BK442, BK443, HB⟩ := hcut
   cases kq with
   | zero => exact absurd HA.out (by simp [palanquinlaw09_FlowBuilds.j0])
   | succ kj6 =>
    have H := HA.out
    clear HA
    simp only [palanquinlaw09_FlowBuilds.j0] at H
    by_cases c23 : x39_6 = true
    ·subst c23
     have H1 : (some true) = some r := by rw [if_pos rfl] at H; exact H
     clear H
     have H := H1
     clear H1
     obtain rfl := Option.some.inj H
     go_wp2
     go_ret
     exact ⟨by first | rfl | (simp [errW_none, errW_some] <;> rfl) | (simp [*, errW_none, errW_some] <;> rfl), by repeat (first | (with_reducible first | exact HB.out | apply bA | apply bN | apply bD | refine bS ?_ GE442.out | refine bS ?_ GE443.out) | exact HB.out)⟩
    ·replace c23 := Bool.eq_false_iff.mpr c23
     subst c23
     have H1 : ((flow_Build4.f a0_0 a0_1 a0_2 a0_3 a0_4 a0_5 a0_6 a0_7 a0_8 a0_9 a3).bind fun bt447 => ((palanquinref09_Build4.f kj6 a0_0 a0_1 a0_2 a0_3 a0_4 a0_5 a0_6 a0_7 a0_8 a0_9 a3).bind fun bt449 => ((flow_Build6.f a1_0 a1_1 a1_2 a1_3 a1_4 a1_5 a3).bind fun bt451 => ((palanquinref09_Build6.f kj6 a1_0 a1_1 a1_2 a1_3 a1_4 a1_5 a3).bind fun bt453 => (if bt447.1.toList = bt449.1.toList then (if bt447.2 = bt449.2 then (if bt451.1.toList = bt453.1.toList then (if bt451.2 = bt453.2 then ((flow_Seal.f a2 a0_7 a0_8 a3).bind fun t455 => ((palanquinref09_Seal.f kj6 a2 a0_7 a0_8 a3).bind fun t456 => (some (t455.toList == t456.toList)))) else (some false)) else (some false)) else (some false)) else (some false)))))) = some r := by rw [if_neg (show ¬ (false = true) by decide)] at H; exact H
     clear H
     have H := H1
     clear H1
     replace H := Option.bind_eq_some_iff.mp H
     obtain ⟨⟨t447, t448⟩, A240, H⟩ := H
     replace H : ((palanquinref09_Build4.f kj6 a0_0 a0_1 a0_2 a0_3 a0_4 a0_5 a0_6 a0_7 a0_8 a0_9 a3).bind fun bt449 => ((flow_Build6.f a1_0 a1_1 a1_2 a1_3 a1_4 a1_5 a3).bind fun bt451 => ((palanquinref09_Build6.f kj6 a1_0 a1_1 a1_2 a1_3 a1_4 a1_5 a3).bind fun bt453 => (if t447.toList = bt449.1.toList then (if t448 = bt449.2 then (if bt451.1.toList = bt453.1.toList then (if bt451.2 = bt453.2 then ((flow_Seal.f a2 a0_7 a0_8 a3).bind fun t455 => ((palanquinref09_Seal.f kj6 a2 a0_7 a0_8 a3).bind fun t456 => (some (t455.toList == t456.toList)))) else (some false)) else (some false)) else (some false)) else (some false))))) = some r := H
     have A24 := mA A240
     clear A240
     replace H := Option.bind_eq_some_iff.mp H
     obtain ⟨⟨t449, t450⟩, A250, H⟩ := H
     replace H : ((flow_Build6.f a1_0 a1_1 a1_2 a1_3 a1_4 a1_5 a3).bind fun bt451 => ((palanquinref09_Build6.f kj6 a1_0 a1_1 a1_2 a1_3 a1_4 a1_5 a3).bind fun bt453 => (if t447.toList = t449.toList then (if t448 = t450 then (if bt451.1.toList = bt453.1.toList then (if bt451.2 = bt453.2 then ((flow_Seal.f a2 a0_7 a0_8 a3).bind fun t455 => ((palanquinref09_Seal.f kj6 a2 a0_7 a0_8 a3).bind fun t456 => (some (t455.toList == t456.toList)))) else (some false)) else (some false)) else (some false)) else (some false)))) = some r := H
     have A25 := mA A250
     clear A250
     replace H := Option.bind_eq_some_iff.mp H
     obtain ⟨⟨t451, t452⟩, A260, H⟩ := H
     replace H : ((palanquinref09_Build6.f kj6 a1_0 a1_1 a1_2 a1_3 a1_4 a1_5 a3).bind fun bt453 => (if t447.toList = t449.toList then (if t448 = t450 then (if t451.toList = bt453.1.toList then (if t452 = bt453.2 then ((flow_Seal.f a2 a0_7 a0_8 a3).bind fun t455 => ((palanquinref09_Seal.f kj6 a2 a0_7 a0_8 a3).bind fun t456 => (some (t455.toList == t456.toList)))) else (some false)) else (some false)) else (some false)) else (some false))) = some r := H
     have A26 := mA A260
     clear A260
     replace H := Option.bind_eq_some_iff.mp H
     obtain ⟨⟨t453, t454⟩, A270, H⟩ := H
     replace H : (if t447.toList = t449.toList then (if t448 = t450 then (if t451.toList = t453.toList then (if t452 = t454 then ((flow_Seal.f a2 a0_7 a0_8 a3).bind fun t455 => ((palanquinref09_Seal.f kj6 a2 a0_7 a0_8 a3).bind fun t456 => (some (t455.toList == t456.toList)))) else (some false)) else (some false)) else (some false)) else (some false)) = some r := H
     have A27 := mA A270
     clear A270
     by_cases c28 : t447.toList = t449.toList
     ·rw [if_pos c28] at H
      have c28b0 : (t447.toList == t449.toList) = true := beq_iff_eq.mpr c28
      have c28b1 : (t447.toList != t449.toList) = false := bne_eq_false_iff_eq.mpr c28
      clear c28
      by_cases c29 : t448 = t450
      ·rw [if_pos c29] at H
       have c29b0 : (t448 == t450) = true := beq_iff_eq.mpr c29
       have c29b1 : (t448 != t450) = false := bne_eq_false_iff_eq.mpr c29
       clear c29
       by_cases c30 : t451.toList = t453.toList
       ·rw [if_pos c30] at H
        have c30b0 : (t451.toList == t453.toList) = true := beq_iff_eq.mpr c30
        have c30b1 : (t451.toList != t453.toList) = false := bne_eq_false_iff_eq.mpr c30
        clear c30
        by_cases c31 : t452 = t454
        ·rw [if_pos c31] at H
         have c31b0 : (t452 == t454) = true := beq_iff_eq.mpr c31
         have c31b1 : (t452 != t454) = false := bne_eq_false_iff_eq.mpr c31
         clear c31
         replace H := Option.bind_eq_some_iff.mp H
         obtain ⟨t455, A320, H⟩ := H
         replace H : ((palanquinref09_Seal.f kj6 a2 a0_7 a0_8 a3).bind fun t456 => (some (t455.toList == t456.toList))) = some r := H
         have A32 := mA A320
         clear A320
         replace H := Option.bind_eq_some_iff.mp H
         obtain ⟨t456, A330, H⟩ := H
         replace H : (some (t455.toList == t456.toList)) = some r := H
         have A33 := mA A330
         clear A330
         obtain rfl := Option.some.inj H
         have hnb34 := NB442_443.out
         have hnc34 := NB443_442.out
         obtain ⟨hcz35_0, hcz35_1, hcz35_2, hcz35_3, hcz35_4, hcz35_5, hcz35_6, hcz35_7, hcz35_8, hcz35_9⟩ := bc10 BK442.out
         obtain ⟨hfz35_0, hfz35_1, hfz35_2, hfz35_3, hfz35_4, hfz35_5, hfz35_6, hfz35_7, hfz35_8, hfz35_9⟩ := bf10 BK442.out
         try go_wp2_with (first | ((with_reducible refine gate_callee (f := 43) rfl ?_); refine goesL_ (some 43) rfl rfl Tryd.func43 (by kernel_rfl) rfl #[.agg #[.int .i64 a0_0, .int .i64 a0_1, .int .i64 a0_2, .int .i64 a0_3, .int .i64 a0_4, .bool a0_5, .bool a0_6, .string a0_7, .string a0_8, .string a0_9], .string a3] rfl (by (try simp only [List.map_toArray, List.map_cons, List.map_nil]); first | done | rfl | (simp only [List.length_drop, List.length_take]; rfl)) ?_; (with_reducible refine (flow_Build4.calls a0_0 a0_1 a0_2 a0_3 a0_4 a0_5 a0_6 a0_7 a0_8 a0_9 a3 t447 t448 _ A24.out (GP.below HgP_.out (by repeat (first | (with_reducible first | exact HB.out | apply bA | apply bN | apply bD | refine bS ?_ GE442.out | refine bS ?_ GE443.out) | exact HB.out)))).mono ?_); rintro e w36 ⟨rfl, hb⟩; refine ⟨_, rfl, ?_⟩; have n0_ := mA (blk_below (g := gb442) (o := .cells #[.int .i64 a0_0, .int .i64 a0_1, .int .i64 a0_2, .int .i64 a0_3, .int .i64 a0_4, .bool a0_5, .bool a0_6, .string a0_7, .string a0_8, .string a0_9] 69 (0, 0)) (by (with_reducible repeat (first | apply kN | apply kD | apply kA)); exact BK442.out) hb); have n1_ := mA (blk_below (g := gb443) (o := .cells #[.int .i64 a1_0, .int .i64 a1_1, .int .i64 a1_2, .int .i64 a1_3, .string a1_4, .string a1_5] 71 (0, 0)) (by (with_reducible repeat (first | apply kN | apply kD | apply kA)); exact BK443.out) hb); have n2_ := mA (bP (by repeat (first | (with_reducible first | exact HB.out | apply bA | apply bN | apply bD | refine bS ?_ GE442.out | refine bS ?_ GE443.out) | exact HB.out)) hb); clear BK442; clear BK443; clear HB; have BK442 := n0_; have BK443 := n1_; have HB := n2_; clear n0_ n1_ n2_; (try clear hb); (try clear hb2); (try clear hk); (try clear hi); obtain ⟨hcz37_0, hcz37_1, hcz37_2, hcz37_3, hcz37_4, hcz37_5, hcz37_6, hcz37_7, hcz37_8, hcz37_9⟩ := bc10 BK442.out; obtain ⟨hfz37_0, hfz37_1, hfz37_2, hfz37_3, hfz37_4, hfz37_5, hfz37_6, hfz37_7, hfz37_8, hfz37_9⟩ := bf10 BK442.out) | ((with_reducible refine gate_callee (f := 44) rfl ?_); refine goesL_ (some 49) rfl rfl Tryd.func44 (by kernel_rfl) rfl #[.agg #[.int .i64 a0_0, .int .i64 a0_1, .int .i64 a0_2, .int .i64 a0_3, .int .i64 a0_4, .bool a0_5, .bool a0_6, .string a0_7, .string a0_8, .string a0_9], .string a3] rfl (by (try simp only [List.map_toArray, List.map_cons, List.map_nil]); first | done | rfl | (simp only [List.length_drop, List.length_take]; rfl)) ?_; (with_reducible refine (palanquinref09_Build4.calls kj6 a0_0 a0_1 a0_2 a0_3 a0_4 a0_5 a0_6 a0_7 a0_8 a0_9 a3 t449 t450 _ A25.out).mono ?_); rintro e w38 ⟨rfl, hb⟩; refine ⟨_, rfl, ?_⟩; have n0_ := mA (blk_below (g := gb442) (o := .cells #[.int .i64 a0_0, .int .i64 a0_1, .int .i64 a0_2, .int .i64 a0_3, .int .i64 a0_4, .bool a0_5, .bool a0_6, .string a0_7, .string a0_8, .string a0_9] 69 (0, 0)) (by (with_reducible repeat (first | apply kN | apply kD | apply kA)); exact BK442.out) hb); have n1_ := mA (blk_below (g := gb443) (o := .cells #[.int .i64 a1_0, .int .i64 a1_1, .int .i64 a1_2, .int .i64 a1_3, .string a1_4, .string a1_5] 71 (0, 0)) (by (with_reducible repeat (first | apply kN | apply kD | apply kA)); exact BK443.out) hb); have n2_ := mA (bP (by repeat (first | (with_reducible first | exact HB.out | apply bA | apply bN | apply bD | refine bS ?_ GE442.out | refine bS ?_ GE443.out) | exact HB.out)) hb); clear BK442; clear BK443; clear HB; have BK442 := n0_; have BK443 := n1_; have HB := n2_; clear n0_ n1_ n2_; (try clear hb); (try clear hb2); (try clear hk); (try clear hi); obtain ⟨hcz39_0, hcz39_1, hcz39_2, hcz39_3, hcz39_4, hcz39_5⟩ := bc6 BK443.out; obtain ⟨hfz39_0, hfz39_1, hfz39_2, hfz39_3, hfz39_4, hfz39_5⟩ := bf6 BK443.out) | ((with_reducible refine gate_callee (f := 45) rfl ?_); refine goesL_ (some 55) rfl rfl Tryd.func45 (by kernel_rfl) rfl #[.agg #[.int .i64 a1_0, .int .i64 a1_1, .int .i64 a1_2, .int .i64 a1_3, .string a1_4, .string a1_5], .string a3] rfl (by (try simp only [List.map_toArray, List.map_cons, List.map_nil]); first | done | rfl | (simp only [List.length_drop, List.length_take]; rfl)) ?_; (with_reducible refine (flow_Build6.calls a1_0 a1_1 a1_2 a1_3 a1_4 a1_5 a3 t451 t452 _ A26.out (GP.below HgP_.out (by repeat (first | (with_reducible first | exact HB.out | apply bA | apply bN | apply bD | refine bS ?_ GE442.out | refine bS ?_ GE443.out) | exact HB.out)))).mono ?_); rintro e w40 ⟨rfl, hb⟩; refine ⟨_, rfl, ?_⟩; have n0_ := mA (blk_below (g := gb442) (o := .cells #[.int .i64 a0_0, .int .i64 a0_1, .int .i64 a0_2, .int .i64 a0_3, .int .i64 a0_4, .bool a0_5, .bool a0_6, .string a0_7, .string a0_8, .string a0_9] 69 (0, 0)) (by (with_reducible repeat (first | apply kN | apply kD | apply kA)); exact BK442.out) hb); have n1_ := mA (blk_below (g := gb443) (o := .cells #[.int .i64 a1_0, .int .i64 a1_1, .int .i64 a1_2, .int .i64 a1_3, .string a1_4, .string a1_5] 71 (0, 0)) (by (with_reducible repeat (first | apply kN | apply kD | apply kA)); exact BK443.out) hb); have n2_ := mA (bP (by repeat (first | (with_reducible first | exact HB.out | apply bA | apply bN | apply bD | refine bS ?_ GE442.out | refine bS ?_ GE443.out) | exact HB.out)) hb); clear BK442; clear BK443; clear HB; have BK442 := n0_; have BK443 := n1_; have HB := n2_; clear n0_ n1_ n2_; (try clear hb); (try clear hb2); (try clear hk); (try clear hi); obtain ⟨hcz41_0, hcz41_1, hcz41_2, hcz41_3, hcz41_4, hcz41_5⟩ := bc6 BK443.out; obtain ⟨hfz41_0, hfz41_1, hfz41_2, hfz41_3, hfz41_4, hfz41_5⟩ := bf6 BK443.out) | ((with_reducible refine gate_callee (f := 46) rfl ?_); refine goesL_ (some 61) rfl rfl Tryd.func46 (by kernel_rfl) rfl #[.agg #[.int .i64 a1_0, .int .i64 a1_1, .int .i64 a1_2, .int .i64 a1_3, .string a1_4, .string a1_5], .string a3] rfl (by (try simp only [List.map_toArray, List.map_cons, List.map_nil]); first | done | rfl | (simp only [List.length_drop, List.length_take]; rfl)) ?_; (with_reducible refine (palanquinref09_Build6.calls kj6 a1_0 a1_1 a1_2 a1_3 a1_4 a1_5 a3 t453 t454 _ A27.out).mono ?_); rintro e w42 ⟨rfl, hb⟩; refine ⟨_, rfl, ?_⟩; have n0_ := mA (blk_below (g := gb442) (o := .cells #[.int .i64 a0_0, .int .i64 a0_1, .int .i64 a0_2, .int .i64 a0_3, .int .i64 a0_4, .bool a0_5, .bool a0_6, .string a0_7, .string a0_8, .string a0_9] 69 (0, 0)) (by (with_reducible repeat (first | apply kN | apply kD | apply kA)); exact BK442.out) hb); have n1_ := mA (blk_below (g := gb443) (o := .cells #[.int .i64 a1_0, .int .i64 a1_1, .int .i64 a1_2, .int .i64 a1_3, .string a1_4, .string a1_5] 71 (0, 0)) (by (with_reducible repeat (first | apply kN | apply kD | apply kA)); exact BK443.out) hb); have n2_ := mA (bP (by repeat (first | (with_reducible first | exact HB.out | apply bA | apply bN | apply bD | refine bS ?_ GE442.out | refine bS ?_ GE443.out) | exact HB.out)) hb); clear BK442; clear BK443; clear HB; have BK442 := n0_; have BK443 := n1_; have HB := n2_; clear n0_ n1_ n2_; (try clear hb); (try clear hb2); (try clear hk); (try clear hi)))
         have n0_ := mA (kD BK442.out)
         have n1_ := mA (kD BK443.out)
         have n2_ := mA (bD HB.out)
         clear BK442
         clear BK443
         clear HB
         have BK442 := n0_
         have BK443 := n1_
         have HB := n2_
         clear n0_ n1_ n2_
         refine start_ (n := 36) (S := fun w' => w'.cell? ⟨gb442, 0, none⟩ = some (.int .i64 a0_0) ∧ w'.cell? ⟨gb442, 1, none⟩ = some (.int .i64 a0_1) ∧ w'.cell? ⟨gb442, 2, none⟩ = some (.int .i64 a0_2) ∧ w'.cell? ⟨gb442, 3, none⟩ = some (.int .i64 a0_3) ∧ w'.cell? ⟨gb442, 4, none⟩ = some (.int .i64 a0_4) ∧ w'.cell? ⟨gb442, 5, none⟩ = some (.bool a0_5) ∧ w'.cell? ⟨gb442, 6, none⟩ = some (.bool a0_6) ∧ w'.cell? ⟨gb442, 7, none⟩ = some (.string a0_7) ∧ w'.cell? ⟨gb442, 8, none⟩ = some (.string a0_8) ∧ w'.cell? ⟨gb442, 9, none⟩ = some (.string a0_9)) (ds := []) (bv 36 0) (by kernel_rfl) rfl rfl ⟨(zC BK442.out 0).trans rfl, (zC BK442.out 1).trans rfl, (zC BK442.out 2).trans rfl, (zC BK442.out 3).trans rfl, (zC BK442.out 4).trans rfl, (zC BK442.out 5).trans rfl, (zC BK442.out 6).trans rfl, (zC BK442.out 7).trans rfl, (zC BK442.out 8).trans rfl, (zC BK442.out 9).trans rfl⟩ (fun hHeld => ?_); refine with_tabW palanquinlaw09_FlowBuilds.tab9 palanquinlaw09_FlowBuilds.bits9 (fun HT_ HW_ => ?_)
         generalize w42.drew = w43 at BK442 BK443 HB hHeld ⊢
         refine pure_ (i := 0) (N := some 64) (v := ?_) (a' := ?_) (bv 36 1) rfl rfl (any_of HT_.out (by kernel_rfl)) (fun _ _ _ h => h) (Or.inl ⟨by rfl, ?_⟩) ?_ ?_; rotate_left; (intro w'; go_simp; with_reducible rfl); rotate_left; (simp only [Act.put, List.setIfInBounds_toArray, List.set_cons_zero, List.set_cons_succ, i64_w, i32_w]; rfl)
         refine pure_ (i := 1) (N := some 65) (v := ?_) (a' := ?_) (bv 36 3) rfl rfl (any_of HT_.out (by kernel_rfl)) (fun _ _ _ h => h) (Or.inl ⟨by rfl, ?_⟩) ?_ ?_; rotate_left; (intro w'; go_simp; with_reducible rfl); rotate_left; (simp only [Act.put, List.setIfInBounds_toArray, List.set_cons_zero, List.set_cons_succ, i64_w, i32_w]; rfl)
         refine pure_ (i := 2) (N := some 66) (v := ?_) (a' := ?_) (bv 36 7) rfl rfl (any_of HT_.out (by kernel_rfl)) (fun _ _ _ h => h) (Or.inl ⟨by rfl, ?_⟩) ?_ ?_; rotate_left; (intro w'; go_simp; with_reducible rfl); rotate_left; (simp only [Act.put, List.setIfInBounds_toArray, List.set_cons_zero, List.set_cons_succ, i64_w, i32_w]; rfl)
         refine pure_ (i := 3) (N := some 67) (v := ?_) (a' := ?_) (bv 36 15) rfl rfl (any_of HT_.out (by kernel_rfl)) (fun _ _ _ h => h) (Or.inl ⟨by rfl, ?_⟩) ?_ ?_; rotate_left; (intro w'; go_simp; with_reducible rfl); rotate_left; (simp only [Act.put, List.setIfInBounds_toArray, List.set_cons_zero, List.set_cons_succ, i64_w, i32_w]; rfl)
         refine pure_ (i := 4) (N := some 68) (v := ?_) (a' := ?_) (bv 36 31) rfl rfl (any_of HT_.out (by kernel_rfl)) (fun _ _ _ h => h) (Or.inl ⟨by rfl, ?_⟩) ?_ ?_; rotate_left; (intro w'; go_simp; with_reducible rfl); rotate_left; (simp only [Act.put, List.setIfInBounds_toArray, List.set_cons_zero, List.set_cons_succ, i64_w, i32_w]; rfl)
         refine pure_ (i := 5) (N := some 69) (v := ?_) (a' := ?_) (bv 36 63) rfl rfl (any_of HT_.out (by kernel_rfl)) (fun _ _ _ h => h) (Or.inl ⟨by rfl, ?_⟩) ?_ ?_; rotate_left; (intro w'; go_simp; with_reducible rfl); rotate_left; (simp only [Act.put, List.setIfInBounds_toArray, List.set_cons_zero, List.set_cons_succ, i64_w, i32_w]; rfl)
         refine pure_ (i := 6) (N := some 70) (v := ?_) (a' := ?_) (bv 36 127) rfl rfl (any_of HT_.out (by kernel_rfl)) (fun _ _ _ h => h) (Or.inl ⟨by rfl, ?_⟩) ?_ ?_; rotate_left; (intro w'; go_simp; with_reducible rfl); rotate_left; (simp only [Act.put, List.setIfInBounds_toArray, List.set_cons_zero, List.set_cons_succ, i64_w, i32_w]; rfl)
         refine pure_ (i := 7) (N := some 71) (v := ?_) (a' := ?_) (bv 36 255) rfl rfl (any_of HT_.out (by kernel_rfl)) (fun _ _ _ h => h) (Or.inl ⟨by rfl, ?_⟩) ?_ ?_; rotate_left; (intro w'; go_simp; with_reducible rfl); rotate_left; (simp only [Act.put, List.setIfInBounds_toArray, List.set_cons_zero, List.set_cons_succ, i64_w, i32_w]; rfl)
         refine pure_ (i := 8) (N := some 72) (v := ?_) (a' := ?_) (bv 36 511) rfl rfl (any_of HT_.out (by kernel_rfl)) (fun _ _ _ h => h) (Or.inl ⟨by rfl, ?_⟩) ?_ ?_; rotate_left; (intro w'; go_simp; with_reducible rfl); rotate_left; (simp only [Act.put, List.setIfInBounds_toArray, List.set_cons_zero, List.set_cons_succ, i64_w, i32_w]; rfl)
         refine pure_ (i := 9) (N := some 73) (v := ?_) (a' := ?_) (bv 36 1023) rfl rfl (any_of HT_.out (by kernel_rfl)) (fun _ _ _ h => h) (Or.inl ⟨by rfl, ?_⟩) ?_ ?_; rotate_left; (intro w'; go_simp; with_reducible rfl); rotate_left; (simp only [Act.put, List.setIfInBounds_toArray, List.set_cons_zero, List.set_cons_succ, i64_w, i32_w]; rfl)
         refine pure_ (i := 10) (N := some 74) (v := ?_) (a' := ?_) (bv 36 2047) rfl rfl (any_of HT_.out (by kernel_rfl)) (fun _ _ _ h => h) (Or.inl ⟨by rfl, ?_⟩) ?_ ?_; rotate_left; (intro w'; go_simp; with_reducible rfl); rotate_left; (simp only [Act.put, List.setIfInBounds_toArray, List.set_cons_zero, List.set_cons_succ, i64_w, i32_w]; rfl)
         refine pure_ (i := 11) (N := some 75) (v := ?_) (a' := ?_) (bv 36 4095) rfl rfl (any_of HT_.out (by kernel_rfl)) (fun _ _ _ h => h) (Or.inl ⟨by rfl, ?_⟩) ?_ ?_; rotate_left; (intro w'; go_simp; with_reducible rfl); rotate_left; (simp only [Act.put, List.setIfInBounds_toArray, List.set_cons_zero, List.set_cons_succ, i64_w, i32_w]; rfl)
         refine pure_ (i := 12) (N := some 76) (v := ?_) (a' := ?_) (bv 36 8191) rfl rfl (any_of HT_.out (by kernel_rfl)) (fun _ _ _ h => h) (Or.inl ⟨by rfl, ?_⟩) ?_ ?_; rotate_left; (intro w'; go_simp; with_reducible rfl); rotate_left; (simp only [Act.put, List.setIfInBounds_toArray, List.set_cons_zero, List.set_cons_succ, i64_w, i32_w]; rfl)
         refine pure_ (i := 13) (N := some 77) (v := ?_) (a' := ?_) (bv 36 16383) rfl rfl (any_of HT_.out (by kernel_rfl)) (fun _ _ _ h => h) (Or.inl ⟨by rfl, ?_⟩) ?_ ?_; rotate_left; (intro w'; go_simp; with_reducible rfl); rotate_left; (simp only [Act.put, List.setIfInBounds_toArray, List.set_cons_zero, List.set_cons_succ, i64_w, i32_w]; rfl)
         refine pure_ (i := 14) (N := some 78) (v := ?_) (a' := ?_) (bv 36 32767) rfl rfl (any_of HT_.out (by kernel_rfl)) (fun _ _ _ h => h) (Or.inl ⟨by rfl, ?_⟩) ?_ ?_; rotate_left; (intro w'; go_simp; with_reducible rfl); rotate_left; (simp only [Act.put, List.setIfInBounds_toArray, List.set_cons_zero, List.set_cons_succ, i64_w, i32_w]; rfl)
         refine pure_ (i := 15) (N := some 79) (v := ?_) (a' := ?_) (bv 36 65535) rfl rfl (any_of HT_.out (by kernel_rfl)) (fun _ _ _ h => h) (Or.inl ⟨by rfl, ?_⟩) ?_ ?_; rotate_left; (intro w'; go_simp; with_reducible rfl); rotate_left; (simp only [Act.put, List.setIfInBounds_toArray, List.set_cons_zero, List.set_cons_succ, i64_w, i32_w]; rfl)
         refine pure_ (i := 16) (N := some 80) (v := ?_) (a' := ?_) (bv 36 131071) rfl rfl (any_of HT_.out (by kernel_rfl)) (fun _ _ _ h => h) (Or.inl ⟨by rfl, ?_⟩) ?_ ?_; rotate_left; (intro w'; go_simp; with_reducible rfl); rotate_left; (simp only [Act.put, List.setIfInBounds_toArray, List.set_cons_zero, List.set_cons_succ, i64_w, i32_w]; rfl)
         refine pure_ (i := 17) (N := some 81) (v := ?_) (a' := ?_) (bv 36 262143) rfl rfl (any_of HT_.out (by kernel_rfl)) (fun _ _ _ h => h) (Or.inl ⟨by rfl, ?_⟩) ?_ ?_; rotate_left; (intro w'; go_simp; with_reducible rfl); rotate_left; (simp only [Act.put, List.setIfInBounds_toArray, List.set_cons_zero, List.set_cons_succ, i64_w, i32_w]; rfl)
         refine pure_ (i := 18) (N := some 82) (v := ?_) (a' := ?_) (bv 36 524287) rfl rfl (any_of HT_.out (by kernel_rfl)) (fun _ _ _ h => h) (Or.inl ⟨by rfl, ?_⟩) ?_ ?_; rotate_left; (intro w'; go_simp; with_reducible rfl); rotate_left; (simp only [Act.put, List.setIfInBounds_toArray, List.set_cons_zero, List.set_cons_succ, i64_w, i32_w]; rfl)
         refine pure_ (i := 19) (N := some 83) (v := ?_) (a' := ?_) (bv 36 1048575) rfl rfl (any_of HT_.out (by kernel_rfl)) (fun _ _ _ h => h) (Or.inl ⟨by rfl, ?_⟩) ?_ ?_; rotate_left; (intro w'; go_simp; with_reducible rfl); rotate_left; (simp only [Act.put, List.setIfInBounds_toArray, List.set_cons_zero, List.set_cons_succ, i64_w, i32_w]; rfl)
         refine pure_ (i := 20) (N := some 84) (v := ?_) (a' := ?_) (bv 36 2097151) rfl rfl (any_of HT_.out (by kernel_rfl)) (fun _ _ _ h => h) (Or.inl ⟨by rfl, ?_⟩) ?_ ?_; rotate_left; (intro w'; go_simp; with_reducible rfl); rotate_left; (simp only [Act.put, List.setIfInBounds_toArray, List.set_cons_zero, List.set_cons_succ, i64_w, i32_w]; rfl)
         refine pure_ (i := 22) (N := some 86) (v := ?_) (a' := ?_) (bv 36 6291455) rfl rfl (any_of HT_.out (by kernel_rfl)) (fun _ _ _ h => h) (Or.inl ⟨by rfl, ?_⟩) ?_ ?_; rotate_left; (intro w'; go_simp; with_reducible rfl); rotate_left; (simp only [Act.put, List.setIfInBounds_toArray, List.set_cons_zero, List.set_cons_succ, i64_w, i32_w]; rfl)
         refine pure_ (i := 24) (N := some 88) (v := ?_) (a' := ?_) (bv 36 23068671) rfl rfl (any_of HT_.out (by kernel_rfl)) (fun _ _ _ h => h) (Or.inl ⟨by rfl, ?_⟩) ?_ ?_; rotate_left; (intro w'; go_simp; with_reducible rfl); rotate_left; (simp only [Act.put, List.setIfInBounds_toArray, List.set_cons_zero, List.set_cons_succ, i64_w, i32_w]; rfl)
         refine pure_ (i := 26) (N := some 90) (v := ?_) (a' := ?_) (bv 36 90177535) rfl rfl (any_of HT_.out (by kernel_rfl)) (fun _ _ _ h => h) (Or.inl ⟨by rfl, ?_⟩) ?_ ?_; rotate_left; (intro w'; go_simp; with_reducible rfl); rotate_left; (simp only [Act.put, List.setIfInBounds_toArray, List.set_cons_zero, List.set_cons_succ, i64_w, i32_w]; rfl)
         refine pure_ (i := 27) (N := some 91) (v := ?_) (a' := ?_) (bv 36 224395263) rfl rfl (any_of HT_.out (by kernel_rfl)) (fun _ _ _ h => h) (Or.inl ⟨by rfl, ?_⟩) ?_ ?_; rotate_left; (intro w'; go_simp; with_reducible rfl); rotate_left; (simp only [Act.put, List.setIfInBounds_toArray, List.set_cons_zero, List.set_cons_succ, i64_w, i32_w]; rfl)
         refine pure_ (i := 29) (N := some 93) (v := ?_) (a' := ?_) (bv 36 761266175) rfl rfl (any_of HT_.out (by kernel_rfl)) (fun _ _ _ h => h) (Or.inl ⟨by rfl, ?_⟩) ?_ ?_; rotate_left; (intro w'; go_simp; with_reducible rfl); rotate_left; (simp only [Act.put, List.setIfInBounds_toArray, List.set_cons_zero, List.set_cons_succ, i64_w, i32_w]; rfl)
         refine pure_ (i := 31) (N := some 95) (v := ?_) (a' := ?_) (bv 36 2908749823) rfl rfl (any_of HT_.out (by kernel_rfl)) (fun _ _ _ h => h) (Or.inl ⟨by rfl, ?_⟩) ?_ ?_; rotate_left; (intro w'; go_simp; with_reducible rfl); rotate_left; (simp only [Act.put, List.setIfInBounds_toArray, List.set_cons_zero, List.set_cons_succ, i64_w, i32_w]; rfl)
         refine take_ (i := 21) (N := some 85) (v := ?_) (a' := ?_) (bv 36 2910846975) rfl rfl (take_ofW HT_.out HW_.out (by kernel_rfl)) (fun _ _ _ h => h) (Or.inl ⟨by rfl, ?_⟩) hHeld ?_ ?_; rotate_left; (rintro w' ⟨s0, s1, s2, s3, s4, s5, s6, s7, s8, s9⟩; go_simp; with_reducible rfl); rotate_left; (simp only [Act.put, List.setIfInBounds_toArray, List.set_cons_zero, List.set_cons_succ, i64_w, i32_w]; rfl)
         refine take_ (i := 23) (N := some 87) (v := ?_) (a' := ?_) (bv 36 2919235583) rfl rfl (take_ofW HT_.out HW_.out (by kernel_rfl)) (fun _ _ _ h => h) (Or.inl ⟨by rfl, ?_⟩) hHeld ?_ ?_; rotate_left; (rintro w' ⟨s0, s1, s2, s3, s4, s5, s6, s7, s8, s9⟩; go_simp; with_reducible rfl); rotate_left; (simp only [Act.put, List.setIfInBounds_toArray, List.set_cons_zero, List.set_cons_succ, i64_w, i32_w]; rfl)
         refine take_ (i := 28) (N := some 92) (v := ?_) (a' := ?_) (bv 36 3187671039) rfl rfl (take_ofW HT_.out HW_.out (by kernel_rfl)) (fun _ _ _ h => h) (Or.inl ⟨by rfl, ?_⟩) hHeld ?_ ?_; rotate_left; (rintro w' ⟨s0, s1, s2, s3, s4, s5, s6, s7, s8, s9⟩; go_simp; with_reducible rfl); rotate_left; (simp only [Act.put, List.setIfInBounds_toArray, List.set_cons_zero, List.set_cons_succ, i64_w, i32_w]; rfl)
         refine take_ (i := 30) (N := some 94) (v := ?_) (a' := ?_) (bv 36 4261412863) rfl rfl (take_ofW HT_.out HW_.out (by kernel_rfl)) (fun _ _ _ h => h) (Or.inl ⟨by rfl, ?_⟩) hHeld ?_ ?_; rotate_left; (rintro w' ⟨s0, s1, s2, s3, s4, s5, s6, s7, s8, s9⟩; go_simp; with_reducible rfl); rotate_left; (simp only [Act.put, List.setIfInBounds_toArray, List.set_cons_zero, List.set_cons_succ, i64_w, i32_w]; rfl)
         refine one_ (i := 25) (N := some 89) (bv 36 4294967295) rfl rfl (one_of HT_.out (by kernel_rfl)) (by decide) (fun K hK => ?_)
         refine goes_ Tryd.func41 (by kernel_rfl) rfl #[.int .i64 a2, .string a0_7, .string a0_8, .string a3] (by rfl) rfl rfl (by (try simp only [List.map_toArray, List.map_cons, List.map_nil]); first | done | rfl | (simp only [List.length_drop, List.length_take]; rfl)) ?_
         with_reducible refine (flow_Seal.calls a2 a0_7 a0_8 a3 t455 _ A32.out (GP.below HgP_.out (by repeat (first | (with_reducible first | exact HB.out | apply bA | apply bN | apply bD | refine bS ?_ GE442.out | refine bS ?_ GE443.out) | exact HB.out)))).mono ?_
         rintro e w44 ⟨rfl, hb⟩
         refine ⟨_, rfl, ?_⟩
         have n0_ := mA (blk_below (g := gb442) (o := .cells #[.int .i64 a0_0, .int .i64 a0_1, .int .i64 a0_2, .int .i64 a0_3, .int .i64 a0_4, .bool a0_5, .bool a0_6, .string a0_7, .string a0_8, .string a0_9] 69 (0, 0)) (by (with_reducible repeat (first | apply kN | apply kD | apply kA)); exact BK442.out) hb)
         have n1_ := mA (blk_below (g := gb443) (o := .cells #[.int .i64 a1_0, .int .i64 a1_1, .int .i64 a1_2, .int .i64 a1_3, .string a1_4, .string a1_5] 71 (0, 0)) (by (with_reducible repeat (first | apply kN | apply kD | apply kA)); exact BK443.out) hb)
         have n2_ := mA (bP (by repeat (first | (with_reducible first | exact HB.out | apply bA | apply bN | apply bD | refine bS ?_ GE442.out | refine bS ?_ GE443.out) | exact HB.out)) hb)
         clear BK442
         clear BK443
         clear HB
         have BK442 := n0_
         have BK443 := n1_
         have HB := n2_
         clear n0_ n1_ n2_
         (try clear hb)
         (try clear hb2)
         (try clear hk)
         (try clear hi)
         refine hK.out _ _ ⟨(zC BK442.out 0).trans rfl, (zC BK442.out 1).trans rfl, (zC BK442.out 2).trans rfl, (zC BK442.out 3).trans rfl, (zC BK442.out 4).trans rfl, (zC BK442.out 5).trans rfl, (zC BK442.out 6).trans rfl, (zC BK442.out 7).trans rfl, (zC BK442.out 8).trans rfl, (zC BK442.out 9).trans rfl⟩ (fun hHeld => ?_)
         clear hK K
         refine norm_ (a' := ?_) ?_ ?_
         rotate_left
         ·show Act.put _ (some 89) _ = _
          simp only [Act.put, List.setIfInBounds_toArray, List.set_cons_zero, List.set_cons_succ, i64_w, i32_w]
          rfl
         refine one_ (i := 32) (N := some 96) (bv 36 8589934591) rfl rfl (one_of HT_.out (by kernel_rfl)) (by decide) (fun K hK => ?_)
         refine goes_ Tryd.func47 (by kernel_rfl) rfl #[.int .i64 a2, .string a0_7, .string a0_8, .string a3] (by rfl) rfl rfl (by (try simp only [List.map_toArray, List.map_cons, List.map_nil]); first | done | rfl | (simp only [List.length_drop, List.length_take]; rfl)) ?_
         with_reducible refine (palanquinref09_Seal.calls kj6 a2 a0_7 a0_8 a3 t456 _ A33.out).mono ?_
         rintro e w45 ⟨rfl, hb⟩
         refine ⟨_, rfl, ?_⟩
         have n0_ := mA (blk_below (g := gb442) (o := .cells #[.int .i64 a0_0, .int .i64 a0_1, .int .i64 a0_2, .int .i64 a0_3, .int .i64 a0_4, .bool a0_5, .bool a0_6, .string a0_7, .string a0_8, .string a0_9] 69 (0, 0)) (by (with_reducible repeat (first | apply kN | apply kD | apply kA)); exact BK442.out) hb)
         have n1_ := mA (blk_below (g := gb443) (o := .cells #[.int .i64 a1_0, .int .i64 a1_1, .int .i64 a1_2, .int .i64 a1_3, .string a1_4, .string a1_5] 71 (0, 0)) (by (with_reducible repeat (first | apply kN | apply kD | apply kA)); exact BK443.out) hb)
         have n2_ := mA (bP (by repeat (first | (with_reducible first | exact HB.out | apply bA | apply bN | apply bD | refine bS ?_ GE442.out | refine bS ?_ GE443.out) | exact HB.out)) hb)
         clear BK442
         clear BK443
         clear HB
         have BK442 := n0_
         have BK443 := n1_
         have HB := n2_
         clear n0_ n1_ n2_
         (try clear hb)
         (try clear hb2)
         (try clear hk)
         (try clear hi)
         refine hK.out _ _ ⟨(zC BK442.out 0).trans rfl, (zC BK442.out 1).trans rfl, (zC BK442.out 2).trans rfl, (zC BK442.out 3).trans rfl, (zC BK442.out 4).trans rfl, (zC BK442.out 5).trans rfl, (zC BK442.out 6).trans rfl, (zC BK442.out 7).trans rfl, (zC BK442.out 8).trans rfl, (zC BK442.out 9).trans rfl⟩ (fun hHeld => ?_)
         clear hK K
         refine norm_ (a' := ?_) ?_ ?_
         rotate_left
         ·show Act.put _ (some 96) _ = _
          simp only [Act.put, List.setIfInBounds_toArray, List.set_cons_zero, List.set_cons_succ, i64_w, i32_w]
          rfl
         refine pure_ (i := 33) (N := some 97) (v := ?_) (a' := ?_) (bv 36 17179869183) rfl rfl (any_of HT_.out (by kernel_rfl)) (fun _ _ _ h => h) (Or.inl ⟨by rfl, ?_⟩) ?_ ?_; rotate_left; (intro w'; go_simp; with_reducible rfl); rotate_left; (simp only [Act.put, List.setIfInBounds_toArray, List.set_cons_zero, List.set_cons_succ, i64_w, i32_w]; rfl)
         refine pure_ (i := 34) (N := some 98) (v := ?_) (a' := ?_) (bv 36 34359738367) rfl rfl (any_of HT_.out (by kernel_rfl)) (fun _ _ _ h => h) (Or.inl ⟨by rfl, ?_⟩) ?_ ?_; rotate_left; (intro w'; go_simp; with_reducible rfl); rotate_left; (simp only [Act.put, List.setIfInBounds_toArray, List.set_cons_zero, List.set_cons_succ, i64_w, i32_w]; rfl)
         refine pure_ (i := 35) (N := some 8) (v := ?_) (a' := ?_) (bv 36 68719476735) rfl rfl (any_of HT_.out (by kernel_rfl)) (fun _ _ _ h => h) (Or.inl ⟨by rfl, ?_⟩) ?_ ?_; rotate_left; (intro w'; go_simp; with_reducible rfl); rotate_left; (simp only [Act.put, List.setIfInBounds_toArray, List.set_cons_zero, List.set_cons_succ, i64_w, i32_w]; rfl)
         refine done_ (done_of HT_.out (by kernel_rfl)) ?_
         try go_wp2
         go_ret
         exact ⟨by first | rfl | (simp [errW_none, errW_some] <;> rfl) | (simp [*, errW_none, errW_some] <;> rfl), by repeat (first | (with_reducible first | exact HB.out | apply bA | apply bN | apply bD | refine bS ?_ GE442.out | refine bS ?_ GE443.out) | exact HB.out)⟩
        ·rw [if_neg c31] at H
         exact absurd ((Option.some.inj H).trans hrt_.out) (by decide)
       ·rw [if_neg c30] at H
        exact absurd ((Option.some.inj H).trans hrt_.out) (by decide)
      ·rw [if_neg c29] at H
       exact absurd ((Option.some.inj H).trans hrt_.out) (by decide)
     ·rw [if_neg c28] at H
      exact absurd ((Option.some.inj H).trans hrt_.out) (by decide)
 ·replace c6 := Bool.eq_false_iff.mpr c6
  subst c6
  have H1 : (some false) = some r := by rw [if_neg (show ¬ (false = true) by decide)] at H; exact H
  exact absurd ((Option.some.inj H1).trans hrt_.out) (by decide)
end Go.Proofs.YtcmalglippmocaaDoor.G
end

section
/- Plain facts of palanquinref02: its sum is the checksum. -/
namespace Go.Proofs.YtcmalglippmocaaDoor.Pure
open Go.RowKit Go.Proofs.YtcmalglippmocaaDoorW.PrintWords Go.Proofs.YtcmalglippmocaaDoorW.PrintLast Go.Proofs.YtcmalglippmocaaDoor.G Go.Proofs.YtcmalglippmocaaDoor.Pal
namespace R2
/-- fewer rounds: each takes at least 65535 away -/
theorem down_fast : ∀ (k n : Nat), n ≤ 4294967296 → 2 < k → palanquinref02_down.f k (n : Int) = some ((fold16 n : Nat) : Int) := by
  intro k n hn hk
  obtain ⟨k, rfl⟩ : ∃ j, k = j + 3 := ⟨k - 3, by omega⟩
  have step : ∀ m : Nat, m ≤ 4294967296 → (m : Int) ≥ 65536 → wrap64 (Int.tmod (m : Int) 65536 + wrap64 (Int.tdiv (m : Int) 65536)) = ((m % 65536 + m / 65536 : Nat) : Int) := fun m hm h => by
    rw [Int.tmod_eq_emod_of_nonneg (by omega), Int.tdiv_eq_ediv_of_nonneg (by omega)]; unfold wrap64; omega
  unfold palanquinref02_down.f
  rw [palanquinref02_down.l0]
  by_cases h : (n : Int) ≥ 65536
  · rw [if_pos h, step n hn h, palanquinref02_down.l0]
    by_cases h2 : ((n % 65536 + n / 65536 : Nat) : Int) ≥ 65536
    · rw [if_pos h2, step _ (by omega) h2, palanquinref02_down.l0, if_neg (by omega)]
      congr 2
      rw [← fold16_step n, ← fold16_step (n % 65536 + n / 65536), fold16_id _ (by omega)]
    · rw [if_neg h2]
      congr 2
      rw [← fold16_step n, fold16_id _ (by omega)]
  · rw [if_neg h, fold16_id n (by omega)]
theorem tot_two (l : List UInt8) (i : Nat) (h : i + 1 < l.length) : tot false (l.take (i + 2)) = tot false (l.take i) + tot (odd (l.take i)) [l[i], l[i + 1]] := by
  have e : l.take (i + 2) = l.take i ++ [l[i], l[i + 1]] := by
    rw [List.take_succ_eq_append_getElem (by omega), List.take_succ_eq_append_getElem (by omega), List.append_assoc]; rfl
  rw [e, tot_append]
  cases odd (l.take i) <;> rfl
theorem sum_end (s : ByteArray) (hs : s.size ≤ 6000) (k : Nat) (hk : 3 < k) : palanquinref02_Sum.l0 k s ((tot false (bl s) : Nat) : Int) (s.size : Int) = some ((65535 - fold16 (tot false (bl s)) : Nat) : Int) := by
  obtain ⟨k, rfl⟩ : ∃ j, k = j + 1 := ⟨k - 1, by omega⟩
  have hb := tot_le (bl s) false
  rw [bl_length] at hb
  rw [palanquinref02_Sum.l0, if_neg (by omega), down_fast k _ (by omega) (by omega), Option.bind_some]
  have := fold16_le (tot false (bl s))
  congr 1; unfold wrap64; omega
theorem sum_num (z x y : Nat) (hz : z ≤ 391680000) (hx : x < 2 ^ 8) (hy : y < 2 ^ 8) : wrap64 (wrap64 ((z : Int) + wrap64 (wrap64 (x : Int) * 256)) + wrap64 (y : Int)) = ((z + (x * 256 + y) : Nat) : Int) := by
  have e1 : wrap64 (x : Int) = x := by unfold wrap64; omega
  have e2 : wrap64 (y : Int) = y := by unfold wrap64; omega
  have e3 : wrap64 ((x : Int) * 256) = (x : Int) * 256 := by unfold wrap64; omega
  have e4 : wrap64 ((z : Int) + (x : Int) * 256) = (z : Int) + (x : Int) * 256 := by unfold wrap64; omega
  rw [e1, e2, e3, e4]
  unfold wrap64; omega
theorem sum_step (s : ByteArray) (hs : s.size ≤ 6000) (i k : Nat) (hi : i % 2 = 0) (h1 : i + 1 < s.size) :
    palanquinref02_Sum.l0 (k + 1) s ((tot false ((bl s).take i) : Nat) : Int) (i : Int) = palanquinref02_Sum.l0 k s ((tot false ((bl s).take (i + 2)) : Nat) : Int) ((i + 2 : Nat) : Int) := by
  have h0 : i < s.size := by omega
  have hl1 : i + 1 < (bl s).length := by rw [bl_length]; exact h1
  have hb := tot_le ((bl s).take i) false
  have hl : ((bl s).take i).length ≤ 6000 := by rw [List.length_take, bl_length]; omega
  have ho : odd ((bl s).take i) = false := by
    unfold odd; rw [List.length_take, bl_length, Nat.min_eq_left (by omega), hi]; rfl
  have ht := tot_two (bl s) i hl1
  rw [ho] at ht
  simp only [tot, Nat.add_zero] at ht
  have b0 := (bl s)[i].toNat_lt
  have b1 := (bl s)[i + 1].toNat_lt
  have w1 : wrap64 ((i : Int) + 1) = ((i + 1 : Nat) : Int) := by unfold wrap64; omega
  have w2 : wrap64 ((i : Int) + 2) = ((i + 2 : Nat) : Int) := by unfold wrap64; omega
  have g0 : bt s (i : Int) = (((bl s)[i].toNat : Nat) : Int) := bt_bl s i h0
  have g1 : bt s ((i + 1 : Nat) : Int) = (((bl s)[i + 1].toNat : Nat) : Int) := bt_bl s (i + 1) h1
  rw [ht]
  generalize (bl s)[i].toNat = x at b0 g0 ⊢
  generalize (bl s)[i + 1].toNat = y at b1 g1 ⊢
  have hz : tot false ((bl s).take i) ≤ 391680000 := by omega
  generalize tot false ((bl s).take i) = z at hz ⊢
  clear hb hl ho ht hl1 hs
  rw [palanquinref02_Sum.l0, if_pos (by omega), if_pos (by omega), w1, w2, if_pos (by omega), if_pos (by omega), g0, g1]
  rw [sum_num z x y hz b0 b1]
theorem sum_loop (s : ByteArray) (hs : s.size ≤ 6000) (he : s.size % 2 = 0) (n : Nat) : ∀ (i k : Nat), i + 2 * n = s.size → n + 3 < k →
    palanquinref02_Sum.l0 k s ((tot false ((bl s).take i) : Nat) : Int) (i : Int) = some ((65535 - fold16 (tot false (bl s)) : Nat) : Int) := by
  induction n with
  | zero =>
    intro i k hi hk
    have e := sum_end s hs k (by omega)
    rw [List.take_of_length_le (by rw [bl_length]; omega), show i = s.size by omega]
    exact e
  | succ n ih =>
    intro i k hi hk
    obtain ⟨k, rfl⟩ : ∃ j, k = j + 1 := ⟨k - 1, by omega⟩
    rw [sum_step s hs i k (by omega) (by omega)]
    exact ih (i + 2) k (by omega) (by omega)
theorem zero_is : strOfNums [0] = ⟨#[0]⟩ := by simp [strOfNums]
theorem ref_sum (s : ByteArray) (hs : s.size ≤ 5000) (k : Nat) (hk : 5000 < k) : palanquinref02_Sum.f k s = some ((csum (bl s) : Nat) : Int) := by
  unfold palanquinref02_Sum.f
  obtain ⟨k, rfl⟩ : ∃ j, k = j + 1 := ⟨k - 1, by omega⟩
  by_cases h : (s.size : Int) % 2 = 1
  · have h1 : (⟨#[0]⟩ : ByteArray).size = 1 := rfl
    rw [if_pos h, Option.bind_some, zero_is, if_pos (by rw [h1]; omega), palanquinref02_Sum.j0]
    have e := sum_loop (s ++ ⟨#[0]⟩) (by rw [ByteArray.size_append, h1]; omega) (by rw [ByteArray.size_append, h1]; omega) ((s.size + 1) / 2) 0 k (by rw [ByteArray.size_append, h1]; omega) (by omega)
    refine Eq.trans e ?_
    rw [bl_append, tot_append]
    unfold csum
    have : ∀ o, tot o (bl (⟨#[0]⟩ : ByteArray)) = 0 := fun o => by cases o <;> rfl
    rw [this]; rfl
  · rw [if_neg h, palanquinref02_Sum.j0]
    exact sum_loop s (by omega) (by omega) (s.size / 2) 0 k (by omega) (by omega)
end R2
end Go.Proofs.YtcmalglippmocaaDoor.Pure
end

section
/- Plain facts of palanquinref02: its sum is the checksum, for texts up to 80000 bytes. -/
namespace Go.Proofs.YtcmalglippmocaaDoor.Pure
open Go.RowKit Go.Proofs.YtcmalglippmocaaDoorW.PrintWords Go.Proofs.YtcmalglippmocaaDoorW.PrintLast Go.Proofs.YtcmalglippmocaaDoor.G Go.Proofs.YtcmalglippmocaaDoor.Pal
namespace R2
theorem down_fastL : ∀ (k n : Nat), n ≤ 1099511627776 → 3 < k → palanquinref02_down.f k (n : Int) = some ((fold16 n : Nat) : Int) := by
  intro k n hn hk
  by_cases hs : n ≤ 4294967296
  · exact down_fast k n hs (by omega)
  obtain ⟨k, rfl⟩ : ∃ j, k = j + 1 := ⟨k - 1, by omega⟩
  have step : wrap64 (Int.tmod (n : Int) 65536 + wrap64 (Int.tdiv (n : Int) 65536)) = ((n % 65536 + n / 65536 : Nat) : Int) := by
    rw [Int.tmod_eq_emod_of_nonneg (by omega), Int.tdiv_eq_ediv_of_nonneg (by omega)]; unfold wrap64; omega
  have e := down_fast k (n % 65536 + n / 65536) (by omega) (by omega)
  unfold palanquinref02_down.f at e ⊢
  rw [palanquinref02_down.l0, if_pos (by omega), step, e, fold16_step]
theorem sum_endL (s : ByteArray) (hs : s.size ≤ 80000) (k : Nat) (hk : 4 < k) : palanquinref02_Sum.l0 k s ((tot false (bl s) : Nat) : Int) (s.size : Int) = some ((65535 - fold16 (tot false (bl s)) : Nat) : Int) := by
  obtain ⟨k, rfl⟩ : ∃ j, k = j + 1 := ⟨k - 1, by omega⟩
  have hb := tot_le (bl s) false
  rw [bl_length] at hb
  rw [palanquinref02_Sum.l0, if_neg (by omega), down_fastL k _ (by omega) (by omega), Option.bind_some]
  have := fold16_le (tot false (bl s))
  congr 1; unfold wrap64; omega
theorem sum_numL (z x y : Nat) (hz : z ≤ 5222400000) (hx : x < 2 ^ 8) (hy : y < 2 ^ 8) : wrap64 (wrap64 ((z : Int) + wrap64 (wrap64 (x : Int) * 256)) + wrap64 (y : Int)) = ((z + (x * 256 + y) : Nat) : Int) := by
  have e1 : wrap64 (x : Int) = x := by unfold wrap64; omega
  have e2 : wrap64 (y : Int) = y := by unfold wrap64; omega
  have e3 : wrap64 ((x : Int) * 256) = (x : Int) * 256 := by unfold wrap64; omega
  have e4 : wrap64 ((z : Int) + (x : Int) * 256) = (z : Int) + (x : Int) * 256 := by unfold wrap64; omega
  rw [e1, e2, e3, e4]
  unfold wrap64; omega
theorem sum_stepL (s : ByteArray) (hs : s.size ≤ 80000) (i k : Nat) (hi : i % 2 = 0) (h1 : i + 1 < s.size) :
    palanquinref02_Sum.l0 (k + 1) s ((tot false ((bl s).take i) : Nat) : Int) (i : Int) = palanquinref02_Sum.l0 k s ((tot false ((bl s).take (i + 2)) : Nat) : Int) ((i + 2 : Nat) : Int) := by
  have h0 : i < s.size := by omega
  have hl1 : i + 1 < (bl s).length := by rw [bl_length]; exact h1
  have hb := tot_le ((bl s).take i) false
  have hl : ((bl s).take i).length ≤ 80000 := by rw [List.length_take, bl_length]; omega
  have ho : odd ((bl s).take i) = false := by
    unfold odd; rw [List.length_take, bl_length, Nat.min_eq_left (by omega), hi]; rfl
  have ht := tot_two (bl s) i hl1
  rw [ho] at ht
  simp only [tot, Nat.add_zero] at ht
  have b0 := (bl s)[i].toNat_lt
  have b1 := (bl s)[i + 1].toNat_lt
  have w1 : wrap64 ((i : Int) + 1) = ((i + 1 : Nat) : Int) := by unfold wrap64; omega
  have w2 : wrap64 ((i : Int) + 2) = ((i + 2 : Nat) : Int) := by unfold wrap64; omega
  have g0 : bt s (i : Int) = (((bl s)[i].toNat : Nat) : Int) := bt_bl s i h0
  have g1 : bt s ((i + 1 : Nat) : Int) = (((bl s)[i + 1].toNat : Nat) : Int) := bt_bl s (i + 1) h1
  rw [ht]
  generalize (bl s)[i].toNat = x at b0 g0 ⊢
  generalize (bl s)[i + 1].toNat = y at b1 g1 ⊢
  have hz : tot false ((bl s).take i) ≤ 5222400000 := by omega
  generalize tot false ((bl s).take i) = z at hz ⊢
  clear hb hl ho ht hl1 hs
  rw [palanquinref02_Sum.l0, if_pos (by omega), if_pos (by omega), w1, w2, if_pos (by omega), if_pos (by omega), g0, g1]
  rw [sum_numL z x y hz b0 b1]
theorem sum_loopL (s : ByteArray) (hs : s.size ≤ 80000) (he : s.size % 2 = 0) (n : Nat) : ∀ (i k : Nat), i + 2 * n = s.size → n + 4 < k →
    palanquinref02_Sum.l0 k s ((tot false ((bl s).take i) : Nat) : Int) (i : Int) = some ((65535 - fold16 (tot false (bl s)) : Nat) : Int) := by
  induction n with
  | zero =>
    intro i k hi hk
    have e := sum_endL s hs k (by omega)
    rw [List.take_of_length_le (by rw [bl_length]; omega), show i = s.size by omega]
    exact e
  | succ n ih =>
    intro i k hi hk
    obtain ⟨k, rfl⟩ : ∃ j, k = j + 1 := ⟨k - 1, by omega⟩
    rw [sum_stepL s hs i k (by omega) (by omega)]
    exact ih (i + 2) k (by omega) (by omega)
theorem ref_sumL (s : ByteArray) (hs : s.size ≤ 79000) (k : Nat) (hk : s.size + 10 < k) : palanquinref02_Sum.f k s = some ((csum (bl s) : Nat) : Int) := by
  unfold palanquinref02_Sum.f
  obtain ⟨k, rfl⟩ : ∃ j, k = j + 1 := ⟨k - 1, by omega⟩
  by_cases h : (s.size : Int) % 2 = 1
  · have h1 : (⟨#[0]⟩ : ByteArray).size = 1 := rfl
    rw [if_pos h, Option.bind_some, zero_is, if_pos (by rw [h1]; omega), palanquinref02_Sum.j0]
    have e := sum_loopL (s ++ ⟨#[0]⟩) (by rw [ByteArray.size_append, h1]; omega) (by rw [ByteArray.size_append, h1]; omega) ((s.size + 1) / 2) 0 k (by rw [ByteArray.size_append, h1]; omega) (by omega)
    refine Eq.trans e ?_
    rw [bl_append, tot_append]
    unfold csum
    have : ∀ o, tot o (bl (⟨#[0]⟩ : ByteArray)) = 0 := fun o => by cases o <;> rfl
    rw [this]; rfl
  · rw [if_neg h, palanquinref02_Sum.j0]
    exact sum_loopL s (by omega) (by omega) (s.size / 2) 0 k (by omega) (by omega)
theorem bl_inj' {a b : ByteArray} (h : bl a = bl b) : a = b := ByteArray.ext (Array.toList_inj.mp h)
theorem mask8 (x : Int) : Go.bits .and .i64 x 255 = x % 256 := by
  have e : Go.bits .and .i64 x 255 = IntKind.i64.wrap (((x % 18446744073709551616).toNat &&& 255 : Nat) : Int) := by
    show IntKind.i64.wrap (((BitVec.ofInt 64 x &&& BitVec.ofInt 64 255).toNat : Nat) : Int) = _
    rw [BitVec.toNat_and, BitVec.toNat_ofInt, show (BitVec.ofInt 64 255).toNat = 255 from rfl]
    rfl
  rw [e, Nat.and_two_pow_sub_one_eq_mod _ 8, IntKind.wrap_i64]; omega
/-- The sum, brought up to date. -/
theorem nums4 (v : Int) : [UInt8.ofNat (v / 16777216 % 256).toNat, UInt8.ofNat (v / 65536 % 256).toNat, UInt8.ofNat (v / 256 % 256).toNat, UInt8.ofNat (v % 256).toNat] = nb 4 (v % 18446744073709551616).toNat := by
  have e : ∀ (m n : Nat), m % 256 = n % 256 → UInt8.ofNat m = UInt8.ofNat n := fun m n h => by apply UInt8.toNat.inj; simp [h]
  simp only [nb, List.nil_append, List.cons_append]
  refine congr (congrArg List.cons (e _ _ (by omega))) (congr (congrArg List.cons (e _ _ (by omega))) (congr (congrArg List.cons (e _ _ (by omega))) (congr (congrArg List.cons (e _ _ (by omega))) rfl)))
theorem nums2 (v : Int) : [UInt8.ofNat (v / 256 % 256).toNat, UInt8.ofNat (v % 256).toNat] = nb 2 (v % 18446744073709551616).toNat := by
  have e : ∀ (m n : Nat), m % 256 = n % 256 → UInt8.ofNat m = UInt8.ofNat n := fun m n h => by apply UInt8.toNat.inj; simp [h]
  simp only [nb, List.nil_append, List.cons_append]
  refine congr (congrArg List.cons (e _ _ (by omega))) (congr (congrArg List.cons (e _ _ (by omega))) rfl)
theorem bytes_any (n : Nat) (hn : n ≤ 8) (v : Int) (k : Nat) (hk : n < k) : ∃ r, palanquinref01_Bytes.f k (IntKind.u64.wrap v) (n : Int) = some r ∧ bl r = nb n (v % 18446744073709551616).toNat := by
  have e : IntKind.u64.wrap v = (((v % 18446744073709551616).toNat : Nat) : Int) := by rw [IntKind.wrap_u64]; omega
  rw [e]
  exact bytes_is n hn _ (by omega) k hk
theorem ref_pseudo (s d : ByteArray) (hs : s.size ≤ 300) (hd : d.size ≤ 300) (a b : Int) (k : Nat) (hk : 4 < k) : ∃ r, sum_Pseudo.f s d a b = some r ∧ palanquinref02_Pseudo.f k s d a b = some r := by
  unfold sum_Pseudo.f palanquinref02_Pseudo.f
  have bl_nums : ∀ xs : List Int, bl (strOfNums xs) = xs.map fun n => UInt8.ofNat n.toNat := fun xs => by simp [bl, strOfNums]
  have sz_nums : ∀ xs : List Int, (strOfNums xs).size = xs.length := fun xs => by rw [← bl_length, bl_nums, List.length_map]
  by_cases h : (s.size : Int) = 16
  · rw [if_pos h, if_pos h, if_pos (by omega), if_pos (by omega), Option.bind_some, if_pos (by rw [sz_nums, ByteArray.size_append]; simp; omega)]
    obtain ⟨r1, e1, b1⟩ := bytes_any 4 (by decide) b k hk
    obtain ⟨r2, e2, b2⟩ := bytes_any 4 (by decide) (a % 256) k hk
    have s1 : r1.size = 4 := by rw [← bl_length, b1, nb_length]
    have s2 : r2.size = 4 := by rw [← bl_length, b2, nb_length]
    refine ⟨_, rfl, ?_⟩
    rw [mask8]
    rw [show (4 : Int) = ((4 : Nat) : Int) from rfl, e1, Option.bind_some, if_pos (by rw [ByteArray.size_append]; omega), e2, Option.bind_some, if_pos (by rw [ByteArray.size_append, ByteArray.size_append]; omega)]
    have key : s ++ d ++ r1 ++ r2 = s ++ d ++ strOfNums [b / 16777216 % 256, b / 65536 % 256, b / 256 % 256, b % 256, 0, 0, 0, a % 256] := by
      apply bl_inj'
      rw [bl_append, bl_append, bl_append (s ++ d), b1, b2, bl_nums, ← nums4 b, ← nums4 (a % 256)]
      simp only [List.map_cons, List.map_nil, List.append_assoc, List.cons_append, List.nil_append]
      congr 5
      have e : ∀ (m n : Nat), m % 256 = n % 256 → UInt8.ofNat m = UInt8.ofNat n := fun m n h => by apply UInt8.toNat.inj; simp [h]
      refine congr (congrArg List.cons (e _ _ (by omega))) (congr (congrArg List.cons (e _ _ (by omega))) (congr (congrArg List.cons (e _ _ (by omega))) (congr (congrArg List.cons (e _ _ (by omega))) rfl)))
    rw [key]
  · rw [if_neg h, if_neg h, if_pos (by omega), if_pos (by omega), Option.bind_some, if_pos (by rw [sz_nums, ByteArray.size_append]; simp; omega)]
    obtain ⟨r1, e1, b1⟩ := bytes_any 2 (by decide) (a % 256) k (by omega)
    obtain ⟨r2, e2, b2⟩ := bytes_any 2 (by decide) b k (by omega)
    have s1 : r1.size = 2 := by rw [← bl_length, b1, nb_length]
    have s2 : r2.size = 2 := by rw [← bl_length, b2, nb_length]
    refine ⟨_, rfl, ?_⟩
    rw [mask8]
    rw [show (2 : Int) = ((2 : Nat) : Int) from rfl, e1, Option.bind_some, if_pos (by rw [ByteArray.size_append]; omega), e2, Option.bind_some, if_pos (by rw [ByteArray.size_append, ByteArray.size_append]; omega)]
    have key : s ++ d ++ r1 ++ r2 = s ++ d ++ strOfNums [0, a % 256, b / 256 % 256, b % 256] := by
      apply bl_inj'
      rw [bl_append, bl_append, bl_append (s ++ d), b1, b2, bl_nums, ← nums2 b, ← nums2 (a % 256)]
      simp only [List.map_cons, List.map_nil, List.append_assoc, List.cons_append, List.nil_append]
      rw [show a % 256 / 256 % 256 = 0 by omega, show a % 256 % 256 = a % 256 by omega]
    rw [key]
end R2
end Go.Proofs.YtcmalglippmocaaDoor.Pure
end

section
/- Plain facts of palanquinref09.Seal: it is flow.Seal. -/
namespace Go.Proofs.YtcmalglippmocaaDoor.Pure
open Go.RowKit Go.Proofs.YtcmalglippmocaaDoorW.PrintWords Go.Proofs.YtcmalglippmocaaDoorW.PrintLast Go.Proofs.YtcmalglippmocaaDoor.G Go.Proofs.YtcmalglippmocaaDoor.Pal
set_option linter.unusedVariables false
theorem ref_pseudo_is (s d : ByteArray) (hs : s.size ≤ 300) (hd : d.size ≤ 300) (a b : Int) (k : Nat) (hk : 4 < k) : palanquinref02_Pseudo.f k s d a b = some (psB s d a b) := by
  obtain ⟨r, h1, h2⟩ := R2.ref_pseudo s d hs hd a b k hk
  rw [pseudo_some s d hs hd] at h1
  rw [h2, ← Option.some.inj h1]
theorem ref_seal3 {p : Int} {a b s : ByteArray} {q : Nat} (hq : q = 16 ∨ q = 6) (hs : s.size ≤ 78000) (hl : q + 2 ≤ s.size) (ha : a.size ≤ 300) (hb : b.size ≤ 300) (k : Nat) (hk : s.size + 700 < k) :
    palanquinref09_Seal.j3 (k + 1) p a b s (q : Int) = some (putAt s q (sealC p (sumAt (psB a b p s.size) s q))) := by
  have hz := psB_size a b p s.size
  have hz2 := (psT_size (a.size == 16) p s.size).2
  have hT : ((q : Int)).toNat = q := Int.toNat_natCast q
  have hW : wrap64 ((q : Int) + 2) = ((q + 2 : Nat) : Int) := by unfold wrap64; omega
  have hT2 : (((q + 2 : Nat) : Int)).toNat = q + 2 := Int.toNat_natCast _
  have e1 : (s.extract 0 q).size = q := by rw [ByteArray.size_extract]; omega
  have e2 : (s.extract (q + 2) s.size).size = s.size - (q + 2) := by rw [ByteArray.size_extract]; omega
  have e3 : (⟨#[0, 0]⟩ : ByteArray).size = 2 := rfl
  have hB : ∀ n : Nat, n ≤ 65535 → ∃ r, palanquinref01_Bytes.f k (IntKind.u64.wrap (n : Int)) 2 = some r ∧ r.size = 2 ∧ s.extract 0 q ++ r ++ s.extract (q + 2) s.size = putAt s q n := fun n hn => by
    obtain ⟨r, h1, h2⟩ := bytes_is 2 (by decide) n (by omega) k (by omega)
    refine ⟨r, ?_, by rw [← bl_length, h2, nb_length], ?_⟩
    · rw [show IntKind.u64.wrap (n : Int) = (n : Int) by rw [IntKind.wrap_u64]; omega]; exact h1
    · apply bl_inj
      rw [bl_append, bl_append, h2, bl_putAt, ext_front, ext_back]
  have hJ : bl (psB a b p s.size ++ s.extract 0 q ++ ⟨#[0, 0]⟩ ++ s.extract (q + 2) s.size) = bl (psB a b p s.size) ++ bl (putAt s q 0) := by
    rw [bl_append, bl_append, bl_append, bl_putAt, ext_front, ext_back, show bl (⟨#[0, 0]⟩ : ByteArray) = nb 2 0 from rfl]
    simp only [List.append_assoc]
  rw [palanquinref09_Seal.j3, if_neg (by omega), ref_pseudo_is a b ha hb p s.size k (by omega), Option.bind_some]
  simp only [hT, hW, hT2]
  rw [if_pos (by omega), if_pos (by omega), if_pos (by omega), if_pos (by rw [ByteArray.size_append]; omega), if_pos (by omega), if_pos (by omega), if_pos (by simp only [ByteArray.size_append]; omega),
    R2.ref_sumL _ (by simp only [ByteArray.size_append]; omega) k (by simp only [ByteArray.size_append]; omega), Option.bind_some, hJ]
  have hc := csum_bound (bl (psB a b p s.size) ++ bl (putAt s q 0))
  unfold sumAt
  generalize csum (bl (psB a b p s.size) ++ bl (putAt s q 0)) = c at hc ⊢
  have fin : ∀ n : Nat, n ≤ 65535 → ((palanquinref01_Bytes.f k (IntKind.u64.wrap (n : Int)) 2).bind fun t280 => (if (s.extract 0 q).size + t280.size ≤ 9223372036854775807 then (if ((s.extract 0 q) ++ t280).size + (s.extract (q + 2) s.size).size ≤ 9223372036854775807 then (some (((s.extract 0 q) ++ t280) ++ (s.extract (q + 2) s.size))) else (none)) else (none))) = some (putAt s q n) := fun n hn => by
    obtain ⟨r, h1, h2, h3⟩ := hB n hn
    rw [h1, Option.bind_some, if_pos (by omega), if_pos (by rw [ByteArray.size_append]; omega), h3]
  unfold sealC
  by_cases h0 : c = 0
  · subst h0
    rw [if_pos (by rfl)]
    by_cases h17 : p = 17
    · rw [if_pos h17, if_pos ⟨rfl, h17⟩]
      have := fin 65535 (by decide)
      rw [show IntKind.u64.wrap ((65535 : Nat) : Int) = 65535 by decide +kernel] at this
      exact this
    · rw [if_neg h17, if_neg (fun h => h17 h.2)]
      exact fin 0 (by decide)
  · rw [if_neg (by omega), if_neg (fun h => h0 h.1)]
    exact fin c hc
theorem ref_seal (p : Int) (a b s : ByteArray) (hs : s.size ≤ 78000) (ha : a.size ≤ 300) (hb : b.size ≤ 300) (k : Nat) (hk : s.size + 710 < k) : palanquinref09_Seal.f k p a b s = flow_Seal.f p a b s := by
  obtain ⟨k, rfl⟩ : ∃ j, k = j + 4 := ⟨k - 4, by omega⟩
  have no : sealAt p s.size = 0 → ∀ k, palanquinref09_Seal.j3 (k + 1) p a b s (-1) = flow_Seal.f p a b s := fun h k => by
    rw [palanquinref09_Seal.j3, if_pos (by decide), seal_none h (by omega)]
  unfold palanquinref09_Seal.f
  rcases sealAt_cases p s.size with h | ⟨h, rfl, hn⟩ | ⟨h, rfl, hn⟩
  · have h1 : ¬ (p = 6 ∧ 20 ≤ s.size) := fun h' => by unfold sealAt at h; rw [if_pos h'] at h; omega
    have h2 : ¬ (p = 17 ∧ 8 ≤ s.size) := fun h' => by unfold sealAt at h; rw [if_neg h1, if_pos h'] at h; omega
    have e2 : ∀ j, palanquinref09_Seal.j1 (j + 3) p a b s (-1) = flow_Seal.f p a b s := fun j => by
      rw [palanquinref09_Seal.j1]
      split
      · rename_i hp
        rw [decide_eq_false (fun h' => h2 ⟨hp, by omega⟩), palanquinref09_Seal.j2, if_neg (by decide)]; exact no h j
      · rw [palanquinref09_Seal.j2, if_neg (by decide)]; exact no h j
    split
    · rename_i hp
      rw [decide_eq_false (fun h' => h1 ⟨hp, by omega⟩), palanquinref09_Seal.j0, if_neg (by decide)]; exact e2 k
    · rw [palanquinref09_Seal.j0, if_neg (by decide)]; exact e2 k
  · rw [if_pos rfl, decide_eq_true (show (s.size : Int) ≥ 20 by omega), palanquinref09_Seal.j0, if_pos rfl, palanquinref09_Seal.j1, if_neg (by decide), palanquinref09_Seal.j2, if_neg (by decide), seal_some h (by decide) (by omega) ha hb]
    exact ref_seal3 (q := 16) (.inl rfl) hs (by omega) ha hb k (by omega)
  · rw [if_neg (by decide), palanquinref09_Seal.j0, if_neg (by decide), palanquinref09_Seal.j1, if_pos rfl, decide_eq_true (show (s.size : Int) ≥ 8 by omega), palanquinref09_Seal.j2, if_pos rfl, seal_some h (by decide) (by omega) ha hb]
    exact ref_seal3 (q := 6) (.inr rfl) hs (by omega) ha hb k (by omega)
end Go.Proofs.YtcmalglippmocaaDoor.Pure
end

section
/- Plain facts of ip4.Check and ip4.Put as functions: what a packet's bytes are. -/
namespace Go.Proofs.YtcmalglippmocaaDoor.Pure
open Go.RowKit Go.Proofs.YtcmalglippmocaaDoorW.PrintWords Go.Proofs.YtcmalglippmocaaDoorW.PrintLast Go.Proofs.YtcmalglippmocaaDoor.G Go.Proofs.YtcmalglippmocaaDoor.Pal
theorem bl4_inj {a b : ByteArray} (h : bl a = bl b) : a = b := ByteArray.ext (Array.toList_inj.mp h)
theorem bl4_mk (l : List UInt8) : bl ⟨l.toArray⟩ = l := by simp [bl]
theorem size4_mk (l : List UInt8) : (⟨l.toArray⟩ : ByteArray).size = l.length := by simp [ByteArray.size]
theorem or_add4 (i x y : Nat) (hy : y < 2 ^ i) : 2 ^ i * x ||| y = 2 ^ i * x + y := (Nat.two_pow_add_eq_or_of_lt hy x).symm
theorem u64n_nat (x : Nat) (h : x ≤ 18446744073709551615) : u64n (x : Int) = x := by unfold u64n; rw [IntKind.wrap_u64]; omega
/-- The flags and the offset. -/
def fl (df mf : Bool) (off : Nat) : Nat := (if df then 16384 else 0) + (if mf then 8192 else 0) + off
theorem fl_lt {df mf : Bool} {off : Nat} (h : off < 8192) : fl df mf off < 32768 := by unfold fl; split <;> split <;> omega
theorem flags_is (df mf : Bool) (off : Nat) (h : off < 8192) : flags4 (off : Int) df mf = ((fl df mf off : Nat) : Int) := by
  have hb : ∃ k, k ≤ 3 ∧ Go.bits .or .i64 (bit14 df) (bit13 mf) = ((8192 * k : Nat) : Int) ∧ fl df mf off = 8192 * k + off := by
    cases df <;> cases mf
    · exact ⟨0, by decide, by decide +kernel, by simp [fl]⟩
    · exact ⟨1, by decide, by decide +kernel, by simp [fl]⟩
    · exact ⟨2, by decide, by decide +kernel, by simp [fl]⟩
    · exact ⟨3, by decide, by decide +kernel, by simp [fl]⟩
  obtain ⟨k, hk, e1, e2⟩ := hb
  unfold flags4
  rw [e1, i64_or _ _ (by omega) (by omega), e2]
  have := or_add4 13 k off h
  rw [show (2 : Nat) ^ 13 = 8192 from rfl] at this
  rw [this]
theorem first_is (n : Nat) (h : n ≤ 40) : first4 n = ((64 + (20 + n) / 4 : Nat) : Int) := by
  unfold first4
  have e := i64_or 64 ((20 + n) / 4) (by decide) (by omega)
  have := or_add4 6 1 ((20 + n) / 4) (by omega)
  rw [show (2 : Nat) ^ 6 * 1 = 64 from rfl] at this
  rw [this] at e
  exact e
/-- A header's bytes. -/
def head4 (tos id off ttl proto : Nat) (df mf : Bool) (src dst opt : ByteArray) (total check : Nat) : List UInt8 :=
  nb 1 (64 + (20 + opt.size) / 4) ++ nb 1 tos ++ nb 2 total ++ nb 2 id ++ nb 2 (fl df mf off) ++ nb 1 ttl ++ nb 1 proto ++ nb 2 check ++ (bl src ++ bl dst ++ bl opt)
theorem head4_length (tos id off ttl proto : Nat) (df mf : Bool) (src dst opt : ByteArray) (total check : Nat) : (head4 tos id off ttl proto df mf src dst opt total check).length = 12 + src.size + dst.size + opt.size := by
  unfold head4; simp only [List.length_append, nb_length, bl_length]; omega
theorem bytes4_is {tos id off ttl proto : Nat} {df mf : Bool} {src dst opt : ByteArray} {total check : Nat} (h : ok4 tos id off ttl proto src dst opt) (ht : total ≤ 65535) (hc : check ≤ 65535) :
    ip4Bytes tos id off ttl proto df mf src dst opt total check = head4 tos id off ttl proto df mf src dst opt total check := by
  obtain ⟨h1, h2, h3, h4, h5, h6, h7, h8, h9⟩ := h
  unfold ip4Bytes head4
  rw [first_is _ h8, flags_is _ _ _ (by omega), u64n_nat _ (by omega), u64n_nat _ (by omega), u64n_nat _ (by omega), u64n_nat _ (by omega), u64n_nat _ (by have := fl_lt (df := df) (mf := mf) (show off < 8192 by omega); omega), u64n_nat _ (by omega), u64n_nat _ (by omega), u64n_nat _ (by omega), bl_append, bl_append]
/-- What ip4.Put makes of a header that may be. -/
def put4 (tos id off ttl proto : Nat) (df mf : Bool) (src dst opt p : ByteArray) : List UInt8 :=
  head4 tos id off ttl proto df mf src dst opt (20 + opt.size + p.size) (csum (head4 tos id off ttl proto df mf src dst opt (20 + opt.size + p.size) 0)) ++ bl p
theorem csum4_le (l : List UInt8) : csum l ≤ 65535 := by unfold csum; omega
theorem sum4_one (t : ByteArray) (h : t.size ≤ 1099511627776) : sum_Sum.f [t] = some ((csum (bl t) : Nat) : Int) := by
  have e : cat [t] = bl t := by rw [cat_cons, cat_nil, List.append_nil]
  unfold sum_Sum.f; rw [if_pos (by rw [e, bl_length]; exact h), e]
theorem check4 {tos id off ttl proto : Int} {df mf : Bool} {src dst opt : ByteArray} (h1 : src.size ≤ 281474976710656) (h2 : dst.size ≤ 281474976710656) (h3 : opt.size ≤ 281474976710656) :
    ip4_Check.f tos id off ttl proto df mf src dst opt = some (if ok4 tos id off ttl proto src dst opt then 0 else 1) := by
  unfold ip4_Check.f; rw [if_pos ⟨by omega, by omega, by omega⟩]
theorem put4_ok {tos id off ttl proto : Nat} {df mf : Bool} {src dst opt p : ByteArray} (h : ok4 tos id off ttl proto src dst opt) (hp : 20 + opt.size + p.size ≤ 65535) :
    ip4_Put.f tos id off ttl proto df mf src dst opt p = some (⟨(put4 tos id off ttl proto df mf src dst opt p).toArray⟩, 0) := by
  have hs := h.2.2.2.2.2
  unfold ip4_Put.f
  rw [check4 (by omega) (by omega) (by omega), Option.bind_some, if_pos h, if_pos rfl, show wrap64 (wrap64 (20 + (opt.size : Int)) + (p.size : Int)) = ((20 + opt.size + p.size : Nat) : Int) by unfold wrap64; omega, if_neg (by omega)]
  unfold ip4_header.f
  rw [if_pos (by omega), Option.bind_some, show (0 : Int) = ((0 : Nat) : Int) from rfl, bytes4_is h hp (by decide)]
  have hl := head4_length tos id off ttl proto df mf src dst opt (20 + opt.size + p.size) 0
  rw [sum4_one _ (by rw [size4_mk, hl]; omega), Option.bind_some, bl4_mk, if_pos (by omega), Option.bind_some, bytes4_is h hp (csum4_le _), if_pos (by rw [size4_mk, head4_length]; omega)]
  refine congrArg some (Prod.ext (bl4_inj ?_) rfl)
  dsimp only
  rw [bl_append]
  refine Eq.trans ?_ (bl4_mk _).symm
  unfold put4
  congr 1
theorem put4_big {tos id off ttl proto : Nat} {df mf : Bool} {src dst opt p : ByteArray} (h : ok4 tos id off ttl proto src dst opt) (hp : ¬ 20 + opt.size + p.size ≤ 65535) (hq : p.size ≤ 140737488351232) :
    ip4_Put.f tos id off ttl proto df mf src dst opt p = some (⟨#[]⟩, 4) := by
  have hs := h.2.2.2.2.2
  unfold ip4_Put.f
  rw [check4 (by omega) (by omega) (by omega), Option.bind_some, if_pos h, if_pos rfl, show wrap64 (wrap64 (20 + (opt.size : Int)) + (p.size : Int)) = ((20 + opt.size + p.size : Nat) : Int) by unfold wrap64; omega, if_pos (by omega)]
theorem put4_no {tos id off ttl proto : Int} {df mf : Bool} {src dst opt p : ByteArray} (h : ¬ ok4 tos id off ttl proto src dst opt) (h1 : src.size ≤ 281474976710656) (h2 : dst.size ≤ 281474976710656) (h3 : opt.size ≤ 281474976710656) :
    ip4_Put.f tos id off ttl proto df mf src dst opt p = some (⟨#[]⟩, 1) := by
  unfold ip4_Put.f
  rw [check4 h1 h2 h3, Option.bind_some, if_neg h, if_neg (by decide)]
/-- A header that may be, in numbers that aren't negative. -/
theorem ok4_nat {tos id off ttl proto : Int} {src dst opt : ByteArray} (h : ok4 tos id off ttl proto src dst opt) : ∃ a b c d e : Nat, tos = a ∧ id = b ∧ off = c ∧ ttl = d ∧ proto = e := by
  obtain ⟨h1, h2, h3, h4, h5, _⟩ := h
  exact ⟨tos.toNat, id.toNat, off.toNat, ttl.toNat, proto.toNat, by omega, by omega, by omega, by omega, by omega⟩
end Go.Proofs.YtcmalglippmocaaDoor.Pure
end

section
/- Plain facts of palanquinref05's Right and Put: they are ip4.Check's and ip4.Put's. -/
namespace Go.Proofs.YtcmalglippmocaaDoor.Pure
open Go.RowKit Go.Proofs.YtcmalglippmocaaDoorW.PrintWords Go.Proofs.YtcmalglippmocaaDoorW.PrintLast Go.Proofs.YtcmalglippmocaaDoor.G Go.Proofs.YtcmalglippmocaaDoor.Pal
theorem ref_in4 (a x y : Int) : palanquinref05_in.f a x y = some (decide (x ≤ a ∧ a ≤ y)) := by
  unfold palanquinref05_in.f
  by_cases h : a ≥ x
  · rw [if_pos h]; congr 1; apply decide_eq_decide.mpr; exact ⟨fun h2 => ⟨h, h2⟩, fun h2 => h2.2⟩
  · rw [if_neg h, decide_eq_false (fun h2 => h h2.1)]
theorem ref_right4 (tos id off ttl proto : Int) (df mf : Bool) (src dst opt : ByteArray) : palanquinref05_Right.f tos id off ttl proto df mf src dst opt = some (decide (ok4 tos id off ttl proto src dst opt)) := by
  unfold palanquinref05_Right.f
  rw [ref_in4, Option.bind_some]
  by_cases h1 : 0 ≤ tos ∧ tos ≤ 255
  case neg => rw [if_neg (by simpa using h1), decide_eq_false (fun h => h1 h.1)]
  rw [if_pos (decide_eq_true h1), ref_in4, Option.bind_some]
  by_cases h2 : 0 ≤ ttl ∧ ttl ≤ 255
  case neg => rw [if_neg (by simpa using h2), decide_eq_false (fun h => h2 h.2.2.2.1)]
  rw [if_pos (decide_eq_true h2), ref_in4, Option.bind_some]
  by_cases h3 : 0 ≤ proto ∧ proto ≤ 255
  case neg => rw [if_neg (by simpa using h3), decide_eq_false (fun h => h3 h.2.2.2.2.1)]
  rw [if_pos (decide_eq_true h3), ref_in4, Option.bind_some]
  by_cases h4 : 0 ≤ id ∧ id ≤ 65535
  case neg => rw [if_neg (by simpa using h4), decide_eq_false (fun h => h4 h.2.1)]
  rw [if_pos (decide_eq_true h4), ref_in4, Option.bind_some]
  by_cases h5 : 0 ≤ off ∧ off ≤ 8191
  case neg => rw [if_neg (by simpa using h5), decide_eq_false (fun h => h5 h.2.2.1)]
  rw [if_pos (decide_eq_true h5)]
  by_cases h6 : (src.size : Int) = 4
  case neg => rw [if_neg h6, decide_eq_false (fun h => h6 (by have := h.2.2.2.2.2.1; omega))]
  rw [if_pos h6]
  by_cases h7 : (dst.size : Int) = 4
  case neg => rw [if_neg h7, decide_eq_false (fun h => h7 (by have := h.2.2.2.2.2.2.1; omega))]
  rw [if_pos h7]
  by_cases h8 : (opt.size : Int) ≤ 40
  case neg => rw [if_neg h8, decide_eq_false (fun h => h8 (by have := h.2.2.2.2.2.2.2.1; omega))]
  rw [if_pos h8]
  congr 1
  rw [Bool.eq_iff_iff, beq_iff_eq, decide_eq_true_iff]
  exact ⟨fun h => ⟨h1, h4, h5, h2, h3, by omega, by omega, by omega, by omega⟩, fun h => by have := h.2.2.2.2.2.2.2.2; omega⟩
theorem num4 (x n : Nat) (hn : n ≤ 8) (hx : x ≤ 18446744073709551615) (k : Nat) (hk : n < k) : ∃ r, palanquinref05_num.f k (x : Int) (n : Int) = some r ∧ bl r = nb n x ∧ r.size = n := by
  obtain ⟨r, h1, h2⟩ := bytes_is n hn x hx k hk
  refine ⟨r, ?_, h2, bytes_sized h2⟩
  unfold palanquinref05_num.f
  rw [show IntKind.u64.wrap (x : Int) = (x : Int) by rw [IntKind.wrap_u64]; omega, h1, Option.bind_some]
theorem w69 (n : Nat) (h : n ≤ 40) : wrap64 (69 + wrap64 ((n : Int) / 4)) = ((64 + (20 + n) / 4 : Nat) : Int) := by
  have e : wrap64 ((n : Int) / 4) = ((n / 4 : Nat) : Int) := by unfold wrap64; omega
  rw [e, show 64 + (20 + n) / 4 = 69 + n / 4 by omega]
  have hb : n / 4 ≤ 10 := by omega
  clear e
  generalize n / 4 = m at hb ⊢
  unfold wrap64
  omega
theorem ref_put4_j1 (tos id off ttl proto : Nat) (df mf : Bool) (src dst opt p : ByteArray) (h : ok4 tos id off ttl proto src dst opt) (hp : 20 + opt.size + p.size ≤ 65535) (k : Nat) (hk : 6000 < k) :
    palanquinref05_Put.j1 (k + 1) p ((20 + opt.size + p.size : Nat) : Int) ((fl df mf off : Nat) : Int) tos id off ttl proto df mf src dst opt = some (⟨(put4 tos id off ttl proto df mf src dst opt p).toArray⟩, 0) := by
  obtain ⟨h1, h2, h3, h4, h5, h6, h7, h8, h9⟩ := h
  have hfl := fl_lt (df := df) (mf := mf) (show off < 8192 by omega)
  unfold put4 head4
  generalize fl df mf off = F at hfl ⊢
  have hT : 20 + opt.size + p.size ≤ 65535 := hp
  generalize 20 + opt.size + p.size = T at hT ⊢
  rw [palanquinref05_Put.j1, w69 _ h8]
  have hF : 64 + (20 + opt.size) / 4 ≤ 79 := by omega
  generalize 64 + (20 + opt.size) / 4 = B at hF ⊢
  obtain ⟨r1, e1, b1, s1⟩ := num4 B 1 (by decide) (by omega) k (by omega)
  obtain ⟨r2, e2, b2, s2⟩ := num4 tos 1 (by decide) (by omega) k (by omega)
  obtain ⟨r3, e3, b3, s3⟩ := num4 T 2 (by decide) (by omega) k (by omega)
  obtain ⟨r4, e4, b4, s4⟩ := num4 id 2 (by decide) (by omega) k (by omega)
  obtain ⟨r5, e5, b5, s5⟩ := num4 F 2 (by decide) (by omega) k (by omega)
  obtain ⟨r6, e6, b6, s6⟩ := num4 ttl 1 (by decide) (by omega) k (by omega)
  obtain ⟨r7, e7, b7, s7⟩ := num4 proto 1 (by decide) (by omega) k (by omega)
  have z0 : (⟨#[0, 0]⟩ : ByteArray).size = 2 := rfl
  have z1 : bl (⟨#[0, 0]⟩ : ByteArray) = nb 2 0 := rfl
  have t2 : (r1 ++ r2).size = 2 := by rw [ByteArray.size_append]; omega
  have t3 : (r1 ++ r2 ++ r3).size = 4 := by rw [ByteArray.size_append]; omega
  have t4 : (r1 ++ r2 ++ r3 ++ r4).size = 6 := by rw [ByteArray.size_append]; omega
  have t5 : (r1 ++ r2 ++ r3 ++ r4 ++ r5).size = 8 := by rw [ByteArray.size_append]; omega
  have t6 : (r1 ++ r2 ++ r3 ++ r4 ++ r5 ++ r6).size = 9 := by rw [ByteArray.size_append]; omega
  have t7 : (r1 ++ r2 ++ r3 ++ r4 ++ r5 ++ r6 ++ r7).size = 10 := by rw [ByteArray.size_append]; omega
  have u1 : (src ++ dst).size = 8 := by rw [ByteArray.size_append]; omega
  have u2 : (src ++ dst ++ opt).size = 8 + opt.size := by rw [ByteArray.size_append]; omega
  have v1 : (r1 ++ r2 ++ r3 ++ r4 ++ r5 ++ r6 ++ r7 ++ (⟨#[0, 0]⟩ : ByteArray)).size = 12 := by rw [ByteArray.size_append]; omega
  have v2 : (r1 ++ r2 ++ r3 ++ r4 ++ r5 ++ r6 ++ r7 ++ (⟨#[0, 0]⟩ : ByteArray) ++ (src ++ dst ++ opt)).size = 20 + opt.size := by rw [ByteArray.size_append]; omega
  have hsum := R2.ref_sum (r1 ++ r2 ++ r3 ++ r4 ++ r5 ++ r6 ++ r7 ++ (⟨#[0, 0]⟩ : ByteArray) ++ (src ++ dst ++ opt)) (by omega) k (by omega)
  have hbl : bl (r1 ++ r2 ++ r3 ++ r4 ++ r5 ++ r6 ++ r7 ++ (⟨#[0, 0]⟩ : ByteArray) ++ (src ++ dst ++ opt)) = nb 1 B ++ nb 1 tos ++ nb 2 T ++ nb 2 id ++ nb 2 F ++ nb 1 ttl ++ nb 1 proto ++ nb 2 0 ++ (bl src ++ bl dst ++ bl opt) := by
    simp only [bl_append, b1, b2, b3, b4, b5, b6, b7, z1]
  rw [hbl] at hsum
  have hc := csum4_le (nb 1 B ++ nb 1 tos ++ nb 2 T ++ nb 2 id ++ nb 2 F ++ nb 1 ttl ++ nb 1 proto ++ nb 2 0 ++ (bl src ++ bl dst ++ bl opt))
  generalize csum (nb 1 B ++ nb 1 tos ++ nb 2 T ++ nb 2 id ++ nb 2 F ++ nb 1 ttl ++ nb 1 proto ++ nb 2 0 ++ (bl src ++ bl dst ++ bl opt)) = C at hsum hc ⊢
  obtain ⟨r8, e8, b8, s8⟩ := num4 C 2 (by decide) (by omega) k (by omega)
  have t8 : (r1 ++ r2 ++ r3 ++ r4 ++ r5 ++ r6 ++ r7 ++ r8).size = 12 := by rw [ByteArray.size_append]; omega
  have t9 : (r1 ++ r2 ++ r3 ++ r4 ++ r5 ++ r6 ++ r7 ++ r8 ++ (src ++ dst ++ opt)).size = 20 + opt.size := by rw [ByteArray.size_append]; omega
  have hps : p.size ≤ 140737488351232 := by omega
  rw [show (1 : Int) = ((1 : Nat) : Int) from rfl, show (2 : Int) = ((2 : Nat) : Int) from rfl, e1, Option.bind_some, e2, Option.bind_some, if_pos (by omega), e3, Option.bind_some, if_pos (by omega), e4, Option.bind_some, if_pos (by omega), e5, Option.bind_some, if_pos (by omega), e6, Option.bind_some, if_pos (by omega), e7, Option.bind_some, if_pos (by omega),
    if_pos (by omega), if_pos (by omega), if_pos (by omega), if_pos (by omega), hsum, Option.bind_some, e8, Option.bind_some, if_pos (by omega), if_pos (by omega), if_pos (by omega)]
  refine congrArg some (Prod.ext (bl4_inj ?_) rfl)
  dsimp only
  refine Eq.trans ?_ (bl4_mk _).symm
  simp only [bl_append, b1, b2, b3, b4, b5, b6, b7, b8]
theorem ref_put4 (tos id off ttl proto : Int) (df mf : Bool) (src dst opt p : ByteArray) (h1 : src.size ≤ 281474976710656) (h2 : dst.size ≤ 281474976710656) (h3 : opt.size ≤ 281474976710656) (hp : p.size ≤ 140737488351232) (k : Nat) (hk : 6002 < k) :
    palanquinref05_Put.f k tos id off ttl proto df mf src dst opt p = ip4_Put.f tos id off ttl proto df mf src dst opt p := by
  unfold palanquinref05_Put.f
  rw [ref_right4, Option.bind_some]
  by_cases o : ok4 tos id off ttl proto src dst opt
  case neg => rw [if_neg (by simpa using o), put4_no o h1 h2 h3]
  rw [if_pos (decide_eq_true o)]
  obtain ⟨a, b, c, d, e, rfl, rfl, rfl, rfl, rfl⟩ := ok4_nat o
  have hs := o.2.2.2.2.2
  rw [show wrap64 (wrap64 (20 + (opt.size : Int)) + (p.size : Int)) = ((20 + opt.size + p.size : Nat) : Int) by unfold wrap64; omega]
  by_cases hb : 20 + opt.size + p.size ≤ 65535
  case neg => rw [if_pos (by omega), put4_big o hb hp]
  rw [if_neg (by omega), put4_ok o hb]
  obtain ⟨k, rfl⟩ : ∃ j, k = j + 1 + 1 := ⟨k - 2, by omega⟩
  have hc : c ≤ 8191 := by have := o.2.2.1; omega
  have key := ref_put4_j1 a b c d e df mf src dst opt p o hb k (by omega)
  cases df
  · rw [if_neg (by decide), palanquinref05_Put.j0]
    cases mf
    · rw [if_neg (by decide), show (c : Int) = ((fl false false c : Nat) : Int) by simp [fl]]; exact key
    · rw [if_pos rfl, show wrap64 ((c : Int) + 8192) = ((fl false true c : Nat) : Int) by simp only [fl]; unfold wrap64; simp; omega]; exact key
  · rw [if_pos rfl, palanquinref05_Put.j0]
    cases mf
    · rw [if_neg (by decide), show wrap64 ((c : Int) + 16384) = ((fl true false c : Nat) : Int) by simp only [fl]; unfold wrap64; simp; omega]; exact key
    · rw [if_pos rfl, show wrap64 (wrap64 ((c : Int) + 16384) + 8192) = ((fl true true c : Nat) : Int) by simp only [fl]; unfold wrap64; simp; omega]; exact key
theorem put4_some (tos id off ttl proto : Int) (df mf : Bool) (src dst opt p : ByteArray) (h1 : src.size ≤ 281474976710656) (h2 : dst.size ≤ 281474976710656) (h3 : opt.size ≤ 281474976710656) (hp : p.size ≤ 140737488351232) : ∃ x, ip4_Put.f tos id off ttl proto df mf src dst opt p = some x := by
  by_cases o : ok4 tos id off ttl proto src dst opt
  · obtain ⟨a, b, c, d, e, rfl, rfl, rfl, rfl, rfl⟩ := ok4_nat o
    by_cases hb : 20 + opt.size + p.size ≤ 65535
    · exact ⟨_, put4_ok o hb⟩
    · exact ⟨_, put4_big o hb hp⟩
  · exact ⟨_, put4_no o h1 h2 h3⟩
end Go.Proofs.YtcmalglippmocaaDoor.Pure
end

section
/- Plain facts of ip6.Put and ip6.Get as functions (begun). -/
namespace Go.Proofs.YtcmalglippmocaaDoor.Pure
open Go.RowKit Go.Proofs.YtcmalglippmocaaDoorW.PrintWords Go.Proofs.YtcmalglippmocaaDoorW.PrintLast Go.Proofs.YtcmalglippmocaaDoor.G Go.Proofs.YtcmalglippmocaaDoor.Pal
theorem or_add (i x y : Nat) (hy : y < 2 ^ i) : 2 ^ i * x ||| y = 2 ^ i * x + y := (Nat.two_pow_add_eq_or_of_lt hy x).symm
theorem word_is (c l : Nat) (hc : c < 256) (hl : l < 1048576) : ip6Word (c : Int) (l : Int) = ((1610612736 + c * 1048576 + l : Nat) : Int) := by
  unfold ip6Word
  rw [show wrap64 ((c : Int) * 1048576) = ((c * 1048576 : Nat) : Int) by unfold wrap64; omega]
  have e1 : (1610612736 ||| c * 1048576 : Nat) = 1610612736 + c * 1048576 := or_add 28 6 (c * 1048576) (by omega)
  have e2 : (1610612736 + c * 1048576) ||| l = 1610612736 + c * 1048576 + l := by
    have := or_add 20 (1536 + c) l (by omega)
    rw [show 2 ^ 20 * (1536 + c) = 1610612736 + c * 1048576 by omega] at this
    exact this
  have h1 := i64_or 1610612736 (c * 1048576) (by decide) (by omega)
  rw [e1] at h1
  rw [show Go.bits .or .i64 1610612736 ((c * 1048576 : Nat) : Int) = ((1610612736 + c * 1048576 : Nat) : Int) from h1]
  rw [i64_or _ _ (by omega) (by omega), e2]
  omega
theorem low8 (x : Int) : Go.bits .and .i64 x 255 = x % 256 := by
  have e : Go.bits .and .i64 x 255 = IntKind.i64.wrap (((x % 18446744073709551616).toNat &&& 255 : Nat) : Int) := by
    show IntKind.i64.wrap (((BitVec.ofInt 64 x &&& BitVec.ofInt 64 255).toNat : Nat) : Int) = _
    rw [BitVec.toNat_and, BitVec.toNat_ofInt, show (BitVec.ofInt 64 255).toNat = 255 from rfl]
    rfl
  rw [e, Nat.and_two_pow_sub_one_eq_mod _ 8, IntKind.wrap_i64]; omega
theorem low20 (x : Int) : Go.bits .and .i64 x 1048575 = x % 1048576 := by
  have e : Go.bits .and .i64 x 1048575 = IntKind.i64.wrap (((x % 18446744073709551616).toNat &&& 1048575 : Nat) : Int) := by
    show IntKind.i64.wrap (((BitVec.ofInt 64 x &&& BitVec.ofInt 64 1048575).toNat : Nat) : Int) = _
    rw [BitVec.toNat_and, BitVec.toNat_ofInt, show (BitVec.ofInt 64 1048575).toNat = 1048575 from rfl]
    rfl
  rw [e, Nat.and_two_pow_sub_one_eq_mod _ 20, IntKind.wrap_i64]; omega
/-- What may be a header. -/
def ok6 (c l n h : Int) (s d : ByteArray) : Prop := (0 ≤ c ∧ c < 256) ∧ (0 ≤ l ∧ l < 1048576) ∧ (0 ≤ n ∧ n < 256) ∧ (0 ≤ h ∧ h < 256) ∧ s.size = 16 ∧ d.size = 16
theorem check6_yes {c l n h : Int} {s d : ByteArray} (k : ok6 c l n h s d) : ip6_Check.f c l n h s d = some 0 := by
  obtain ⟨hc, hl, hn, hh, hs, hd⟩ := k
  unfold ip6_Check.f
  rw [low8, low20, low8, low8, show c % 256 = c by omega, show l % 1048576 = l by omega, show n % 256 = n by omega, show h % 256 = h by omega]
  rw [if_neg (by simp), if_pos (by omega), if_pos (by omega)]
theorem check6_no {c l n h : Int} {s d : ByteArray} (k : ¬ ok6 c l n h s d) : ip6_Check.f c l n h s d = some 1 := by
  unfold ip6_Check.f
  rw [low8, low20, low8, low8]
  split
  · rfl
  · rename_i h0
    simp at h0
    by_cases hs : (s.size : Int) = 16
    · rw [if_pos hs]
      by_cases hd : (d.size : Int) = 16
      · exact absurd ⟨by omega, by omega, by omega, by omega, by omega, by omega⟩ k
      · rw [if_neg hd]
    · rw [if_neg hs]
theorem seg (x : ByteArray) (A B C : List UInt8) (i j : Nat) (hx : bl x = A ++ B ++ C) (hA : A.length = i) (hB : A.length + B.length = j) : bl (x.extract i j) = B := by
  rw [bl_extract, hx, List.take_left' (by rw [List.length_append]; exact hB), List.drop_left' hA]
theorem parts6 {x s d p : ByteArray} {A B C D : List UInt8} (hx : bl x = A ++ B ++ C ++ D ++ bl (s ++ d ++ p)) (hA : A.length = 4) (hB : B.length = 2) (hC : C.length = 1) (hD : D.length = 1) (hs : s.size = 16) (hd : d.size = 16) :
    x.size = 40 + p.size ∧ bl (x.extract 0 4) = A ∧ bl (x.extract 4 6) = B ∧ bl (x.extract 6 7) = C ∧ bl (x.extract 7 8) = D ∧ x.extract 8 24 = s ∧ x.extract 24 40 = d ∧ x.extract 40 x.size = p := by
  rw [bl_append, bl_append] at hx
  have ls := bl_length s
  have ld := bl_length d
  have lp := bl_length p
  have hsz : x.size = 40 + p.size := by rw [← bl_length, hx]; simp only [List.length_append]; omega
  refine ⟨hsz, seg x [] A (B ++ C ++ D ++ (bl s ++ bl d ++ bl p)) 0 4 (by rw [hx]; simp [List.append_assoc]) rfl (by simp [hA]),
    seg x A B (C ++ D ++ (bl s ++ bl d ++ bl p)) 4 6 (by rw [hx]; simp [List.append_assoc]) hA (by omega),
    seg x (A ++ B) C (D ++ (bl s ++ bl d ++ bl p)) 6 7 (by rw [hx]; simp [List.append_assoc]) (by simp [hA, hB]) (by simp [hA, hB, hC]),
    seg x (A ++ B ++ C) D (bl s ++ bl d ++ bl p) 7 8 (by rw [hx]) (by simp [hA, hB, hC]) (by simp [hA, hB, hC, hD]),
    bl_inj (seg x (A ++ B ++ C ++ D) (bl s) (bl d ++ bl p) 8 24 (by rw [hx]; simp [List.append_assoc]) (by simp [hA, hB, hC, hD]) (by simp [hA, hB, hC, hD, ls, hs])),
    bl_inj (seg x (A ++ B ++ C ++ D ++ bl s) (bl d) (bl p) 24 40 (by rw [hx]; simp [List.append_assoc]) (by simp [hA, hB, hC, hD, ls, hs]) (by simp [hA, hB, hC, hD, ls, hs, ld, hd])),
    bl_inj (seg x (A ++ B ++ C ++ D ++ bl s ++ bl d) (bl p) [] 40 x.size (by rw [hx]; simp [List.append_assoc]) (by simp [hA, hB, hC, hD, ls, hs, ld, hd]) (by simp only [List.length_append]; omega))⟩
theorem put6_ok {c l n h : Int} {s d p : ByteArray} (k : ok6 c l n h s d) (hp : p.size ≤ 65535) : ip6_Put.f c l n h s d p = some (⟨(ip6Bytes c l n h s d p).toArray⟩, 0) := by
  unfold ip6_Put.f
  rw [check6_yes k, Option.bind_some, if_neg (by decide), if_pos ⟨k.2.2.2.2.1, k.2.2.2.2.2⟩, if_neg (by omega)]
theorem put6_no {c l n h : Int} {s d p : ByteArray} (k : ¬ ok6 c l n h s d) : ip6_Put.f c l n h s d p = some (empty, 1) := by
  unfold ip6_Put.f
  rw [check6_no k, Option.bind_some, if_pos (by decide)]
theorem put6_big {c l n h : Int} {s d p : ByteArray} (k : ok6 c l n h s d) (hp : ¬ p.size ≤ 65535) : ip6_Put.f c l n h s d p = some (empty, 4) := by
  unfold ip6_Put.f
  rw [check6_yes k, Option.bind_some, if_neg (by decide), if_pos ⟨k.2.2.2.2.1, k.2.2.2.2.2⟩, if_pos (by omega)]
theorem get_put6 {c l n h : Int} {s d p x : ByteArray} (k : ok6 c l n h s d) (hp : p.size ≤ 65535) (hx : bl x = ip6Bytes c l n h s d p) : ip6_Get.f x = some (c, l, n, h, s, d, p, 0) := by
  obtain ⟨⟨c0, c1⟩, ⟨l0, l1⟩, ⟨n0, n1⟩, ⟨h0, h1⟩, hs, hd⟩ := k
  obtain ⟨c, rfl⟩ := Int.eq_ofNat_of_zero_le c0
  obtain ⟨l, rfl⟩ := Int.eq_ofNat_of_zero_le l0
  obtain ⟨z, q1, q2, q3, q4, q5, q6, q7⟩ := parts6 hx (nb_length _ _) (nb_length _ _) (nb_length _ _) (nb_length _ _) hs hd
  have w1 : be (bl (x.extract 0 4)) = 1610612736 + c * 1048576 + l := by
    rw [q1, be_nb, word_is c l (by omega) (by omega), u64n_of (by omega) (by omega), Int.toNat_natCast]
    exact Nat.mod_eq_of_lt (by omega)
  have w2 : ((be (bl (x.extract 4 6)) : Nat) : Int) = (p.size : Int) := by rw [q2]; exact be_nb2 (by unfold in16; omega)
  have one : ∀ v : Int, 0 ≤ v → v < 256 → ((be (nb 1 (u64n v)) : Nat) : Int) = v := fun v a b => by rw [be_nb, u64n_of a (by omega)]; omega
  have he : ip6Err x = 0 := by
    unfold ip6Err
    rw [if_neg (by omega), if_pos (by omega), if_pos (by omega)]
  unfold ip6_Get.f
  rw [if_pos (by omega), if_pos he, low8, low20, w1, q3, q4, q5, q6, q7, one n n0 n1, one h h0 h1]
  rw [show ((1610612736 + c * 1048576 + l : Nat) : Int) / 1048576 % 256 = (c : Int) by omega, show ((1610612736 + c * 1048576 + l : Nat) : Int) % 1048576 = (l : Int) by omega]
end Go.Proofs.YtcmalglippmocaaDoor.Pure
end

section
/- Plain facts for Ip6Cuts: what ip6.Get tells of a packet with a byte less or more, of another version, with another payload. -/
namespace Go.Proofs.YtcmalglippmocaaDoor.Pure
open Go.RowKit Go.Proofs.YtcmalglippmocaaDoorW.PrintWords Go.Proofs.YtcmalglippmocaaDoorW.PrintLast Go.Proofs.YtcmalglippmocaaDoor.G Go.Proofs.YtcmalglippmocaaDoor.Pal
set_option linter.unusedVariables false
end Go.Proofs.YtcmalglippmocaaDoor.Pure
end

section
/- Plain facts of palanquinref06: its functions are ip6's. -/
namespace Go.Proofs.YtcmalglippmocaaDoor.Pure
namespace R6
open Go.RowKit Go.Proofs.YtcmalglippmocaaDoorW.PrintWords Go.Proofs.YtcmalglippmocaaDoorW.PrintLast Go.Proofs.YtcmalglippmocaaDoor.G Go.Proofs.YtcmalglippmocaaDoor.Pal
theorem bt_one (s : ByteArray) (i : Nat) (h : i < s.size) : bt s (i : Int) = ((be (bl (s.extract i (i + 1))) : Nat) : Int) := by
  have e : ((bl s).take (i + 1)).drop i = [(bl s)[i]'(by rw [bl_length]; exact h)] := by
    rw [List.drop_take, show i + 1 - i = 1 by omega, List.drop_eq_getElem_cons (by rw [bl_length]; exact h)]; rfl
  rw [bt_bl s i h, bl_extract, e]
  simp [be]
theorem ref_in6 (a x y : Int) : palanquinref06_in.f a x y = some (decide (x ≤ a ∧ a ≤ y)) := by
  unfold palanquinref06_in.f
  by_cases h : a ≥ x
  · rw [if_pos h]; congr 1; apply decide_eq_decide.mpr; exact ⟨fun h2 => ⟨h, h2⟩, fun h2 => h2.2⟩
  · rw [if_neg h, decide_eq_false (fun h2 => h h2.1)]
theorem ref_right6_yes {c l n h : Int} {s d : ByteArray} (k : ok6 c l n h s d) : palanquinref06_Right.f c l n h s d = some true := by
  obtain ⟨hc, hl, hn, hh, hs, hd⟩ := k
  unfold palanquinref06_Right.f
  rw [ref_in6, Option.bind_some, if_pos (decide_eq_true (by omega)), ref_in6, Option.bind_some, if_pos (decide_eq_true (by omega)), ref_in6, Option.bind_some, if_pos (decide_eq_true (by omega)), ref_in6, Option.bind_some, if_pos (decide_eq_true (by omega)), if_pos (by omega)]
  rw [hd]; rfl
theorem ref_right6_no {c l n h : Int} {s d : ByteArray} (k : ¬ ok6 c l n h s d) : palanquinref06_Right.f c l n h s d = some false := by
  unfold palanquinref06_Right.f
  rw [ref_in6, Option.bind_some]
  by_cases h1 : 0 ≤ c ∧ c ≤ 255
  case neg => rw [if_neg (by simpa using h1)]
  rw [if_pos (decide_eq_true h1), ref_in6, Option.bind_some]
  by_cases h2 : 0 ≤ n ∧ n ≤ 255
  case neg => rw [if_neg (by simpa using h2)]
  rw [if_pos (decide_eq_true h2), ref_in6, Option.bind_some]
  by_cases h3 : 0 ≤ h ∧ h ≤ 255
  case neg => rw [if_neg (by simpa using h3)]
  rw [if_pos (decide_eq_true h3), ref_in6, Option.bind_some]
  by_cases h4 : 0 ≤ l ∧ l ≤ 1048575
  case neg => rw [if_neg (by simpa using h4)]
  rw [if_pos (decide_eq_true h4)]
  by_cases h5 : (s.size : Int) = 16
  case neg => rw [if_neg h5]
  rw [if_pos h5]
  congr 1
  rw [beq_eq_false_iff_ne]
  intro h6
  exact k ⟨by omega, by omega, by omega, by omega, by omega, by omega⟩
theorem word6 (c l : Nat) (hc : c < 256) (hl : l < 1048576) : IntKind.u64.wrap (wrap64 (wrap64 (wrap64 (1536 + (c : Int)) * 1048576) + (l : Int))) = ((1610612736 + c * 1048576 + l : Nat) : Int) := by
  have v1 : wrap64 (1536 + (c : Int)) = 1536 + (c : Int) := by unfold wrap64; omega
  have v2 : wrap64 ((1536 + (c : Int)) * 1048576) = 1610612736 + (c : Int) * 1048576 := by rw [Int.add_mul, show (1536 : Int) * 1048576 = 1610612736 from by decide]; unfold wrap64; omega
  have v3 : wrap64 (1610612736 + (c : Int) * 1048576 + (l : Int)) = ((1610612736 + c * 1048576 + l : Nat) : Int) := by unfold wrap64; omega
  rw [v1, v2, v3, IntKind.wrap_u64]; omega
theorem u64_small (x : Nat) (hx : x ≤ 4294967295) : IntKind.u64.wrap (x : Int) = (x : Int) := by rw [IntKind.wrap_u64]; omega
theorem ref_put6_ok (c l n h : Nat) (s d p : ByteArray) (hc : c < 256) (hl : l < 1048576) (hn : n < 256) (hh : h < 256) (hs : s.size = 16) (hd : d.size = 16) (hp : p.size ≤ 65535) (k : Nat) (hk : 4 < k) :
    palanquinref06_Put.f k (c : Int) (l : Int) (n : Int) (h : Int) s d p = some (⟨(ip6Bytes (c : Int) (l : Int) (n : Int) (h : Int) s d p).toArray⟩, 0) := by
  unfold palanquinref06_Put.f
  rw [ref_right6_yes ⟨by omega, by omega, by omega, by omega, hs, hd⟩, Option.bind_some, if_pos rfl, if_neg (by omega), word6 c l hc hl, u64_small _ (by omega), u64_small _ (by omega), u64_small _ (by omega)]
  have key : ip6Bytes (c : Int) (l : Int) (n : Int) (h : Int) s d p = nb 4 (1610612736 + c * 1048576 + l) ++ nb 2 p.size ++ nb 1 n ++ nb 1 h ++ bl s ++ bl d ++ bl p := by
    unfold ip6Bytes
    rw [word_is c l hc hl, u64n_of (by omega) (by omega), u64n_of (by omega) (by omega), u64n_of (by omega) (by omega), u64n_of (by omega) (by omega), bl_append, bl_append]
    simp only [Int.toNat_natCast, List.append_assoc]
  have hx : 1610612736 + c * 1048576 + l ≤ 18446744073709551615 := by omega
  generalize 1610612736 + c * 1048576 + l = x at key hx ⊢
  obtain ⟨r1, e1, b1⟩ := bytes_is 4 (by decide) x hx k hk
  obtain ⟨r2, e2, b2⟩ := bytes_is 2 (by decide) p.size (by omega) k (by omega)
  obtain ⟨r3, e3, b3⟩ := bytes_is 1 (by decide) n (by omega) k (by omega)
  obtain ⟨r4, e4, b4⟩ := bytes_is 1 (by decide) h (by omega) k (by omega)
  have s1 : r1.size = 4 := by rw [← bl_length, b1, nb_length]
  have s2 : r2.size = 2 := by rw [← bl_length, b2, nb_length]
  have s3 : r3.size = 1 := by rw [← bl_length, b3, nb_length]
  have s4 : r4.size = 1 := by rw [← bl_length, b4, nb_length]
  have t3 : (r1 ++ r2).size = 6 := by rw [ByteArray.size_append]; omega
  have t4 : (r1 ++ r2 ++ r3).size = 7 := by rw [ByteArray.size_append]; omega
  have t5 : (r1 ++ r2 ++ r3 ++ r4).size = 8 := by rw [ByteArray.size_append]; omega
  have t6 : (r1 ++ r2 ++ r3 ++ r4 ++ s).size = 24 := by rw [ByteArray.size_append]; omega
  have t7 : (r1 ++ r2 ++ r3 ++ r4 ++ s ++ d).size = 40 := by rw [ByteArray.size_append]; omega
  rw [show (4 : Int) = ((4 : Nat) : Int) from rfl, e1, Option.bind_some, show (2 : Int) = ((2 : Nat) : Int) from rfl, e2, Option.bind_some, if_pos (by omega), show (1 : Int) = ((1 : Nat) : Int) from rfl, e3, Option.bind_some, if_pos (by omega), e4, Option.bind_some, if_pos (by omega), if_pos (by omega), if_pos (by omega), if_pos (by omega)]
  refine congrArg some (Prod.ext (bl_inj ?_) rfl)
  dsimp only
  rw [bl_append, bl_append, bl_append, bl_append, bl_append, bl_append, b1, b2, b3, b4, key]
  exact (bl_mk _).symm
theorem ref_put6 (c l n h : Int) (s d p : ByteArray) (k : Nat) (hk : 4 < k) : palanquinref06_Put.f k c l n h s d p = ip6_Put.f c l n h s d p := by
  by_cases o : ok6 c l n h s d
  case neg => unfold palanquinref06_Put.f; rw [ref_right6_no o, Option.bind_some, if_neg (by decide), put6_no o]; rfl
  by_cases hp : p.size ≤ 65535
  case neg => unfold palanquinref06_Put.f; rw [ref_right6_yes o, Option.bind_some, if_pos rfl, if_pos (by omega), put6_big o hp]; rfl
  rw [put6_ok o hp]
  obtain ⟨⟨c0, c1⟩, ⟨l0, l1⟩, ⟨n0, n1⟩, ⟨h0, h1⟩, hs, hd⟩ := o
  obtain ⟨c, rfl⟩ := Int.eq_ofNat_of_zero_le c0
  obtain ⟨l, rfl⟩ := Int.eq_ofNat_of_zero_le l0
  obtain ⟨n, rfl⟩ := Int.eq_ofNat_of_zero_le n0
  obtain ⟨h, rfl⟩ := Int.eq_ofNat_of_zero_le h0
  exact ref_put6_ok c l n h s d p (by omega) (by omega) (by omega) (by omega) hs hd hp k hk
end R6
end Go.Proofs.YtcmalglippmocaaDoor.Pure
end

section
/- The plain law of FlowBuilds: any payload sealed, and any packets that are built, are just the document's, or refused. -/
namespace Go.Proofs.YtcmalglippmocaaDoor.Pure
open Go.RowKit Go.Proofs.YtcmalglippmocaaDoorW.PrintWords Go.Proofs.YtcmalglippmocaaDoorW.PrintLast Go.Proofs.YtcmalglippmocaaDoor.G Go.Proofs.YtcmalglippmocaaDoor.Pal
set_option linter.unusedVariables false
theorem awake09b : palanquinlaw09_awake.f 80000 = some true := by decide +kernel
theorem few09b (a b c : ByteArray) : ∃ t, palanquinlaw09_few.f a b c = some t ∧ (t = true → a.size ≤ 300 ∧ b.size ≤ 300 ∧ c.size ≤ 300) := by
  unfold palanquinlaw09_few.f
  split
  · split
    · exact ⟨_, rfl, fun h => by have := of_decide_eq_true h; omega⟩
    · exact ⟨_, rfl, fun h => absurd h (by decide)⟩
  · exact ⟨_, rfl, fun h => absurd h (by decide)⟩
theorem seal_ex (p : Int) {a b s : ByteArray} (hs : s.size ≤ 1000000000) (ha : a.size ≤ 300) (hb : b.size ≤ 300) : ∃ r, flow_Seal.f p a b s = some r ∧ r.size = s.size := by
  rcases sealAt_cases p s.size with h | ⟨h, _, hn⟩ | ⟨h, _, hn⟩
  · exact ⟨s, seal_none h hs, rfl⟩
  · exact ⟨_, seal_some h (by decide) hs ha hb, putAt_size _ _ _ (by omega)⟩
  · exact ⟨_, seal_some h (by decide) hs ha hb, putAt_size _ _ _ (by omega)⟩
theorem put6_some (c l n h : Int) (s d p : ByteArray) : ∃ x, ip6_Put.f c l n h s d p = some x := by
  by_cases o : ok6 c l n h s d
  · by_cases hp : p.size ≤ 65535
    · exact ⟨_, put6_ok o hp⟩
    · exact ⟨_, put6_big o hp⟩
  · exact ⟨_, put6_no o⟩
theorem builds4 (tos id off ttl proto : Int) (df mf : Bool) (src dst opt p : ByteArray) (h1 : src.size ≤ 300) (h2 : dst.size ≤ 300) (h3 : opt.size ≤ 300) (hp : p.size ≤ 70000) (k : Nat) (hk : 79000 ≤ k) :
    ∃ x, flow_Build4.f tos id off ttl proto df mf src dst opt p = some x ∧ palanquinref09_Build4.f k tos id off ttl proto df mf src dst opt p = some x := by
  obtain ⟨r, hr, hz⟩ := seal_ex proto (s := p) (by omega) h1 h2
  obtain ⟨x, hx⟩ := put4_some tos id off ttl proto df mf src dst opt r (by omega) (by omega) (by omega) (by omega)
  refine ⟨(x.1, x.2), ?_, ?_⟩
  · unfold flow_Build4.f; rw [hr, Option.bind_some, hx, Option.bind_some]
  · unfold palanquinref09_Build4.f; rw [ref_seal proto src dst p (by omega) h1 h2 k (by omega), hr, Option.bind_some, ref_put4 tos id off ttl proto df mf src dst opt r (by omega) (by omega) (by omega) (by omega) k (by omega), hx, Option.bind_some]
theorem builds6 (c l n h : Int) (s d p : ByteArray) (h1 : s.size ≤ 300) (h2 : d.size ≤ 300) (hp : p.size ≤ 70000) (k : Nat) (hk : 79000 ≤ k) :
    ∃ x, flow_Build6.f c l n h s d p = some x ∧ palanquinref09_Build6.f k c l n h s d p = some x := by
  obtain ⟨r, hr, hz⟩ := seal_ex n (s := p) (by omega) h1 h2
  obtain ⟨x, hx⟩ := put6_some c l n h s d r
  refine ⟨(x.1, x.2), ?_, ?_⟩
  · unfold flow_Build6.f; rw [hr, Option.bind_some, hx, Option.bind_some]
  · unfold palanquinref09_Build6.f; rw [ref_seal n s d p (by omega) h1 h2 k (by omega), hr, Option.bind_some, R6.ref_put6 c l n h s d r k (by omega), hx, Option.bind_some]
theorem FlowBuilds (tos id off ttl proto : Int) (df mf : Bool) (src dst opt : ByteArray) (c l n h : Int) (s6 d6 : ByteArray) (p : Int) (pay : ByteArray)
    (_ : (Lit.int .i64 tos).wf = true) (_ : (Lit.int .i64 id).wf = true) (_ : (Lit.int .i64 off).wf = true) (_ : (Lit.int .i64 ttl).wf = true) (_ : (Lit.int .i64 proto).wf = true) (_ : src.size ≤ maxLen) (_ : dst.size ≤ maxLen) (_ : opt.size ≤ maxLen)
    (_ : (Lit.int .i64 c).wf = true) (_ : (Lit.int .i64 l).wf = true) (_ : (Lit.int .i64 n).wf = true) (_ : (Lit.int .i64 h).wf = true) (_ : s6.size ≤ maxLen) (_ : d6.size ≤ maxLen) (_ : (Lit.int .i64 p).wf = true) (_ : pay.size ≤ 140737488351232) :
    ∃ k, palanquinlaw09_FlowBuilds.f k tos id off ttl proto df mf src dst opt c l n h s6 d6 p pay = some true := by
  refine ⟨80000, ?_⟩
  unfold palanquinlaw09_FlowBuilds.f
  rw [awake09b, Option.bind_some, if_pos rfl]
  have skip : palanquinlaw09_FlowBuilds.j0 (79999 + 1) p pay true tos id off ttl proto df mf src dst opt c l n h s6 d6 = some true := by rw [palanquinlaw09_FlowBuilds.j0, if_pos rfl]
  obtain ⟨t, ht, hf⟩ := few09b src dst opt
  rw [ht, Option.bind_some]
  cases t with
  | false => rw [if_neg (by decide)]; exact skip
  | true =>
  obtain ⟨h1, h2, h3⟩ := hf rfl
  obtain ⟨u, hu, hg⟩ := few09b s6 d6 ⟨#[]⟩
  rw [if_pos rfl, hu, Option.bind_some]
  cases u with
  | false => rw [if_neg (by decide)]; exact skip
  | true =>
  obtain ⟨h4, h5, _⟩ := hg rfl
  rw [if_pos rfl]
  by_cases hp : (pay.size : Int) > 70000
  · rw [decide_eq_true hp]; exact skip
  obtain ⟨x, e1, e2⟩ := builds4 tos id off ttl proto df mf src dst opt pay h1 h2 h3 (by omega) 79999 (by decide)
  obtain ⟨y, e3, e4⟩ := builds6 c l n h s6 d6 pay h4 h5 (by omega) 79999 (by decide)
  obtain ⟨r, hr, _⟩ := seal_ex p (s := pay) (a := src) (b := dst) (by omega) h1 h2
  rw [decide_eq_false hp, palanquinlaw09_FlowBuilds.j0, if_neg (by decide), e1, Option.bind_some, e2, Option.bind_some, e3, Option.bind_some, e4, Option.bind_some, if_pos rfl, if_pos rfl, if_pos rfl, if_pos rfl, hr, Option.bind_some, ref_seal p src dst pay (by omega) h1 h2 79999 (by omega), hr, Option.bind_some, beq_self_eq_true]
end Go.Proofs.YtcmalglippmocaaDoor.Pure
end

section
/- Plain facts for rows: arguments that are structs of one-cell fields, and slices of strings, laid open. No function of the program in it. -/
namespace Go.Proofs.YtcmalglippmocaaDoor.Pal
open Go.RowKit Go.ChangeShapes Go.WideShapes Go.Deep Go.Proofs.YtcmalglippmocaaDoorW.PrintWords
section
variable {H : Type} {enc : TypeId × Value → H} {P : Program} {w : World} {base : Nat} {spare : Nat → Bool} {held : Bool}
theorem open_fields {r : Reach} {b0 : Nat} {t : TypeId} {fs : Array Field} {v : Value} {d : DataW H} {p : List MemPlace} (hs : P.underlying t = some (.struct fs)) (hone : oneCellFields P fs = true)
    (hv : Value.okWide P w r b0 t v) (h : DataW.Trod enc P w base spare held t v d p) :
    ∃ (cs : Array Value), v = .agg cs ∧ cs.size = P.cellsOf t ∧ ∀ (j : Nat) (f : Field) (c : Value), fs[j]? = some f → cs[j]? = some c → ∃ (n : Nat) (y : DataW H × List MemPlace), DataW.trod enc P w base spare held n f.type [c] = some y := by
  obtain ⟨cs, rfl, hsz⟩ := okWide_struct hs hv
  obtain ⟨fuel, hf⟩ := h
  obtain ⟨xs, n, _, _, _, hlen, hF⟩ := DataW.trod_struct hs hf
  refine ⟨cs, rfl, hsz, fun j f c hj hc => ?_⟩
  obtain ⟨o0, k0⟩ := hone_of hone j f hj
  have hj' : j < xs.length := by rw [hlen]; exact (Array.getElem?_eq_some_iff.1 hj).1
  refine ⟨n, xs[j], ?_⟩
  have e := hF j f hj
  rw [o0, k0, List.getElem?_eq_getElem hj'] at e
  have hc' : (Value.cells (.agg cs)).toList.drop j = c :: (Value.cells (.agg cs)).toList.drop (j + 1) := by
    obtain ⟨hlt, rfl⟩ := Array.getElem?_eq_some_iff.1 hc
    show cs.toList.drop j = cs[j] :: cs.toList.drop (j + 1)
    rw [List.drop_eq_getElem_cons (by simpa using hlt), Array.getElem_toList]
  rw [hc'] at e
  simpa using e
theorem leaf_int {n : Nat} {t : TypeId} {k : IntKind} {c : Value} {y : DataW H × List MemPlace} (ht : P.underlying t = some (.int k)) (h : DataW.trod enc P w base spare held n t [c] = some y) : ∃ a, c = .int k a ∧ (Lit.int k a).wf = true := by
  obtain ⟨a, e1, _, h2⟩ := DataW.trod_int ht h
  exact ⟨a, by simpa using e1, h2⟩
theorem leaf_str {n : Nat} {t : TypeId} {c : Value} {y : DataW H × List MemPlace} (ht : P.underlying t = some .string) (h : DataW.trod enc P w base spare held n t [c] = some y) : ∃ a : ByteArray, c = .string a ∧ a.size ≤ maxLen := by
  obtain ⟨a, e1, _, h2⟩ := DataW.trod_string ht h
  exact ⟨a, by simpa using e1, h2⟩
theorem leaf_bool {n : Nat} {t : TypeId} {c : Value} {y : DataW H × List MemPlace} (ht : P.underlying t = some .bool) (h : DataW.trod enc P w base spare held n t [c] = some y) : ∃ a : Bool, c = .bool a := by
  obtain ⟨a, e1, _⟩ := DataW.trod_bool ht h
  exact ⟨a, by simpa using e1⟩
end
end Go.Proofs.YtcmalglippmocaaDoor.Pal
end
