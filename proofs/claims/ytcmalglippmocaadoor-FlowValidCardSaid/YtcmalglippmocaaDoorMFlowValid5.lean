/- Texts of this session, joined: each is a section. -/
import Derived.Test.YtcmalglippmocaaDoorMFlowValid2
import Derived.Test.YtcmalglippmocaaDoorMFlowValid3
import Derived.Test.YtcmalglippmocaaDoorMFlowValid4
import Derived.WalkLawsBesides
import Derived.BigQuiet
import Derived.RegionTactic
import Derived.Deep.RegionWith
import Derived.RangeFuncNested
import Derived.RangeFuncBound
import Derived.RangeFuncCalls
import Derived.RangeFuncLeaves
import Derived.RangeFuncFrom
import Derived.Shelf.Abstract
import Derived.Shelf.RegionOpen
import Derived.WalkKit
import Derived.OwnWalkIn
import Derived.TacticsInMore
import Derived.LoopNIn
import Derived.LoopIn
import Derived.Laws.Strings2
import Derived.Laws.Strings
import Derived.StillTailTactics
set_option linter.unusedVariables false
set_option linter.unusedSimpArgs false
section
namespace Go.Proofs.YtcmalglippmocaaDoor.G
open Go.RowKit Go.Proofs.YtcmalglippmocaaDoorW.PrintWords Go.Proofs.YtcmalglippmocaaDoorW.PrintLast Go.Proofs.YtcmalglippmocaaDoorW.PrintMore
attribute [local go_sem] max2_int min2_int max_two min_two max_three min_three max_four min_four

def sum_Pseudo.f (a0 : ByteArray) (a1 : ByteArray) (a2 : Int) (a3 : Int) : Option (ByteArray) := if (a0.size : Int) = 16 then (if a0.size + a1.size ≤ 9223372036854775807 then ((some (([(a3 / 16777216) % 256, (a3 / 65536) % 256, (a3 / 256) % 256, (a3) % 256, 0, 0, 0, (a2) % 256] : List Int) : List Int)).bind fun y259 => (if (a0 ++ a1).size + (strOfNums y259).size ≤ 9223372036854775807 then (some ((a0 ++ a1) ++ (strOfNums y259))) else (none))) else (none)) else (if a0.size + a1.size ≤ 9223372036854775807 then ((some (([0, (a2) % 256, (a3 / 256) % 256, (a3) % 256] : List Int) : List Int)).bind fun y262 => (if (a0 ++ a1).size + (strOfNums y262).size ≤ 9223372036854775807 then (some ((a0 ++ a1) ++ (strOfNums y262))) else (none))) else (none))
set_option maxHeartbeats 8000000 in
set_option maxRecDepth 100000 in
theorem sum_Pseudo.calls (a0 : ByteArray) (a1 : ByteArray) (a2 : Int) (a3 : Int) (r : ByteArray) (w : World) (h : sum_Pseudo.f a0 a1 a2 a3 = some r) :
  Calls Tryd.prog 77 #[.string a0, .string a1, .int .i64 a2, .int .i64 a3] w fun e w' => e = .returned (.string r) ∧ Below w.heap.size w w' := by
 have HB := mA (Below.refl w.heap.size w)
 have H : (if (a0.size : Int) = 16 then (if a0.size + a1.size ≤ 9223372036854775807 then ((some (([(a3 / 16777216) % 256, (a3 / 65536) % 256, (a3 / 256) % 256, (a3) % 256, 0, 0, 0, (a2) % 256] : List Int) : List Int)).bind fun y259 => (if (a0 ++ a1).size + (strOfNums y259).size ≤ 9223372036854775807 then (some ((a0 ++ a1) ++ (strOfNums y259))) else (none))) else (none)) else (if a0.size + a1.size ≤ 9223372036854775807 then ((some (([0, (a2) % 256, (a3 / 256) % 256, (a3) % 256] : List Int) : List Int)).bind fun y262 => (if (a0 ++ a1).size + (strOfNums y262).size ≤ 9223372036854775807 then (some ((a0 ++ a1) ++ (strOfNums y262))) else (none))) else (none))) = some r := h
 clear h
 by_cases c5 : (a0.size : Int) = 16
 ·rw [if_pos c5] at H
  have c5b0 : ((a0.size : Int) == 16) = true := beq_iff_eq.mpr c5
  have c5b1 : ((a0.size : Int) != 16) = false := bne_eq_false_iff_eq.mpr c5
  clear c5
  by_cases c6 : a0.size + a1.size ≤ 9223372036854775807
  ·rw [if_pos c6] at H
   have c6b0 := eq_true c6
   have c6b1 : decide (a0.size + a1.size ≤ 9223372036854775807) = true := decide_eq_true c6
   try have c6b2 : (9223372036854775807 < a0.size + a1.size) = False := eq_false (Nat.not_lt.2 c6)
   obtain ⟨y259, hy259⟩ : ∃ y_ : List Int, y_ = (([(a3 / 16777216) % 256, (a3 / 65536) % 256, (a3 / 256) % 256, (a3) % 256, 0, 0, 0, (a2) % 256] : List Int)) := ⟨_, rfl⟩
   replace H : (if (a0 ++ a1).size + (strOfNums y259).size ≤ 9223372036854775807 then (some ((a0 ++ a1) ++ (strOfNums y259))) else (none)) = some r := by first | (rw [hy259]; with_reducible exact H) | (have H2_ := (Option.bind_some _ _).symm.trans H; rw [hy259]; with_reducible exact H2_) | (have H2_ := (Option.bind_some _ _).symm.trans H; with_reducible exact H2_) | with_reducible exact H | (rw [hy259]; exact H) | exact H
   have Ny259 := mA hy259
   clear hy259
   by_cases c7 : (a0 ++ a1).size + (strOfNums y259).size ≤ 9223372036854775807
   ·rw [if_pos c7] at H
    have c7b0 := eq_true c7
    have c7b1 : decide ((a0 ++ a1).size + (strOfNums y259).size ≤ 9223372036854775807) = true := decide_eq_true c7
    try have c7b2 : (9223372036854775807 < (a0 ++ a1).size + (strOfNums y259).size) = False := eq_false (Nat.not_lt.2 c7)
    try have c7b3 : (9223372036854775807 < (a0.size) + (a1.size) + (strOfNums y259).size) = False := eq_false (by have h_ := c7; simp only [ByteArray.size_append] at h_; omega)
    try have c7b4 : ((a0.size) + (a1.size) + (strOfNums y259).size ≤ 9223372036854775807) = True := eq_true (by have h_ := c7; simp only [ByteArray.size_append] at h_; omega)
    obtain rfl := Option.some.inj H
    go_enter Tryd.func77, Tryd.ntmps77
    go_wp2_with (first | ((with_reducible refine gate_dst (N := 28) rfl ?_); refine Kd.R_lit (Kd.int .u8) _ 5 ?hg (N := 28) ?hd (xs := ([(a3 / 16777216) % 256, (a3 / 65536) % 256, (a3 / 256) % 256, (a3) % 256, 0, 0, 0, (a2) % 256] : List Int)) (inner := [.int .u8 ((a3 / 16777216) % 256), .int .u8 ((a3 / 65536) % 256), .int .u8 ((a3 / 256) % 256), .int .u8 ((a3) % 256), .int .u8 0, .int .u8 0, .int .u8 0, .int .u8 ((a2) % 256)]) (ok := fun _ => True) (okp := fun _ => True) ?hr ?hp (fun _ hk => hk) trivial (Below.refl _ _) (Nat.le_refl _) (by simp) ?_; (case hd => rfl); (case hg => rfl); (case hr => first | (go_simp; done) | (go_simp; rfl)); (case hp => exact (Reps.one (show Kd.M (Kd.int .u8) _ _ _ ((a3 / 16777216) % 256) [.int .u8 ((a3 / 16777216) % 256)] from rfl) (Reps.one (show Kd.M (Kd.int .u8) _ _ _ ((a3 / 65536) % 256) [.int .u8 ((a3 / 65536) % 256)] from rfl) (Reps.one (show Kd.M (Kd.int .u8) _ _ _ ((a3 / 256) % 256) [.int .u8 ((a3 / 256) % 256)] from rfl) (Reps.one (show Kd.M (Kd.int .u8) _ _ _ ((a3) % 256) [.int .u8 ((a3) % 256)] from rfl) (Reps.one (show Kd.M (Kd.int .u8) _ _ _ 0 [.int .u8 0] from rfl) (Reps.one (show Kd.M (Kd.int .u8) _ _ _ 0 [.int .u8 0] from rfl) (Reps.one (show Kd.M (Kd.int .u8) _ _ _ 0 [.int .u8 0] from rfl) (Reps.one (show Kd.M (Kd.int .u8) _ _ _ ((a2) % 256) [.int .u8 ((a2) % 256)] from rfl) (Reps.none _ _)))))))))); intro v260 w8 ho9 hb hg_ hnew_; clear hg_ hnew_; (first | rw [← Ny259.out] at ho9 | (simp only [Int.reduceToNat] at ho9; rw [← Ny259.out] at ho9)); have n0_ := mA (Kd.R_lower ho9 (below_size (by repeat (first | (with_reducible first | exact HB.out | apply bA | apply bN | apply bD) | exact HB.out)))); have n1_ := mA (bP (by repeat (first | (with_reducible first | exact HB.out | apply bA | apply bN | apply bD) | exact HB.out)) hb); clear HB; have HO261 := n0_; have HB := n1_; clear n0_ n1_; clear hb ho9; have hcv10 := own_string (P := Tryd.prog) Tryd.underlying23 Tryd.underlying5 Tryd.underlying9 (Kd.own_of_R HO261.out)))
    go_ret
    exact ⟨by first | rfl | (simp [errW_none, errW_some] <;> rfl) | (simp [*, errW_none, errW_some] <;> rfl), by repeat (first | (with_reducible first | exact HB.out | apply bA | apply bN | apply bD) | exact HB.out)⟩
   ·rw [if_neg c7] at H
    exact absurd H (by simp)
  ·rw [if_neg c6] at H
   exact absurd H (by simp)
 ·rw [if_neg c5] at H
  have c5b0 : ((a0.size : Int) == 16) = false := beq_eq_false_iff_ne.mpr c5
  have c5b1 : ((a0.size : Int) != 16) = true := bne_iff_ne.mpr c5
  by_cases c11 : a0.size + a1.size ≤ 9223372036854775807
  ·rw [if_pos c11] at H
   have c11b0 := eq_true c11
   have c11b1 : decide (a0.size + a1.size ≤ 9223372036854775807) = true := decide_eq_true c11
   try have c11b2 : (9223372036854775807 < a0.size + a1.size) = False := eq_false (Nat.not_lt.2 c11)
   obtain ⟨y262, hy262⟩ : ∃ y_ : List Int, y_ = (([0, (a2) % 256, (a3 / 256) % 256, (a3) % 256] : List Int)) := ⟨_, rfl⟩
   replace H : (if (a0 ++ a1).size + (strOfNums y262).size ≤ 9223372036854775807 then (some ((a0 ++ a1) ++ (strOfNums y262))) else (none)) = some r := by first | (rw [hy262]; with_reducible exact H) | (have H2_ := (Option.bind_some _ _).symm.trans H; rw [hy262]; with_reducible exact H2_) | (have H2_ := (Option.bind_some _ _).symm.trans H; with_reducible exact H2_) | with_reducible exact H | (rw [hy262]; exact H) | exact H
   have Ny262 := mA hy262
   clear hy262
   by_cases c12 : (a0 ++ a1).size + (strOfNums y262).size ≤ 9223372036854775807
   ·rw [if_pos c12] at H
    have c12b0 := eq_true c12
    have c12b1 : decide ((a0 ++ a1).size + (strOfNums y262).size ≤ 9223372036854775807) = true := decide_eq_true c12
    try have c12b2 : (9223372036854775807 < (a0 ++ a1).size + (strOfNums y262).size) = False := eq_false (Nat.not_lt.2 c12)
    try have c12b3 : (9223372036854775807 < (a0.size) + (a1.size) + (strOfNums y262).size) = False := eq_false (by have h_ := c12; simp only [ByteArray.size_append] at h_; omega)
    try have c12b4 : ((a0.size) + (a1.size) + (strOfNums y262).size ≤ 9223372036854775807) = True := eq_true (by have h_ := c12; simp only [ByteArray.size_append] at h_; omega)
    obtain rfl := Option.some.inj H
    go_enter Tryd.func77, Tryd.ntmps77
    go_wp2_with (first | ((with_reducible refine gate_dst (N := 41) rfl ?_); refine Kd.R_lit (Kd.int .u8) _ 5 ?hg (N := 41) ?hd (xs := ([0, (a2) % 256, (a3 / 256) % 256, (a3) % 256] : List Int)) (inner := [.int .u8 0, .int .u8 ((a2) % 256), .int .u8 ((a3 / 256) % 256), .int .u8 ((a3) % 256)]) (ok := fun _ => True) (okp := fun _ => True) ?hr ?hp (fun _ hk => hk) trivial (Below.refl _ _) (Nat.le_refl _) (by simp) ?_; (case hd => rfl); (case hg => rfl); (case hr => first | (go_simp; done) | (go_simp; rfl)); (case hp => exact (Reps.one (show Kd.M (Kd.int .u8) _ _ _ 0 [.int .u8 0] from rfl) (Reps.one (show Kd.M (Kd.int .u8) _ _ _ ((a2) % 256) [.int .u8 ((a2) % 256)] from rfl) (Reps.one (show Kd.M (Kd.int .u8) _ _ _ ((a3 / 256) % 256) [.int .u8 ((a3 / 256) % 256)] from rfl) (Reps.one (show Kd.M (Kd.int .u8) _ _ _ ((a3) % 256) [.int .u8 ((a3) % 256)] from rfl) (Reps.none _ _)))))); intro v263 w13 ho14 hb hg_ hnew_; clear hg_ hnew_; (first | rw [← Ny262.out] at ho14 | (simp only [Int.reduceToNat] at ho14; rw [← Ny262.out] at ho14)); have n0_ := mA (Kd.R_lower ho14 (below_size (by repeat (first | (with_reducible first | exact HB.out | apply bA | apply bN | apply bD) | exact HB.out)))); have n1_ := mA (bP (by repeat (first | (with_reducible first | exact HB.out | apply bA | apply bN | apply bD) | exact HB.out)) hb); clear HB; have HO264 := n0_; have HB := n1_; clear n0_ n1_; clear hb ho14; have hcv15 := own_string (P := Tryd.prog) Tryd.underlying23 Tryd.underlying5 Tryd.underlying9 (Kd.own_of_R HO264.out)))
    go_ret
    exact ⟨by first | rfl | (simp [errW_none, errW_some] <;> rfl) | (simp [*, errW_none, errW_some] <;> rfl), by repeat (first | (with_reducible first | exact HB.out | apply bA | apply bN | apply bD) | exact HB.out)⟩
   ·rw [if_neg c12] at H
    exact absurd H (by simp)
  ·rw [if_neg c11] at H
   exact absurd H (by simp)

def sum_Right.f (l0 : List ByteArray) : Option (Bool) := (sum_Sum.f l0).bind fun t343 => (some (t343 == 0))
set_option maxHeartbeats 8000000 in
set_option maxRecDepth 100000 in
theorem sum_Right.calls (A0 : Option Addr) (c0 : Nat) (l0 : List ByteArray) (r : Bool) (w : World) (hr0 : Kd.C Kd.string w A0 l0.length l0) (hc0 : l0.length ≤ c0) (h : sum_Right.f l0 = some r) :
  Calls Tryd.prog 67 #[.slice A0 l0.length c0] w fun e w' => e = .returned (.bool r) ∧ Below w.heap.size w w' := by
 have HR0 := mA hr0
 have HC0 := mA hc0
 clear hr0 hc0
 have HB := mA (Below.refl w.heap.size w)
 have H : ((sum_Sum.f l0).bind fun t343 => (some (t343 == 0))) = some r := h
 clear h
 replace H := Option.bind_eq_some_iff.mp H
 obtain ⟨t343, A20, H⟩ := H
 try dsimp +instances only at H
 have A2 := mA A20
 clear A20
 obtain rfl := Option.some.inj H
 go_enter Tryd.func67, Tryd.ntmps67
 go_wp2_with (first | ((with_reducible refine gate_callee (f := 60) rfl ?_); refine goesL_ (some 4) rfl rfl Tryd.func60 (by kernel_rfl) rfl #[.slice A0 l0.length c0] rfl (by (try simp only [List.map_toArray, List.map_cons, List.map_nil]); first | done | rfl | (simp only [List.length_drop, List.length_take]; rfl)) ?_; (with_reducible refine (sum_Sum.calls _ _ l0 t343 _ ?side1 ?side2 A2.out).mono ?_); (case side1 => repeat (first | exact HR0.out | (with_reducible refine Kd.C_alloc ?_ _) | (with_reducible refine Kd.C_drewN ?_ _) | (with_reducible refine Kd.C_drew ?_))); (case side2 => exact HC0.out); rintro e w3 ⟨rfl, hb⟩; refine ⟨_, rfl, ?_⟩; have n0_ := mA (bP (by repeat (first | (with_reducible first | exact HB.out | apply bA | apply bN | apply bD) | exact HB.out)) hb); clear HB; have HB := n0_; clear n0_; (try clear hb); (try clear hb2); (try clear hk); (try clear hi)))
 go_ret
 exact ⟨by first | rfl | (simp [errW_none, errW_some] <;> rfl) | (simp [*, errW_none, errW_some] <;> rfl), by repeat (first | (with_reducible first | exact HB.out | apply bA | apply bN | apply bD) | exact HB.out)⟩

end Go.Proofs.YtcmalglippmocaaDoor.G
end

section
namespace Go.Proofs.YtcmalglippmocaaDoor.G
open Go.RowKit Go.Proofs.YtcmalglippmocaaDoorW.PrintWords Go.Proofs.YtcmalglippmocaaDoorW.PrintLast Go.Proofs.YtcmalglippmocaaDoorW.PrintMore Go.Proofs.YtcmalglippmocaaDoor.Pal
def sealAt (p : Int) (n : Nat) : Nat := if p = 6 ∧ 20 ≤ n then 16 else if p = 17 ∧ 8 ≤ n then 6 else 0
def sealNo (p n : Int) : Int := if n = 0 ∧ p = 17 then 65535 else n
def sealBytes (s : ByteArray) (q : Nat) (n : Int) : ByteArray := ⟨(bl (s.extract 0 q) ++ nb 2 (u64n n) ++ bl (s.extract (q + 2) s.size)).toArray⟩
def seal_with (a0 : Int) (a1 a2 a3 : ByteArray) (q : Nat) : Option ByteArray :=
  (sum_Pseudo.f a1 a2 a0 a3.size).bind fun ps => (sum_Sum.f [ps, a3.extract 0 q, ⟨#[0, 0]⟩, a3.extract (q + 2) a3.size]).bind fun n => some (sealBytes a3 q (sealNo a0 n))
def flow_Seal.f (a0 : Int) (a1 a2 a3 : ByteArray) : Option ByteArray :=
  if a3.size ≤ 1000000000 then (if sealAt a0 a3.size = 0 then some a3 else seal_with a0 a1 a2 a3 (sealAt a0 a3.size)) else none
theorem pl_ix0 (wx : World) : (Instr.index 135 (.agg #[.int .i64 6, .int .i64 16, .int .i64 17, .int .i64 6]) (.int .i64 0)).run Tryd.prog wx = .ok (.agg #[.int .i64 6, .int .i64 16]) wx := by kernel_rfl
theorem pl_ix1 (wx : World) : (Instr.index 135 (.agg #[.int .i64 6, .int .i64 16, .int .i64 17, .int .i64 6]) (.int .i64 1)).run Tryd.prog wx = .ok (.agg #[.int .i64 17, .int .i64 6]) wx := by kernel_rfl
def SW (k b : Nat) (w w1 : World) (l : List UInt8) : Prop := WAt b l w1 ∧ Below k w w1 ∧ k ≤ b
theorem SW.next {k b : Nat} {w w1 w2 : World} {l l' : List UInt8} (h : SW k b w w1 l) (h1 : WAt b l' w2) (h2 : Below b w1 w2) : SW k b w w2 l' := ⟨h1, h.2.1.trans (h2.mono h.2.2), h.2.2⟩
theorem SW.start {k : Nat} {w w1 : World} (h : Below k w w1) (hk : k ≤ w1.heap.size) : SW k w1.heap.size w (w1.alloc (.cells #[.pointer none, .slice none 0 0] 140)) [] := ⟨WAt.new w1, h.alloc hk _, hk⟩
def flow_Seal.T6 : Bool × List (List Nat × List Nat) := (true, [([], []), ([], []), ([], []), ([], []), ([3], [3]), ([0, 1, 2, 4], [0, 1, 2, 4]), ([], []), ([], []), ([6, 7], [6, 7]), ([], []), ([], []), ([10], [10]), ([9, 11], [9, 11]), ([5, 8, 12], [5, 8, 12]), ([13, 5], [13]), ([14, 14, 0, 1, 2, 3, 4, 5, 6, 7, 8, 9, 10, 11, 12, 13, 14], [14])])
def flow_Seal.B6 : List Nat := [0, 0, 0, 0, 8, 31, 0, 0, 192, 0, 0, 1024, 3584, 8191, 16383, 32767]
theorem flow_Seal.tab6 : rtab .any (opsOf Tryd.f41 6) = flow_Seal.T6 := by kernel_rfl
theorem flow_Seal.bits6 : waitsOk flow_Seal.T6.2 flow_Seal.B6 = true := by kernel_rfl
set_option maxHeartbeats 4000000 in
set_option maxRecDepth 100000 in
theorem flow_Seal.calls (a0 : Int) (a1 a2 a3 : ByteArray) (r : ByteArray) (w : World) (h : flow_Seal.f a0 a1 a2 a3 = some r) (hG : GP w) :
    Calls Tryd.prog 41 #[.int .i64 a0, .string a1, .string a2, .string a3] w fun e w' => e = .returned (.string r) ∧ Below w.heap.size w w' := by
  unfold flow_Seal.f at h
  by_cases hs : a3.size ≤ 1000000000
  case neg => rw [if_neg hs] at h; exact absurd h (by simp)
  rw [if_pos hs] at h
  have HS := Aside0.mk hs
  have HV := Aside0.mk h
  have HG := Aside0.mk hG
  clear h hs hG
  obtain ⟨k, hk⟩ : ∃ k, w.heap.size = k := ⟨_, rfl⟩
  have HB := Aside0.mk (show Below k w w from hk ▸ Below.refl w.heap.size w)
  have HK := Aside0.mk hk
  clear hk
  go_enter Tryd.func41, Tryd.ntmps41
  obtain ⟨⟨g0, g1, g2, g3⟩, g4, g5⟩ := HG.out.cells
  go_wp2
  clear g0 g1 g2 g3 g4 g5
  go_loopg [15] 2 (fun kq v15 wr => ∃ i : Nat, v15 = .int .i64 (i : Int) ∧ Aside0 (i + kq = 2) ∧ Aside0 (1 ≤ i → ¬ (a0 = 6 ∧ 20 ≤ a3.size)) ∧ Aside0 (2 ≤ i → ¬ (a0 = 17 ∧ 8 ≤ a3.size)) ∧ Aside0 (Below k w wr))
  case atStart => exact ⟨0, rfl, ⟨by omega⟩, ⟨by omega⟩, ⟨by omega⟩, HB⟩
  case round =>
    clear HB
    obtain ⟨i, rfl, HI, H0, H1, HB⟩ := hrel
    have HGr := Aside0.mk (HG.out.below (by rw [HK.out]; exact HB.out))
    have h012 : i = 0 ∨ i = 1 ∨ i = 2 := by have := HI.out; omega
    rcases h012 with rfl | rfl | rfl
    · have ix := pl_ix0
      obtain ⟨_, g4, g5⟩ := (HGr.out.below ((Below.refl wr.heap.size wr).alloc (Nat.le_refl _) (.cells #[.int .i64 6, .int .i64 16] 134))).cells
      by_cases hp : a0 = 6
      · subst hp
        by_cases hl : 20 ≤ a3.size
        · as_aux_lemma =>
          have d1 : (6 != 6) = false := rfl
          have hr : seal_with 6 a1 a2 a3 16 = some r := by
            have := HV.out; rw [show sealAt 6 a3.size = 16 by unfold sealAt; split <;> (try split) <;> omega, if_neg (by decide)] at this; exact this
          clear HV
          obtain ⟨ps, hps, hr⟩ := Option.bind_eq_some_iff.1 hr
          obtain ⟨n, hn, hr⟩ := Option.bind_eq_some_iff.1 hr
          obtain rfl := Option.some.inj hr
          clear hr
          have HP := Aside0.mk hps
          have HN := Aside0.mk hn
          have HL := Aside0.mk (show 20 ≤ a3.size from by omega)
          have d2 : decide ((a3.size : Int) < 20) = false := decide_eq_false (by have := HL.out; omega)
          have d3 : decide (a3.size < 20) = false := decide_eq_false (by have := HL.out; omega)
          clear hps hn
          go_upto_region 6 with (fail)
          clear ix g4 g5 d1 d2 d3
          have HC := Aside0.mk (HB.out.alloc (by have := HB.out.size; have := HK.out; omega) (.cells #[.int .i64 6, .int .i64 16] 134))
          rw [← HK.out] at HC
          have s1 : ((16 : Int) ≤ (a3.size : Int)) = True := eq_true (by have := HL.out; omega)
          have s2 : (16 ≤ a3.size) = True := eq_true (by have := HL.out; omega)
          have s3 : ((18 : Int) ≤ (a3.size : Int)) = True := eq_true (by have := HL.out; omega)
          have s4 : (18 ≤ a3.size) = True := eq_true (by have := HL.out; omega)
          have z1 : wrap64 (16 + 2) = 18 := by decide +kernel
          have z2 : IntKind.i64.wrap (16 + 2) = 18 := by decide +kernel
          have z3 : wrap64 18 = 18 := by decide +kernel
          have z4 : IntKind.i64.wrap 18 = 18 := by decide +kernel
          generalize wr.alloc (.cells #[.int .i64 6, .int .i64 16] 134) = w4 at HC ⊢
          replace HC := Aside0.mk (below_drew1 HC.out)
          refine start_ (n := 16) (S := fun w' => True) (ds := []) #[false, false, false, false, false, false, false, false, false, false, false, false, false, false, false, false] (by kernel_rfl) rfl rfl trivial (fun hHeld => ?_); refine with_tabW flow_Seal.tab6 flow_Seal.bits6 (fun HT_ HW_ => ?_)
          generalize w4.drew = w5 at HC hHeld ⊢
          refine pure_ (i := 0) (N := some 33) (v := ?_) (a' := ?_) #[true, false, false, false, false, false, false, false, false, false, false, false, false, false, false, false] rfl rfl (any_of HT_.out (by kernel_rfl)) (fun _ _ _ h => h) (Or.inl ⟨by rfl, ?_⟩) ?_ ?_
          rotate_left
          · intro w'
            go_simp
            with_reducible rfl
          rotate_left
          · simp only [Act.put, List.setIfInBounds_toArray, List.set_cons_zero, List.set_cons_succ, i64_w, i32_w]
            rfl
          refine pure_ (i := 1) (N := some 34) (v := ?_) (a' := ?_) #[true, true, false, false, false, false, false, false, false, false, false, false, false, false, false, false] rfl rfl (any_of HT_.out (by kernel_rfl)) (fun _ _ _ h => h) (Or.inl ⟨by rfl, ?_⟩) ?_ ?_
          rotate_left
          · intro w'
            go_simp
            with_reducible rfl
          rotate_left
          · simp only [Act.put, List.setIfInBounds_toArray, List.set_cons_zero, List.set_cons_succ, i64_w, i32_w]
            rfl
          refine pure_ (i := 2) (N := some 35) (v := ?_) (a' := ?_) #[true, true, true, false, false, false, false, false, false, false, false, false, false, false, false, false] rfl rfl (any_of HT_.out (by kernel_rfl)) (fun _ _ _ h => h) (Or.inl ⟨by rfl, ?_⟩) ?_ ?_
          rotate_left
          · intro w'
            go_simp
            with_reducible rfl
          rotate_left
          · simp only [Act.put, List.setIfInBounds_toArray, List.set_cons_zero, List.set_cons_succ, i64_w, i32_w]
            rfl
          refine pure_ (i := 3) (N := some 36) (v := ?_) (a' := ?_) #[true, true, true, true, false, false, false, false, false, false, false, false, false, false, false, false] rfl rfl (any_of HT_.out (by kernel_rfl)) (fun _ _ _ h => h) (Or.inl ⟨by rfl, ?_⟩) ?_ ?_
          rotate_left
          · intro w'
            go_simp
            with_reducible rfl
          rotate_left
          · simp only [Act.put, List.setIfInBounds_toArray, List.set_cons_zero, List.set_cons_succ, i64_w, i32_w]
            rfl
          refine pure_ (i := 4) (N := some 37) (v := ?_) (a' := ?_) #[true, true, true, true, true, false, false, false, false, false, false, false, false, false, false, false] rfl rfl (any_of HT_.out (by kernel_rfl)) (fun _ _ _ h => h) (Or.inl ⟨by rfl, ?_⟩) ?_ ?_
          rotate_left
          · intro w'
            go_simp
            with_reducible rfl
          rotate_left
          · simp only [Act.put, List.setIfInBounds_toArray, List.set_cons_zero, List.set_cons_succ, i64_w, i32_w]
            rfl
          refine pure_ (i := 6) (N := some 39) (v := ?_) (a' := ?_) #[true, true, true, true, true, false, true, false, false, false, false, false, false, false, false, false] rfl rfl (any_of HT_.out (by kernel_rfl)) (fun _ _ _ h => h) (Or.inl ⟨by rfl, ?_⟩) ?_ ?_
          rotate_left
          · intro w'
            go_simp
            with_reducible rfl
          rotate_left
          · simp only [Act.put, List.setIfInBounds_toArray, List.set_cons_zero, List.set_cons_succ, i64_w, i32_w]
            rfl
          refine pure_ (i := 7) (N := some 40) (v := ?_) (a' := ?_) #[true, true, true, true, true, false, true, true, false, false, false, false, false, false, false, false] rfl rfl (any_of HT_.out (by kernel_rfl)) (fun _ _ _ h => h) (Or.inl ⟨by rfl, ?_⟩) ?_ ?_
          rotate_left
          · intro w'
            go_simp
            with_reducible rfl
          rotate_left
          · simp only [Act.put, List.setIfInBounds_toArray, List.set_cons_zero, List.set_cons_succ, i64_w, i32_w]
            rfl
          refine pure_ (i := 8) (N := some 41) (v := ?_) (a' := ?_) #[true, true, true, true, true, false, true, true, true, false, false, false, false, false, false, false] rfl rfl (any_of HT_.out (by kernel_rfl)) (fun _ _ _ h => h) (Or.inl ⟨by rfl, ?_⟩) ?_ ?_
          rotate_left
          · intro w'
            go_simp
            with_reducible rfl
          rotate_left
          · simp only [Act.put, List.setIfInBounds_toArray, List.set_cons_zero, List.set_cons_succ, i64_w, i32_w]
            rfl
          refine pure_ (i := 9) (N := some 42) (v := ?_) (a' := ?_) #[true, true, true, true, true, false, true, true, true, true, false, false, false, false, false, false] rfl rfl (any_of HT_.out (by kernel_rfl)) (fun _ _ _ h => h) (Or.inl ⟨by rfl, ?_⟩) ?_ ?_
          rotate_left
          · intro w'
            go_simp
            with_reducible rfl
          rotate_left
          · simp only [Act.put, List.setIfInBounds_toArray, List.set_cons_zero, List.set_cons_succ, i64_w, i32_w]
            rfl
          refine pure_ (i := 10) (N := some 43) (v := ?_) (a' := ?_) #[true, true, true, true, true, false, true, true, true, true, true, false, false, false, false, false] rfl rfl (any_of HT_.out (by kernel_rfl)) (fun _ _ _ h => h) (Or.inl ⟨by rfl, ?_⟩) ?_ ?_
          rotate_left
          · intro w'
            go_simp
            with_reducible rfl
          rotate_left
          · simp only [Act.put, List.setIfInBounds_toArray, List.set_cons_zero, List.set_cons_succ, i64_w, i32_w]
            rfl
          refine pure_ (i := 11) (N := some 44) (v := ?_) (a' := ?_) #[true, true, true, true, true, false, true, true, true, true, true, true, false, false, false, false] rfl rfl (any_of HT_.out (by kernel_rfl)) (fun _ _ _ h => h) (Or.inl ⟨by rfl, ?_⟩) ?_ ?_
          rotate_left
          · intro w'
            go_simp
            with_reducible rfl
          rotate_left
          · simp only [Act.put, List.setIfInBounds_toArray, List.set_cons_zero, List.set_cons_succ, i64_w, i32_w]
            rfl
          refine pure_ (i := 12) (N := some 45) (v := ?_) (a' := ?_) #[true, true, true, true, true, false, true, true, true, true, true, true, true, false, false, false] rfl rfl (any_of HT_.out (by kernel_rfl)) (fun _ _ _ h => h) (Or.inl ⟨by rfl, ?_⟩) ?_ ?_
          rotate_left
          · intro w'
            go_simp
            with_reducible rfl
          rotate_left
          · simp only [Act.put, List.setIfInBounds_toArray, List.set_cons_zero, List.set_cons_succ, i64_w, i32_w]
            rfl
          refine one_ (i := 5) (N := some 38) #[true, true, true, true, true, true, true, true, true, true, true, true, true, false, false, false] rfl rfl (one_of HT_.out (by kernel_rfl)) (by decide) (fun K hK => ?_)
          refine goes_ Tryd.func77 (by kernel_rfl) rfl #[.string a1, .string a2, .int .i64 6, .int .i64 (a3.size : Int)] (by rfl) rfl rfl (by (try simp only [List.map_toArray, List.map_cons, List.map_nil]); first | done | rfl) ?_
          with_reducible refine (sum_Pseudo.calls a1 a2 6 (a3.size : Int) ps _ HP.out).mono ?_
          rintro e w6 ⟨rfl, hb⟩
          refine ⟨_, rfl, ?_⟩
          have n0_ := Aside0.mk (below_step (by repeat (first | (with_reducible first | exact HC.out | apply below_alloc | apply pw_below_drewN | apply below_drew1) | exact HC.out)) hb)
          clear HC
          have HC := n0_
          clear n0_ hb
          refine hK.out _ _ trivial (fun hHeld => ?_)
          clear hK K
          refine norm_ (a' := ?_) ?_ ?_
          rotate_left
          · show Act.put _ (some 38) _ = _
            simp only [Act.put, List.setIfInBounds_toArray, List.set_cons_zero, List.set_cons_succ, i64_w, i32_w]
            rfl
          obtain ⟨y, hy⟩ : ∃ y : List ByteArray, y = [ps, a3.extract 0 16, (⟨#[0, 0]⟩ : ByteArray), a3.extract (16 + 2) a3.size] := ⟨_, rfl⟩
          rw [← hy] at HN
          have NY := Aside0.mk hy
          clear hy
          refine one_ (i := 13) (N := some 46) #[true, true, true, true, true, true, true, true, true, true, true, true, true, true, false, false] rfl rfl (one_of HT_.out (by kernel_rfl)) (by decide) (fun K hK => ?_)
          refine Kd.R_lit_step Kd.string _ 9 ?hg (N := 46) ?hd (xs := ([ps, a3.extract 0 16, (⟨#[0, 0]⟩ : ByteArray), a3.extract (16 + 2) a3.size] : List ByteArray)) (inner := [.string ps, .string (a3.extract 0 16), .string (⟨#[0, 0]⟩ : ByteArray), .string (a3.extract (16 + 2) a3.size)]) (ok := fun _ => True) (okp := fun _ => True) ?hr ?hp (fun _ hk => hk) trivial (Below.refl _ _) (Nat.le_refl _) (by simp) ?_; (case hd => rfl); (case hg => rfl); (case hr => first | (go_simp; done) | (go_simp; rfl)); (case hp => exact (Reps.one (show Kd.M Kd.string _ _ _ ps [.string ps] from rfl) (Reps.one (show Kd.M Kd.string _ _ _ (a3.extract 0 16) [.string (a3.extract 0 16)] from rfl) (Reps.one (show Kd.M Kd.string _ _ _ (⟨#[0, 0]⟩ : ByteArray) [.string (⟨#[0, 0]⟩ : ByteArray)] from rfl) (Reps.one (show Kd.M Kd.string _ _ _ (a3.extract (16 + 2) a3.size) [.string (a3.extract (16 + 2) a3.size)] from rfl) (Reps.none _ _))))))
          intro v47 w7 ho hb hg_ hnew_
          clear hg_ hnew_
          (first | rw [← NY.out] at ho | (simp only [Int.reduceToNat] at ho; rw [← NY.out] at ho))
          have HO := Aside0.mk (Kd.R_lower ho (below_size (by repeat (first | (with_reducible first | exact HC.out | apply below_alloc | apply pw_below_drewN | apply below_drew1) | exact HC.out))))
          have n0_ := Aside0.mk (below_step (by repeat (first | (with_reducible first | exact HC.out | apply below_alloc | apply pw_below_drewN | apply below_drew1) | exact HC.out)) hb)
          clear HC
          have HC := n0_
          clear n0_ hb
          clear ho
          obtain ⟨Ao, co, eo⟩ := Kd.R_slice HO.out
          (first | subst eo | (injection eo with f1_ f2_ f3_; have f4_ := f1_.symm; have f5_ := f3_.symm; clear f1_ f2_ f3_; subst f4_; subst f5_))
          refine hK.out _ _ trivial (fun hHeld => ?_)
          clear hK K
          refine norm_ (a' := ?_) ?_ ?_
          rotate_left
          · show Act.put _ (some 46) _ = _
            simp only [Act.put, List.setIfInBounds_toArray, List.set_cons_zero, List.set_cons_succ, i64_w, i32_w]
            rfl
          refine one_ (i := 14) (N := some 47) #[true, true, true, true, true, true, true, true, true, true, true, true, true, true, true, false] rfl rfl (one_of HT_.out (by kernel_rfl)) (by decide) (fun K hK => ?_)
          refine goes_ Tryd.func60 (by kernel_rfl) rfl #[.slice Ao y.length co] (by rfl) rfl rfl (by (try simp only [List.map_toArray, List.map_cons, List.map_nil]); first | done | rfl) ?_
          with_reducible refine (sum_Sum.calls _ _ y n _ ?side1 ?side2 HN.out).mono ?_
          (case side1 => repeat (first | exact (Kd.R_reads' HO.out).2.2 | (with_reducible refine Kd.C_alloc ?_ _) | (with_reducible refine Kd.C_drewN ?_ _) | (with_reducible refine Kd.C_drew ?_)))
          (case side2 => exact (Kd.R_reads' HO.out).2.1)
          rintro e w8 ⟨rfl, hb⟩
          refine ⟨_, rfl, ?_⟩
          clear HO
          have n0_ := Aside0.mk (below_step (by repeat (first | (with_reducible first | exact HC.out | apply below_alloc | apply pw_below_drewN | apply below_drew1) | exact HC.out)) hb)
          clear HC
          have HC := n0_
          clear n0_ hb
          refine hK.out _ _ trivial (fun hHeld => ?_)
          clear hK K
          refine norm_ (a' := ?_) ?_ ?_
          rotate_left
          · show Act.put _ (some 47) _ = _
            simp only [Act.put, List.setIfInBounds_toArray, List.set_cons_zero, List.set_cons_succ, i64_w, i32_w]
            rfl
          refine pure_ (i := 15) (N := some 12) (v := ?_) (a' := ?_) #[true, true, true, true, true, true, true, true, true, true, true, true, true, true, true, true] rfl rfl (any_of HT_.out (by kernel_rfl)) (fun _ _ _ h => h) (Or.inl ⟨by rfl, ?_⟩) ?_ ?_
          rotate_left
          · intro w'
            go_simp
            with_reducible rfl
          rotate_left
          · simp only [Act.put, List.setIfInBounds_toArray, List.set_cons_zero, List.set_cons_succ, i64_w, i32_w]
            rfl
          refine done_ (done_of HT_.out (by kernel_rfl)) ?_
          by_cases hn0 : n = 0
          · as_aux_lemma =>
            have e1 : (n == 0) = true := beq_iff_eq.mpr hn0
            have e2 : sealNo 6 n = n := by unfold sealNo; rw [if_neg (fun h => absurd h.2 (by decide))]
            clear hn0
            go_wp2_with fail
            have HW := Aside0.mk (SW.start (w1 := _) (by repeat (first | (with_reducible first | exact HC.out | apply below_alloc | apply pw_below_drewN | apply below_drew1) | exact HC.out)) (Below.size (by repeat (first | (with_reducible first | exact HC.out | apply below_alloc | apply pw_below_drewN | apply below_drew1) | exact HC.out))))
            refine (Writer_Text.calls _ _ _ _ HW.out.1 (by have := HS.out; simp [ByteArray.size_extract]; omega)).mono ?_
            rintro e w9 ⟨rfl, g1, g2⟩
            replace HW := Aside0.mk (HW.out.next g1 g2)
            clear g1 g2
            go_wp2_with fail
            refine (Writer_U16.calls _ _ _ _ HW.out.1 (by have := HS.out; simp [ByteArray.size_extract, bl_length]; omega)).mono ?_
            rintro e w10 ⟨rfl, g1, g2⟩
            replace HW := Aside0.mk (HW.out.next g1 g2)
            clear g1 g2
            go_wp2_with fail
            refine (Writer_Text.calls _ _ _ _ HW.out.1 (by have := HS.out; simp [ByteArray.size_extract, bl_length, nb_length]; omega)).mono ?_
            rintro e w11 ⟨rfl, g1, g2⟩
            replace HW := Aside0.mk (HW.out.next g1 g2)
            clear g1 g2
            go_wp2_with fail
            refine (Writer_String.calls _ _ _ HW.out.1).mono ?_
            rintro e w12 ⟨rfl, g1, g2⟩
            replace HW := Aside0.mk (HW.out.next g1 g2)
            clear g1 g2
            go_wp2
            go_ret
            exact ⟨by rw [e2]; first | rfl | (simp [sealBytes, u64n]; done), HW.out.2.1⟩
          · as_aux_lemma =>
            have e1 : (n == 0) = false := beq_eq_false_iff_ne.mpr hn0
            have e2 : sealNo 6 n = n := by unfold sealNo; rw [if_neg (fun h => absurd h.2 (by decide))]
            clear hn0
            go_wp2_with fail
            have HW := Aside0.mk (SW.start (w1 := _) (by repeat (first | (with_reducible first | exact HC.out | apply below_alloc | apply pw_below_drewN | apply below_drew1) | exact HC.out)) (Below.size (by repeat (first | (with_reducible first | exact HC.out | apply below_alloc | apply pw_below_drewN | apply below_drew1) | exact HC.out))))
            refine (Writer_Text.calls _ _ _ _ HW.out.1 (by have := HS.out; simp [ByteArray.size_extract]; omega)).mono ?_
            rintro e w9 ⟨rfl, g1, g2⟩
            replace HW := Aside0.mk (HW.out.next g1 g2)
            clear g1 g2
            go_wp2_with fail
            refine (Writer_U16.calls _ _ _ _ HW.out.1 (by have := HS.out; simp [ByteArray.size_extract, bl_length]; omega)).mono ?_
            rintro e w10 ⟨rfl, g1, g2⟩
            replace HW := Aside0.mk (HW.out.next g1 g2)
            clear g1 g2
            go_wp2_with fail
            refine (Writer_Text.calls _ _ _ _ HW.out.1 (by have := HS.out; simp [ByteArray.size_extract, bl_length, nb_length]; omega)).mono ?_
            rintro e w11 ⟨rfl, g1, g2⟩
            replace HW := Aside0.mk (HW.out.next g1 g2)
            clear g1 g2
            go_wp2_with fail
            refine (Writer_String.calls _ _ _ HW.out.1).mono ?_
            rintro e w12 ⟨rfl, g1, g2⟩
            replace HW := Aside0.mk (HW.out.next g1 g2)
            clear g1 g2
            go_wp2
            go_ret
            exact ⟨by rw [e2]; first | rfl | (simp [sealBytes, u64n]; done), HW.out.2.1⟩
        · as_aux_lemma =>
          have d1 : ((6 : Int) != 6) = false := rfl
          have d2 : decide ((a3.size : Int) < 20) = true := decide_eq_true (by omega)
          have d3 : decide (a3.size < 20) = true := decide_eq_true (by omega)
          have HX := Aside0.mk hl
          clear hl
          go_wp2
          go_roundg 1
          case measure => have := HI.out; omega
          case rel => exact ⟨1, by first | rfl | (simp; done) | (unfold wrap64; simp; done), ⟨by omega⟩, ⟨fun _ h => HX.out h.2⟩, ⟨fun h => by omega⟩, ⟨HB.out.alloc (by have := HB.out.size; have := HK.out; omega) _⟩⟩
      · as_aux_lemma =>
        have d1 : (a0 != 6) = true := bne_iff_ne.mpr hp
        have HX := Aside0.mk hp
        clear hp
        go_wp2
        go_roundg 1
        case measure => have := HI.out; omega
        case rel => exact ⟨1, by first | rfl | (simp; done) | (unfold wrap64; simp; done), ⟨by omega⟩, ⟨fun _ h => HX.out h.1⟩, ⟨fun h => by omega⟩, ⟨HB.out.alloc (by have := HB.out.size; have := HK.out; omega) _⟩⟩
    · have ix := pl_ix1
      obtain ⟨_, g4, g5⟩ := (HGr.out.below ((Below.refl wr.heap.size wr).alloc (Nat.le_refl _) (.cells #[.int .i64 17, .int .i64 6] 134))).cells
      by_cases hp : a0 = 17
      · subst hp
        by_cases hl : 8 ≤ a3.size
        · as_aux_lemma =>
          have d1 : (17 != 17) = false := rfl
          have hr : seal_with 17 a1 a2 a3 6 = some r := by
            have := HV.out; rw [show sealAt 17 a3.size = 6 by unfold sealAt; split <;> (try split) <;> omega, if_neg (by decide)] at this; exact this
          clear HV
          obtain ⟨ps, hps, hr⟩ := Option.bind_eq_some_iff.1 hr
          obtain ⟨n, hn, hr⟩ := Option.bind_eq_some_iff.1 hr
          obtain rfl := Option.some.inj hr
          clear hr
          have HP := Aside0.mk hps
          have HN := Aside0.mk hn
          have HL := Aside0.mk (show 8 ≤ a3.size from by omega)
          have d2 : decide ((a3.size : Int) < 8) = false := decide_eq_false (by have := HL.out; omega)
          have d3 : decide (a3.size < 8) = false := decide_eq_false (by have := HL.out; omega)
          clear hps hn
          go_upto_region 6 with (fail)
          clear ix g4 g5 d1 d2 d3
          have HC := Aside0.mk (HB.out.alloc (by have := HB.out.size; have := HK.out; omega) (.cells #[.int .i64 17, .int .i64 6] 134))
          rw [← HK.out] at HC
          have s1 : ((6 : Int) ≤ (a3.size : Int)) = True := eq_true (by have := HL.out; omega)
          have s2 : (6 ≤ a3.size) = True := eq_true (by have := HL.out; omega)
          have s3 : ((8 : Int) ≤ (a3.size : Int)) = True := eq_true (by have := HL.out; omega)
          have s4 : (8 ≤ a3.size) = True := eq_true (by have := HL.out; omega)
          have z1 : wrap64 (6 + 2) = 8 := by decide +kernel
          have z2 : IntKind.i64.wrap (6 + 2) = 8 := by decide +kernel
          have z3 : wrap64 8 = 8 := by decide +kernel
          have z4 : IntKind.i64.wrap 8 = 8 := by decide +kernel
          generalize wr.alloc (.cells #[.int .i64 17, .int .i64 6] 134) = w4 at HC ⊢
          replace HC := Aside0.mk (below_drew1 HC.out)
          refine start_ (n := 16) (S := fun w' => True) (ds := []) #[false, false, false, false, false, false, false, false, false, false, false, false, false, false, false, false] (by kernel_rfl) rfl rfl trivial (fun hHeld => ?_); refine with_tabW flow_Seal.tab6 flow_Seal.bits6 (fun HT_ HW_ => ?_)
          generalize w4.drew = w5 at HC hHeld ⊢
          refine pure_ (i := 0) (N := some 33) (v := ?_) (a' := ?_) #[true, false, false, false, false, false, false, false, false, false, false, false, false, false, false, false] rfl rfl (any_of HT_.out (by kernel_rfl)) (fun _ _ _ h => h) (Or.inl ⟨by rfl, ?_⟩) ?_ ?_
          rotate_left
          · intro w'
            go_simp
            with_reducible rfl
          rotate_left
          · simp only [Act.put, List.setIfInBounds_toArray, List.set_cons_zero, List.set_cons_succ, i64_w, i32_w]
            rfl
          refine pure_ (i := 1) (N := some 34) (v := ?_) (a' := ?_) #[true, true, false, false, false, false, false, false, false, false, false, false, false, false, false, false] rfl rfl (any_of HT_.out (by kernel_rfl)) (fun _ _ _ h => h) (Or.inl ⟨by rfl, ?_⟩) ?_ ?_
          rotate_left
          · intro w'
            go_simp
            with_reducible rfl
          rotate_left
          · simp only [Act.put, List.setIfInBounds_toArray, List.set_cons_zero, List.set_cons_succ, i64_w, i32_w]
            rfl
          refine pure_ (i := 2) (N := some 35) (v := ?_) (a' := ?_) #[true, true, true, false, false, false, false, false, false, false, false, false, false, false, false, false] rfl rfl (any_of HT_.out (by kernel_rfl)) (fun _ _ _ h => h) (Or.inl ⟨by rfl, ?_⟩) ?_ ?_
          rotate_left
          · intro w'
            go_simp
            with_reducible rfl
          rotate_left
          · simp only [Act.put, List.setIfInBounds_toArray, List.set_cons_zero, List.set_cons_succ, i64_w, i32_w]
            rfl
          refine pure_ (i := 3) (N := some 36) (v := ?_) (a' := ?_) #[true, true, true, true, false, false, false, false, false, false, false, false, false, false, false, false] rfl rfl (any_of HT_.out (by kernel_rfl)) (fun _ _ _ h => h) (Or.inl ⟨by rfl, ?_⟩) ?_ ?_
          rotate_left
          · intro w'
            go_simp
            with_reducible rfl
          rotate_left
          · simp only [Act.put, List.setIfInBounds_toArray, List.set_cons_zero, List.set_cons_succ, i64_w, i32_w]
            rfl
          refine pure_ (i := 4) (N := some 37) (v := ?_) (a' := ?_) #[true, true, true, true, true, false, false, false, false, false, false, false, false, false, false, false] rfl rfl (any_of HT_.out (by kernel_rfl)) (fun _ _ _ h => h) (Or.inl ⟨by rfl, ?_⟩) ?_ ?_
          rotate_left
          · intro w'
            go_simp
            with_reducible rfl
          rotate_left
          · simp only [Act.put, List.setIfInBounds_toArray, List.set_cons_zero, List.set_cons_succ, i64_w, i32_w]
            rfl
          refine pure_ (i := 6) (N := some 39) (v := ?_) (a' := ?_) #[true, true, true, true, true, false, true, false, false, false, false, false, false, false, false, false] rfl rfl (any_of HT_.out (by kernel_rfl)) (fun _ _ _ h => h) (Or.inl ⟨by rfl, ?_⟩) ?_ ?_
          rotate_left
          · intro w'
            go_simp
            with_reducible rfl
          rotate_left
          · simp only [Act.put, List.setIfInBounds_toArray, List.set_cons_zero, List.set_cons_succ, i64_w, i32_w]
            rfl
          refine pure_ (i := 7) (N := some 40) (v := ?_) (a' := ?_) #[true, true, true, true, true, false, true, true, false, false, false, false, false, false, false, false] rfl rfl (any_of HT_.out (by kernel_rfl)) (fun _ _ _ h => h) (Or.inl ⟨by rfl, ?_⟩) ?_ ?_
          rotate_left
          · intro w'
            go_simp
            with_reducible rfl
          rotate_left
          · simp only [Act.put, List.setIfInBounds_toArray, List.set_cons_zero, List.set_cons_succ, i64_w, i32_w]
            rfl
          refine pure_ (i := 8) (N := some 41) (v := ?_) (a' := ?_) #[true, true, true, true, true, false, true, true, true, false, false, false, false, false, false, false] rfl rfl (any_of HT_.out (by kernel_rfl)) (fun _ _ _ h => h) (Or.inl ⟨by rfl, ?_⟩) ?_ ?_
          rotate_left
          · intro w'
            go_simp
            with_reducible rfl
          rotate_left
          · simp only [Act.put, List.setIfInBounds_toArray, List.set_cons_zero, List.set_cons_succ, i64_w, i32_w]
            rfl
          refine pure_ (i := 9) (N := some 42) (v := ?_) (a' := ?_) #[true, true, true, true, true, false, true, true, true, true, false, false, false, false, false, false] rfl rfl (any_of HT_.out (by kernel_rfl)) (fun _ _ _ h => h) (Or.inl ⟨by rfl, ?_⟩) ?_ ?_
          rotate_left
          · intro w'
            go_simp
            with_reducible rfl
          rotate_left
          · simp only [Act.put, List.setIfInBounds_toArray, List.set_cons_zero, List.set_cons_succ, i64_w, i32_w]
            rfl
          refine pure_ (i := 10) (N := some 43) (v := ?_) (a' := ?_) #[true, true, true, true, true, false, true, true, true, true, true, false, false, false, false, false] rfl rfl (any_of HT_.out (by kernel_rfl)) (fun _ _ _ h => h) (Or.inl ⟨by rfl, ?_⟩) ?_ ?_
          rotate_left
          · intro w'
            go_simp
            with_reducible rfl
          rotate_left
          · simp only [Act.put, List.setIfInBounds_toArray, List.set_cons_zero, List.set_cons_succ, i64_w, i32_w]
            rfl
          refine pure_ (i := 11) (N := some 44) (v := ?_) (a' := ?_) #[true, true, true, true, true, false, true, true, true, true, true, true, false, false, false, false] rfl rfl (any_of HT_.out (by kernel_rfl)) (fun _ _ _ h => h) (Or.inl ⟨by rfl, ?_⟩) ?_ ?_
          rotate_left
          · intro w'
            go_simp
            with_reducible rfl
          rotate_left
          · simp only [Act.put, List.setIfInBounds_toArray, List.set_cons_zero, List.set_cons_succ, i64_w, i32_w]
            rfl
          refine pure_ (i := 12) (N := some 45) (v := ?_) (a' := ?_) #[true, true, true, true, true, false, true, true, true, true, true, true, true, false, false, false] rfl rfl (any_of HT_.out (by kernel_rfl)) (fun _ _ _ h => h) (Or.inl ⟨by rfl, ?_⟩) ?_ ?_
          rotate_left
          · intro w'
            go_simp
            with_reducible rfl
          rotate_left
          · simp only [Act.put, List.setIfInBounds_toArray, List.set_cons_zero, List.set_cons_succ, i64_w, i32_w]
            rfl
          refine one_ (i := 5) (N := some 38) #[true, true, true, true, true, true, true, true, true, true, true, true, true, false, false, false] rfl rfl (one_of HT_.out (by kernel_rfl)) (by decide) (fun K hK => ?_)
          refine goes_ Tryd.func77 (by kernel_rfl) rfl #[.string a1, .string a2, .int .i64 17, .int .i64 (a3.size : Int)] (by rfl) rfl rfl (by (try simp only [List.map_toArray, List.map_cons, List.map_nil]); first | done | rfl) ?_
          with_reducible refine (sum_Pseudo.calls a1 a2 17 (a3.size : Int) ps _ HP.out).mono ?_
          rintro e w6 ⟨rfl, hb⟩
          refine ⟨_, rfl, ?_⟩
          have n0_ := Aside0.mk (below_step (by repeat (first | (with_reducible first | exact HC.out | apply below_alloc | apply pw_below_drewN | apply below_drew1) | exact HC.out)) hb)
          clear HC
          have HC := n0_
          clear n0_ hb
          refine hK.out _ _ trivial (fun hHeld => ?_)
          clear hK K
          refine norm_ (a' := ?_) ?_ ?_
          rotate_left
          · show Act.put _ (some 38) _ = _
            simp only [Act.put, List.setIfInBounds_toArray, List.set_cons_zero, List.set_cons_succ, i64_w, i32_w]
            rfl
          obtain ⟨y, hy⟩ : ∃ y : List ByteArray, y = [ps, a3.extract 0 6, (⟨#[0, 0]⟩ : ByteArray), a3.extract (6 + 2) a3.size] := ⟨_, rfl⟩
          rw [← hy] at HN
          have NY := Aside0.mk hy
          clear hy
          refine one_ (i := 13) (N := some 46) #[true, true, true, true, true, true, true, true, true, true, true, true, true, true, false, false] rfl rfl (one_of HT_.out (by kernel_rfl)) (by decide) (fun K hK => ?_)
          refine Kd.R_lit_step Kd.string _ 9 ?hg (N := 46) ?hd (xs := ([ps, a3.extract 0 6, (⟨#[0, 0]⟩ : ByteArray), a3.extract (6 + 2) a3.size] : List ByteArray)) (inner := [.string ps, .string (a3.extract 0 6), .string (⟨#[0, 0]⟩ : ByteArray), .string (a3.extract (6 + 2) a3.size)]) (ok := fun _ => True) (okp := fun _ => True) ?hr ?hp (fun _ hk => hk) trivial (Below.refl _ _) (Nat.le_refl _) (by simp) ?_; (case hd => rfl); (case hg => rfl); (case hr => first | (go_simp; done) | (go_simp; rfl)); (case hp => exact (Reps.one (show Kd.M Kd.string _ _ _ ps [.string ps] from rfl) (Reps.one (show Kd.M Kd.string _ _ _ (a3.extract 0 6) [.string (a3.extract 0 6)] from rfl) (Reps.one (show Kd.M Kd.string _ _ _ (⟨#[0, 0]⟩ : ByteArray) [.string (⟨#[0, 0]⟩ : ByteArray)] from rfl) (Reps.one (show Kd.M Kd.string _ _ _ (a3.extract (6 + 2) a3.size) [.string (a3.extract (6 + 2) a3.size)] from rfl) (Reps.none _ _))))))
          intro v47 w7 ho hb hg_ hnew_
          clear hg_ hnew_
          (first | rw [← NY.out] at ho | (simp only [Int.reduceToNat] at ho; rw [← NY.out] at ho))
          have HO := Aside0.mk (Kd.R_lower ho (below_size (by repeat (first | (with_reducible first | exact HC.out | apply below_alloc | apply pw_below_drewN | apply below_drew1) | exact HC.out))))
          have n0_ := Aside0.mk (below_step (by repeat (first | (with_reducible first | exact HC.out | apply below_alloc | apply pw_below_drewN | apply below_drew1) | exact HC.out)) hb)
          clear HC
          have HC := n0_
          clear n0_ hb
          clear ho
          obtain ⟨Ao, co, eo⟩ := Kd.R_slice HO.out
          (first | subst eo | (injection eo with f1_ f2_ f3_; have f4_ := f1_.symm; have f5_ := f3_.symm; clear f1_ f2_ f3_; subst f4_; subst f5_))
          refine hK.out _ _ trivial (fun hHeld => ?_)
          clear hK K
          refine norm_ (a' := ?_) ?_ ?_
          rotate_left
          · show Act.put _ (some 46) _ = _
            simp only [Act.put, List.setIfInBounds_toArray, List.set_cons_zero, List.set_cons_succ, i64_w, i32_w]
            rfl
          refine one_ (i := 14) (N := some 47) #[true, true, true, true, true, true, true, true, true, true, true, true, true, true, true, false] rfl rfl (one_of HT_.out (by kernel_rfl)) (by decide) (fun K hK => ?_)
          refine goes_ Tryd.func60 (by kernel_rfl) rfl #[.slice Ao y.length co] (by rfl) rfl rfl (by (try simp only [List.map_toArray, List.map_cons, List.map_nil]); first | done | rfl) ?_
          with_reducible refine (sum_Sum.calls _ _ y n _ ?side1 ?side2 HN.out).mono ?_
          (case side1 => repeat (first | exact (Kd.R_reads' HO.out).2.2 | (with_reducible refine Kd.C_alloc ?_ _) | (with_reducible refine Kd.C_drewN ?_ _) | (with_reducible refine Kd.C_drew ?_)))
          (case side2 => exact (Kd.R_reads' HO.out).2.1)
          rintro e w8 ⟨rfl, hb⟩
          refine ⟨_, rfl, ?_⟩
          clear HO
          have n0_ := Aside0.mk (below_step (by repeat (first | (with_reducible first | exact HC.out | apply below_alloc | apply pw_below_drewN | apply below_drew1) | exact HC.out)) hb)
          clear HC
          have HC := n0_
          clear n0_ hb
          refine hK.out _ _ trivial (fun hHeld => ?_)
          clear hK K
          refine norm_ (a' := ?_) ?_ ?_
          rotate_left
          · show Act.put _ (some 47) _ = _
            simp only [Act.put, List.setIfInBounds_toArray, List.set_cons_zero, List.set_cons_succ, i64_w, i32_w]
            rfl
          refine pure_ (i := 15) (N := some 12) (v := ?_) (a' := ?_) #[true, true, true, true, true, true, true, true, true, true, true, true, true, true, true, true] rfl rfl (any_of HT_.out (by kernel_rfl)) (fun _ _ _ h => h) (Or.inl ⟨by rfl, ?_⟩) ?_ ?_
          rotate_left
          · intro w'
            go_simp
            with_reducible rfl
          rotate_left
          · simp only [Act.put, List.setIfInBounds_toArray, List.set_cons_zero, List.set_cons_succ, i64_w, i32_w]
            rfl
          refine done_ (done_of HT_.out (by kernel_rfl)) ?_
          by_cases hn0 : n = 0
          · as_aux_lemma =>
            have e1 : (n == 0) = true := beq_iff_eq.mpr hn0
            have e2 : sealNo 17 n = 65535 := by unfold sealNo; rw [if_pos ⟨hn0, rfl⟩]
            clear hn0
            go_wp2_with fail
            have HW := Aside0.mk (SW.start (w1 := _) (by repeat (first | (with_reducible first | exact HC.out | apply below_alloc | apply pw_below_drewN | apply below_drew1) | exact HC.out)) (Below.size (by repeat (first | (with_reducible first | exact HC.out | apply below_alloc | apply pw_below_drewN | apply below_drew1) | exact HC.out))))
            refine (Writer_Text.calls _ _ _ _ HW.out.1 (by have := HS.out; simp [ByteArray.size_extract]; omega)).mono ?_
            rintro e w9 ⟨rfl, g1, g2⟩
            replace HW := Aside0.mk (HW.out.next g1 g2)
            clear g1 g2
            go_wp2_with fail
            refine (Writer_U16.calls _ _ _ _ HW.out.1 (by have := HS.out; simp [ByteArray.size_extract, bl_length]; omega)).mono ?_
            rintro e w10 ⟨rfl, g1, g2⟩
            replace HW := Aside0.mk (HW.out.next g1 g2)
            clear g1 g2
            go_wp2_with fail
            refine (Writer_Text.calls _ _ _ _ HW.out.1 (by have := HS.out; simp [ByteArray.size_extract, bl_length, nb_length]; omega)).mono ?_
            rintro e w11 ⟨rfl, g1, g2⟩
            replace HW := Aside0.mk (HW.out.next g1 g2)
            clear g1 g2
            go_wp2_with fail
            refine (Writer_String.calls _ _ _ HW.out.1).mono ?_
            rintro e w12 ⟨rfl, g1, g2⟩
            replace HW := Aside0.mk (HW.out.next g1 g2)
            clear g1 g2
            go_wp2
            go_ret
            exact ⟨by rw [e2]; first | rfl | (simp [sealBytes, u64n]; done), HW.out.2.1⟩
          · as_aux_lemma =>
            have e1 : (n == 0) = false := beq_eq_false_iff_ne.mpr hn0
            have e2 : sealNo 17 n = n := by unfold sealNo; rw [if_neg (fun h => hn0 h.1)]
            clear hn0
            go_wp2_with fail
            have HW := Aside0.mk (SW.start (w1 := _) (by repeat (first | (with_reducible first | exact HC.out | apply below_alloc | apply pw_below_drewN | apply below_drew1) | exact HC.out)) (Below.size (by repeat (first | (with_reducible first | exact HC.out | apply below_alloc | apply pw_below_drewN | apply below_drew1) | exact HC.out))))
            refine (Writer_Text.calls _ _ _ _ HW.out.1 (by have := HS.out; simp [ByteArray.size_extract]; omega)).mono ?_
            rintro e w9 ⟨rfl, g1, g2⟩
            replace HW := Aside0.mk (HW.out.next g1 g2)
            clear g1 g2
            go_wp2_with fail
            refine (Writer_U16.calls _ _ _ _ HW.out.1 (by have := HS.out; simp [ByteArray.size_extract, bl_length]; omega)).mono ?_
            rintro e w10 ⟨rfl, g1, g2⟩
            replace HW := Aside0.mk (HW.out.next g1 g2)
            clear g1 g2
            go_wp2_with fail
            refine (Writer_Text.calls _ _ _ _ HW.out.1 (by have := HS.out; simp [ByteArray.size_extract, bl_length, nb_length]; omega)).mono ?_
            rintro e w11 ⟨rfl, g1, g2⟩
            replace HW := Aside0.mk (HW.out.next g1 g2)
            clear g1 g2
            go_wp2_with fail
            refine (Writer_String.calls _ _ _ HW.out.1).mono ?_
            rintro e w12 ⟨rfl, g1, g2⟩
            replace HW := Aside0.mk (HW.out.next g1 g2)
            clear g1 g2
            go_wp2
            go_ret
            exact ⟨by rw [e2]; first | rfl | (simp [sealBytes, u64n]; done), HW.out.2.1⟩
        · as_aux_lemma =>
          have d1 : ((17 : Int) != 17) = false := rfl
          have d2 : decide ((a3.size : Int) < 8) = true := decide_eq_true (by omega)
          have d3 : decide (a3.size < 8) = true := decide_eq_true (by omega)
          have HX := Aside0.mk hl
          clear hl
          go_wp2
          go_roundg 0
          case measure => have := HI.out; omega
          case rel => exact ⟨2, by first | rfl | (simp; done) | (unfold wrap64; simp; done), ⟨by omega⟩, ⟨fun _ h => absurd h.1 (by decide)⟩, ⟨fun _ h => HX.out h.2⟩, ⟨HB.out.alloc (by have := HB.out.size; have := HK.out; omega) _⟩⟩
      · as_aux_lemma =>
        have d1 : (a0 != 17) = true := bne_iff_ne.mpr hp
        have HX := Aside0.mk hp
        clear hp
        go_wp2
        go_roundg 0
        case measure => have := HI.out; omega
        case rel => exact ⟨2, by first | rfl | (simp; done) | (unfold wrap64; simp; done), ⟨by omega⟩, ⟨fun _ => H0.out (by omega)⟩, ⟨fun _ h => HX.out h.1⟩, ⟨HB.out.alloc (by have := HB.out.size; have := HK.out; omega) _⟩⟩
    · as_aux_lemma =>
      have hr : some a3 = some r := by
        have := HV.out; rw [if_pos (by unfold sealAt; rw [if_neg (H0.out (by omega)), if_neg (H1.out (by omega))])] at this; exact this
      obtain rfl := Option.some.inj hr
      clear hr
      go_wp2
      go_ret
      exact ⟨rfl, by rw [HK.out]; exact HB.out⟩
end Go.Proofs.YtcmalglippmocaaDoor.G
end

section
namespace Go.Proofs.YtcmalglippmocaaDoor.Pal
def optLen (l : List UInt8) (i : Nat) : Option Nat :=
  if l.getD i 0 = 1 then some 1 else if i + 1 = l.length ∨ (l.getD (i + 1) 0).toNat < 2 ∨ l.length < i + (l.getD (i + 1) 0).toNat then none else some (l.getD (i + 1) 0).toNat
def walkO : Nat → List UInt8 → Nat → Option (List (Nat × Nat))
  | 0, _, _ => some []
  | k + 1, l, i => if i < l.length ∧ l.getD i 0 ≠ 0 then (optLen l i).bind fun n => (walkO k l (i + n)).map ((i, n) :: ·) else some []
theorem optLen_bound {l : List UInt8} {i n : Nat} (hi : i < l.length) (h : optLen l i = some n) : 1 ≤ n ∧ i + n ≤ l.length := by
  unfold optLen at h
  split at h
  · obtain rfl := Option.some.inj h; omega
  · split at h
    · exact absurd h (by simp)
    · rename_i h1
      obtain rfl := Option.some.inj h
      omega
theorem walkO_fuel (l : List UInt8) : ∀ (k k' i : Nat), l.length < k + i → l.length < k' + i → walkO k l i = walkO k' l i
  | 0, 0, _, _, _ => rfl
  | 0, k' + 1, i, h, _ => by rw [walkO, walkO, if_neg (by omega)]
  | k + 1, 0, i, _, h => by rw [walkO, walkO, if_neg (by omega)]
  | k + 1, k' + 1, i, h, h' => by
    rw [walkO, walkO]
    by_cases c : i < l.length ∧ l.getD i 0 ≠ 0
    · rw [if_pos c, if_pos c]
      cases ho : optLen l i with
      | none => rfl
      | some n =>
        have hb := optLen_bound c.1 ho
        rw [Option.bind_some, Option.bind_some, walkO_fuel l k k' (i + n) (by omega) (by omega)]
    · rw [if_neg c, if_neg c]
def W (l : List UInt8) (i : Nat) : Option (List (Nat × Nat)) := walkO (l.length + 1) l i
theorem W_end {l : List UInt8} {i : Nat} (h : ¬ (i < l.length ∧ l.getD i 0 ≠ 0)) : W l i = some [] := by unfold W; rw [walkO, if_neg h]
theorem W_step {l : List UInt8} {i : Nat} (h : i < l.length ∧ l.getD i 0 ≠ 0) : W l i = (optLen l i).bind fun n => (W l (i + n)).map ((i, n) :: ·) := by
  unfold W
  rw [walkO, if_pos h]
  cases ho : optLen l i with
  | none => rfl
  | some n =>
    have hb := optLen_bound h.1 ho
    rw [Option.bind_some, Option.bind_some, walkO_fuel l l.length (l.length + 1) (i + n) (by omega) (by omega)]
theorem W_ind {P : Nat → Prop} (l : List UInt8) (h : ∀ i, (∀ n, 1 ≤ n → i < l.length → P (i + n)) → P i) : ∀ i, P i := by
  have : ∀ (m i : Nat), l.length ≤ m + i → P i := by
    intro m
    induction m with
    | zero => intro i hi; exact h i fun n _ hl => absurd hl (by omega)
    | succ m ih => intro i hi; exact h i fun n hn hl => ih (i + n) (by omega)
  exact fun i => this l.length i (by omega)
theorem W_cons {l : List UInt8} {i : Nat} {L : List (Nat × Nat)} (h : W l i = some L) :
    (¬ (i < l.length ∧ l.getD i 0 ≠ 0) ∧ L = []) ∨ ((i < l.length ∧ l.getD i 0 ≠ 0) ∧ ∃ n L', optLen l i = some n ∧ W l (i + n) = some L' ∧ L = (i, n) :: L') := by
  by_cases c : i < l.length ∧ l.getD i 0 ≠ 0
  · rw [W_step c] at h
    cases ho : optLen l i with
    | none => rw [ho] at h; exact absurd h (by simp)
    | some n =>
      rw [ho, Option.bind_some] at h
      cases hw : W l (i + n) with
      | none => rw [hw] at h; exact absurd h (by simp)
      | some L' =>
        rw [hw] at h
        exact .inr ⟨c, n, L', rfl, hw, (Option.some.inj h).symm⟩
  · rw [W_end c] at h
    exact .inl ⟨c, (Option.some.inj h).symm⟩
def rightO (l : List UInt8) : Bool := (W l 0).isSome
end Go.Proofs.YtcmalglippmocaaDoor.Pal
end

section
namespace Go.Proofs.YtcmalglippmocaaDoor.G
open Go.Proofs.YtcmalglippmocaaDoor.Pal
def tcp_Right.f (s : ByteArray) : Option Bool := if s.size ≤ 140737488351232 then some (rightO (bl s)) else none
end Go.Proofs.YtcmalglippmocaaDoor.G
namespace Go.Proofs.YtcmalglippmocaaDoor.Pure
open Go.Proofs.YtcmalglippmocaaDoor.Pal Go.Proofs.YtcmalglippmocaaDoor.G
theorem right_is (s : ByteArray) (h : s.size ≤ 140737488351232) : tcp_Right.f s = some (rightO (bl s)) := by unfold tcp_Right.f; rw [if_pos h]
end Go.Proofs.YtcmalglippmocaaDoor.Pure
end

section
namespace Go.Proofs.YtcmalglippmocaaDoor.G
open Go.Proofs.YtcmalglippmocaaDoor.Pal
def tcpOk (src dst flags win urg : Int) (opt : ByteArray) : Prop := in16 src ∧ in16 dst ∧ in16 win ∧ in16 urg ∧ (0 ≤ flags ∧ flags ≤ 255) ∧ opt.size ≤ 40 ∧ opt.size % 4 = 0
instance (src dst flags win urg : Int) (opt : ByteArray) : Decidable (tcpOk src dst flags win urg opt) := by unfold tcpOk; infer_instance
def tcpCheck (src dst flags win urg : Int) (opt : ByteArray) : Int := if tcpOk src dst flags win urg opt then 0 else 1
theorem tcpCheck_ok {src dst flags win urg : Int} {opt : ByteArray} (h : tcpCheck src dst flags win urg opt = 0) : in16 src ∧ in16 dst ∧ in16 win ∧ in16 urg ∧ (0 ≤ flags ∧ flags ≤ 255) ∧ opt.size ≤ 40 ∧ opt.size % 4 = 0 := by
  unfold tcpCheck at h
  split at h
  · rename_i h2; exact h2
  · exact absurd h (by decide)
def tcpBytes (src dst seq ack flags win urg : Int) (opt p : ByteArray) (sum : Int) : List UInt8 :=
  nb 2 (u64n src) ++ nb 2 (u64n dst) ++ nb 4 (u64n seq) ++ nb 4 (u64n ack) ++ nb 1 (u64n (((20 + opt.size) / 4 * 16 : Nat) : Int)) ++ nb 1 (u64n flags) ++ nb 2 (u64n win) ++ nb 2 (u64n sum) ++ nb 2 (u64n urg) ++ bl opt ++ bl p
def tcp_Put.f (a0_0 a0_1 a0_2 a0_3 a0_4 a0_5 a0_6 : Int) (a0_7 a0_8 : ByteArray) (a1 : Int) : Option (ByteArray × Int) :=
  if a0_8.size ≤ 140737488351232 ∧ (0 ≤ a0_2 ∧ a0_2 < 4294967296) ∧ (0 ≤ a0_3 ∧ a0_3 < 4294967296) then (if tcpCheck a0_0 a0_1 a0_4 a0_5 a0_6 a0_7 = 0 ∧ in16 a1 then some (⟨(tcpBytes a0_0 a0_1 a0_2 a0_3 a0_4 a0_5 a0_6 a0_7 a0_8 a1).toArray⟩, 0) else some (⟨#[]⟩, 1)) else none
def ht (s : ByteArray) : Nat := be (bl (s.extract 12 13)) / 16 * 4
def tcpErr (s : ByteArray) : Int :=
  if s.size < 20 then 2 else if 20 ≤ ht s ∧ ht s ≤ s.size then (if be (bl (s.extract 12 13)) % 16 = 0 then (if rightO (bl (s.extract 20 (ht s))) = true then 0 else 4) else 9) else 4
def tcp_Get.f (s : ByteArray) : Option (Int × Int × Int × Int × Int × Int × Int × ByteArray × ByteArray × Int × Int) :=
  if s.size ≤ 140737488351232 then some (if tcpErr s = 0 then (((be (bl (s.extract 0 2)) : Nat) : Int), ((be (bl (s.extract 2 4)) : Nat) : Int), ((be (bl (s.extract 4 8)) : Nat) : Int), ((be (bl (s.extract 8 12)) : Nat) : Int), ((be (bl (s.extract 13 14)) : Nat) : Int), ((be (bl (s.extract 14 16)) : Nat) : Int), ((be (bl (s.extract 18 20)) : Nat) : Int), s.extract 20 (ht s), s.extract (ht s) s.size, ((be (bl (s.extract 16 18)) : Nat) : Int), 0) else (0, 0, 0, 0, 0, 0, 0, ⟨#[]⟩, ⟨#[]⟩, 0, tcpErr s)) else none
end Go.Proofs.YtcmalglippmocaaDoor.G
end

section
namespace Go.Proofs.YtcmalglippmocaaDoor.Pal
def itemsF : Nat → ByteArray → Nat → List (Int × ByteArray)
  | 0, _, _ => []
  | k + 1, s, i => if i < (bl s).length ∧ (bl s).getD i 0 ≠ 0 then (match optLen (bl s) i with | none => [(-1, ⟨#[]⟩)] | some n => ((i : Int), s.extract i (i + n)) :: itemsF k s (i + n)) else []
theorem itemsF_fuel (s : ByteArray) : ∀ (k k' i : Nat), (bl s).length < k + i → (bl s).length < k' + i → itemsF k s i = itemsF k' s i
  | 0, 0, _, _, _ => rfl
  | 0, k' + 1, i, h, _ => by rw [itemsF, itemsF, if_neg (by omega)]
  | k + 1, 0, i, _, h => by rw [itemsF, itemsF, if_neg (by omega)]
  | k + 1, k' + 1, i, h, h' => by
    rw [itemsF, itemsF]
    by_cases c : i < (bl s).length ∧ (bl s).getD i 0 ≠ 0
    · rw [if_pos c, if_pos c]
      cases ho : optLen (bl s) i with
      | none => rfl
      | some n =>
        have hb := optLen_bound c.1 ho
        simp only
        rw [itemsF_fuel s k k' (i + n) (by omega) (by omega)]
    · rw [if_neg c, if_neg c]
def items (s : ByteArray) (i : Nat) : List (Int × ByteArray) := itemsF ((bl s).length + 1) s i
theorem items_end {s : ByteArray} {i : Nat} (h : ¬ (i < (bl s).length ∧ (bl s).getD i 0 ≠ 0)) : items s i = [] := by unfold items; rw [itemsF, if_neg h]
theorem items_bad {s : ByteArray} {i : Nat} (h : i < (bl s).length ∧ (bl s).getD i 0 ≠ 0) (ho : optLen (bl s) i = none) : items s i = [(-1, ⟨#[]⟩)] := by unfold items; rw [itemsF, if_pos h, ho]
theorem items_step {s : ByteArray} {i n : Nat} (h : i < (bl s).length ∧ (bl s).getD i 0 ≠ 0) (ho : optLen (bl s) i = some n) : items s i = ((i : Int), s.extract i (i + n)) :: items s (i + n) := by
  have hb := optLen_bound h.1 ho
  unfold items
  rw [itemsF, if_pos h, ho]
  simp only
  rw [itemsF_fuel s (bl s).length ((bl s).length + 1) (i + n) (by omega) (by omega)]
def itemOf (s : ByteArray) (p : Nat × Nat) : Int × ByteArray := ((p.1 : Int), s.extract p.1 (p.1 + p.2))
theorem items_right (s : ByteArray) : ∀ i L, W (bl s) i = some L → items s i = L.map (itemOf s) := by
  refine W_ind (P := fun i => ∀ L, W (bl s) i = some L → items s i = L.map (itemOf s)) (bl s) fun i ih L h => ?_
  rcases W_cons h with ⟨c, rfl⟩ | ⟨c, n, L', ho, hw, rfl⟩
  · exact items_end c
  · have hb := optLen_bound c.1 ho
    rw [items_step c ho, ih n hb.1 c.1 L' hw]; rfl
theorem items_wrong (s : ByteArray) : ∀ i, W (bl s) i = none → ∃ L : List (Nat × Nat), items s i = L.map (itemOf s) ++ [(-1, ⟨#[]⟩)] := by
  refine W_ind (P := fun i => W (bl s) i = none → ∃ L : List (Nat × Nat), items s i = L.map (itemOf s) ++ [(-1, ⟨#[]⟩)]) (bl s) fun i ih h => ?_
  by_cases c : i < (bl s).length ∧ (bl s).getD i 0 ≠ 0
  · cases ho : optLen (bl s) i with
    | none => exact ⟨[], items_bad c ho⟩
    | some n =>
      have hb := optLen_bound c.1 ho
      rw [W_step c, ho, Option.bind_some] at h
      obtain ⟨L, hL⟩ := ih n hb.1 c.1 (by cases hw : W (bl s) (i + n) with | none => rfl | some M => rw [hw] at h; exact absurd h (by simp))
      exact ⟨(i, n) :: L, by rw [items_step c ho, hL]; rfl⟩
  · rw [W_end c] at h; exact absurd h (by simp)
theorem items_all (s : ByteArray) : rightO (bl s) = true ↔ ∀ x ∈ items s 0, ¬ x.1 < 0 := by
  unfold rightO
  cases hw : W (bl s) 0 with
  | some L =>
    rw [items_right s 0 L hw]
    refine ⟨fun _ x hx => ?_, fun _ => rfl⟩
    obtain ⟨p, _, rfl⟩ := List.mem_map.mp hx
    unfold itemOf; dsimp only; omega
  | none =>
    obtain ⟨L, hL⟩ := items_wrong s 0 hw
    rw [hL]
    refine ⟨fun h => absurd h (by simp), fun h => absurd (h (-1, ⟨#[]⟩) (by simp)) (by decide)⟩
end Go.Proofs.YtcmalglippmocaaDoor.Pal
end

section
namespace Go.Proofs.YtcmalglippmocaaDoor.G
open Go.RowKit Go.Shelf Go.Proofs.YtcmalglippmocaaDoorW.PrintWords Go.Proofs.YtcmalglippmocaaDoorW.PrintLast Go.Proofs.YtcmalglippmocaaDoorW.PrintMore Go.Proofs.YtcmalglippmocaaDoor.Pal
attribute [local go_sem] Oper.semAt_some

set_option maxRecDepth 100000 in
set_option maxHeartbeats 2000000 in
theorem walk_in (F : Fence) (n : Nat) (hf : F.fn 146) (hro : F.round = none) (s : ByteArray) (w : World) :
    CallsIn F n Tryd.prog 146 #[.string s] w fun e w' => e = .returned (.func (.func 147) #[] #[.pointer (some ⟨w.heap.size, 0, none⟩)]) ∧ w' = w.alloc (.cells #[.string s] 9) := by
  have hmf : ∀ (fn : Fn) (first cap : Array Value) (w : World), (Instr.makeFunc fn first cap).run Tryd.prog w = .ok (.func fn first cap) w := fun _ _ _ _ => rfl
  refine callsIn_of_wp Tryd.func146 rfl hf ?_ hro
  simp only [Tryd.ntmps146, List.size_toArray, List.length_cons, List.length_nil, Nat.reduceAdd, Nat.reduceSub, Array.replicate_succ, Array.replicate_zero, List.push_toArray, List.append_toArray, List.nil_append, List.cons_append]
  gi_wp2
  go_ret
  exact ⟨rfl, rfl⟩

theorem wr_one (m : Nat) (h : m < 256) : wrap64 (m : Int) = (m : Int) ∧ IntKind.i64.wrap (m : Int) = (m : Int) := by
  refine ⟨by unfold wrap64; omega, by rw [IntKind.wrap_i64]; omega⟩
theorem lt_two {a i m : Nat} (h : a < i + m) : (a : Int) < (i : Int) + (m : Int) := by omega
theorem not_lt_two {a i m : Nat} (h : ¬ a < i + m) : ¬ (a : Int) < (i : Int) + (m : Int) := by omega
theorem le_two (i m : Nat) : (i : Int) ≤ (i : Int) + (m : Int) := by omega
theorem le_two' {a i m : Nat} (h : i + m ≤ a) : (i : Int) + (m : Int) ≤ (a : Int) := by omega
theorem toNat_two (i m : Nat) : ((i : Int) + (m : Int)).toNat = i + m := by omega
theorem less_two {s i m : Nat} (h : 2 ≤ m) (h2 : i < s) : s - ((i : Int) + (m : Int)).toNat < s - (i : Int).toNat := by omega
theorem wr_two (i m : Nat) (h : i + m ≤ 140737488351232 + 256) : wrap64 ((i : Int) + (m : Int)) = (i : Int) + (m : Int) ∧ IntKind.i64.wrap ((i : Int) + (m : Int)) = (i : Int) + (m : Int) := by
  refine ⟨by unfold wrap64; omega, by rw [IntKind.wrap_i64]; omega⟩
set_option maxRecDepth 100000 in
set_option maxHeartbeats 4000000 in
theorem walk1_in (n : Nat) (hn : 1 ≤ n) (l Bn n₀ : Nat) (s : ByteArray) (hs : s.size ≤ 140737488351232) (J Jx : List (Int × ByteArray) → World → Prop)
    (hA : ∀ p W k, J p W → J p (W.drewN k))
    (hY : ∀ pre (x : Int × ByteArray) W, J pre W → pre.length < (items s 0).length → pre ++ [x] <+: items s 0 → YieldAt Fence.wide (n - 1) Tryd.prog l #[.int .i64 x.1, .string x.2] W fun e W' =>
      (e = .returned (.bool true) ∧ J (pre ++ [x]) W' ∧ Below n₀ W W') ∨ (e = .returned (.bool false) ∧ Jx (pre ++ [x]) W'))
    (W : World) (hB : Bn < n₀) (hBn : W.cell? ⟨Bn, 0, none⟩ = some (.string s)) (h0 : J [] W) :
    CallsIn Fence.wide n Tryd.prog 147 #[.func (.yield l) #[] #[], .pointer (some ⟨Bn, 0, none⟩)] W fun e W' => (∃ v, e = .returned v) ∧
      ((∃ ys, ys = items s 0 ∧ J ys W') ∨ (∃ pre, pre <+: items s 0 ∧ Jx pre W')) := by
  refine callsIn_of_wp Tryd.func147 rfl trivial ?_ rfl
  simp only [Tryd.ntmps147, List.size_toArray, List.length_cons, List.length_nil, Nat.reduceAdd, Nat.reduceSub, Array.replicate_succ, Array.replicate_zero, List.push_toArray, List.append_toArray, List.nil_append, List.cons_append]
  have HS := Aside0.mk hs
  clear hs
  gi_wp2
  gi_loopw [3] (fun p wr => ∃ (i : Nat) (pre : List (Int × ByteArray)), p = .int .i64 (i : Int) ∧ Aside0 (i ≤ s.size) ∧ Aside0 (items s 0 = pre ++ items s i) ∧ J pre wr ∧ wr.cell? ⟨Bn, 0, none⟩ = some (.string s))
    (fun p wr => s.size - (intOf p).toNat)
  case atStart => exact ⟨0, [], rfl, ⟨Nat.zero_le _⟩, ⟨rfl⟩, h0, hBn⟩
  case round =>
    obtain ⟨i, pre, rfl, HI, HT, hJ, hc⟩ := hrel
    by_cases hlt : i < s.size
    case neg =>
      have q1 : decide ((i : Int) < (s.size : Int)) = false := decide_eq_false (by omega)
      have q2 : decide (i < s.size) = false := decide_eq_false hlt
      have he : items s i = [] := items_end (by rw [bl_length]; exact fun h => hlt h.1)
      rw [he, List.append_nil] at HT
      gi_wp2
      go_end0
      exact ⟨⟨_, rfl⟩, .inl ⟨pre, HT.out.symm, hJ⟩⟩
    have q1 : decide ((i : Int) < (s.size : Int)) = true := decide_eq_true (by omega)
    have q2 : decide (i < s.size) = true := decide_eq_true hlt
    have hx : (bl s).getD i 0 = s[i] := by simp [List.getD_eq_getElem?_getD, List.getElem?_eq_getElem (show i < (bl s).length by rw [bl_length]; exact hlt)]; rfl
    by_cases h0 : s[i] = 0
    · have e1 : ((s[i].toNat : Int) != 0) = false := by rw [h0]; rfl
      have e2 : (s[i].toNat != 0) = false := by rw [h0]; rfl
      have he : items s i = [] := items_end (by rw [hx, h0]; exact fun h => h.2 rfl)
      rw [he, List.append_nil] at HT
      gi_wp2
      go_end0
      exact ⟨⟨_, rfl⟩, .inl ⟨pre, HT.out.symm, hJ⟩⟩
    have e1 : ((s[i].toNat : Int) != 0) = true := by rw [bne_iff_ne]; intro h; exact h0 (UInt8.toNat_inj.1 (by show s[i].toNat = 0; omega))
    have e2 : (s[i].toNat != 0) = true := by rw [bne_iff_ne]; intro h; exact h0 (UInt8.toNat_inj.1 h)
    by_cases h1 : s[i] = 1
    · have f1 : ((s[i].toNat : Int) != 1) = false := by rw [h1]; rfl
      have f2 : (s[i].toNat != 1) = false := by rw [h1]; rfl
      have ho : optLen (bl s) i = some 1 := by unfold optLen; rw [hx, if_pos h1]
      have hc' : i < (bl s).length ∧ (bl s).getD i 0 ≠ 0 := ⟨by rw [bl_length]; exact hlt, by rw [hx]; exact h0⟩
      have HE := Aside0.mk (items_step hc' ho)
      have HL := Aside0.mk hlt
      rw [HE.out] at HT
      obtain ⟨fn, tmps, assign, body, hy, hR⟩ := hY pre ((i : Int), s.extract i (i + 1)) wr hJ (by rw [HT.out]; simp) (by rw [HT.out]; simp)
      have HY := Aside0.mk hY
      have w1_ : wrap64 ((i : Int) + 1) = ((i + 1 : Nat) : Int) := by have := HS.out; unfold wrap64; omega
      have w2_ : IntKind.i64.wrap ((i : Int) + 1) = ((i + 1 : Nat) : Int) := by have := HS.out; rw [IntKind.wrap_i64]; omega
      have q3 : ((i : Int) + 1 ≤ (s.size : Int)) = True := eq_true (by omega)
      have q4 : (i + 1 ≤ s.size) = True := eq_true (by omega)
      clear h0 h1 hY hx ho hc' HE
      dsimp only at hy
      have hsl : ∀ wx : World, (Instr.slice 9 (.string s) (some (.int .i64 (i : Int))) (some (.int .i64 ((i : Int) + 1))) none).run Tryd.prog wx = .ok (.string (s.extract i (i + 1))) wx := fun wx => by
        have := run_slice_string (P := Tryd.prog) wx 9 s .i64 .i64 (i : Int) ((i : Int) + 1) Tryd.underlying9 (by omega) (by omega) (by have := HL.out; omega)
        rwa [Int.toNat_natCast, show ((i : Int) + 1).toNat = i + 1 by omega] at this
      gi_wp2
      clear hsl
      refine hR.mono ?_
      rintro e W3 (⟨rfl, hJ3, hk3⟩ | ⟨rfl, hJx3⟩)
      · have hc3 := (hk3.cell (p := ⟨Bn, 0, none⟩) hB).trans hc
        gi_wp2
        go_roundw
        case rel => exact ⟨i + 1, pre ++ [((i : Int), s.extract i (i + 1))], rfl, ⟨by have := HL.out; omega⟩, ⟨by rw [HT.out]; simp⟩, hJ3, hc3⟩
        case measure => have := HL.out; simp [intOf]; omega
      · gi_wp2
        refine bodyPost_ret (results_none rfl _ _ _) rfl ?_
        exact ⟨⟨_, rfl⟩, .inr ⟨pre ++ [((i : Int), s.extract i (i + 1))], ⟨items s (i + 1), by rw [HT.out]; simp⟩, hJx3⟩⟩
    have f1 : ((s[i].toNat : Int) != 1) = true := by rw [bne_iff_ne]; intro h; exact h1 (UInt8.toNat_inj.1 (by show s[i].toNat = 1; omega))
    have f2 : (s[i].toNat != 1) = true := by rw [bne_iff_ne]; intro h; exact h1 (UInt8.toNat_inj.1 h)
    have hmx : Tryd.prog.follows .mixedOrders = true := by kernel_rfl
    have hc' : i < (bl s).length ∧ (bl s).getD i 0 ≠ 0 := ⟨by rw [bl_length]; exact hlt, by rw [hx]; exact h0⟩
    have w1_ : wrap64 ((i : Int) + 1) = (i : Int) + 1 := by have := HS.out; unfold wrap64; omega
    have w2_ : IntKind.i64.wrap ((i : Int) + 1) = (i : Int) + 1 := by have := HS.out; rw [IntKind.wrap_i64]; omega
    have HL := Aside0.mk hlt
    by_cases hend : i + 1 = s.size
    · have g1 : (((i : Int) + 1) == (s.size : Int)) = true := by rw [beq_iff_eq]; omega
      have g2 : ((i + 1) == s.size) = true := by rw [beq_iff_eq]; exact hend
      have ho : optLen (bl s) i = none := by unfold optLen; rw [hx, if_neg h1, if_pos (.inl (by rw [bl_length]; exact hend))]
      have HE := Aside0.mk (items_bad hc' ho)
      rw [HE.out] at HT
      obtain ⟨fn, tmps, assign, body, hy, hR⟩ := hY pre ((-1 : Int), (⟨#[]⟩ : ByteArray)) wr.drew (hA _ _ 1 hJ) (by rw [HT.out]; simp) (by rw [HT.out]; simp)
      dsimp only at hy
      clear h0 h1 hY hx ho hc' HE hend
      gi_wp2
      refine wpIn_wide.2 ?_
      go_region
      gi_wp2
      refine hR.mono ?_
      rintro e W3 (⟨rfl, hJ3, hk3⟩ | ⟨rfl, hJx3⟩)
      · gi_wp2
        refine bodyPost_ret (results_none rfl _ _ _) rfl ?_
        exact ⟨⟨_, rfl⟩, .inl ⟨pre ++ [(-1, ⟨#[]⟩)], by rw [HT.out], hJ3⟩⟩
      · gi_wp2
        refine bodyPost_ret (results_none rfl _ _ _) rfl ?_
        exact ⟨⟨_, rfl⟩, .inr ⟨pre ++ [(-1, ⟨#[]⟩)], by rw [HT.out]; exact List.prefix_refl _, hJx3⟩⟩
    have hl2 : i + 1 < s.size := by omega
    have g1 : (((i : Int) + 1) == (s.size : Int)) = false := by rw [beq_eq_false_iff_ne]; omega
    have g2 : ((i + 1) == s.size) = false := by rw [beq_eq_false_iff_ne]; exact hend
    obtain ⟨m, hm⟩ : ∃ m : Nat, m = s[i + 1].toNat := ⟨_, rfl⟩
    have hx1 : ((bl s).getD (i + 1) 0).toNat = m := by
      rw [hm]; simp [List.getD_eq_getElem?_getD, List.getElem?_eq_getElem (show i + 1 < (bl s).length by rw [bl_length]; exact hl2)]; rfl
    have HM := Aside0.mk (show m < 256 by rw [hm]; exact s[i + 1].toNat_lt)
    have hix : ∀ wx : World, (Instr.index 9 (.string s) (.int .i64 ((i : Int) + 1))).run Tryd.prog wx = .ok (.int .u8 (m : Int)) wx := fun wx => by
      rw [run_index_string (P := Tryd.prog) (w := wx) 9 s .i64 ((i : Int) + 1) Tryd.underlying9, dif_pos ⟨by omega, by omega⟩, hm]
      congr 1
    have HEND := Aside0.mk hend
    clear hm hend
    by_cases hm2 : m < 2
    · have g3 : decide ((m : Int) < 2) = true := decide_eq_true (by omega)
      have g4 : decide (m < 2) = true := decide_eq_true hm2
      have ho : optLen (bl s) i = none := by unfold optLen; rw [hx, if_neg h1, if_pos (.inr (.inl (by rw [hx1]; exact hm2)))]
      have HE := Aside0.mk (items_bad hc' ho)
      rw [HE.out] at HT
      obtain ⟨fn, tmps, assign, body, hy, hR⟩ := hY pre ((-1 : Int), (⟨#[]⟩ : ByteArray)) wr.drew (hA _ _ 1 hJ) (by rw [HT.out]; simp) (by rw [HT.out]; simp)
      dsimp only at hy
      clear h0 h1 hY hx ho hc' HE hm2 hx1
      gi_wp2
      refine wpIn_wide.2 ?_
      go_region
      gi_wp2
      refine hR.mono ?_
      rintro e W3 (⟨rfl, hJ3, hk3⟩ | ⟨rfl, hJx3⟩)
      · gi_wp2
        refine bodyPost_ret (results_none rfl _ _ _) rfl ?_
        exact ⟨⟨_, rfl⟩, .inl ⟨pre ++ [(-1, ⟨#[]⟩)], by rw [HT.out], hJ3⟩⟩
      · gi_wp2
        refine bodyPost_ret (results_none rfl _ _ _) rfl ?_
        exact ⟨⟨_, rfl⟩, .inr ⟨pre ++ [(-1, ⟨#[]⟩)], by rw [HT.out]; exact List.prefix_refl _, hJx3⟩⟩
    have g3 : decide ((m : Int) < 2) = false := decide_eq_false (by omega)
    have g4 : decide (m < 2) = false := decide_eq_false hm2
    have HQ : i + m ≤ 140737488351232 + 256 := Nat.add_le_add (Nat.le_trans (Nat.le_of_lt HL.out) HS.out) (Nat.le_of_lt HM.out)
    have w5_ := (wr_one m HM.out).1
    have w6_ := (wr_one m HM.out).2
    have w3_ := (wr_two i m HQ).1
    have w4_ := (wr_two i m HQ).2
    by_cases hms : s.size < i + m
    · have g5 : decide ((s.size : Int) < (i : Int) + (m : Int)) = true := decide_eq_true (lt_two hms)
      have g6 : decide (s.size < i + m) = true := decide_eq_true hms
      have ho : optLen (bl s) i = none := by unfold optLen; rw [hx, if_neg h1, if_pos (.inr (.inr (by rw [hx1, bl_length]; exact hms)))]
      have HE := Aside0.mk (items_bad hc' ho)
      rw [HE.out] at HT
      obtain ⟨fn, tmps, assign, body, hy, hR⟩ := hY pre ((-1 : Int), (⟨#[]⟩ : ByteArray)) wr.drew (hA _ _ 1 hJ) (by rw [HT.out]; simp) (by rw [HT.out]; simp)
      dsimp only at hy
      clear h0 h1 hY hx ho hc' HE hm2 hx1 hms
      gi_wp2
      refine wpIn_wide.2 ?_
      go_region
      gi_wp2
      refine hR.mono ?_
      rintro e W3 (⟨rfl, hJ3, hk3⟩ | ⟨rfl, hJx3⟩)
      · gi_wp2
        refine bodyPost_ret (results_none rfl _ _ _) rfl ?_
        exact ⟨⟨_, rfl⟩, .inl ⟨pre ++ [(-1, ⟨#[]⟩)], by rw [HT.out], hJ3⟩⟩
      · gi_wp2
        refine bodyPost_ret (results_none rfl _ _ _) rfl ?_
        exact ⟨⟨_, rfl⟩, .inr ⟨pre ++ [(-1, ⟨#[]⟩)], by rw [HT.out]; exact List.prefix_refl _, hJx3⟩⟩
    have g5 : decide ((s.size : Int) < (i : Int) + (m : Int)) = false := decide_eq_false (not_lt_two hms)
    have g6 : decide (s.size < i + m) = false := decide_eq_false hms
    have ho : optLen (bl s) i = some m := by unfold optLen; rw [hx, if_neg h1, hx1, if_neg (by rw [bl_length]; exact fun h => h.elim HEND.out (fun h => h.elim hm2 hms))]
    have HE := Aside0.mk (items_step hc' ho)
    rw [HE.out] at HT
    obtain ⟨fn, tmps, assign, body, hy, hR⟩ := hY pre ((i : Int), s.extract i (i + m)) wr.drew (hA _ _ 1 hJ) (by rw [HT.out]; simp) (by rw [HT.out]; simp)
    dsimp only at hy
    have HN := Aside0.mk (show 2 ≤ m ∧ i + m ≤ s.size from ⟨Nat.le_of_not_lt hm2, Nat.le_of_not_lt hms⟩)
    have hsl : ∀ wx : World, (Instr.slice 9 (.string s) (some (.int .i64 (i : Int))) (some (.int .i64 ((i : Int) + (m : Int)))) none).run Tryd.prog wx = .ok (.string (s.extract i (i + m))) wx := fun wx => by
      have := run_slice_string (P := Tryd.prog) wx 9 s .i64 .i64 (i : Int) ((i : Int) + (m : Int)) Tryd.underlying9 (Int.natCast_nonneg _) (le_two i m) (le_two' HN.out.2)
      rwa [Int.toNat_natCast, show ((i : Int) + (m : Int)).toNat = i + m from toNat_two i m] at this
    clear h0 h1 hY hx ho hc' HE hm2 hx1 hms
    gi_wp2
    refine wpIn_wide.2 ?_
    go_region
    have hc2 : wr.drew.cell? ⟨Bn, 0, none⟩ = some (.string s) := hc
    gi_wp2
    clear hsl hix
    refine hR.mono ?_
    rintro e W3 (⟨rfl, hJ3, hk3⟩ | ⟨rfl, hJx3⟩)
    · have hc3 := (hk3.cell (p := ⟨Bn, 0, none⟩) hB).trans hc2
      gi_wp2
      go_roundw
      case rel => exact ⟨i + m, pre ++ [((i : Int), s.extract i (i + m))], by simp, ⟨HN.out.2⟩, ⟨by rw [HT.out]; simp⟩, hJ3, hc3⟩
      case measure => simp only [intOf]; exact less_two HN.out.1 HL.out
    · gi_wp2
      refine bodyPost_ret (results_none rfl _ _ _) rfl ?_
      exact ⟨⟨_, rfl⟩, .inr ⟨pre ++ [((i : Int), s.extract i (i + m))], ⟨items s (i + m), by rw [HT.out]; simp⟩, hJx3⟩⟩
abbrev ItemR := { x : Int × ByteArray // 0 < x.2.size }
abbrev encR (x : ItemR) : Array Value := #[.int .i64 x.1.1, .string x.1.2]
abbrev encI (x : Int × ByteArray) : Array Value := #[.int .i64 x.1, .string x.2]
theorem walk_stops (n : Nat) (hn : 1 ≤ n) (Bn n₀ : Nat) (s : ByteArray) (hs : s.size ≤ 140737488351232) (w : World) (hB : Bn < n₀) (hn₀ : n₀ ≤ w.heap.size) (hc : w.cell? ⟨Bn, 0, none⟩ = some (.string s)) :
    SeqStopsK Fence.wide n Tryd.prog 147 #[.pointer (some ⟨Bn, 0, none⟩)] encI (Below n₀) (fun ys => ys = items s 0) (fun pre => pre <+: items s 0) (items s 0).length w := fun l J Jx W hW hJ _ hY h0 =>
  walk1_in n hn l Bn n₀ s hs J Jx (fun p W k h => hJ p W (W.drewN k) none h (grown_drewN (grown_refl W none) k) (fun r e => by cases e)) (fun pre x W h1 h2 _ => hY pre x W h1 h2) W hB ((hW.cell (p := ⟨Bn, 0, none⟩) (Nat.lt_of_lt_of_le hB hn₀)).trans hc) h0
end Go.Proofs.YtcmalglippmocaaDoor.G
end

section
namespace Go.Proofs.YtcmalglippmocaaDoor.G
open Go.RowKit Go.Shelf Go.Proofs.YtcmalglippmocaaDoorW.PrintWords Go.Proofs.YtcmalglippmocaaDoorW.PrintLast Go.Proofs.YtcmalglippmocaaDoorW.PrintMore Go.Proofs.YtcmalglippmocaaDoor.Pal
attribute [local go_sem] Oper.semAt_some
def hasNeg (l : List (Int × ByteArray)) : Prop := ∃ x ∈ l, x.1 < 0
def noNeg (l : List (Int × ByteArray)) : Prop := ∀ x ∈ l, ¬ x.1 < 0
set_option maxRecDepth 100000 in
set_option maxHeartbeats 4000000 in
theorem tcp_Right.calls (s : ByteArray) (r : Bool) (w : World) (h : tcp_Right.f s = some r) :
    Calls Tryd.prog 144 #[.string s] w fun e w' => e = .returned (.bool r) ∧ Below w.heap.size w w' := by
  unfold tcp_Right.f at h
  split at h
  case isFalse => exact absurd h (by simp)
  rename_i hs
  have hr := Option.some.inj h
  clear h
  refine (callsIn_wide (n := 4)).1 ?_
  refine callsIn_of_wp_marks Tryd.func144 rfl trivial ?_ rfl
  simp only [Tryd.ntmps144, List.size_toArray, List.length_cons, List.length_nil, Nat.reduceAdd, Nat.reduceSub, Array.replicate_succ, Array.replicate_zero, List.push_toArray, List.append_toArray, List.nil_append, List.cons_append]
  gi_wp2_with (refine ⟨trivial, ?_⟩; gi_at_call 146; refine (walk_in Fence.wide _ trivial rfl s _).mono ?_; rintro e w' ⟨rfl, rfl⟩)
  have hc0 : ((w.alloc (.cells #[.bool false] 4)).alloc (.cells #[.string s] 9)).cell? ⟨w.heap.size + 1, 0, none⟩ = some (.string s) := by
    have := (Blk.new (w.alloc (.cells #[.bool false] 4)) 9 #[.string s]).cell 0 _ rfl
    rwa [World.size_alloc] at this
  have hb0 := (Blk.new w 4 #[.bool false]).alloc (.cells #[.string s] 9)
  have hB0 : Below w.heap.size w ((w.alloc (.cells #[.bool false] 4)).alloc (.cells #[.string s] 9)) := ((Below.refl _ w).alloc (Nat.le_refl _) _).alloc (by simp) _
  refine wpIn_rangeFunc_ownF (α := Int × ByteArray) (encs := encI) rfl (show 1 ≤ 4 by decide) (gf := 147) (lb := #[.pointer (some ⟨w.heap.size + 1, 0, none⟩)]) rfl trivial (enters_of Tryd.func147 (by kernel_rfl) rfl)
    (walk_stops 3 (by decide) (w.heap.size + 1) (w.heap.size + 2) s hs _ (by omega) (by simp) hc0) belowK_t (belowK_b (by simp)) (Below.refl _ _) (fun _ => rfl)
    (fun pre W => (W.cell? ⟨w.heap.size, 0, none⟩ = some (.bool false) ∧ W.frozen? ⟨w.heap.size, 0, none⟩ = false ∧ noNeg pre) ∧ Below w.heap.size w W)
    (fun c pre W => (c = .ret ∧ W.cell? ⟨w.heap.size, 0, none⟩ = some (.bool false) ∧ hasNeg pre) ∧ Below w.heap.size w W)
    (OwnFrom.and (Own.from (fun s A B row hs hg hr => ⟨cell_kept hs.1 hg hr, (frozen_kept hs.1 hg hr).trans hs.2.1, hs.2.2⟩) _) (ownFrom_below (Nat.le_refl _) (by simp; omega)))
    (fun c => OwnFrom.and (Own.from (fun s A B row hs hg hr => ⟨hs.1, cell_kept hs.2.1 hg hr, hs.2.2⟩) _) (ownFrom_below (Nat.le_refl _) (by simp; omega)))
    ⟨⟨hb0.cell 0 _ rfl, hb0.free 0, fun x hx => absurd hx (by simp)⟩, hB0⟩
    (fun x => { tmps := #[.string s, undef, .pointer (some ⟨w.heap.size, 0, none⟩), .int .i64 x.1, .string s, .func (.func 147) #[] #[.pointer (some ⟨w.heap.size + 1, 0, none⟩)], .int .i64 x.1, .string x.2, undef, undef], defers := [] }) ?assign ?body ?done ?stop
  case assign =>
    intro l x W K hK
    gi_wp2
    exact hK
  case body =>
    rintro l pre x W ⟨⟨hcl, hfr, hall⟩, hB⟩ _
    by_cases hx : x.1 < 0
    · have d1 : decide (x.1 < 0) = true := decide_eq_true hx
      have HX := Aside0.mk (show hasNeg (pre ++ [x]) from ⟨x, by simp, hx⟩)
      clear hx
      gi_wp2
      exact ⟨KeepsOthers.setCell _ _ _, ⟨rfl, World.cell?_setCell_same' _ _ _ (by rw [hcl]; rfl), HX.out⟩, hB.setCell (p := ⟨w.heap.size, 0, none⟩) (Nat.le_refl _) _⟩
    · have d1 : decide (x.1 < 0) = false := decide_eq_false hx
      have HX := Aside0.mk (show noNeg (pre ++ [x]) from fun y hy => by rcases List.mem_append.1 hy with hy | hy; exact hall y hy; rw [List.mem_singleton.1 hy]; exact hx)
      clear hx
      gi_wp2
      exact ⟨KeepsOthers.refl _, Below.refl _ _, ⟨hcl, hfr, HX.out⟩, hB⟩
  case done =>
    rintro D ys W hD rfl ⟨⟨hcl, hfr, hall⟩, hB⟩ hK
    have hrt : rightO (bl s) = true := (items_all s).mpr hall
    gi_wp2
    have hK' := (KeepsOthers.setCell W ⟨w.heap.size, 0, none⟩ (.bool true)).same D _ hK rfl
    refine ⟨by simp, .inl ⟨_, _, rfl, run_takeDeferred hK', ?_⟩⟩
    have hc5 := cell_kept (World.cell?_setCell_same' W ⟨w.heap.size, 0, none⟩ (.bool true) (by rw [hcl]; rfl)) (grownBy_putObj' _ D (.deferred none)) (fun r e => by cases e; exact ⟨_, hK', rfl⟩)
    refine ⟨.bool true, ?_, by rw [← hr, hrt], (hB.setCell (p := ⟨w.heap.size, 0, none⟩) (Nat.le_refl _) _).trans (belowK_b (w := w) (Nat.le_refl _) _ D _ _ (by simp at hD; omega) hK' rfl rfl)⟩
    simp [results, Tryd.f144, go_sem, hc5]
  case stop =>
    rintro D c pre W hD hSp ⟨⟨rfl, hcl, x, hx, hx0⟩, hB⟩ hK
    have hrt : rightO (bl s) = false := by
      cases hq : rightO (bl s) with
      | false => rfl
      | true => exact absurd hx0 ((items_all s).mp hq x (hSp.subset hx))
    gi_wp2
    refine ⟨by simp, .inl ⟨_, _, rfl, run_takeDeferred hK, ?_⟩⟩
    have hc5 := cell_kept hcl (grownBy_putObj' _ D (.deferred none)) (fun r e => by cases e; exact ⟨_, hK, rfl⟩)
    refine ⟨.bool false, ?_, by rw [← hr, hrt], hB.trans (belowK_b (w := w) (Nat.le_refl _) _ D _ _ (by simp at hD; omega) hK rfl rfl)⟩
    simp [results, Tryd.f144, go_sem, hc5]
end Go.Proofs.YtcmalglippmocaaDoor.G
end

section
namespace Go.Proofs.YtcmalglippmocaaDoor.Pure
theorem and_low (i : Nat) (hi : i ≤ 62) (x : Nat) (hx : x < 9223372036854775808) : Go.bits .and .i64 (x : Int) (((2 ^ i - 1 : Nat)) : Int) = ((x % 2 ^ i : Nat) : Int) := by
  have hp : 2 ^ i ≤ 2 ^ 62 := Nat.pow_le_pow_right (by decide) hi
  have h1 : 1 ≤ 2 ^ i := Nat.one_le_two_pow
  rw [Pal.i64_and x (2 ^ i - 1) hx (by omega), Nat.and_two_pow_sub_one_eq_mod]
theorem and15 (x : Nat) (hx : x < 65536) : Go.bits .and .i64 (x : Int) 15 = ((x % 16 : Nat) : Int) := and_low 4 (by decide) x (by omega)
theorem and1 (x : Nat) (hx : x < 65536) : Go.bits .and .i64 (x : Int) 1 = ((x % 2 : Nat) : Int) := and_low 1 (by decide) x (by omega)
theorem and8191 (x : Nat) (hx : x < 65536) : Go.bits .and .i64 (x : Int) 8191 = ((x % 8192 : Nat) : Int) := and_low 13 (by decide) x (by omega)
end Go.Proofs.YtcmalglippmocaaDoor.Pure
namespace Go.Proofs.YtcmalglippmocaaDoor.G
open Go.Proofs.YtcmalglippmocaaDoor.Pal
def hl4 (s : ByteArray) : Nat := 4 * (be (bl (s.extract 0 1)) % 16)
def ip4Err (s : ByteArray) : Int :=
  if s.size < 20 then 2 else if be (bl (s.extract 0 1)) / 16 = 4 then (if 20 ≤ hl4 s ∧ hl4 s ≤ s.size ∧ be (bl (s.extract 2 4)) = s.size then (if csum (bl (s.extract 0 (hl4 s))) = 0 then (if be (bl (s.extract 6 8)) / 32768 = 0 then 0 else 9) else 5) else 4) else 3
end Go.Proofs.YtcmalglippmocaaDoor.G
end

section
namespace Go.Proofs.YtcmalglippmocaaDoor.G
open Go.RowKit Go.Proofs.YtcmalglippmocaaDoorW.PrintWords Go.Proofs.YtcmalglippmocaaDoorW.PrintLast Go.Proofs.YtcmalglippmocaaDoorW.PrintMore Go.Proofs.YtcmalglippmocaaDoor.Pal

theorem TakeT.went (R : Nat) (s : ByteArray) (n m : Nat) (w : World) (h : Rd w R s n) (hm : n + m ≤ s.size) :
    Calls Tryd.prog 106 #[.pointer (some ⟨R, 0, none⟩), .int .i64 (m : Int)] w fun e w' => e = .returned (.string (s.extract n (n + m))) ∧ Went w w' R s (n + m) := by
  refine (Reader_Take.yes R s n m w h hm).mono ?_
  rintro e w' ⟨rfl, k, j, rfl⟩
  exact ⟨rfl, grown_drewN (World.grownBy.trans (grown_drewN (grown_refl w _) k) (grown_setCell _ _ _ _)) j, (((h.1.drewN k).set 1 (.int .i64 ((n + m : Nat) : Int))).drewN j), hm, h.2.2⟩
def VT (k : Nat) (s : ByteArray) (w w1 : World) (n : Nat) (cs : Array Value) (x : Int) : Prop :=
  Rd w1 (k + 5) s n ∧ Hp w1 [(k, 9, #[.string s]), (k + 1, 79, #[.int .i64 0, .int .i64 0, .int .u32 0, .int .u32 0, .int .i64 0, .int .i64 0, .int .i64 0, .string ⟨#[]⟩, .string ⟨#[]⟩]), (k + 2, 79, cs), (k + 3, 3, #[.int .i64 x]), (k + 4, 24, #[.int .i64 0])] ∧ Below k w w1
theorem VT.went {k : Nat} {s : ByteArray} {w w1 w2 : World} {n m : Nat} {cs : Array Value} {x : Int} (h : VT k s w w1 n cs x) (hw : Went w1 w2 (k + 5) s m) : VT k s w w2 m cs x :=
  ⟨hw.2, h.2.1.grown hw.1 (by simp), h.2.2.trans (below_of_grown hw.1 (by have := h.1.1.lt; omega) (by omega))⟩
theorem VT.put {k : Nat} {s : ByteArray} {w w1 : World} {n : Nat} {cs : Array Value} {x : Int} (h : VT k s w w1 n cs x) (j : Nat) (v : Value) : VT k s w (w1.setCell ⟨k + 2, j, none⟩ v) n (cs.setIfInBounds j v) x :=
  ⟨⟨h.1.1.other _ (by simp) _, h.1.2⟩, h.2.1.set (l1 := [_, _]) (l2 := [_, _]) j v (by simp) (by simp), h.2.2.setCell (by simp) _⟩
theorem VT.putSum {k : Nat} {s : ByteArray} {w w1 : World} {n : Nat} {cs : Array Value} {x : Int} (h : VT k s w w1 n cs x) (y : Int) : VT k s w (w1.setCell ⟨k + 3, 0, none⟩ (.int .i64 y)) n cs y :=
  ⟨⟨h.1.1.other _ (by simp) _, h.1.2⟩, h.2.1.set (l1 := [_, _, _]) (l2 := [_]) 0 (.int .i64 y) (by simp) (by simp), h.2.2.setCell (by simp) _⟩
theorem VT.drew {k : Nat} {s : ByteArray} {w w1 : World} {n : Nat} {cs : Array Value} {x : Int} (h : VT k s w w1 n cs x) : VT k s w w1.drew n cs x := ⟨h.1, h.2.1, h.2.2.drew⟩
theorem VT.step {k : Nat} {s : ByteArray} {w w1 w2 : World} {n : Nat} {cs : Array Value} {x : Int} (h : VT k s w w1 n cs x) (hb : Below w1.heap.size w1 w2) : VT k s w w2 n cs x :=
  ⟨⟨h.1.1.below hb h.1.1.lt, h.1.2⟩, h.2.1.below hb (fun y hy => (h.2.1 y hy).lt), h.2.2.trans (hb.mono (by have := h.1.1.lt; omega))⟩
theorem VT.facts {k : Nat} {s : ByteArray} {w w1 : World} {n : Nat} {cs : Array Value} {x : Int} (h : VT k s w w1 n cs x) :
    w1.cell? ⟨k, 0, none⟩ = some (.string s) ∧ (∀ j, w1.frozen? ⟨k + 2, j, none⟩ = false) ∧ (∀ j, w1.cell? ⟨k + 2, j, none⟩ = cs[j]?) ∧ w1.cell? ⟨k + 3, 0, none⟩ = some (.int .i64 x) ∧ w1.frozen? ⟨k + 3, 0, none⟩ = false :=
  ⟨h.2.1.head.cell 0 _ rfl, h.2.1.tail.tail.head.frees, h.2.1.tail.tail.head.cells, h.2.1.tail.tail.tail.head.cell 0 _ rfl, h.2.1.tail.tail.tail.head.free 0⟩
def zeroT : Array Value := #[.int .i64 0, .int .i64 0, .int .u32 0, .int .u32 0, .int .i64 0, .int .i64 0, .int .i64 0, .string ⟨#[]⟩, .string ⟨#[]⟩]
def finalT (s : ByteArray) : Array Value := #[(.int .i64 ((be (bl (s.extract 0 2)) : Nat) : Int)), (.int .i64 ((be (bl (s.extract 2 4)) : Nat) : Int)), (.int .u32 ((be (bl (s.extract 4 8)) : Nat) : Int)), (.int .u32 ((be (bl (s.extract 8 12)) : Nat) : Int)), (.int .i64 ((be (bl (s.extract 13 14)) : Nat) : Int)), (.int .i64 ((be (bl (s.extract 14 16)) : Nat) : Int)), (.int .i64 ((be (bl (s.extract 18 20)) : Nat) : Int)), (.string (s.extract 20 (ht s))), (.string (s.extract (ht s) s.size))]
theorem lessT (N : Nat) (h : 20 ≤ N) (h2 : N ≤ 60) : ∃ M : Nat, 20 + M = N ∧ ((N : Int) - 20) = (M : Int) ∧ wrap64 ((N : Int) - 20) = (M : Int) ∧ IntKind.i64.wrap ((N : Int) - 20) = (M : Int) := by
  refine ⟨N - 20, by omega, by omega, ?_, ?_⟩
  · unfold wrap64; omega
  · rw [IntKind.wrap_i64]; omega

set_option maxHeartbeats 8000000 in
set_option maxRecDepth 100000 in
theorem tcp_Get1.walk (k : Nat) (s : ByteArray) (w w1 : World) (h : VT k s w w1 0 zeroT 0) :
    Calls Tryd.prog 143 #[.pointer (some ⟨k + 5, 0, none⟩), .pointer (some ⟨k, 0, none⟩), .pointer (some ⟨k + 2, 0, none⟩), .pointer (some ⟨k + 3, 0, none⟩)] w1 fun e w2 => e = did (tcpErr s) ∧ ∃ n cs x, VT k s w w2 n cs x ∧ (tcpErr s = 0 → cs = finalT s ∧ x = ((be (bl (s.extract 16 18)) : Nat) : Int)) := by
  have HG := Aside0.mk h
  obtain ⟨c0, c1, c2, c3, c4⟩ := HG.out.facts
  clear h c1 c2 c3 c4
  go_enter Tryd.func143, Tryd.ntmps143
  by_cases h20 : s.size < 20
  · have he : tcpErr s = 2 := if_pos h20
    have d1 : decide ((20 : Int) ≤ (s.size : Int)) = false := decide_eq_false (by omega)
    have d2 : decide (20 ≤ s.size) = false := decide_eq_false (by omega)
    clear h20
    go_wp2_with fail
    refine (Reader_Need.no _ _ _).mono ?_
    rintro e w2 ⟨rfl, rfl⟩
    exact ⟨rfl, by rw [he]; rfl, _, _, _, HG.out, fun h0 => absurd (he.symm.trans h0) (by decide)⟩
  have d1 : decide ((20 : Int) ≤ (s.size : Int)) = true := decide_eq_true (by omega)
  have d2 : decide (20 ≤ s.size) = true := decide_eq_true (by omega)
  go_wp2_with fail
  refine (Reader_Need.yes _ _ _).mono ?_
  rintro e w2 ⟨rfl, rfl⟩
  have HX := Aside0.mk (show 20 ≤ s.size by omega)
  clear d1 d2 c0 h20
  go_wp2_with fail
  refine (Reader_U16.yes _ _ _ _ HG.out.1 (by have := HX.out; omega)).mono ?_
  rintro e w11 ⟨rfl, g1⟩
  replace HG := Aside0.mk (HG.out.went g1)
  clear g1
  go_wp2_with fail
  refine (Reader_U16.yes _ _ _ _ HG.out.1 (by have := HX.out; omega)).mono ?_
  rintro e w12 ⟨rfl, g1⟩
  replace HG := Aside0.mk (HG.out.went g1)
  clear g1
  go_wp2_with fail
  refine (Reader_U32.yes _ _ _ _ HG.out.1 (by have := HX.out; omega)).mono ?_
  rintro e w13 ⟨rfl, g1⟩
  replace HG := Aside0.mk (HG.out.went g1)
  clear g1
  go_wp2_with fail
  refine (Reader_U32.yes _ _ _ _ HG.out.1 (by have := HX.out; omega)).mono ?_
  rintro e w14 ⟨rfl, g1⟩
  replace HG := Aside0.mk (HG.out.went g1)
  clear g1
  obtain ⟨c0, c1, c2, c3, c4⟩ := HG.out.facts
  simp only [zeroT] at c2
  clear c0 c3 c4
  go_wp2_with fail
  clear c1 c2
  replace HG := Aside0.mk ((((HG.out.put 0 (.int .i64 ((be (bl (s.extract 0 2)) : Nat) : Int))).put 1 (.int .i64 ((be (bl (s.extract 2 4)) : Nat) : Int))).put 2 (.int .u32 ((be (bl (s.extract 4 8)) : Nat) : Int))).put 3 (.int .u32 ((be (bl (s.extract 8 12)) : Nat) : Int)))
  simp only [zeroT, List.setIfInBounds_toArray, List.set_cons_zero, List.set_cons_succ] at HG
  generalize ((((w14.setCell ⟨k + 2, 0, none⟩ (.int .i64 ((be (bl (s.extract 0 2)) : Nat) : Int))).setCell ⟨k + 2, 1, none⟩ (.int .i64 ((be (bl (s.extract 2 4)) : Nat) : Int))).setCell ⟨k + 2, 2, none⟩ (.int .u32 ((be (bl (s.extract 4 8)) : Nat) : Int))).setCell ⟨k + 2, 3, none⟩ (.int .u32 ((be (bl (s.extract 8 12)) : Nat) : Int))) = wa at HG ⊢
  refine (Reader_U8.yes _ _ _ _ HG.out.1 (by have := HX.out; omega)).mono ?_
  rintro e wb ⟨rfl, g1⟩
  replace HG := Aside0.mk (HG.out.went g1)
  clear g1
  have hB : be (bl (s.extract 12 13)) < 256 := be_lt_of _ 1 (by rw [bl_length, ByteArray.size_extract]; have := HX.out; omega)
  have m1 : Go.bits .and .i64 ((be (bl (s.extract 12 13)) : Nat) : Int) 15 = ((be (bl (s.extract 12 13)) % 16 : Nat) : Int) := by exact Pure.and15 _ (by omega)
  have m2 : wrap64 ((ht s : Nat) : Int) = ((ht s : Nat) : Int) := by unfold ht wrap64; omega
  have m3 : IntKind.i64.wrap ((ht s : Nat) : Int) = ((ht s : Nat) : Int) := by rw [IntKind.wrap_i64]; unfold ht; omega
  have m4 : (((be (bl (s.extract 12 13)) : Nat) : Int) / 16 * 4) = ((ht s : Nat) : Int) := by unfold ht; omega
  have HN := Aside0.mk (show ht s ≤ 60 by unfold ht; omega)
  have c0 := HG.out.facts.1
  by_cases hl : 20 ≤ ht s
  case neg =>
    have l1 : decide ((20 : Int) ≤ ((ht s : Nat) : Int)) = false := decide_eq_false (by omega)
    have l2 : decide (20 ≤ ht s) = false := decide_eq_false hl
    have he : tcpErr s = 4 := by unfold tcpErr; rw [if_neg (by have := HX.out; omega), if_neg (fun h => hl h.1)]
    clear hl hB
    go_wp2_with fail
    refine (Reader_Need.no _ _ _).mono ?_
    rintro e wc ⟨rfl, rfl⟩
    exact ⟨rfl, by rw [he]; rfl, _, _, _, HG.out, fun h0 => absurd (he.symm.trans h0) (by decide)⟩
  have l1 : decide ((20 : Int) ≤ ((ht s : Nat) : Int)) = true := decide_eq_true (by omega)
  have l2 : decide (20 ≤ ht s) = true := decide_eq_true hl
  by_cases hm : ht s ≤ s.size
  case neg =>
    have m5 : decide (((ht s : Nat) : Int) ≤ (s.size : Int)) = false := decide_eq_false (by omega)
    have m6 : decide (ht s ≤ s.size) = false := decide_eq_false hm
    have he : tcpErr s = 4 := by unfold tcpErr; rw [if_neg (by have := HX.out; omega), if_neg (fun h => hm h.2)]
    clear hl hB hm
    go_wp2_with fail
    refine (Reader_Need.no _ _ _).mono ?_
    rintro e wc ⟨rfl, rfl⟩
    exact ⟨rfl, by rw [he]; rfl, _, _, _, HG.out, fun h0 => absurd (he.symm.trans h0) (by decide)⟩
  have m5 : decide (((ht s : Nat) : Int) ≤ (s.size : Int)) = true := decide_eq_true (by omega)
  have m6 : decide (ht s ≤ s.size) = true := decide_eq_true hm
  have HM := Aside0.mk (show 20 ≤ ht s ∧ ht s ≤ s.size from ⟨hl, hm⟩)
  clear hl hm
  go_wp2_with fail
  refine (Reader_Need.yes _ _ _).mono ?_
  rintro e wc ⟨rfl, rfl⟩
  clear l1 l2 m5 m6 c0
  by_cases hf : be (bl (s.extract 12 13)) % 16 = 0
  case neg =>
    have z1 : (((be (bl (s.extract 12 13)) % 16 : Nat) : Int) == 0) = false := by rw [beq_eq_false_iff_ne]; omega
    have z2 : (((be (bl (s.extract 12 13)) : Nat) : Int) % 16 == 0) = false := by rw [beq_eq_false_iff_ne]; omega
    have z3 : (be (bl (s.extract 12 13)) % 16 == 0) = false := by rw [beq_eq_false_iff_ne]; exact hf
    have he : tcpErr s = 9 := by unfold tcpErr; rw [if_neg (by have := HX.out; omega), if_pos HM.out, if_neg hf]
    clear hf hB
    go_wp2_with fail
    refine (Reader_Need.no _ _ _).mono ?_
    rintro e wd ⟨rfl, rfl⟩
    exact ⟨rfl, by rw [he]; rfl, _, _, _, HG.out, fun h0 => absurd (he.symm.trans h0) (by decide)⟩
  have z1 : (((be (bl (s.extract 12 13)) % 16 : Nat) : Int) == 0) = true := by rw [beq_iff_eq]; omega
  have z2 : (((be (bl (s.extract 12 13)) : Nat) : Int) % 16 == 0) = true := by rw [beq_iff_eq]; omega
  have z3 : (be (bl (s.extract 12 13)) % 16 == 0) = true := by rw [beq_iff_eq]; exact hf
  have HF := Aside0.mk hf
  clear hf
  go_wp2_with fail
  refine (Reader_Need.yes _ _ _).mono ?_
  rintro e wd ⟨rfl, rfl⟩
  clear z1 z2 z3 m1 m2 m3 m4 hB
  go_wp2_with fail
  refine (Reader_U8.yes _ _ _ _ HG.out.1 (by have := HX.out; omega)).mono ?_
  rintro e w15 ⟨rfl, g1⟩
  replace HG := Aside0.mk (HG.out.went g1)
  clear g1
  go_wp2_with fail
  refine (Reader_U16.yes _ _ _ _ HG.out.1 (by have := HX.out; omega)).mono ?_
  rintro e w16 ⟨rfl, g1⟩
  replace HG := Aside0.mk (HG.out.went g1)
  clear g1
  obtain ⟨c0, c1, c2, c3, c4⟩ := HG.out.facts
  clear c0 c3 c4
  go_wp2_with fail
  clear c1 c2
  replace HG := Aside0.mk ((HG.out.put 4 (.int .i64 ((be (bl (s.extract 13 14)) : Nat) : Int))).put 5 (.int .i64 ((be (bl (s.extract 14 16)) : Nat) : Int)))
  simp only [zeroT, List.setIfInBounds_toArray, List.set_cons_zero, List.set_cons_succ] at HG
  generalize ((w16.setCell ⟨k + 2, 4, none⟩ (.int .i64 ((be (bl (s.extract 13 14)) : Nat) : Int))).setCell ⟨k + 2, 5, none⟩ (.int .i64 ((be (bl (s.extract 14 16)) : Nat) : Int))) = we at HG ⊢
  refine (Reader_U16.yes _ _ _ _ HG.out.1 (by have := HX.out; omega)).mono ?_
  rintro e wf ⟨rfl, g1⟩
  replace HG := Aside0.mk (HG.out.went g1)
  clear g1
  go_wp2_with fail
  refine (Reader_U16.yes _ _ _ _ HG.out.1 (by have := HX.out; omega)).mono ?_
  rintro e w17 ⟨rfl, g1⟩
  replace HG := Aside0.mk (HG.out.went g1)
  clear g1
  obtain ⟨c0, c1, c2, c3, c4⟩ := HG.out.facts
  clear c0
  obtain ⟨M, hM, e1, e2, e3⟩ := lessT (ht s) HM.out.1 HN.out
  have HS := Aside0.mk hM
  have HS2 := Aside0.mk e2
  clear hM e1 e2 e3
  go_wp2_with fail
  rw [HS2.out]
  clear c1 c2 c3 c4
  replace HG := Aside0.mk ((HG.out.putSum ((be (bl (s.extract 16 18)) : Nat) : Int)).put 6 (.int .i64 ((be (bl (s.extract 18 20)) : Nat) : Int)))
  simp only [zeroT, List.setIfInBounds_toArray, List.set_cons_zero, List.set_cons_succ] at HG
  generalize ((w17.setCell ⟨k + 3, 0, none⟩ (.int .i64 ((be (bl (s.extract 16 18)) : Nat) : Int))).setCell ⟨k + 2, 6, none⟩ (.int .i64 ((be (bl (s.extract 18 20)) : Nat) : Int))) = wg at HG ⊢
  refine (TakeT.went _ _ _ M _ HG.out.1 (by have := HM.out; have := HS.out; omega)).mono ?_
  rintro e wh ⟨rfl, g1⟩
  replace HG := Aside0.mk (HG.out.went g1)
  clear g1
  go_wp2_with fail
  refine (Reader_Rest.calls _ _ _ _ HG.out.1).mono ?_
  rintro e wi ⟨rfl, g1⟩
  replace HG := Aside0.mk (HG.out.went g1)
  clear g1
  have HT := Aside0.mk (show 20 + M = ht s from HS.out)
  simp only [Nat.reduceAdd, HT.out] at HG ⊢
  obtain ⟨c0, c1, c2, c3, c4⟩ := HG.out.facts
  clear c0 c3 c4
  go_wp2_with fail
  clear c1 c2
  replace HG := Aside0.mk ((HG.out.put 7 (.string (s.extract 20 (ht s)))).put 8 (.string (s.extract (ht s) s.size)))
  simp only [zeroT, List.setIfInBounds_toArray, List.set_cons_zero, List.set_cons_succ] at HG
  generalize ((wi.setCell ⟨k + 2, 7, none⟩ (.string (s.extract 20 (ht s)))).setCell ⟨k + 2, 8, none⟩ (.string (s.extract (ht s) s.size))) = wj at HG ⊢
  refine (tcp_Right.calls (s.extract 20 (ht s)) (rightO (bl (s.extract 20 (ht s)))) _ (Pure.right_is _ (by simp only [ByteArray.size_extract]; have := HN.out; omega))).mono ?_
  rintro e wk ⟨rfl, g1⟩
  replace HG := Aside0.mk (HG.out.step g1)
  clear g1
  by_cases hr : rightO (bl (s.extract 20 (ht s))) = true
  case neg =>
    have he : tcpErr s = 4 := by unfold tcpErr; rw [if_neg (by have := HX.out; omega), if_pos HM.out, if_pos HF.out, if_neg hr]
    rw [Bool.eq_false_iff.mpr hr]
    clear hr
    go_wp2_with fail
    refine (Reader_Need.no _ _ _).mono ?_
    rintro e wl ⟨rfl, rfl⟩
    exact ⟨rfl, by rw [he]; rfl, _, _, _, HG.out, fun h0 => absurd (he.symm.trans h0) (by decide)⟩
  have he : tcpErr s = 0 := by unfold tcpErr; rw [if_neg (by have := HX.out; omega), if_pos HM.out, if_pos HF.out, if_pos hr]
  have HE := Aside0.mk he
  rw [hr]
  clear hr he
  go_wp2_with fail
  refine (Reader_Need.yes _ _ _).mono ?_
  rintro e wl ⟨rfl, rfl⟩
  go_wp2
  go_end0
  refine ⟨by rw [HE.out]; rfl, _, _, _, HG.out, fun _ => ⟨?_, rfl⟩⟩
  simp only [finalT]
end Go.Proofs.YtcmalglippmocaaDoor.G
end

section
namespace Go.Proofs.YtcmalglippmocaaDoor.G
open Go.RowKit Go.Proofs.YtcmalglippmocaaDoorW.PrintWords Go.Proofs.YtcmalglippmocaaDoorW.PrintLast Go.Proofs.YtcmalglippmocaaDoorW.PrintMore Go.Proofs.YtcmalglippmocaaDoor.Pal
def VRT (k : Nat) (s : ByteArray) (w w1 : World) : Prop :=
  ∃ cs x, Hp w1 [(k, 9, #[.string s]), (k + 1, 79, #[.int .i64 0, .int .i64 0, .int .u32 0, .int .u32 0, .int .i64 0, .int .i64 0, .int .i64 0, .string ⟨#[]⟩, .string ⟨#[]⟩]), (k + 2, 79, cs), (k + 3, 3, #[.int .i64 x])] ∧ Below k w w1 ∧
    (tcpErr s = 0 → cs = finalT s ∧ x = ((be (bl (s.extract 16 18)) : Nat) : Int))
theorem VT.done {k : Nat} {s : ByteArray} {w w1 w2 : World} {n : Nat} {cs : Array Value} {x : Int} (h : VT k s w w1 n cs x) (hw : w1.grownBy w2 (some (k + 4)))
    (hx : tcpErr s = 0 → cs = finalT s ∧ x = ((be (bl (s.extract 16 18)) : Nat) : Int)) : VRT k s w w2 :=
  ⟨cs, x, Hp.grown (R := k + 4) (fun y hy => h.2.1 y (by simp at hy ⊢; rcases hy with rfl | rfl | rfl | rfl <;> simp)) hw (by simp), h.2.2.trans (below_of_grown hw (by have := h.1.1.lt; omega) (by omega)), hx⟩

set_option maxRecDepth 100000 in
theorem tcp_Get.reads (s : ByteArray) (hs : s.size ≤ 140737488351232) (w : World) :
    Calls Tryd.prog 63 #[.string s, .func (.func 143) #[] #[.pointer (some ⟨w.heap.size, 0, none⟩), .pointer (some ⟨w.heap.size + 1 + 1, 0, none⟩), .pointer (some ⟨w.heap.size + 1 + 1 + 1, 0, none⟩)]]
      ((((w.alloc (.cells #[.string s] 9)).alloc (.cells #[.int .i64 0, .int .i64 0, .int .u32 0, .int .u32 0, .int .i64 0, .int .i64 0, .int .i64 0, .string ⟨#[]⟩, .string ⟨#[]⟩] 79)).alloc (.cells #[.int .i64 0, .int .i64 0, .int .u32 0, .int .u32 0, .int .i64 0, .int .i64 0, .int .i64 0, .string ⟨#[]⟩, .string ⟨#[]⟩] 79)).alloc (.cells #[.int .i64 0] 3))
      fun e w' => e = .returned (.int .i64 (tcpErr s)) ∧ VRT w.heap.size s w w' := by
  obtain ⟨W, hW⟩ : ∃ W, W = ((((w.alloc (.cells #[.string s] 9)).alloc (.cells #[.int .i64 0, .int .i64 0, .int .u32 0, .int .u32 0, .int .i64 0, .int .i64 0, .int .i64 0, .string ⟨#[]⟩, .string ⟨#[]⟩] 79)).alloc (.cells #[.int .i64 0, .int .i64 0, .int .u32 0, .int .u32 0, .int .i64 0, .int .i64 0, .int .i64 0, .string ⟨#[]⟩, .string ⟨#[]⟩] 79)).alloc (.cells #[.int .i64 0] 3)) := ⟨_, rfl⟩
  have hk : W.heap.size = w.heap.size + 4 := by rw [hW]; simp
  have b0 : Blk W w.heap.size 9 #[.string s] := by rw [hW]; exact (((Blk.new w _ _).alloc _).alloc _).alloc _
  have b1 : Blk W (w.heap.size + 1) 79 #[.int .i64 0, .int .i64 0, .int .u32 0, .int .u32 0, .int .i64 0, .int .i64 0, .int .i64 0, .string ⟨#[]⟩, .string ⟨#[]⟩] := by
    rw [hW]
    have := Blk.new (w.alloc (.cells #[.string s] 9)) 79 #[.int .i64 0, .int .i64 0, .int .u32 0, .int .u32 0, .int .i64 0, .int .i64 0, .int .i64 0, .string ⟨#[]⟩, .string ⟨#[]⟩]
    rw [World.size_alloc] at this
    exact (this.alloc _).alloc _
  have b2 : Blk W (w.heap.size + 2) 79 #[.int .i64 0, .int .i64 0, .int .u32 0, .int .u32 0, .int .i64 0, .int .i64 0, .int .i64 0, .string ⟨#[]⟩, .string ⟨#[]⟩] := by
    rw [hW]
    have := Blk.new ((w.alloc (.cells #[.string s] 9)).alloc (.cells #[.int .i64 0, .int .i64 0, .int .u32 0, .int .u32 0, .int .i64 0, .int .i64 0, .int .i64 0, .string ⟨#[]⟩, .string ⟨#[]⟩] 79)) 79 #[.int .i64 0, .int .i64 0, .int .u32 0, .int .u32 0, .int .i64 0, .int .i64 0, .int .i64 0, .string ⟨#[]⟩, .string ⟨#[]⟩]
    rw [World.size_alloc, World.size_alloc] at this
    exact this.alloc _
  have b3 : Blk W (w.heap.size + 3) 3 #[.int .i64 0] := by
    rw [hW]
    have := Blk.new (((w.alloc (.cells #[.string s] 9)).alloc (.cells #[.int .i64 0, .int .i64 0, .int .u32 0, .int .u32 0, .int .i64 0, .int .i64 0, .int .i64 0, .string ⟨#[]⟩, .string ⟨#[]⟩] 79)).alloc (.cells #[.int .i64 0, .int .i64 0, .int .u32 0, .int .u32 0, .int .i64 0, .int .i64 0, .int .i64 0, .string ⟨#[]⟩, .string ⟨#[]⟩] 79)) 3 #[.int .i64 0]
    rw [World.size_alloc, World.size_alloc, World.size_alloc] at this
    exact this
  have hb : Below w.heap.size w W := by
    rw [hW]
    exact ((((Below.refl _ _).alloc (Nat.le_refl _) _).alloc (by simp) _).alloc (by simp; omega) _).alloc (by simp; omega) _
  rw [← hW]
  clear hW
  have hrd := readW_rd W s hs
  have hres := readW_res W s
  have hbl := readW_below W s
  rw [hk] at hrd hres hbl
  have hG : VT w.heap.size s w (readW W s) 0 zeroT 0 :=
    ⟨hrd, .cons (b0.below hbl (by omega)) (.cons (b1.below hbl (by omega)) (.cons (b2.below hbl (by omega)) (.cons (b3.below hbl (by omega)) (.cons hres (.nil _))))), hb.trans (hbl.mono (by omega))⟩
  have hrd' : ∀ Q : World → Prop, Calls Tryd.prog 143 (#[.pointer (some ⟨W.heap.size + 1, 0, none⟩)] ++ #[.pointer (some ⟨w.heap.size, 0, none⟩), .pointer (some ⟨w.heap.size + 1 + 1, 0, none⟩), .pointer (some ⟨w.heap.size + 1 + 1 + 1, 0, none⟩)]) (readW W s) (fun e w2 => e = did (tcpErr s) ∧ Blk w2 W.heap.size 24 #[.int .i64 0] ∧ Q w2) →
      Calls Tryd.prog 63 #[.string s, .func (.func 143) #[] #[.pointer (some ⟨w.heap.size, 0, none⟩), .pointer (some ⟨w.heap.size + 1 + 1, 0, none⟩), .pointer (some ⟨w.heap.size + 1 + 1 + 1, 0, none⟩)]] W
        fun e w' => e = .returned (.int .i64 (tcpErr s)) ∧ ∃ w2, Q w2 ∧ w2.grownBy w' (some W.heap.size) :=
    fun Q h => Read_calls 143 _ s (tcpErr s) W Q (fun _ _ => rfl) h
  rw [hk] at hrd'
  clear hrd hres hbl b0 b1 b2 b3 hb
  refine (hrd' (fun w2 => ∃ n cs x, VT w.heap.size s w w2 n cs x ∧ (tcpErr s = 0 → cs = finalT s ∧ x = ((be (bl (s.extract 16 18)) : Nat) : Int))) ?_).mono ?_
  · refine (tcp_Get1.walk w.heap.size s w (readW W s) hG).mono ?_
    rintro e w2 ⟨rfl, n, cs, x, hu, hx⟩
    exact ⟨rfl, hu.2.1.tail.tail.tail.tail.head, n, cs, x, hu, hx⟩
  · rintro e w' ⟨rfl, w2, ⟨n, cs, x, hu, hx⟩, hg⟩
    exact ⟨rfl, hu.done hg hx⟩

set_option maxHeartbeats 1000000 in
set_option maxRecDepth 100000 in
theorem tcp_Get.calls (s : ByteArray) (r1 r2 r3 r4 r5 r6 r7 : Int) (r8 r9 : ByteArray) (r10 r11 : Int) (w : World) (h : tcp_Get.f s = some (r1, r2, r3, r4, r5, r6, r7, r8, r9, r10, r11)) :
    Calls Tryd.prog 120 #[.string s] w fun e w' => e = .returned (.tuple #[.agg #[.int .i64 r1, .int .i64 r2, .int .u32 r3, .int .u32 r4, .int .i64 r5, .int .i64 r6, .int .i64 r7, .string r8, .string r9], .int .i64 r10, .int .i64 r11]) ∧ Below w.heap.size w w' := by
  unfold tcp_Get.f at h
  by_cases hs : s.size ≤ 140737488351232
  case neg => rw [if_neg hs] at h; exact absurd h (by simp)
  rw [if_pos hs] at h
  have hmf : ∀ (fn : Fn) (first cap : Array Value) (w : World), (Instr.makeFunc fn first cap).run Tryd.prog w = .ok (.func fn first cap) w := fun _ _ _ _ => rfl
  have hu := Tryd.underlying79
  have HS := Aside0.mk hs
  clear hs
  by_cases h0 : tcpErr s = 0
  · rw [if_pos h0] at h
    replace h := Option.some.inj h
    simp only [Prod.mk.injEq] at h
    obtain ⟨rfl, rfl, rfl, rfl, rfl, rfl, rfl, rfl, rfl, rfl, rfl⟩ := h
    have d1 : (tcpErr s != 0) = false := bne_eq_false_iff_eq.mpr h0
    have h := Aside0.mk h0
    clear h0
    go_enter Tryd.func120, Tryd.ntmps120
    go_wp2_with fail
    refine (tcp_Get.reads s HS.out w).mono ?_
    rintro e w2 ⟨rfl, cs, x, hp, hb, hx⟩
    obtain ⟨rfl, rfl⟩ := hx h.out
    have HB := Aside0.mk hb
    have c1 := hp.tail.head.cells
    have c2 := hp.tail.head.frees
    have c3 := hp.tail.tail.head.cells
    simp only [finalT] at c3
    have c4 := hp.tail.tail.tail.head.cell 0 _ rfl
    have HK := Aside0.mk hp.tail.head
    clear hp hb hx
    go_wp2_with fail
    go_region
    all_goals
      have c5 := (((((((((HK.out.set 0 (.int .i64 ((be (bl (s.extract 0 2)) : Nat) : Int))).set 1 (.int .i64 ((be (bl (s.extract 2 4)) : Nat) : Int))).set 2 (.int .u32 ((be (bl (s.extract 4 8)) : Nat) : Int))).set 3 (.int .u32 ((be (bl (s.extract 8 12)) : Nat) : Int))).set 4 (.int .i64 ((be (bl (s.extract 13 14)) : Nat) : Int))).set 5 (.int .i64 ((be (bl (s.extract 14 16)) : Nat) : Int))).set 6 (.int .i64 ((be (bl (s.extract 18 20)) : Nat) : Int))).set 7 (.string (s.extract 20 (ht s)))).set 8 (.string (s.extract (ht s) s.size))).drew.cells
      simp only [List.setIfInBounds_toArray, List.set_cons_zero, List.set_cons_succ] at c5
      clear c1 c2 c3 c4
      go_wp2
      refine ⟨rfl, _, ?_, rfl, ?_⟩
      rotate_left
      · exact (((((((((HB.out.setCell (by simp) _).setCell (by simp) _).setCell (by simp) _).setCell (by simp) _).setCell (by simp) _).setCell (by simp) _).setCell (by simp) _).setCell (by simp) _).setCell (by simp) _).drew
      simp [results, Tryd.results120, go_sem, hu, c5]
  · rw [if_neg h0] at h
    replace h := Option.some.inj h
    simp only [Prod.mk.injEq] at h
    obtain ⟨rfl, rfl, rfl, rfl, rfl, rfl, rfl, rfl, rfl, rfl, rfl⟩ := h
    have d1 : (tcpErr s != 0) = true := bne_iff_ne.mpr h0
    clear h0
    go_enter Tryd.func120, Tryd.ntmps120
    go_wp2_with fail
    refine (tcp_Get.reads s HS.out w).mono ?_
    rintro e w2 ⟨rfl, cs, x, hp, hb, hx⟩
    have HB := Aside0.mk hb
    have c1 := hp.tail.head.cells
    have c2 := hp.tail.head.frees
    have HK := Aside0.mk hp.tail.head
    clear hp hb hx
    go_wp2
    have c5 := (((((((((HK.out.set 0 (.int .i64 0)).set 1 (.int .i64 0)).set 2 (.int .u32 0)).set 3 (.int .u32 0)).set 4 (.int .i64 0)).set 5 (.int .i64 0)).set 6 (.int .i64 0)).set 7 (.string ⟨#[]⟩)).set 8 (.string ⟨#[]⟩)).cells
    simp only [List.setIfInBounds_toArray, List.set_cons_zero, List.set_cons_succ] at c5
    clear c1 c2
    refine ⟨rfl, _, ?_, rfl, ?_⟩
    rotate_left
    · exact (((((((((HB.out.setCell (by simp) _).setCell (by simp) _).setCell (by simp) _).setCell (by simp) _).setCell (by simp) _).setCell (by simp) _).setCell (by simp) _).setCell (by simp) _).setCell (by simp) _)
    simp [results, Tryd.results120, go_sem, hu, c5]
end Go.Proofs.YtcmalglippmocaaDoor.G
end
