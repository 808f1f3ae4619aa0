/- Texts of this session, joined: each is a section. -/
import Derived.Test.YtcmalglippmocaaMClampUpdates7
import Derived.Test.YtcmalglippmocaaMClampUpdates8
import Derived.WalkLawsBesides
import Derived.Deep.RegionWith
import Derived.Laws.Rows
import Derived.Test.YtcmalglippmocaaMClampUpdates9
import Derived.BigQuiet
import Derived.RangeFuncNested
import Derived.RangeFuncBound
import Derived.RangeFuncCalls
import Derived.RangeFuncLeaves
import Derived.RangeFuncFrom
import Derived.Shelf.Abstract
import Derived.Shelf.RegionOpen
import Derived.WalkKit
import Derived.OwnWalkIn
import Derived.TacticsInMore
import Derived.LoopNIn
import Derived.LoopIn
import Derived.Laws.Strings2
import Derived.Laws.Strings
import Derived.RegionTactic
import Derived.StillTailTactics
import Derived.Test.YtcmalglippmocaaMClampUpdates2
set_option linter.unusedVariables false
set_option linter.unusedSimpArgs false
section
namespace Go.Proofs.Ytcmalglippmocaa.G
open Go.RowKit Go.Proofs.YtcmalglippmocaaW.PrintWords Go.Proofs.YtcmalglippmocaaW.PrintLast Go.Proofs.YtcmalglippmocaaW.PrintMore Go.Proofs.Ytcmalglippmocaa.Pal

theorem Reader_Take.went (R : Nat) (s : ByteArray) (n m : Nat) (w : World) (h : Rd w R s n) (hm : n + m ≤ s.size) :
    Calls Try.prog 70 #[.pointer (some ⟨R, 0, none⟩), .int .i64 (m : Int)] w fun e w' => e = .returned (.string (s.extract n (n + m))) ∧ Went w w' R s (n + m) := by
  refine (Reader_Take.yes R s n m w h hm).mono ?_
  rintro e w' ⟨rfl, k, j, rfl⟩
  exact ⟨rfl, grown_drewN (World.grownBy.trans (grown_drewN (grown_refl w _) k) (grown_setCell _ _ _ _)) j, (((h.1.drewN k).set 1 (.int .i64 ((n + m : Nat) : Int))).drewN j), hm, h.2.2⟩
def VG (k : Nat) (s : ByteArray) (w w1 : World) (n : Nat) (cs : Array Value) (x : ByteArray) : Prop :=
  Rd w1 (k + 5) s n ∧ Hp w1 [(k, 9, #[.string s]), (k + 1, 53, #[.int .i64 0, .int .i64 0, .int .i64 0, .int .i64 0, .string ⟨#[]⟩, .string ⟨#[]⟩]), (k + 2, 53, cs), (k + 3, 9, #[.string x]), (k + 4, 25, #[.int .i64 0])] ∧ Below k w w1
theorem VG.went {k : Nat} {s : ByteArray} {w w1 w2 : World} {n m : Nat} {cs : Array Value} {x : ByteArray} (h : VG k s w w1 n cs x) (hw : Went w1 w2 (k + 5) s m) : VG k s w w2 m cs x :=
  ⟨hw.2, h.2.1.grown hw.1 (by simp), h.2.2.trans (below_of_grown hw.1 (by have := h.1.1.lt; omega) (by omega))⟩
theorem VG.put {k : Nat} {s : ByteArray} {w w1 : World} {n : Nat} {cs : Array Value} {x : ByteArray} (h : VG k s w w1 n cs x) (j : Nat) (v : Value) : VG k s w (w1.setCell ⟨k + 2, j, none⟩ v) n (cs.setIfInBounds j v) x :=
  ⟨⟨h.1.1.other _ (by simp) _, h.1.2⟩, h.2.1.set (l1 := [_, _]) (l2 := [_, _]) j v (by simp) (by simp), h.2.2.setCell (by simp) _⟩
theorem VG.putSum {k : Nat} {s : ByteArray} {w w1 : World} {n : Nat} {cs : Array Value} {x : ByteArray} (h : VG k s w w1 n cs x) (y : ByteArray) : VG k s w (w1.setCell ⟨k + 3, 0, none⟩ (.string y)) n cs y :=
  ⟨⟨h.1.1.other _ (by simp) _, h.1.2⟩, h.2.1.set (l1 := [_, _, _]) (l2 := [_]) 0 (.string y) (by simp) (by simp), h.2.2.setCell (by simp) _⟩
theorem VG.drew {k : Nat} {s : ByteArray} {w w1 : World} {n : Nat} {cs : Array Value} {x : ByteArray} (h : VG k s w w1 n cs x) : VG k s w w1.drew n cs x := ⟨h.1, h.2.1, h.2.2.drew⟩
theorem VG.drewN {k : Nat} {s : ByteArray} {w w1 : World} {n : Nat} {cs : Array Value} {x : ByteArray} (h : VG k s w w1 n cs x) (j : Nat) : VG k s w (w1.drewN j) n cs x := ⟨h.1, h.2.1, pw_below_drewN h.2.2 j⟩
theorem VG.facts {k : Nat} {s : ByteArray} {w w1 : World} {n : Nat} {cs : Array Value} {x : ByteArray} (h : VG k s w w1 n cs x) :
    w1.cell? ⟨k, 0, none⟩ = some (.string s) ∧ (∀ j, w1.frozen? ⟨k + 2, j, none⟩ = false) ∧ (∀ j, w1.cell? ⟨k + 2, j, none⟩ = cs[j]?) ∧ w1.cell? ⟨k + 3, 0, none⟩ = some (.string x) ∧ w1.frozen? ⟨k + 3, 0, none⟩ = false :=
  ⟨h.2.1.head.cell 0 _ rfl, h.2.1.tail.tail.head.frees, h.2.1.tail.tail.head.cells, h.2.1.tail.tail.tail.head.cell 0 _ rfl, h.2.1.tail.tail.tail.head.free 0⟩
def zero6 : Array Value := #[.int .i64 0, .int .i64 0, .int .i64 0, .int .i64 0, .string ⟨#[]⟩, .string ⟨#[]⟩]
def ip6Err (s : ByteArray) : Int := if s.size < 40 then 2 else if be (bl (s.extract 0 4)) / 268435456 = 6 then (if (be (bl (s.extract 4 6)) : Int) = (s.size : Int) - 40 then 0 else 4) else 3

set_option maxHeartbeats 1000000 in
set_option maxRecDepth 100000 in
theorem ip6_Get1.short (k : Nat) (s : ByteArray) (w w1 : World) (h : VG k s w w1 0 zero6 ⟨#[]⟩) (h8 : s.size < 40) :
    Calls Try.prog 72 #[.pointer (some ⟨k + 5, 0, none⟩), .pointer (some ⟨k, 0, none⟩), .pointer (some ⟨k + 2, 0, none⟩), .pointer (some ⟨k + 3, 0, none⟩)] w1 fun e w2 => e = stopped 2 ∧ ∃ n cs x, VG k s w w2 n cs x := by
  have HG := Aside0.mk h
  have d1 : decide ((40 : Int) ≤ (s.size : Int) - ((0 : Nat) : Int)) = false := decide_eq_false (by omega)
  have d2 : decide ((40 : Int) ≤ (s.size : Int)) = false := decide_eq_false (by omega)
  clear h
  go_enter Try.func72, Try.ntmps72
  go_wp2_with fail
  refine (Reader_Left.calls _ _ _ _ HG.out.1).mono ?_
  rintro e w2 ⟨rfl, j, rfl⟩
  go_wp2_with fail
  refine (Reader_Need.no _ _ _).mono ?_
  rintro e w3 ⟨rfl, rfl⟩
  exact ⟨rfl, rfl, _, _, _, HG.out.drewN j⟩

set_option maxHeartbeats 1000000 in
set_option maxRecDepth 100000 in
theorem ip6_Get1.vers (k : Nat) (s : ByteArray) (w w1 : World) (h : VG k s w w1 0 zero6 ⟨#[]⟩) (h8 : 40 ≤ s.size) (hv : ¬ be (bl (s.extract 0 4)) / 268435456 = 6) :
    Calls Try.prog 72 #[.pointer (some ⟨k + 5, 0, none⟩), .pointer (some ⟨k, 0, none⟩), .pointer (some ⟨k + 2, 0, none⟩), .pointer (some ⟨k + 3, 0, none⟩)] w1 fun e w2 => e = stopped 3 ∧ ∃ n cs x, VG k s w w2 n cs x := by
  have HG := Aside0.mk h
  have d1 : decide ((40 : Int) ≤ (s.size : Int) - ((0 : Nat) : Int)) = true := decide_eq_true (by omega)
  have d2 : decide ((40 : Int) ≤ (s.size : Int)) = true := decide_eq_true (by omega)
  have hw : wrap64 ((be (bl (s.extract 0 4)) : Nat) : Int) = ((be (bl (s.extract 0 4)) : Nat) : Int) := by have hb : be (bl (s.extract 0 4)) < 4294967296 := be_small_U32 s 0; unfold wrap64; omega
  have v1 : (((be (bl (s.extract 0 4)) : Nat) : Int) / 268435456 == 6) = false := by rw [beq_eq_false_iff_ne]; omega
  have v2 : ((be (bl (s.extract 0 4))) / 268435456 == 6) = false := by rw [beq_eq_false_iff_ne]; exact hv
  clear h
  go_enter Try.func72, Try.ntmps72
  go_wp2_with fail
  refine (Reader_Left.calls _ _ _ _ HG.out.1).mono ?_
  rintro e w2 ⟨rfl, j, rfl⟩
  go_wp2_with fail
  refine (Reader_Need.yes _ _ _).mono ?_
  rintro e w3 ⟨rfl, rfl⟩
  go_wp2_with fail
  refine (Reader_U32.yes _ _ _ _ (HG.out.drewN j).1 (by omega)).mono ?_
  rintro e w2 ⟨rfl, g1⟩
  replace HG := Aside0.mk ((HG.out.drewN j).went g1)
  clear g1
  go_wp2_with fail
  refine (Reader_Need.no _ _ _).mono ?_
  rintro e w4 ⟨rfl, rfl⟩
  exact ⟨rfl, rfl, _, _, _, HG.out⟩

set_option maxHeartbeats 1000000 in
set_option maxRecDepth 100000 in
theorem ip6_Get1.len (k : Nat) (s : ByteArray) (w w1 : World) (h : VG k s w w1 0 zero6 ⟨#[]⟩) (h8 : 40 ≤ s.size) (hv : be (bl (s.extract 0 4)) / 268435456 = 6) (hl : ¬ ((be (bl (s.extract 4 6)) : Nat) : Int) = (s.size : Int) - 40) :
    Calls Try.prog 72 #[.pointer (some ⟨k + 5, 0, none⟩), .pointer (some ⟨k, 0, none⟩), .pointer (some ⟨k + 2, 0, none⟩), .pointer (some ⟨k + 3, 0, none⟩)] w1 fun e w2 => e = stopped 4 ∧ ∃ n cs x, VG k s w w2 n cs x := by
  have HG := Aside0.mk h
  have d1 : decide ((40 : Int) ≤ (s.size : Int) - ((0 : Nat) : Int)) = true := decide_eq_true (by omega)
  have d2 : decide ((40 : Int) ≤ (s.size : Int)) = true := decide_eq_true (by omega)
  have hw : wrap64 ((be (bl (s.extract 0 4)) : Nat) : Int) = ((be (bl (s.extract 0 4)) : Nat) : Int) := by have hb : be (bl (s.extract 0 4)) < 4294967296 := be_small_U32 s 0; unfold wrap64; omega
  have v1 : (((be (bl (s.extract 0 4)) : Nat) : Int) / 268435456 == 6) = true := by rw [beq_iff_eq]; omega
  have v2 : ((be (bl (s.extract 0 4))) / 268435456 == 6) = true := by rw [beq_iff_eq]; exact hv
  clear h
  go_enter Try.func72, Try.ntmps72
  go_wp2_with fail
  refine (Reader_Left.calls _ _ _ _ HG.out.1).mono ?_
  rintro e w2 ⟨rfl, j, rfl⟩
  go_wp2_with fail
  refine (Reader_Need.yes _ _ _).mono ?_
  rintro e w3 ⟨rfl, rfl⟩
  go_wp2_with fail
  refine (Reader_U32.yes _ _ _ _ (HG.out.drewN j).1 (by omega)).mono ?_
  rintro e w2 ⟨rfl, g1⟩
  replace HG := Aside0.mk ((HG.out.drewN j).went g1)
  clear g1
  go_wp2_with fail
  refine (Reader_Need.yes _ _ _).mono ?_
  rintro e w4 ⟨rfl, rfl⟩
  go_wp2_with fail
  have c0 := HG.out.facts.1
  have l1 : (((be (bl (s.extract 4 6)) : Nat) : Int) == (s.size : Int) - 40) = false := by rw [beq_eq_false_iff_ne]; exact hl
  have l2 : (((be (bl (s.extract 4 6)) : Nat) : Int) == wrap64 ((s.size : Int) - 40)) = false := by rw [show wrap64 ((s.size : Int) - 40) = (s.size : Int) - 40 by unfold wrap64; have := HG.out.1.2.2; omega]; exact l1
  have l3 : (((be (bl (s.extract 4 6)) : Nat) : Int) == IntKind.i64.wrap ((s.size : Int) - 40)) = false := by rw [show IntKind.i64.wrap ((s.size : Int) - 40) = (s.size : Int) - 40 by rw [IntKind.wrap_i64]; have := HG.out.1.2.2; omega]; exact l1
  clear hl
  go_region_with ((first
      | (go_at_call 69; refine (Reader_U16.yes _ _ 4 _ HG.out.drew.1 ?_).mono ?_; omega; rintro e w5 ⟨rfl, g1⟩; have HG3 := Aside0.mk (HG.out.drew.went g1); have c3 := HG3.out.facts.1; clear g1)
      | (go_at_call 67; refine (Reader_Need.no _ _ _).mono ?_; rintro e w6 ⟨rfl, rfl⟩; refine panicOut ?_)))
  all_goals exact ⟨rfl, rfl, _, _, _, HG3.out⟩

set_option maxHeartbeats 1000000 in
set_option maxRecDepth 100000 in
theorem ip6_Get1.ok (k : Nat) (s : ByteArray) (w w1 : World) (h : VG k s w w1 0 zero6 ⟨#[]⟩) (h8 : 40 ≤ s.size) (hv : be (bl (s.extract 0 4)) / 268435456 = 6) (hl : ((be (bl (s.extract 4 6)) : Nat) : Int) = (s.size : Int) - 40) :
    Calls Try.prog 72 #[.pointer (some ⟨k + 5, 0, none⟩), .pointer (some ⟨k, 0, none⟩), .pointer (some ⟨k + 2, 0, none⟩), .pointer (some ⟨k + 3, 0, none⟩)] w1 fun e w2 => e = .returned (.tuple #[]) ∧ ∃ n, VG k s w w2 n #[.int .i64 (Go.bits .and .i64 (((be (bl (s.extract 0 4)) : Nat) : Int) / 1048576) 255), .int .i64 (Go.bits .and .i64 ((be (bl (s.extract 0 4)) : Nat) : Int) 1048575), .int .i64 (be (bl (s.extract 6 7)) : Nat), .int .i64 (be (bl (s.extract 7 8)) : Nat), .string (s.extract 8 24), .string (s.extract 24 40)] (s.extract 40 s.size) := by
  have HG := Aside0.mk h
  have d1 : decide ((40 : Int) ≤ (s.size : Int) - ((0 : Nat) : Int)) = true := decide_eq_true (by omega)
  have d2 : decide ((40 : Int) ≤ (s.size : Int)) = true := decide_eq_true (by omega)
  have hw : wrap64 ((be (bl (s.extract 0 4)) : Nat) : Int) = ((be (bl (s.extract 0 4)) : Nat) : Int) := by have hb : be (bl (s.extract 0 4)) < 4294967296 := be_small_U32 s 0; unfold wrap64; omega
  have v1 : (((be (bl (s.extract 0 4)) : Nat) : Int) / 268435456 == 6) = true := by rw [beq_iff_eq]; omega
  have v2 : ((be (bl (s.extract 0 4))) / 268435456 == 6) = true := by rw [beq_iff_eq]; exact hv
  clear h
  go_enter Try.func72, Try.ntmps72
  go_wp2_with fail
  refine (Reader_Left.calls _ _ _ _ HG.out.1).mono ?_
  rintro e w2 ⟨rfl, j, rfl⟩
  go_wp2_with fail
  refine (Reader_Need.yes _ _ _).mono ?_
  rintro e w3 ⟨rfl, rfl⟩
  go_wp2_with fail
  refine (Reader_U32.yes _ _ _ _ (HG.out.drewN j).1 (by omega)).mono ?_
  rintro e w2 ⟨rfl, g1⟩
  replace HG := Aside0.mk ((HG.out.drewN j).went g1)
  clear g1
  go_wp2_with fail
  refine (Reader_Need.yes _ _ _).mono ?_
  rintro e w4 ⟨rfl, rfl⟩
  go_wp2_with fail
  have c0 := HG.out.facts.1
  have l1 : (((be (bl (s.extract 4 6)) : Nat) : Int) == (s.size : Int) - 40) = true := by rw [beq_iff_eq]; exact hl
  have l2 : (((be (bl (s.extract 4 6)) : Nat) : Int) == wrap64 ((s.size : Int) - 40)) = true := by rw [show wrap64 ((s.size : Int) - 40) = (s.size : Int) - 40 by unfold wrap64; have := HG.out.1.2.2; omega]; exact l1
  have l3 : (((be (bl (s.extract 4 6)) : Nat) : Int) == IntKind.i64.wrap ((s.size : Int) - 40)) = true := by rw [show IntKind.i64.wrap ((s.size : Int) - 40) = (s.size : Int) - 40 by rw [IntKind.wrap_i64]; have := HG.out.1.2.2; omega]; exact l1
  clear hl
  go_region_with ((first
      | (go_at_call 69; refine (Reader_U16.yes _ _ 4 _ HG.out.drew.1 ?_).mono ?_; omega; rintro e w5 ⟨rfl, g1⟩; have HG3 := Aside0.mk (HG.out.drew.went g1); have c3 := HG3.out.facts.1; clear g1)
      | (go_at_call 67; refine (Reader_Need.yes _ _ _).mono ?_; rintro e w6 ⟨rfl, rfl⟩)))
  all_goals
    clear c0 c3 l1 l2 l3 v1 v2 d1 d2 hw
    replace HG := HG3
    clear HG3
    go_wp2_with fail
    refine (Reader_U8.yes _ _ _ _ HG.out.1 (by omega)).mono ?_
    rintro e w7 ⟨rfl, g1⟩
    replace HG := Aside0.mk (HG.out.went g1)
    clear g1
    go_wp2_with fail
    refine (Reader_U8.yes _ _ _ _ HG.out.1 (by omega)).mono ?_
    rintro e w8 ⟨rfl, g1⟩
    replace HG := Aside0.mk (HG.out.went g1)
    clear g1
    go_wp2_with fail
    refine (Reader_Take.went _ _ _ 16 _ HG.out.1 (by omega)).mono ?_
    rintro e w9 ⟨rfl, g1⟩
    replace HG := Aside0.mk (HG.out.went g1)
    clear g1
    go_wp2_with fail
    refine (Reader_Take.went _ _ _ 16 _ HG.out.1 (by omega)).mono ?_
    rintro e w10 ⟨rfl, g1⟩
    replace HG := Aside0.mk (HG.out.went g1)
    clear g1
    obtain ⟨c0, c1, c2, c3, c4⟩ := HG.out.facts
    simp only [zero6] at c2
    go_wp2_with fail
    replace HG := Aside0.mk ((((((HG.out.put 0 (.int .i64 (Go.bits .and .i64 (((be (bl (s.extract 0 4)) : Nat) : Int) / 1048576) 255))).put 1 (.int .i64 (Go.bits .and .i64 ((be (bl (s.extract 0 4)) : Nat) : Int) 1048575))).put 2 (.int .i64 (be (bl (s.extract 6 7)) : Nat))).put 3 (.int .i64 (be (bl (s.extract 7 8)) : Nat))).put 4 (.string (s.extract 8 24))).put 5 (.string (s.extract 24 40)))
    clear c0 c1 c2 c3 c4
    refine (Reader_Rest.calls _ _ _ _ HG.out.1).mono ?_
    rintro e w11 ⟨rfl, g1⟩
    replace HG := Aside0.mk (HG.out.went g1)
    clear g1
    obtain ⟨c0, c1, c2, c3, c4⟩ := HG.out.facts
    clear c0 c1 c2
    go_wp2
    go_end0
    exact ⟨rfl, _, HG.out.putSum _⟩
def VR (k : Nat) (s : ByteArray) (w w1 : World) : Prop :=
  ∃ cs x, Hp w1 [(k, 9, #[.string s]), (k + 1, 53, #[.int .i64 0, .int .i64 0, .int .i64 0, .int .i64 0, .string ⟨#[]⟩, .string ⟨#[]⟩]), (k + 2, 53, cs), (k + 3, 9, #[.string x])] ∧ Below k w w1 ∧
    (ip6Err s = 0 → cs = #[(.int .i64 (Go.bits .and .i64 (((be (bl (s.extract 0 4)) : Nat) : Int) / 1048576) 255)), (.int .i64 (Go.bits .and .i64 ((be (bl (s.extract 0 4)) : Nat) : Int) 1048575)), (.int .i64 (be (bl (s.extract 6 7)) : Nat)), (.int .i64 (be (bl (s.extract 7 8)) : Nat)), (.string (s.extract 8 24)), (.string (s.extract 24 40))] ∧ x = s.extract 40 s.size)
theorem VG.done {k : Nat} {s : ByteArray} {w w1 w2 : World} {n : Nat} {cs : Array Value} {x : ByteArray} (h : VG k s w w1 n cs x) (hw : w1.grownBy w2 (some (k + 4)))
    (hx : ip6Err s = 0 → cs = #[(.int .i64 (Go.bits .and .i64 (((be (bl (s.extract 0 4)) : Nat) : Int) / 1048576) 255)), (.int .i64 (Go.bits .and .i64 ((be (bl (s.extract 0 4)) : Nat) : Int) 1048575)), (.int .i64 (be (bl (s.extract 6 7)) : Nat)), (.int .i64 (be (bl (s.extract 7 8)) : Nat)), (.string (s.extract 8 24)), (.string (s.extract 24 40))] ∧ x = s.extract 40 s.size) : VR k s w w2 :=
  ⟨cs, x, Hp.grown (R := k + 4) (fun y hy => h.2.1 y (by simp at hy ⊢; rcases hy with rfl | rfl | rfl | rfl <;> simp)) hw (by simp), h.2.2.trans (below_of_grown hw (by have := h.1.1.lt; omega) (by omega)), hx⟩

set_option maxRecDepth 100000 in
theorem ip6_Get.reads (s : ByteArray) (hs : s.size ≤ 140737488351232) (w : World) :
    Calls Try.prog 65 #[.string s, .func (.func 72) #[] #[.pointer (some ⟨w.heap.size, 0, none⟩), .pointer (some ⟨w.heap.size + 1 + 1, 0, none⟩), .pointer (some ⟨w.heap.size + 1 + 1 + 1, 0, none⟩)]]
      ((((w.alloc (.cells #[.string s] 9)).alloc (.cells #[.int .i64 0, .int .i64 0, .int .i64 0, .int .i64 0, .string ⟨#[]⟩, .string ⟨#[]⟩] 53)).alloc (.cells #[.int .i64 0, .int .i64 0, .int .i64 0, .int .i64 0, .string ⟨#[]⟩, .string ⟨#[]⟩] 53)).alloc (.cells #[.string ⟨#[]⟩] 9))
      fun e w' => e = .returned (.int .i64 (ip6Err s)) ∧ VR w.heap.size s w w' := by
  obtain ⟨W, hW⟩ : ∃ W, W = ((((w.alloc (.cells #[.string s] 9)).alloc (.cells #[.int .i64 0, .int .i64 0, .int .i64 0, .int .i64 0, .string ⟨#[]⟩, .string ⟨#[]⟩] 53)).alloc (.cells #[.int .i64 0, .int .i64 0, .int .i64 0, .int .i64 0, .string ⟨#[]⟩, .string ⟨#[]⟩] 53)).alloc (.cells #[.string ⟨#[]⟩] 9)) := ⟨_, rfl⟩
  have hk : W.heap.size = w.heap.size + 4 := by rw [hW]; simp
  have b0 : Blk W w.heap.size 9 #[.string s] := by rw [hW]; exact (((Blk.new w _ _).alloc _).alloc _).alloc _
  have b1 : Blk W (w.heap.size + 1) 53 #[.int .i64 0, .int .i64 0, .int .i64 0, .int .i64 0, .string ⟨#[]⟩, .string ⟨#[]⟩] := by
    rw [hW]
    have := Blk.new (w.alloc (.cells #[.string s] 9)) 53 #[.int .i64 0, .int .i64 0, .int .i64 0, .int .i64 0, .string ⟨#[]⟩, .string ⟨#[]⟩]
    rw [World.size_alloc] at this
    exact (this.alloc _).alloc _
  have b2 : Blk W (w.heap.size + 2) 53 #[.int .i64 0, .int .i64 0, .int .i64 0, .int .i64 0, .string ⟨#[]⟩, .string ⟨#[]⟩] := by
    rw [hW]
    have := Blk.new ((w.alloc (.cells #[.string s] 9)).alloc (.cells #[.int .i64 0, .int .i64 0, .int .i64 0, .int .i64 0, .string ⟨#[]⟩, .string ⟨#[]⟩] 53)) 53 #[.int .i64 0, .int .i64 0, .int .i64 0, .int .i64 0, .string ⟨#[]⟩, .string ⟨#[]⟩]
    rw [World.size_alloc, World.size_alloc] at this
    exact this.alloc _
  have b3 : Blk W (w.heap.size + 3) 9 #[.string ⟨#[]⟩] := by
    rw [hW]
    have := Blk.new (((w.alloc (.cells #[.string s] 9)).alloc (.cells #[.int .i64 0, .int .i64 0, .int .i64 0, .int .i64 0, .string ⟨#[]⟩, .string ⟨#[]⟩] 53)).alloc (.cells #[.int .i64 0, .int .i64 0, .int .i64 0, .int .i64 0, .string ⟨#[]⟩, .string ⟨#[]⟩] 53)) 9 #[.string ⟨#[]⟩]
    rw [World.size_alloc, World.size_alloc, World.size_alloc] at this
    exact this
  have hb : Below w.heap.size w W := by
    rw [hW]
    exact ((((Below.refl _ _).alloc (Nat.le_refl _) _).alloc (by simp) _).alloc (by simp; omega) _).alloc (by simp; omega) _
  rw [← hW]
  clear hW
  have hrd := readW_rd W s hs
  have hres := readW_res W s
  have hbl := readW_below W s
  rw [hk] at hrd hres hbl
  have hG : VG w.heap.size s w (readW W s) 0 zero6 ⟨#[]⟩ :=
    ⟨hrd, .cons (b0.below hbl (by omega)) (.cons (b1.below hbl (by omega)) (.cons (b2.below hbl (by omega)) (.cons (b3.below hbl (by omega)) (.cons hres (.nil _))))), hb.trans (hbl.mono (by omega))⟩
  have hrd' : ∀ Q : World → Prop, Calls Try.prog 72 (#[.pointer (some ⟨W.heap.size + 1, 0, none⟩)] ++ #[.pointer (some ⟨w.heap.size, 0, none⟩), .pointer (some ⟨w.heap.size + 1 + 1, 0, none⟩), .pointer (some ⟨w.heap.size + 1 + 1 + 1, 0, none⟩)]) (readW W s) (fun e w2 => e = did (ip6Err s) ∧ Blk w2 W.heap.size 25 #[.int .i64 0] ∧ Q w2) →
      Calls Try.prog 65 #[.string s, .func (.func 72) #[] #[.pointer (some ⟨w.heap.size, 0, none⟩), .pointer (some ⟨w.heap.size + 1 + 1, 0, none⟩), .pointer (some ⟨w.heap.size + 1 + 1 + 1, 0, none⟩)]] W
        fun e w' => e = .returned (.int .i64 (ip6Err s)) ∧ ∃ w2, Q w2 ∧ w2.grownBy w' (some W.heap.size) :=
    fun Q h => Read_calls 72 _ s (ip6Err s) W Q (fun _ _ => rfl) h
  rw [hk] at hrd'
  clear hrd hres hbl b0 b1 b2 b3 hb
  by_cases h8 : s.size < 40
  · have he : ip6Err s = 2 := if_pos h8
    rw [he] at hrd' ⊢
    refine (hrd' (fun w2 => ∃ n cs x, VG w.heap.size s w w2 n cs x) ?_).mono ?_
    · refine (ip6_Get1.short w.heap.size s w (readW W s) hG h8).mono ?_
      rintro e w2 ⟨rfl, n, cs, x, hu⟩
      exact ⟨rfl, hu.2.1.tail.tail.tail.tail.head, n, cs, x, hu⟩
    · rintro e w' ⟨rfl, w2, ⟨n, cs, x, hu⟩, hg⟩
      exact ⟨rfl, hu.done hg (fun h0 => absurd (he.symm.trans h0) (by decide))⟩
  by_cases hv : be (bl (s.extract 0 4)) / 268435456 = 6
  case neg =>
    have he : ip6Err s = 3 := by unfold ip6Err; rw [if_neg h8, if_neg hv]
    rw [he] at hrd' ⊢
    refine (hrd' (fun w2 => ∃ n cs x, VG w.heap.size s w w2 n cs x) ?_).mono ?_
    · refine (ip6_Get1.vers w.heap.size s w (readW W s) hG (by omega) hv).mono ?_
      rintro e w2 ⟨rfl, n, cs, x, hu⟩
      exact ⟨rfl, hu.2.1.tail.tail.tail.tail.head, n, cs, x, hu⟩
    · rintro e w' ⟨rfl, w2, ⟨n, cs, x, hu⟩, hg⟩
      exact ⟨rfl, hu.done hg (fun h0 => absurd (he.symm.trans h0) (by decide))⟩
  by_cases hl : ((be (bl (s.extract 4 6)) : Nat) : Int) = (s.size : Int) - 40
  case neg =>
    have he : ip6Err s = 4 := by unfold ip6Err; rw [if_neg h8, if_pos hv, if_neg hl]
    rw [he] at hrd' ⊢
    refine (hrd' (fun w2 => ∃ n cs x, VG w.heap.size s w w2 n cs x) ?_).mono ?_
    · refine (ip6_Get1.len w.heap.size s w (readW W s) hG (by omega) hv hl).mono ?_
      rintro e w2 ⟨rfl, n, cs, x, hu⟩
      exact ⟨rfl, hu.2.1.tail.tail.tail.tail.head, n, cs, x, hu⟩
    · rintro e w' ⟨rfl, w2, ⟨n, cs, x, hu⟩, hg⟩
      exact ⟨rfl, hu.done hg (fun h0 => absurd (he.symm.trans h0) (by decide))⟩
  have he : ip6Err s = 0 := by unfold ip6Err; rw [if_neg h8, if_pos hv, if_pos hl]
  rw [he] at hrd' ⊢
  refine (hrd' (fun w2 => ∃ n, VG w.heap.size s w w2 n #[(.int .i64 (Go.bits .and .i64 (((be (bl (s.extract 0 4)) : Nat) : Int) / 1048576) 255)), (.int .i64 (Go.bits .and .i64 ((be (bl (s.extract 0 4)) : Nat) : Int) 1048575)), (.int .i64 (be (bl (s.extract 6 7)) : Nat)), (.int .i64 (be (bl (s.extract 7 8)) : Nat)), (.string (s.extract 8 24)), (.string (s.extract 24 40))] (s.extract 40 s.size)) ?_).mono ?_
  · refine (ip6_Get1.ok w.heap.size s w (readW W s) hG (by omega) hv hl).mono ?_
    rintro e w2 ⟨rfl, n, hu⟩
    exact ⟨rfl, hu.2.1.tail.tail.tail.tail.head, n, hu⟩
  · rintro e w' ⟨rfl, w2, ⟨n, hu⟩, hg⟩
    exact ⟨rfl, hu.done hg (fun _ => ⟨rfl, rfl⟩)⟩

def ip6_Get.f (s : ByteArray) : Option (Int × Int × Int × Int × ByteArray × ByteArray × ByteArray × Int) :=
  if s.size ≤ 140737488351232 then some (if ip6Err s = 0 then (Go.bits .and .i64 (((be (bl (s.extract 0 4)) : Nat) : Int) / 1048576) 255, Go.bits .and .i64 ((be (bl (s.extract 0 4)) : Nat) : Int) 1048575, ((be (bl (s.extract 6 7)) : Nat) : Int), ((be (bl (s.extract 7 8)) : Nat) : Int), s.extract 8 24, s.extract 24 40, s.extract 40 s.size, 0) else (0, 0, 0, 0, empty, empty, empty, ip6Err s)) else none

set_option maxHeartbeats 1000000 in
set_option maxRecDepth 100000 in
theorem ip6_Get.calls (s : ByteArray) (r1 r2 r3 r4 : Int) (r5 r6 r7 : ByteArray) (r8 : Int) (w : World) (h : ip6_Get.f s = some (r1, r2, r3, r4, r5, r6, r7, r8)) :
    Calls Try.prog 48 #[.string s] w fun e w' => e = .returned (.tuple #[.agg #[.int .i64 r1, .int .i64 r2, .int .i64 r3, .int .i64 r4, .string r5, .string r6], .string r7, .int .i64 r8]) ∧ Below w.heap.size w w' := by
  unfold ip6_Get.f at h
  by_cases hs : s.size ≤ 140737488351232
  case neg => rw [if_neg hs] at h; exact absurd h (by simp)
  rw [if_pos hs] at h
  have hmf : ∀ (fn : Fn) (first cap : Array Value) (w : World), (Instr.makeFunc fn first cap).run Try.prog w = .ok (.func fn first cap) w := fun _ _ _ _ => rfl
  have hu := Try.underlying53
  have HS := Aside0.mk hs
  clear hs
  by_cases h0 : ip6Err s = 0
  · rw [if_pos h0] at h
    replace h := Option.some.inj h
    simp only [Prod.mk.injEq] at h
    obtain ⟨rfl, rfl, rfl, rfl, rfl, rfl, rfl, rfl⟩ := h
    have d1 : (ip6Err s != 0) = false := bne_eq_false_iff_eq.mpr h0
    have h := Aside0.mk h0
    clear h0
    go_enter Try.func48, Try.ntmps48
    go_wp2_with fail
    refine (ip6_Get.reads s HS.out w).mono ?_
    rintro e w2 ⟨rfl, cs, x, hp, hb, hx⟩
    obtain ⟨rfl, rfl⟩ := hx h.out
    have HB := Aside0.mk hb
    have c1 := hp.tail.head.cells
    have c2 := hp.tail.head.frees
    have c3 := hp.tail.tail.head.cells
    have c4 := hp.tail.tail.tail.head.cell 0 _ rfl
    have HK := Aside0.mk hp.tail.head
    clear hp hb hx
    go_wp2_with fail
    go_region
    all_goals
      have c5 := (((((((HK.out.set 0 (.int .i64 (Go.bits .and .i64 (((be (bl (s.extract 0 4)) : Nat) : Int) / 1048576) 255))).set 1 (.int .i64 (Go.bits .and .i64 ((be (bl (s.extract 0 4)) : Nat) : Int) 1048575))).set 2 (.int .i64 (be (bl (s.extract 6 7)) : Nat))).set 3 (.int .i64 (be (bl (s.extract 7 8)) : Nat))).set 4 (.string (s.extract 8 24))).set 5 (.string (s.extract 24 40)))).drew.cells
      simp only [List.setIfInBounds_toArray, List.set_cons_zero, List.set_cons_succ] at c5
      clear c1 c2 c3 c4
      go_wp2
      refine ⟨rfl, _, ?_, rfl, ?_⟩
      rotate_left
      · exact ((((((HB.out.setCell (by simp) _).setCell (by simp) _).setCell (by simp) _).setCell (by simp) _).setCell (by simp) _).setCell (by simp) _).drew
      simp [results, Try.results48, go_sem, hu, c5]
  · rw [if_neg h0] at h
    replace h := Option.some.inj h
    simp only [Prod.mk.injEq] at h
    obtain ⟨rfl, rfl, rfl, rfl, rfl, rfl, rfl, rfl⟩ := h
    have d1 : (ip6Err s != 0) = true := bne_iff_ne.mpr h0
    clear h0
    go_enter Try.func48, Try.ntmps48
    go_wp2_with fail
    refine (ip6_Get.reads s HS.out w).mono ?_
    rintro e w2 ⟨rfl, cs, x, hp, hb, hx⟩
    have HB := Aside0.mk hb
    have c1 := hp.tail.head.cells
    have c2 := hp.tail.head.frees
    have HK := Aside0.mk hp.tail.head
    clear hp hb hx
    go_wp2
    have c5 := (((((((HK.out.set 0 (.int .i64 0)).set 1 (.int .i64 0)).set 2 (.int .i64 0)).set 3 (.int .i64 0)).set 4 (.string ⟨#[]⟩)).set 5 (.string ⟨#[]⟩))).cells
    simp only [List.setIfInBounds_toArray, List.set_cons_zero, List.set_cons_succ] at c5
    clear c1 c2
    refine ⟨rfl, _, ?_, rfl, ?_⟩
    rotate_left
    · exact (((((HB.out.setCell (by simp) _).setCell (by simp) _).setCell (by simp) _).setCell (by simp) _).setCell (by simp) _).setCell (by simp) _
    simp [results, Try.results48, go_sem, hu, c5]
    rfl
end Go.Proofs.Ytcmalglippmocaa.G
end

section
namespace Go.Proofs.Ytcmalglippmocaa.G
open Go.RowKit Go.Proofs.Ytcmalglippmocaa.Pal
def TabAt (w : World) (b : Nat) (l : List Int) : Prop := ∀ j x, l[j]? = some x → w.cell? ⟨b, j, none⟩ = some (.int .i64 x)
theorem TabAt.lt {w : World} {b : Nat} {l : List Int} {x : Int} (h : TabAt w b (x :: l)) : b < w.heap.size := by
  have := h 0 x rfl
  by_cases hb : b < w.heap.size
  · exact hb
  · rw [World.cell?] at this
    simp [Array.getElem?_eq_none (Nat.le_of_not_lt hb)] at this
theorem TabAt.below {w w' : World} {b : Nat} {x : Int} {l : List Int} (h : TabAt w b (x :: l)) (hb : Below w.heap.size w w') : TabAt w' b (x :: l) := fun j y hy =>
  (hb.cell (p := ⟨b, j, none⟩) h.lt).trans (h j y hy)
theorem isEmpty_of {s : ByteArray} (h : s.size = 0) : s.toList.isEmpty = true := by
  have e : s = ⟨#[]⟩ := by apply ByteArray.ext; exact Array.eq_empty_of_size_eq_zero h
  rw [e]; decide +kernel
theorem isEmpty_not {s : ByteArray} (h : ¬ s.size = 0) : s.toList.isEmpty = false := by
  have e : s.toList = s.data.toList := ByteArray.toList_eq s
  rw [e]
  cases hb : s.data.toList with
  | nil => exact absurd (show s.data.size = 0 by rw [← Array.length_toList, hb]; rfl) h
  | cons a l => rfl
theorem results_cell_tmp {P : Program} {fn : Func} {p t : Tmp} {ty : TypeId} (h : fn.results = #[.cell p ty, .tmp t]) (tmps : Array Value) (w : World) (k : Nat) (cs : Array Value) (d : TypeDesc)
    (hp : tmps.getD p undef = .pointer (some ⟨k, 0, none⟩)) (hb : Blk w k ty cs) (hu : P.underlying ty = some d) (hd : (match d with | .struct _ | .array _ _ => true | _ => false) = true) (hi : (P.info? ty).map (·.size) = some cs.size) :
    (results fn tmps).run P w = .ok (.tuple #[.agg cs, tmps.getD t undef]) w := by
  have hp' : tmps[p]?.getD undef = .pointer (some ⟨k, 0, none⟩) := by simpa using hp
  simp [results, h, hp', asAddr, run_loadVar_row w k ty ty cs (0, 0) d hb hu hd hi]
end Go.Proofs.Ytcmalglippmocaa.G
end

section
namespace Go.Proofs.Ytcmalglippmocaa.G
open Go.RowKit Go.Proofs.YtcmalglippmocaaW.PrintWords Go.Proofs.YtcmalglippmocaaW.PrintLast Go.Proofs.YtcmalglippmocaaW.PrintMore Go.Proofs.Ytcmalglippmocaa.Pal
abbrev cs4 (r1 r2 r3 r4 r5 : Int) (r6 r7 : Bool) (r8 r9 r10 : ByteArray) : Array Value := #[.int .i64 r1, .int .i64 r2, .int .i64 r3, .int .i64 r4, .int .i64 r5, .bool r6, .bool r7, .string r8, .string r9, .string r10]
abbrev cs6 (r1 r2 r3 r4 : Int) (r5 r6 : ByteArray) : Array Value := #[.int .i64 r1, .int .i64 r2, .int .i64 r3, .int .i64 r4, .string r5, .string r6]
section
variable (r1 r2 r3 r4 r5 : Int) (r6 r7 : Bool) (r8 r9 r10 : ByteArray)
theorem four_m_proto : ∀ w : World, (method 256 92 (.agg (cs4 r1 r2 r3 r4 r5 r6 r7 r8 r9 r10)) "palanquin/flow.proto").run Try.prog w = .ok (106, .agg (cs4 r1 r2 r3 r4 r5 r6 r7 r8 r9 r10)) w := fun _ => by kernel_rfl
theorem four_m_ends : ∀ w : World, (method 256 92 (.agg (cs4 r1 r2 r3 r4 r5 r6 r7 r8 r9 r10)) "palanquin/flow.ends").run Try.prog w = .ok (104, .agg (cs4 r1 r2 r3 r4 r5 r6 r7 r8 r9 r10)) w := fun _ => by kernel_rfl
theorem four_m_piece : ∀ w : World, (method 256 92 (.agg (cs4 r1 r2 r3 r4 r5 r6 r7 r8 r9 r10)) "palanquin/flow.piece").run Try.prog w = .ok (105, .agg (cs4 r1 r2 r3 r4 r5 r6 r7 r8 r9 r10)) w := fun _ => by kernel_rfl
theorem four_m_bare : ∀ w : World, (method 256 92 (.agg (cs4 r1 r2 r3 r4 r5 r6 r7 r8 r9 r10)) "palanquin/flow.bare").run Try.prog w = .ok (103, .agg (cs4 r1 r2 r3 r4 r5 r6 r7 r8 r9 r10)) w := fun _ => by kernel_rfl
end
section
variable (r1 r2 r3 r4 : Int) (r5 r6 : ByteArray)
theorem six_m_proto : ∀ w : World, (method 256 96 (.agg (cs6 r1 r2 r3 r4 r5 r6)) "palanquin/flow.proto").run Try.prog w = .ok (110, .agg (cs6 r1 r2 r3 r4 r5 r6)) w := fun _ => by kernel_rfl
theorem six_m_ends : ∀ w : World, (method 256 96 (.agg (cs6 r1 r2 r3 r4 r5 r6)) "palanquin/flow.ends").run Try.prog w = .ok (108, .agg (cs6 r1 r2 r3 r4 r5 r6)) w := fun _ => by kernel_rfl
theorem six_m_piece : ∀ w : World, (method 256 96 (.agg (cs6 r1 r2 r3 r4 r5 r6)) "palanquin/flow.piece").run Try.prog w = .ok (109, .agg (cs6 r1 r2 r3 r4 r5 r6)) w := fun _ => by kernel_rfl
theorem six_m_bare : ∀ w : World, (method 256 96 (.agg (cs6 r1 r2 r3 r4 r5 r6)) "palanquin/flow.bare").run Try.prog w = .ok (107, .agg (cs6 r1 r2 r3 r4 r5 r6)) w := fun _ => by kernel_rfl
end
section
variable (r1 r2 r3 r4 r5 : Int) (r6 r7 : Bool) (r8 r9 r10 : ByteArray) (w : World)
set_option maxHeartbeats 1000000 in
theorem four_proto : Calls Try.prog 106 #[.agg (cs4 r1 r2 r3 r4 r5 r6 r7 r8 r9 r10)] w fun e w' => e = .returned (.int .i64 r5) ∧ Below w.heap.size w w' := by
  go_enter Try.func106, Try.ntmps106
  go_wp2
  go_ret
  exact ⟨rfl, (Below.refl _ _).alloc (Nat.le_refl _) _⟩
set_option maxHeartbeats 1000000 in
theorem four_ends : Calls Try.prog 104 #[.agg (cs4 r1 r2 r3 r4 r5 r6 r7 r8 r9 r10)] w fun e w' => e = .returned (.tuple #[.string r8, .string r9]) ∧ Below w.heap.size w w' := by
  go_enter Try.func104, Try.ntmps104
  go_wp2
  go_quiet (fail)
  go_wp2
  go_ret2
  exact ⟨rfl, pw_below_drewN ((Below.refl _ _).alloc (Nat.le_refl _) _) _⟩
set_option maxHeartbeats 1000000 in
theorem four_piece : Calls Try.prog 105 #[.agg (cs4 r1 r2 r3 r4 r5 r6 r7 r8 r9 r10)] w fun e w' => e = .returned (.bool (r3 != 0 || r7)) ∧ Below w.heap.size w w' := by
  cases h : (r3 != 0)
  all_goals
    go_enter Try.func105, Try.ntmps105
    go_wp2
    go_ret
    exact ⟨rfl, (Below.refl _ _).alloc (Nat.le_refl _) _⟩
set_option maxHeartbeats 1000000 in
theorem four_bare : Calls Try.prog 103 #[.agg (cs4 r1 r2 r3 r4 r5 r6 r7 r8 r9 r10)] w fun e w' => e = .returned (.bool true) ∧ Below w.heap.size w w' := by
  go_enter Try.func103, Try.ntmps103
  go_wp2
  go_ret
  exact ⟨rfl, (Below.refl _ _).alloc (Nat.le_refl _) _⟩
end
section
variable (r1 r2 r3 r4 : Int) (r5 r6 : ByteArray) (w : World)
set_option maxHeartbeats 1000000 in
theorem six_proto : Calls Try.prog 110 #[.agg (cs6 r1 r2 r3 r4 r5 r6)] w fun e w' => e = .returned (.int .i64 r3) ∧ Below w.heap.size w w' := by
  go_enter Try.func110, Try.ntmps110
  go_wp2
  go_ret
  exact ⟨rfl, (Below.refl _ _).alloc (Nat.le_refl _) _⟩
set_option maxHeartbeats 1000000 in
theorem six_ends : Calls Try.prog 108 #[.agg (cs6 r1 r2 r3 r4 r5 r6)] w fun e w' => e = .returned (.tuple #[.string r5, .string r6]) ∧ Below w.heap.size w w' := by
  go_enter Try.func108, Try.ntmps108
  go_wp2
  go_quiet (fail)
  go_wp2
  go_ret2
  exact ⟨rfl, pw_below_drewN ((Below.refl _ _).alloc (Nat.le_refl _) _) _⟩
set_option maxHeartbeats 1000000 in
theorem six_piece : Calls Try.prog 109 #[.agg (cs6 r1 r2 r3 r4 r5 r6)] w fun e w' => e = .returned (.bool false) ∧ Below w.heap.size w w' := by
  go_enter Try.func109, Try.ntmps109
  go_wp2
  go_ret
  exact ⟨rfl, (Below.refl _ _).alloc (Nat.le_refl _) _⟩
set_option maxHeartbeats 1000000 in
theorem six_bare : Calls Try.prog 107 #[.agg (cs6 r1 r2 r3 r4 r5 r6)] w fun e w' => e = .returned (.bool false) ∧ Below w.heap.size w w' := by
  go_enter Try.func107, Try.ntmps107
  go_wp2
  go_ret
  exact ⟨rfl, (Below.refl _ _).alloc (Nat.le_refl _) _⟩
end

set_option maxHeartbeats 2000000 in
set_option maxRecDepth 100000 in
theorem open_none (s : ByteArray) (w : World) (h : s.size = 0) : Calls Try.prog 25 #[.string s] w fun e w' => e = .returned (.tuple #[.nilIface, .string ⟨#[]⟩, .int .i64 2]) ∧ Below w.heap.size w w' := by
  have e0 := isEmpty_of h
  clear h
  go_enter Try.func25, Try.ntmps25
  go_wp2
  go_ret3
  exact ⟨rfl, Below.refl _ _⟩
set_option maxHeartbeats 2000000 in
set_option maxRecDepth 100000 in
theorem open_other (s : ByteArray) (w : World) (h : ¬ s.size = 0) (h4 : bt s 0 / 16 ≠ 4) (h6 : bt s 0 / 16 ≠ 6) : Calls Try.prog 25 #[.string s] w fun e w' => e = .returned (.tuple #[.nilIface, .string ⟨#[]⟩, .int .i64 3]) ∧ Below w.heap.size w w' := by
  have e0 := isEmpty_not h
  have hx : ∀ h : 0 < s.size, ((s[0]'h).toNat : Int) = bt s 0 := bt_at s 0
  have q4 : (0 < s.size) = True := eq_true (by omega)
  have d4 : (bt s 0 / 16 == 4) = false := beq_eq_false_iff_ne.mpr h4
  have d6 : (bt s 0 / 16 == 6) = false := beq_eq_false_iff_ne.mpr h6
  clear h h4 h6
  go_enter Try.func25, Try.ntmps25
  go_wp2
  go_ret3
  exact ⟨rfl, Below.refl _ _⟩
set_option maxHeartbeats 2000000 in
set_option maxRecDepth 100000 in
theorem open_four (s : ByteArray) (w : World) (h : ¬ s.size = 0) (h4 : bt s 0 / 16 = 4) {r1 r2 r3 r4 r5 : Int} {r6 r7 : Bool} {r8 r9 r10 r11 : ByteArray} {r12 : Int} (hf : ip4_Get.f s = some (r1, r2, r3, r4, r5, r6, r7, r8, r9, r10, r11, r12)) :
    Calls Try.prog 25 #[.string s] w fun e w' => e = .returned (.tuple #[.iface 92 (.agg (cs4 r1 r2 r3 r4 r5 r6 r7 r8 r9 r10)), .string r11, .int .i64 r12]) ∧ Below w.heap.size w w' := by
  have e0 := isEmpty_not h
  have hx : ∀ h : 0 < s.size, ((s[0]'h).toNat : Int) = bt s 0 := bt_at s 0
  have q4 : (0 < s.size) = True := eq_true (by omega)
  have d4 : (bt s 0 / 16 == 4) = true := beq_iff_eq.mpr h4
  have HF := Aside0.mk hf
  clear h h4 hf
  go_enter Try.func25, Try.ntmps25
  go_wp2_with fail
  refine (ip4_Get.calls _ _ _ _ _ _ _ _ _ _ _ _ _ _ HF.out).mono ?_
  rintro e w2 ⟨rfl, hb⟩
  have HB := Aside0.mk hb
  clear hb e0 hx q4 d4
  go_wp2
  go_ret3
  exact ⟨rfl, below_alloc HB.out _⟩
set_option maxHeartbeats 2000000 in
set_option maxRecDepth 100000 in
theorem open_six (s : ByteArray) (w : World) (h : ¬ s.size = 0) (h4 : bt s 0 / 16 = 6) {r1 r2 r3 r4 : Int} {r5 r6 r7 : ByteArray} {r8 : Int} (hf : ip6_Get.f s = some (r1, r2, r3, r4, r5, r6, r7, r8)) :
    Calls Try.prog 25 #[.string s] w fun e w' => e = .returned (.tuple #[.iface 96 (.agg (cs6 r1 r2 r3 r4 r5 r6)), .string r7, .int .i64 r8]) ∧ Below w.heap.size w w' := by
  have e0 := isEmpty_not h
  have hx : ∀ h : 0 < s.size, ((s[0]'h).toNat : Int) = bt s 0 := bt_at s 0
  have q4 : (0 < s.size) = True := eq_true (by omega)
  have d4 : (bt s 0 / 16 == 4) = false := by rw [h4]; rfl
  have d6 : (bt s 0 / 16 == 6) = true := beq_iff_eq.mpr h4
  have HF := Aside0.mk hf
  clear h h4 hf
  go_enter Try.func25, Try.ntmps25
  go_wp2_with fail
  refine (ip6_Get.calls _ _ _ _ _ _ _ _ _ _ HF.out).mono ?_
  rintro e w2 ⟨rfl, hb⟩
  have HB := Aside0.mk hb
  clear hb e0 hx q4 d4 d6
  go_wp2
  go_ret3
  exact ⟨rfl, below_alloc HB.out _⟩
end Go.Proofs.Ytcmalglippmocaa.G
end

section
namespace Go.Proofs.Ytcmalglippmocaa.Pal
def itemsF : Nat → ByteArray → Nat → List (Int × ByteArray)
  | 0, _, _ => []
  | k + 1, s, i => if i < (bl s).length ∧ (bl s).getD i 0 ≠ 0 then (match optLen (bl s) i with | none => [(-1, ⟨#[]⟩)] | some n => ((i : Int), s.extract i (i + n)) :: itemsF k s (i + n)) else []
theorem itemsF_fuel (s : ByteArray) : ∀ (k k' i : Nat), (bl s).length < k + i → (bl s).length < k' + i → itemsF k s i = itemsF k' s i
  | 0, 0, _, _, _ => rfl
  | 0, k' + 1, i, h, _ => by rw [itemsF, itemsF, if_neg (by omega)]
  | k + 1, 0, i, _, h => by rw [itemsF, itemsF, if_neg (by omega)]
  | k + 1, k' + 1, i, h, h' => by
    rw [itemsF, itemsF]
    by_cases c : i < (bl s).length ∧ (bl s).getD i 0 ≠ 0
    · rw [if_pos c, if_pos c]
      cases ho : optLen (bl s) i with
      | none => rfl
      | some n =>
        have hb := optLen_bound c.1 ho
        simp only
        rw [itemsF_fuel s k k' (i + n) (by omega) (by omega)]
    · rw [if_neg c, if_neg c]
def items (s : ByteArray) (i : Nat) : List (Int × ByteArray) := itemsF ((bl s).length + 1) s i
theorem items_end {s : ByteArray} {i : Nat} (h : ¬ (i < (bl s).length ∧ (bl s).getD i 0 ≠ 0)) : items s i = [] := by unfold items; rw [itemsF, if_neg h]
theorem items_bad {s : ByteArray} {i : Nat} (h : i < (bl s).length ∧ (bl s).getD i 0 ≠ 0) (ho : optLen (bl s) i = none) : items s i = [(-1, ⟨#[]⟩)] := by unfold items; rw [itemsF, if_pos h, ho]
theorem items_step {s : ByteArray} {i n : Nat} (h : i < (bl s).length ∧ (bl s).getD i 0 ≠ 0) (ho : optLen (bl s) i = some n) : items s i = ((i : Int), s.extract i (i + n)) :: items s (i + n) := by
  have hb := optLen_bound h.1 ho
  unfold items
  rw [itemsF, if_pos h, ho]
  simp only
  rw [itemsF_fuel s (bl s).length ((bl s).length + 1) (i + n) (by omega) (by omega)]
def itemOf (s : ByteArray) (p : Nat × Nat) : Int × ByteArray := ((p.1 : Int), s.extract p.1 (p.1 + p.2))
theorem items_right (s : ByteArray) : ∀ i L, W (bl s) i = some L → items s i = L.map (itemOf s) := by
  refine W_ind (P := fun i => ∀ L, W (bl s) i = some L → items s i = L.map (itemOf s)) (bl s) fun i ih L h => ?_
  rcases W_cons h with ⟨c, rfl⟩ | ⟨c, n, L', ho, hw, rfl⟩
  · exact items_end c
  · have hb := optLen_bound c.1 ho
    rw [items_step c ho, ih n hb.1 c.1 L' hw]; rfl
theorem items_wrong (s : ByteArray) : ∀ i, W (bl s) i = none → ∃ L : List (Nat × Nat), items s i = L.map (itemOf s) ++ [(-1, ⟨#[]⟩)] := by
  refine W_ind (P := fun i => W (bl s) i = none → ∃ L : List (Nat × Nat), items s i = L.map (itemOf s) ++ [(-1, ⟨#[]⟩)]) (bl s) fun i ih h => ?_
  by_cases c : i < (bl s).length ∧ (bl s).getD i 0 ≠ 0
  · cases ho : optLen (bl s) i with
    | none => exact ⟨[], items_bad c ho⟩
    | some n =>
      have hb := optLen_bound c.1 ho
      rw [W_step c, ho, Option.bind_some] at h
      obtain ⟨L, hL⟩ := ih n hb.1 c.1 (by cases hw : W (bl s) (i + n) with | none => rfl | some M => rw [hw] at h; exact absurd h (by simp))
      exact ⟨(i, n) :: L, by rw [items_step c ho, hL]; rfl⟩
  · rw [W_end c] at h; exact absurd h (by simp)
theorem items_all (s : ByteArray) : rightO (bl s) = true ↔ ∀ x ∈ items s 0, ¬ x.1 < 0 := by
  unfold rightO
  cases hw : W (bl s) 0 with
  | some L =>
    rw [items_right s 0 L hw]
    refine ⟨fun _ x hx => ?_, fun _ => rfl⟩
    obtain ⟨p, _, rfl⟩ := List.mem_map.mp hx
    unfold itemOf; dsimp only; omega
  | none =>
    obtain ⟨L, hL⟩ := items_wrong s 0 hw
    rw [hL]
    refine ⟨fun h => absurd h (by simp), fun h => absurd (h (-1, ⟨#[]⟩) (by simp)) (by decide)⟩
end Go.Proofs.Ytcmalglippmocaa.Pal
end

section
namespace Go.Proofs.Ytcmalglippmocaa.G
open Go.RowKit Go.Shelf Go.Proofs.YtcmalglippmocaaW.PrintWords Go.Proofs.YtcmalglippmocaaW.PrintLast Go.Proofs.YtcmalglippmocaaW.PrintMore Go.Proofs.Ytcmalglippmocaa.Pal
attribute [local go_sem] Oper.semAt_some

set_option maxRecDepth 100000 in
set_option maxHeartbeats 2000000 in
theorem walk_in (F : Fence) (n : Nat) (hf : F.fn 79) (hro : F.round = none) (s : ByteArray) (w : World) :
    CallsIn F n Try.prog 79 #[.string s] w fun e w' => e = .returned (.func (.func 84) #[] #[.pointer (some ⟨w.heap.size, 0, none⟩)]) ∧ w' = w.alloc (.cells #[.string s] 9) := by
  have hmf : ∀ (fn : Fn) (first cap : Array Value) (w : World), (Instr.makeFunc fn first cap).run Try.prog w = .ok (.func fn first cap) w := fun _ _ _ _ => rfl
  refine callsIn_of_wp Try.func79 rfl hf ?_ hro
  simp only [Try.ntmps79, List.size_toArray, List.length_cons, List.length_nil, Nat.reduceAdd, Nat.reduceSub, Array.replicate_succ, Array.replicate_zero, List.push_toArray, List.append_toArray, List.nil_append, List.cons_append]
  gi_wp2
  go_ret
  exact ⟨rfl, rfl⟩

theorem wr_one (m : Nat) (h : m < 256) : wrap64 (m : Int) = (m : Int) ∧ IntKind.i64.wrap (m : Int) = (m : Int) := by
  refine ⟨by unfold wrap64; omega, by rw [IntKind.wrap_i64]; omega⟩
theorem lt_two {a i m : Nat} (h : a < i + m) : (a : Int) < (i : Int) + (m : Int) := by omega
theorem not_lt_two {a i m : Nat} (h : ¬ a < i + m) : ¬ (a : Int) < (i : Int) + (m : Int) := by omega
theorem le_two (i m : Nat) : (i : Int) ≤ (i : Int) + (m : Int) := by omega
theorem le_two' {a i m : Nat} (h : i + m ≤ a) : (i : Int) + (m : Int) ≤ (a : Int) := by omega
theorem toNat_two (i m : Nat) : ((i : Int) + (m : Int)).toNat = i + m := by omega
theorem less_two {s i m : Nat} (h : 2 ≤ m) (h2 : i < s) : s - ((i : Int) + (m : Int)).toNat < s - (i : Int).toNat := by omega
theorem wr_two (i m : Nat) (h : i + m ≤ 140737488351232 + 256) : wrap64 ((i : Int) + (m : Int)) = (i : Int) + (m : Int) ∧ IntKind.i64.wrap ((i : Int) + (m : Int)) = (i : Int) + (m : Int) := by
  refine ⟨by unfold wrap64; omega, by rw [IntKind.wrap_i64]; omega⟩
set_option maxRecDepth 100000 in
set_option maxHeartbeats 4000000 in
theorem walk1_in (n : Nat) (hn : 1 ≤ n) (l Bn n₀ : Nat) (s : ByteArray) (hs : s.size ≤ 140737488351232) (J Jx : List (Int × ByteArray) → World → Prop)
    (hA : ∀ p W k, J p W → J p (W.drewN k))
    (hY : ∀ pre (x : Int × ByteArray) W, J pre W → pre.length < (items s 0).length → pre ++ [x] <+: items s 0 → YieldAt Fence.wide (n - 1) Try.prog l #[.int .i64 x.1, .string x.2] W fun e W' =>
      (e = .returned (.bool true) ∧ J (pre ++ [x]) W' ∧ Below n₀ W W') ∨ (e = .returned (.bool false) ∧ Jx (pre ++ [x]) W'))
    (W : World) (hB : Bn < n₀) (hBn : W.cell? ⟨Bn, 0, none⟩ = some (.string s)) (h0 : J [] W) :
    CallsIn Fence.wide n Try.prog 84 #[.func (.yield l) #[] #[], .pointer (some ⟨Bn, 0, none⟩)] W fun e W' => (∃ v, e = .returned v) ∧
      ((∃ ys, ys = items s 0 ∧ J ys W') ∨ (∃ pre, pre <+: items s 0 ∧ Jx pre W')) := by
  refine callsIn_of_wp Try.func84 rfl trivial ?_ rfl
  simp only [Try.ntmps84, List.size_toArray, List.length_cons, List.length_nil, Nat.reduceAdd, Nat.reduceSub, Array.replicate_succ, Array.replicate_zero, List.push_toArray, List.append_toArray, List.nil_append, List.cons_append]
  have HS := Aside0.mk hs
  clear hs
  gi_wp2
  gi_loopw [3] (fun p wr => ∃ (i : Nat) (pre : List (Int × ByteArray)), p = .int .i64 (i : Int) ∧ Aside0 (i ≤ s.size) ∧ Aside0 (items s 0 = pre ++ items s i) ∧ J pre wr ∧ wr.cell? ⟨Bn, 0, none⟩ = some (.string s))
    (fun p wr => s.size - (intOf p).toNat)
  case atStart => exact ⟨0, [], rfl, ⟨Nat.zero_le _⟩, ⟨rfl⟩, h0, hBn⟩
  case round =>
    obtain ⟨i, pre, rfl, HI, HT, hJ, hc⟩ := hrel
    by_cases hlt : i < s.size
    case neg =>
      have q1 : decide ((i : Int) < (s.size : Int)) = false := decide_eq_false (by omega)
      have q2 : decide (i < s.size) = false := decide_eq_false hlt
      have he : items s i = [] := items_end (by rw [bl_length]; exact fun h => hlt h.1)
      rw [he, List.append_nil] at HT
      gi_wp2
      go_end0
      exact ⟨⟨_, rfl⟩, .inl ⟨pre, HT.out.symm, hJ⟩⟩
    have q1 : decide ((i : Int) < (s.size : Int)) = true := decide_eq_true (by omega)
    have q2 : decide (i < s.size) = true := decide_eq_true hlt
    have hx : (bl s).getD i 0 = s[i] := by simp [List.getD_eq_getElem?_getD, List.getElem?_eq_getElem (show i < (bl s).length by rw [bl_length]; exact hlt)]; rfl
    by_cases h0 : s[i] = 0
    · have e1 : ((s[i].toNat : Int) != 0) = false := by rw [h0]; rfl
      have e2 : (s[i].toNat != 0) = false := by rw [h0]; rfl
      have he : items s i = [] := items_end (by rw [hx, h0]; exact fun h => h.2 rfl)
      rw [he, List.append_nil] at HT
      gi_wp2
      go_end0
      exact ⟨⟨_, rfl⟩, .inl ⟨pre, HT.out.symm, hJ⟩⟩
    have e1 : ((s[i].toNat : Int) != 0) = true := by rw [bne_iff_ne]; intro h; exact h0 (UInt8.toNat_inj.1 (by show s[i].toNat = 0; omega))
    have e2 : (s[i].toNat != 0) = true := by rw [bne_iff_ne]; intro h; exact h0 (UInt8.toNat_inj.1 h)
    by_cases h1 : s[i] = 1
    · have f1 : ((s[i].toNat : Int) != 1) = false := by rw [h1]; rfl
      have f2 : (s[i].toNat != 1) = false := by rw [h1]; rfl
      have ho : optLen (bl s) i = some 1 := by unfold optLen; rw [hx, if_pos h1]
      have hc' : i < (bl s).length ∧ (bl s).getD i 0 ≠ 0 := ⟨by rw [bl_length]; exact hlt, by rw [hx]; exact h0⟩
      have HE := Aside0.mk (items_step hc' ho)
      have HL := Aside0.mk hlt
      rw [HE.out] at HT
      obtain ⟨fn, tmps, assign, body, hy, hR⟩ := hY pre ((i : Int), s.extract i (i + 1)) wr hJ (by rw [HT.out]; simp) (by rw [HT.out]; simp)
      have HY := Aside0.mk hY
      have w1_ : wrap64 ((i : Int) + 1) = ((i + 1 : Nat) : Int) := by have := HS.out; unfold wrap64; omega
      have w2_ : IntKind.i64.wrap ((i : Int) + 1) = ((i + 1 : Nat) : Int) := by have := HS.out; rw [IntKind.wrap_i64]; omega
      have q3 : ((i : Int) + 1 ≤ (s.size : Int)) = True := eq_true (by omega)
      have q4 : (i + 1 ≤ s.size) = True := eq_true (by omega)
      clear h0 h1 hY hx ho hc' HE
      dsimp only at hy
      have hsl : ∀ wx : World, (Instr.slice 9 (.string s) (some (.int .i64 (i : Int))) (some (.int .i64 ((i : Int) + 1))) none).run Try.prog wx = .ok (.string (s.extract i (i + 1))) wx := fun wx => by
        have := run_slice_string (P := Try.prog) wx 9 s .i64 .i64 (i : Int) ((i : Int) + 1) Try.underlying9 (by omega) (by omega) (by have := HL.out; omega)
        rwa [Int.toNat_natCast, show ((i : Int) + 1).toNat = i + 1 by omega] at this
      gi_wp2
      clear hsl
      refine hR.mono ?_
      rintro e W3 (⟨rfl, hJ3, hk3⟩ | ⟨rfl, hJx3⟩)
      · have hc3 := (hk3.cell (p := ⟨Bn, 0, none⟩) hB).trans hc
        gi_wp2
        go_roundw
        case rel => exact ⟨i + 1, pre ++ [((i : Int), s.extract i (i + 1))], rfl, ⟨by have := HL.out; omega⟩, ⟨by rw [HT.out]; simp⟩, hJ3, hc3⟩
        case measure => have := HL.out; simp [intOf]; omega
      · gi_wp2
        refine bodyPost_ret (results_none rfl _ _ _) rfl ?_
        exact ⟨⟨_, rfl⟩, .inr ⟨pre ++ [((i : Int), s.extract i (i + 1))], ⟨items s (i + 1), by rw [HT.out]; simp⟩, hJx3⟩⟩
    have f1 : ((s[i].toNat : Int) != 1) = true := by rw [bne_iff_ne]; intro h; exact h1 (UInt8.toNat_inj.1 (by show s[i].toNat = 1; omega))
    have f2 : (s[i].toNat != 1) = true := by rw [bne_iff_ne]; intro h; exact h1 (UInt8.toNat_inj.1 h)
    have hmx : Try.prog.follows .mixedOrders = true := by kernel_rfl
    have hc' : i < (bl s).length ∧ (bl s).getD i 0 ≠ 0 := ⟨by rw [bl_length]; exact hlt, by rw [hx]; exact h0⟩
    have w1_ : wrap64 ((i : Int) + 1) = (i : Int) + 1 := by have := HS.out; unfold wrap64; omega
    have w2_ : IntKind.i64.wrap ((i : Int) + 1) = (i : Int) + 1 := by have := HS.out; rw [IntKind.wrap_i64]; omega
    have HL := Aside0.mk hlt
    by_cases hend : i + 1 = s.size
    · have g1 : (((i : Int) + 1) == (s.size : Int)) = true := by rw [beq_iff_eq]; omega
      have g2 : ((i + 1) == s.size) = true := by rw [beq_iff_eq]; exact hend
      have ho : optLen (bl s) i = none := by unfold optLen; rw [hx, if_neg h1, if_pos (.inl (by rw [bl_length]; exact hend))]
      have HE := Aside0.mk (items_bad hc' ho)
      rw [HE.out] at HT
      obtain ⟨fn, tmps, assign, body, hy, hR⟩ := hY pre ((-1 : Int), (⟨#[]⟩ : ByteArray)) wr.drew (hA _ _ 1 hJ) (by rw [HT.out]; simp) (by rw [HT.out]; simp)
      dsimp only at hy
      clear h0 h1 hY hx ho hc' HE hend
      gi_wp2
      refine wpIn_wide.2 ?_
      go_region
      gi_wp2
      refine hR.mono ?_
      rintro e W3 (⟨rfl, hJ3, hk3⟩ | ⟨rfl, hJx3⟩)
      · gi_wp2
        refine bodyPost_ret (results_none rfl _ _ _) rfl ?_
        exact ⟨⟨_, rfl⟩, .inl ⟨pre ++ [(-1, ⟨#[]⟩)], by rw [HT.out], hJ3⟩⟩
      · gi_wp2
        refine bodyPost_ret (results_none rfl _ _ _) rfl ?_
        exact ⟨⟨_, rfl⟩, .inr ⟨pre ++ [(-1, ⟨#[]⟩)], by rw [HT.out]; exact List.prefix_refl _, hJx3⟩⟩
    have hl2 : i + 1 < s.size := by omega
    have g1 : (((i : Int) + 1) == (s.size : Int)) = false := by rw [beq_eq_false_iff_ne]; omega
    have g2 : ((i + 1) == s.size) = false := by rw [beq_eq_false_iff_ne]; exact hend
    obtain ⟨m, hm⟩ : ∃ m : Nat, m = s[i + 1].toNat := ⟨_, rfl⟩
    have hx1 : ((bl s).getD (i + 1) 0).toNat = m := by
      rw [hm]; simp [List.getD_eq_getElem?_getD, List.getElem?_eq_getElem (show i + 1 < (bl s).length by rw [bl_length]; exact hl2)]; rfl
    have HM := Aside0.mk (show m < 256 by rw [hm]; exact s[i + 1].toNat_lt)
    have hix : ∀ wx : World, (Instr.index 9 (.string s) (.int .i64 ((i : Int) + 1))).run Try.prog wx = .ok (.int .u8 (m : Int)) wx := fun wx => by
      rw [run_index_string (P := Try.prog) (w := wx) 9 s .i64 ((i : Int) + 1) Try.underlying9, dif_pos ⟨by omega, by omega⟩, hm]
      congr 1
    have HEND := Aside0.mk hend
    clear hm hend
    by_cases hm2 : m < 2
    · have g3 : decide ((m : Int) < 2) = true := decide_eq_true (by omega)
      have g4 : decide (m < 2) = true := decide_eq_true hm2
      have ho : optLen (bl s) i = none := by unfold optLen; rw [hx, if_neg h1, if_pos (.inr (.inl (by rw [hx1]; exact hm2)))]
      have HE := Aside0.mk (items_bad hc' ho)
      rw [HE.out] at HT
      obtain ⟨fn, tmps, assign, body, hy, hR⟩ := hY pre ((-1 : Int), (⟨#[]⟩ : ByteArray)) wr.drew (hA _ _ 1 hJ) (by rw [HT.out]; simp) (by rw [HT.out]; simp)
      dsimp only at hy
      clear h0 h1 hY hx ho hc' HE hm2 hx1
      gi_wp2
      refine wpIn_wide.2 ?_
      go_region
      gi_wp2
      refine hR.mono ?_
      rintro e W3 (⟨rfl, hJ3, hk3⟩ | ⟨rfl, hJx3⟩)
      · gi_wp2
        refine bodyPost_ret (results_none rfl _ _ _) rfl ?_
        exact ⟨⟨_, rfl⟩, .inl ⟨pre ++ [(-1, ⟨#[]⟩)], by rw [HT.out], hJ3⟩⟩
      · gi_wp2
        refine bodyPost_ret (results_none rfl _ _ _) rfl ?_
        exact ⟨⟨_, rfl⟩, .inr ⟨pre ++ [(-1, ⟨#[]⟩)], by rw [HT.out]; exact List.prefix_refl _, hJx3⟩⟩
    have g3 : decide ((m : Int) < 2) = false := decide_eq_false (by omega)
    have g4 : decide (m < 2) = false := decide_eq_false hm2
    have HQ : i + m ≤ 140737488351232 + 256 := Nat.add_le_add (Nat.le_trans (Nat.le_of_lt HL.out) HS.out) (Nat.le_of_lt HM.out)
    have w5_ := (wr_one m HM.out).1
    have w6_ := (wr_one m HM.out).2
    have w3_ := (wr_two i m HQ).1
    have w4_ := (wr_two i m HQ).2
    by_cases hms : s.size < i + m
    · have g5 : decide ((s.size : Int) < (i : Int) + (m : Int)) = true := decide_eq_true (lt_two hms)
      have g6 : decide (s.size < i + m) = true := decide_eq_true hms
      have ho : optLen (bl s) i = none := by unfold optLen; rw [hx, if_neg h1, if_pos (.inr (.inr (by rw [hx1, bl_length]; exact hms)))]
      have HE := Aside0.mk (items_bad hc' ho)
      rw [HE.out] at HT
      obtain ⟨fn, tmps, assign, body, hy, hR⟩ := hY pre ((-1 : Int), (⟨#[]⟩ : ByteArray)) wr.drew (hA _ _ 1 hJ) (by rw [HT.out]; simp) (by rw [HT.out]; simp)
      dsimp only at hy
      clear h0 h1 hY hx ho hc' HE hm2 hx1 hms
      gi_wp2
      refine wpIn_wide.2 ?_
      go_region
      gi_wp2
      refine hR.mono ?_
      rintro e W3 (⟨rfl, hJ3, hk3⟩ | ⟨rfl, hJx3⟩)
      · gi_wp2
        refine bodyPost_ret (results_none rfl _ _ _) rfl ?_
        exact ⟨⟨_, rfl⟩, .inl ⟨pre ++ [(-1, ⟨#[]⟩)], by rw [HT.out], hJ3⟩⟩
      · gi_wp2
        refine bodyPost_ret (results_none rfl _ _ _) rfl ?_
        exact ⟨⟨_, rfl⟩, .inr ⟨pre ++ [(-1, ⟨#[]⟩)], by rw [HT.out]; exact List.prefix_refl _, hJx3⟩⟩
    have g5 : decide ((s.size : Int) < (i : Int) + (m : Int)) = false := decide_eq_false (not_lt_two hms)
    have g6 : decide (s.size < i + m) = false := decide_eq_false hms
    have ho : optLen (bl s) i = some m := by unfold optLen; rw [hx, if_neg h1, hx1, if_neg (by rw [bl_length]; exact fun h => h.elim HEND.out (fun h => h.elim hm2 hms))]
    have HE := Aside0.mk (items_step hc' ho)
    rw [HE.out] at HT
    obtain ⟨fn, tmps, assign, body, hy, hR⟩ := hY pre ((i : Int), s.extract i (i + m)) wr.drew (hA _ _ 1 hJ) (by rw [HT.out]; simp) (by rw [HT.out]; simp)
    dsimp only at hy
    have HN := Aside0.mk (show 2 ≤ m ∧ i + m ≤ s.size from ⟨Nat.le_of_not_lt hm2, Nat.le_of_not_lt hms⟩)
    have hsl : ∀ wx : World, (Instr.slice 9 (.string s) (some (.int .i64 (i : Int))) (some (.int .i64 ((i : Int) + (m : Int)))) none).run Try.prog wx = .ok (.string (s.extract i (i + m))) wx := fun wx => by
      have := run_slice_string (P := Try.prog) wx 9 s .i64 .i64 (i : Int) ((i : Int) + (m : Int)) Try.underlying9 (Int.natCast_nonneg _) (le_two i m) (le_two' HN.out.2)
      rwa [Int.toNat_natCast, show ((i : Int) + (m : Int)).toNat = i + m from toNat_two i m] at this
    clear h0 h1 hY hx ho hc' HE hm2 hx1 hms
    gi_wp2
    refine wpIn_wide.2 ?_
    go_region
    have hc2 : wr.drew.cell? ⟨Bn, 0, none⟩ = some (.string s) := hc
    gi_wp2
    clear hsl hix
    refine hR.mono ?_
    rintro e W3 (⟨rfl, hJ3, hk3⟩ | ⟨rfl, hJx3⟩)
    · have hc3 := (hk3.cell (p := ⟨Bn, 0, none⟩) hB).trans hc2
      gi_wp2
      go_roundw
      case rel => exact ⟨i + m, pre ++ [((i : Int), s.extract i (i + m))], by simp, ⟨HN.out.2⟩, ⟨by rw [HT.out]; simp⟩, hJ3, hc3⟩
      case measure => simp only [intOf]; exact less_two HN.out.1 HL.out
    · gi_wp2
      refine bodyPost_ret (results_none rfl _ _ _) rfl ?_
      exact ⟨⟨_, rfl⟩, .inr ⟨pre ++ [((i : Int), s.extract i (i + m))], ⟨items s (i + m), by rw [HT.out]; simp⟩, hJx3⟩⟩
abbrev ItemR := { x : Int × ByteArray // 0 < x.2.size }
abbrev encR (x : ItemR) : Array Value := #[.int .i64 x.1.1, .string x.1.2]
abbrev encI (x : Int × ByteArray) : Array Value := #[.int .i64 x.1, .string x.2]
theorem walk_stops (n : Nat) (hn : 1 ≤ n) (Bn n₀ : Nat) (s : ByteArray) (hs : s.size ≤ 140737488351232) (w : World) (hB : Bn < n₀) (hn₀ : n₀ ≤ w.heap.size) (hc : w.cell? ⟨Bn, 0, none⟩ = some (.string s)) :
    SeqStopsK Fence.wide n Try.prog 84 #[.pointer (some ⟨Bn, 0, none⟩)] encI (Below n₀) (fun ys => ys = items s 0) (fun pre => pre <+: items s 0) (items s 0).length w := fun l J Jx W hW hJ _ hY h0 =>
  walk1_in n hn l Bn n₀ s hs J Jx (fun p W k h => hJ p W (W.drewN k) none h (grown_drewN (grown_refl W none) k) (fun r e => by cases e)) (fun pre x W h1 h2 _ => hY pre x W h1 h2) W hB ((hW.cell (p := ⟨Bn, 0, none⟩) (Nat.lt_of_lt_of_le hB hn₀)).trans hc) h0
theorem walk_stopsR (n : Nat) (hn : 1 ≤ n) (Bn n₀ : Nat) (s : ByteArray) (hs : s.size ≤ 140737488351232) (hr : ∀ x ∈ items s 0, 0 < x.2.size) (w : World) (hB : Bn < n₀) (hn₀ : n₀ ≤ w.heap.size) (hc : w.cell? ⟨Bn, 0, none⟩ = some (.string s)) :
    SeqStopsK Fence.wide n Try.prog 84 #[.pointer (some ⟨Bn, 0, none⟩)] encR (Below n₀) (fun ys => ys.map (·.1) = items s 0) (fun pre => pre.map (·.1) <+: items s 0) (items s 0).length w := fun l J Jx W hW hJ _ hY h0 => by
  refine (walk1_in n hn l Bn n₀ s hs (fun pre W => ∃ q : List ItemR, q.map (·.1) = pre ∧ J q W) (fun pre W => ∃ q : List ItemR, q.map (·.1) = pre ∧ Jx q W)
    (fun p W k h => by obtain ⟨q, rfl, h⟩ := h; exact ⟨q, rfl, hJ q W (W.drewN k) none h (grown_drewN (grown_refl W none) k) (fun r e => by cases e)⟩)
    (fun pre x W h1 h2 h3 => ?_) W hB ((hW.cell (p := ⟨Bn, 0, none⟩) (Nat.lt_of_lt_of_le hB hn₀)).trans hc) ⟨[], rfl, h0⟩).mono ?_
  · obtain ⟨q, rfl, h1⟩ := h1
    obtain ⟨fn, tmps, assign, body, hy, hR⟩ := hY q ⟨x, hr x (h3.subset (by simp))⟩ W h1 (by simpa using h2)
    refine ⟨fn, tmps, assign, body, hy, hR.mono ?_⟩
    rintro e W3 (⟨rfl, hJ3, hk3⟩ | ⟨rfl, hJx3⟩)
    · exact .inl ⟨rfl, ⟨_, by simp, hJ3⟩, hk3⟩
    · exact .inr ⟨rfl, _, by simp, hJx3⟩
  · rintro e W' ⟨he, ⟨ys, h1, q, rfl, h2⟩ | ⟨pre, h1, q, rfl, h2⟩⟩
    · exact ⟨he, .inl ⟨q, h1, h2⟩⟩
    · exact ⟨he, .inr ⟨q, h1, h2⟩⟩
end Go.Proofs.Ytcmalglippmocaa.G
end

section
namespace Go.Proofs.Ytcmalglippmocaa.G
open Go.RowKit Go.Shelf Go.Proofs.YtcmalglippmocaaW.PrintWords Go.Proofs.YtcmalglippmocaaW.PrintLast Go.Proofs.YtcmalglippmocaaW.PrintMore Go.Proofs.Ytcmalglippmocaa.Pal
attribute [local go_sem] Oper.semAt_some
def hasNeg (l : List (Int × ByteArray)) : Prop := ∃ x ∈ l, x.1 < 0
def noNeg (l : List (Int × ByteArray)) : Prop := ∀ x ∈ l, ¬ x.1 < 0
set_option maxRecDepth 100000 in
set_option maxHeartbeats 4000000 in
theorem tcp_Right.calls (s : ByteArray) (r : Bool) (w : World) (h : tcp_Right.f s = some r) :
    Calls Try.prog 76 #[.string s] w fun e w' => e = .returned (.bool r) ∧ Below w.heap.size w w' := by
  unfold tcp_Right.f at h
  split at h
  case isFalse => exact absurd h (by simp)
  rename_i hs
  have hr := Option.some.inj h
  clear h
  refine (callsIn_wide (n := 4)).1 ?_
  refine callsIn_of_wp_marks Try.func76 rfl trivial ?_ rfl
  simp only [Try.ntmps76, List.size_toArray, List.length_cons, List.length_nil, Nat.reduceAdd, Nat.reduceSub, Array.replicate_succ, Array.replicate_zero, List.push_toArray, List.append_toArray, List.nil_append, List.cons_append]
  gi_wp2_with (refine ⟨trivial, ?_⟩; gi_at_call 79; refine (walk_in Fence.wide _ trivial rfl s _).mono ?_; rintro e w' ⟨rfl, rfl⟩)
  have hc0 : ((w.alloc (.cells #[.bool false] 4)).alloc (.cells #[.string s] 9)).cell? ⟨w.heap.size + 1, 0, none⟩ = some (.string s) := by
    have := (Blk.new (w.alloc (.cells #[.bool false] 4)) 9 #[.string s]).cell 0 _ rfl
    rwa [World.size_alloc] at this
  have hb0 := (Blk.new w 4 #[.bool false]).alloc (.cells #[.string s] 9)
  have hB0 : Below w.heap.size w ((w.alloc (.cells #[.bool false] 4)).alloc (.cells #[.string s] 9)) := ((Below.refl _ w).alloc (Nat.le_refl _) _).alloc (by simp) _
  refine wpIn_rangeFunc_ownF (α := Int × ByteArray) (encs := encI) rfl (show 1 ≤ 4 by decide) (gf := 84) (lb := #[.pointer (some ⟨w.heap.size + 1, 0, none⟩)]) rfl trivial (enters_of Try.func84 (by kernel_rfl) rfl)
    (walk_stops 3 (by decide) (w.heap.size + 1) (w.heap.size + 2) s hs _ (by omega) (by simp) hc0) belowK_t (belowK_b (by simp)) (Below.refl _ _) (fun _ => rfl)
    (fun pre W => (W.cell? ⟨w.heap.size, 0, none⟩ = some (.bool false) ∧ W.frozen? ⟨w.heap.size, 0, none⟩ = false ∧ noNeg pre) ∧ Below w.heap.size w W)
    (fun c pre W => (c = .ret ∧ W.cell? ⟨w.heap.size, 0, none⟩ = some (.bool false) ∧ hasNeg pre) ∧ Below w.heap.size w W)
    (OwnFrom.and (Own.from (fun s A B row hs hg hr => ⟨cell_kept hs.1 hg hr, (frozen_kept hs.1 hg hr).trans hs.2.1, hs.2.2⟩) _) (ownFrom_below (Nat.le_refl _) (by simp; omega)))
    (fun c => OwnFrom.and (Own.from (fun s A B row hs hg hr => ⟨hs.1, cell_kept hs.2.1 hg hr, hs.2.2⟩) _) (ownFrom_below (Nat.le_refl _) (by simp; omega)))
    ⟨⟨hb0.cell 0 _ rfl, hb0.free 0, fun x hx => absurd hx (by simp)⟩, hB0⟩
    (fun x => { tmps := #[.string s, undef, .pointer (some ⟨w.heap.size, 0, none⟩), .int .i64 x.1, .string s, .func (.func 84) #[] #[.pointer (some ⟨w.heap.size + 1, 0, none⟩)], .int .i64 x.1, .string x.2, undef, undef], defers := [] }) ?assign ?body ?done ?stop
  case assign =>
    intro l x W K hK
    gi_wp2
    exact hK
  case body =>
    rintro l pre x W ⟨⟨hcl, hfr, hall⟩, hB⟩ _
    by_cases hx : x.1 < 0
    · have d1 : decide (x.1 < 0) = true := decide_eq_true hx
      have HX := Aside0.mk (show hasNeg (pre ++ [x]) from ⟨x, by simp, hx⟩)
      clear hx
      gi_wp2
      exact ⟨KeepsOthers.setCell _ _ _, ⟨rfl, World.cell?_setCell_same' _ _ _ (by rw [hcl]; rfl), HX.out⟩, hB.setCell (p := ⟨w.heap.size, 0, none⟩) (Nat.le_refl _) _⟩
    · have d1 : decide (x.1 < 0) = false := decide_eq_false hx
      have HX := Aside0.mk (show noNeg (pre ++ [x]) from fun y hy => by rcases List.mem_append.1 hy with hy | hy; exact hall y hy; rw [List.mem_singleton.1 hy]; exact hx)
      clear hx
      gi_wp2
      exact ⟨KeepsOthers.refl _, Below.refl _ _, ⟨hcl, hfr, HX.out⟩, hB⟩
  case done =>
    rintro D ys W hD rfl ⟨⟨hcl, hfr, hall⟩, hB⟩ hK
    have hrt : rightO (bl s) = true := (items_all s).mpr hall
    gi_wp2
    have hK' := (KeepsOthers.setCell W ⟨w.heap.size, 0, none⟩ (.bool true)).same D _ hK rfl
    refine ⟨by simp, .inl ⟨_, _, rfl, run_takeDeferred hK', ?_⟩⟩
    have hc5 := cell_kept (World.cell?_setCell_same' W ⟨w.heap.size, 0, none⟩ (.bool true) (by rw [hcl]; rfl)) (grownBy_putObj' _ D (.deferred none)) (fun r e => by cases e; exact ⟨_, hK', rfl⟩)
    refine ⟨.bool true, ?_, by rw [← hr, hrt], (hB.setCell (p := ⟨w.heap.size, 0, none⟩) (Nat.le_refl _) _).trans (belowK_b (w := w) (Nat.le_refl _) _ D _ _ (by simp at hD; omega) hK' rfl rfl)⟩
    simp [results, Try.f76, go_sem, hc5]
  case stop =>
    rintro D c pre W hD hSp ⟨⟨rfl, hcl, x, hx, hx0⟩, hB⟩ hK
    have hrt : rightO (bl s) = false := by
      cases hq : rightO (bl s) with
      | false => rfl
      | true => exact absurd hx0 ((items_all s).mp hq x (hSp.subset hx))
    gi_wp2
    refine ⟨by simp, .inl ⟨_, _, rfl, run_takeDeferred hK, ?_⟩⟩
    have hc5 := cell_kept hcl (grownBy_putObj' _ D (.deferred none)) (fun r e => by cases e; exact ⟨_, hK, rfl⟩)
    refine ⟨.bool false, ?_, by rw [← hr, hrt], hB.trans (belowK_b (w := w) (Nat.le_refl _) _ D _ _ (by simp at hD; omega) hK rfl rfl)⟩
    simp [results, Try.f76, go_sem, hc5]
end Go.Proofs.Ytcmalglippmocaa.G
end

section
namespace Go.Proofs.Ytcmalglippmocaa.G
open Go.RowKit Go.Proofs.YtcmalglippmocaaW.PrintWords Go.Proofs.YtcmalglippmocaaW.PrintLast Go.Proofs.YtcmalglippmocaaW.PrintMore Go.Proofs.Ytcmalglippmocaa.Pal

theorem TakeT.went (R : Nat) (s : ByteArray) (n m : Nat) (w : World) (h : Rd w R s n) (hm : n + m ≤ s.size) :
    Calls Try.prog 70 #[.pointer (some ⟨R, 0, none⟩), .int .i64 (m : Int)] w fun e w' => e = .returned (.string (s.extract n (n + m))) ∧ Went w w' R s (n + m) := by
  refine (Reader_Take.yes R s n m w h hm).mono ?_
  rintro e w' ⟨rfl, k, j, rfl⟩
  exact ⟨rfl, grown_drewN (World.grownBy.trans (grown_drewN (grown_refl w _) k) (grown_setCell _ _ _ _)) j, (((h.1.drewN k).set 1 (.int .i64 ((n + m : Nat) : Int))).drewN j), hm, h.2.2⟩
def VT (k : Nat) (s : ByteArray) (w w1 : World) (n : Nat) (cs : Array Value) (x : Int) : Prop :=
  Rd w1 (k + 5) s n ∧ Hp w1 [(k, 9, #[.string s]), (k + 1, 69, #[.int .i64 0, .int .i64 0, .int .u32 0, .int .u32 0, .int .i64 0, .int .i64 0, .int .i64 0, .string ⟨#[]⟩, .string ⟨#[]⟩]), (k + 2, 69, cs), (k + 3, 3, #[.int .i64 x]), (k + 4, 25, #[.int .i64 0])] ∧ Below k w w1
theorem VT.went {k : Nat} {s : ByteArray} {w w1 w2 : World} {n m : Nat} {cs : Array Value} {x : Int} (h : VT k s w w1 n cs x) (hw : Went w1 w2 (k + 5) s m) : VT k s w w2 m cs x :=
  ⟨hw.2, h.2.1.grown hw.1 (by simp), h.2.2.trans (below_of_grown hw.1 (by have := h.1.1.lt; omega) (by omega))⟩
theorem VT.put {k : Nat} {s : ByteArray} {w w1 : World} {n : Nat} {cs : Array Value} {x : Int} (h : VT k s w w1 n cs x) (j : Nat) (v : Value) : VT k s w (w1.setCell ⟨k + 2, j, none⟩ v) n (cs.setIfInBounds j v) x :=
  ⟨⟨h.1.1.other _ (by simp) _, h.1.2⟩, h.2.1.set (l1 := [_, _]) (l2 := [_, _]) j v (by simp) (by simp), h.2.2.setCell (by simp) _⟩
theorem VT.putSum {k : Nat} {s : ByteArray} {w w1 : World} {n : Nat} {cs : Array Value} {x : Int} (h : VT k s w w1 n cs x) (y : Int) : VT k s w (w1.setCell ⟨k + 3, 0, none⟩ (.int .i64 y)) n cs y :=
  ⟨⟨h.1.1.other _ (by simp) _, h.1.2⟩, h.2.1.set (l1 := [_, _, _]) (l2 := [_]) 0 (.int .i64 y) (by simp) (by simp), h.2.2.setCell (by simp) _⟩
theorem VT.drew {k : Nat} {s : ByteArray} {w w1 : World} {n : Nat} {cs : Array Value} {x : Int} (h : VT k s w w1 n cs x) : VT k s w w1.drew n cs x := ⟨h.1, h.2.1, h.2.2.drew⟩
theorem VT.step {k : Nat} {s : ByteArray} {w w1 w2 : World} {n : Nat} {cs : Array Value} {x : Int} (h : VT k s w w1 n cs x) (hb : Below w1.heap.size w1 w2) : VT k s w w2 n cs x :=
  ⟨⟨h.1.1.below hb h.1.1.lt, h.1.2⟩, h.2.1.below hb (fun y hy => (h.2.1 y hy).lt), h.2.2.trans (hb.mono (by have := h.1.1.lt; omega))⟩
theorem VT.facts {k : Nat} {s : ByteArray} {w w1 : World} {n : Nat} {cs : Array Value} {x : Int} (h : VT k s w w1 n cs x) :
    w1.cell? ⟨k, 0, none⟩ = some (.string s) ∧ (∀ j, w1.frozen? ⟨k + 2, j, none⟩ = false) ∧ (∀ j, w1.cell? ⟨k + 2, j, none⟩ = cs[j]?) ∧ w1.cell? ⟨k + 3, 0, none⟩ = some (.int .i64 x) ∧ w1.frozen? ⟨k + 3, 0, none⟩ = false :=
  ⟨h.2.1.head.cell 0 _ rfl, h.2.1.tail.tail.head.frees, h.2.1.tail.tail.head.cells, h.2.1.tail.tail.tail.head.cell 0 _ rfl, h.2.1.tail.tail.tail.head.free 0⟩
def zeroT : Array Value := #[.int .i64 0, .int .i64 0, .int .u32 0, .int .u32 0, .int .i64 0, .int .i64 0, .int .i64 0, .string ⟨#[]⟩, .string ⟨#[]⟩]
def finalT (s : ByteArray) : Array Value := #[(.int .i64 ((be (bl (s.extract 0 2)) : Nat) : Int)), (.int .i64 ((be (bl (s.extract 2 4)) : Nat) : Int)), (.int .u32 ((be (bl (s.extract 4 8)) : Nat) : Int)), (.int .u32 ((be (bl (s.extract 8 12)) : Nat) : Int)), (.int .i64 ((be (bl (s.extract 13 14)) : Nat) : Int)), (.int .i64 ((be (bl (s.extract 14 16)) : Nat) : Int)), (.int .i64 ((be (bl (s.extract 18 20)) : Nat) : Int)), (.string (s.extract 20 (ht s))), (.string (s.extract (ht s) s.size))]
theorem lessT (N : Nat) (h : 20 ≤ N) (h2 : N ≤ 60) : ∃ M : Nat, 20 + M = N ∧ ((N : Int) - 20) = (M : Int) ∧ wrap64 ((N : Int) - 20) = (M : Int) ∧ IntKind.i64.wrap ((N : Int) - 20) = (M : Int) := by
  refine ⟨N - 20, by omega, by omega, ?_, ?_⟩
  · unfold wrap64; omega
  · rw [IntKind.wrap_i64]; omega

set_option maxHeartbeats 8000000 in
set_option maxRecDepth 100000 in
theorem tcp_Get1.walk (k : Nat) (s : ByteArray) (w w1 : World) (h : VT k s w w1 0 zeroT 0) :
    Calls Try.prog 75 #[.pointer (some ⟨k + 5, 0, none⟩), .pointer (some ⟨k, 0, none⟩), .pointer (some ⟨k + 2, 0, none⟩), .pointer (some ⟨k + 3, 0, none⟩)] w1 fun e w2 => e = did (tcpErr s) ∧ ∃ n cs x, VT k s w w2 n cs x ∧ (tcpErr s = 0 → cs = finalT s ∧ x = ((be (bl (s.extract 16 18)) : Nat) : Int)) := by
  have HG := Aside0.mk h
  obtain ⟨c0, c1, c2, c3, c4⟩ := HG.out.facts
  clear h c1 c2 c3 c4
  go_enter Try.func75, Try.ntmps75
  by_cases h20 : s.size < 20
  · have he : tcpErr s = 2 := if_pos h20
    have d1 : decide ((20 : Int) ≤ (s.size : Int)) = false := decide_eq_false (by omega)
    have d2 : decide (20 ≤ s.size) = false := decide_eq_false (by omega)
    clear h20
    go_wp2_with fail
    refine (Reader_Need.no _ _ _).mono ?_
    rintro e w2 ⟨rfl, rfl⟩
    exact ⟨rfl, by rw [he]; rfl, _, _, _, HG.out, fun h0 => absurd (he.symm.trans h0) (by decide)⟩
  have d1 : decide ((20 : Int) ≤ (s.size : Int)) = true := decide_eq_true (by omega)
  have d2 : decide (20 ≤ s.size) = true := decide_eq_true (by omega)
  go_wp2_with fail
  refine (Reader_Need.yes _ _ _).mono ?_
  rintro e w2 ⟨rfl, rfl⟩
  have HX := Aside0.mk (show 20 ≤ s.size by omega)
  clear d1 d2 c0 h20
  go_wp2_with fail
  refine (Reader_U16.yes _ _ _ _ HG.out.1 (by have := HX.out; omega)).mono ?_
  rintro e w11 ⟨rfl, g1⟩
  replace HG := Aside0.mk (HG.out.went g1)
  clear g1
  go_wp2_with fail
  refine (Reader_U16.yes _ _ _ _ HG.out.1 (by have := HX.out; omega)).mono ?_
  rintro e w12 ⟨rfl, g1⟩
  replace HG := Aside0.mk (HG.out.went g1)
  clear g1
  go_wp2_with fail
  refine (Reader_U32.yes _ _ _ _ HG.out.1 (by have := HX.out; omega)).mono ?_
  rintro e w13 ⟨rfl, g1⟩
  replace HG := Aside0.mk (HG.out.went g1)
  clear g1
  go_wp2_with fail
  refine (Reader_U32.yes _ _ _ _ HG.out.1 (by have := HX.out; omega)).mono ?_
  rintro e w14 ⟨rfl, g1⟩
  replace HG := Aside0.mk (HG.out.went g1)
  clear g1
  obtain ⟨c0, c1, c2, c3, c4⟩ := HG.out.facts
  simp only [zeroT] at c2
  clear c0 c3 c4
  go_wp2_with fail
  clear c1 c2
  replace HG := Aside0.mk ((((HG.out.put 0 (.int .i64 ((be (bl (s.extract 0 2)) : Nat) : Int))).put 1 (.int .i64 ((be (bl (s.extract 2 4)) : Nat) : Int))).put 2 (.int .u32 ((be (bl (s.extract 4 8)) : Nat) : Int))).put 3 (.int .u32 ((be (bl (s.extract 8 12)) : Nat) : Int)))
  simp only [zeroT, List.setIfInBounds_toArray, List.set_cons_zero, List.set_cons_succ] at HG
  generalize ((((w14.setCell ⟨k + 2, 0, none⟩ (.int .i64 ((be (bl (s.extract 0 2)) : Nat) : Int))).setCell ⟨k + 2, 1, none⟩ (.int .i64 ((be (bl (s.extract 2 4)) : Nat) : Int))).setCell ⟨k + 2, 2, none⟩ (.int .u32 ((be (bl (s.extract 4 8)) : Nat) : Int))).setCell ⟨k + 2, 3, none⟩ (.int .u32 ((be (bl (s.extract 8 12)) : Nat) : Int))) = wa at HG ⊢
  refine (Reader_U8.yes _ _ _ _ HG.out.1 (by have := HX.out; omega)).mono ?_
  rintro e wb ⟨rfl, g1⟩
  replace HG := Aside0.mk (HG.out.went g1)
  clear g1
  have hB : be (bl (s.extract 12 13)) < 256 := be_lt_of _ 1 (by rw [bl_length, ByteArray.size_extract]; have := HX.out; omega)
  have m1 : Go.bits .and .i64 ((be (bl (s.extract 12 13)) : Nat) : Int) 15 = ((be (bl (s.extract 12 13)) % 16 : Nat) : Int) := by exact Pure.and15 _ (by omega)
  have m2 : wrap64 ((ht s : Nat) : Int) = ((ht s : Nat) : Int) := by unfold ht wrap64; omega
  have m3 : IntKind.i64.wrap ((ht s : Nat) : Int) = ((ht s : Nat) : Int) := by rw [IntKind.wrap_i64]; unfold ht; omega
  have m4 : (((be (bl (s.extract 12 13)) : Nat) : Int) / 16 * 4) = ((ht s : Nat) : Int) := by unfold ht; omega
  have HN := Aside0.mk (show ht s ≤ 60 by unfold ht; omega)
  have c0 := HG.out.facts.1
  by_cases hl : 20 ≤ ht s
  case neg =>
    have l1 : decide ((20 : Int) ≤ ((ht s : Nat) : Int)) = false := decide_eq_false (by omega)
    have l2 : decide (20 ≤ ht s) = false := decide_eq_false hl
    have he : tcpErr s = 4 := by unfold tcpErr; rw [if_neg (by have := HX.out; omega), if_neg (fun h => hl h.1)]
    clear hl hB
    go_wp2_with fail
    refine (Reader_Need.no _ _ _).mono ?_
    rintro e wc ⟨rfl, rfl⟩
    exact ⟨rfl, by rw [he]; rfl, _, _, _, HG.out, fun h0 => absurd (he.symm.trans h0) (by decide)⟩
  have l1 : decide ((20 : Int) ≤ ((ht s : Nat) : Int)) = true := decide_eq_true (by omega)
  have l2 : decide (20 ≤ ht s) = true := decide_eq_true hl
  by_cases hm : ht s ≤ s.size
  case neg =>
    have m5 : decide (((ht s : Nat) : Int) ≤ (s.size : Int)) = false := decide_eq_false (by omega)
    have m6 : decide (ht s ≤ s.size) = false := decide_eq_false hm
    have he : tcpErr s = 4 := by unfold tcpErr; rw [if_neg (by have := HX.out; omega), if_neg (fun h => hm h.2)]
    clear hl hB hm
    go_wp2_with fail
    refine (Reader_Need.no _ _ _).mono ?_
    rintro e wc ⟨rfl, rfl⟩
    exact ⟨rfl, by rw [he]; rfl, _, _, _, HG.out, fun h0 => absurd (he.symm.trans h0) (by decide)⟩
  have m5 : decide (((ht s : Nat) : Int) ≤ (s.size : Int)) = true := decide_eq_true (by omega)
  have m6 : decide (ht s ≤ s.size) = true := decide_eq_true hm
  have HM := Aside0.mk (show 20 ≤ ht s ∧ ht s ≤ s.size from ⟨hl, hm⟩)
  clear hl hm
  go_wp2_with fail
  refine (Reader_Need.yes _ _ _).mono ?_
  rintro e wc ⟨rfl, rfl⟩
  clear l1 l2 m5 m6 c0
  by_cases hf : be (bl (s.extract 12 13)) % 16 = 0
  case neg =>
    have z1 : (((be (bl (s.extract 12 13)) % 16 : Nat) : Int) == 0) = false := by rw [beq_eq_false_iff_ne]; omega
    have z2 : (((be (bl (s.extract 12 13)) : Nat) : Int) % 16 == 0) = false := by rw [beq_eq_false_iff_ne]; omega
    have z3 : (be (bl (s.extract 12 13)) % 16 == 0) = false := by rw [beq_eq_false_iff_ne]; exact hf
    have he : tcpErr s = 9 := by unfold tcpErr; rw [if_neg (by have := HX.out; omega), if_pos HM.out, if_neg hf]
    clear hf hB
    go_wp2_with fail
    refine (Reader_Need.no _ _ _).mono ?_
    rintro e wd ⟨rfl, rfl⟩
    exact ⟨rfl, by rw [he]; rfl, _, _, _, HG.out, fun h0 => absurd (he.symm.trans h0) (by decide)⟩
  have z1 : (((be (bl (s.extract 12 13)) % 16 : Nat) : Int) == 0) = true := by rw [beq_iff_eq]; omega
  have z2 : (((be (bl (s.extract 12 13)) : Nat) : Int) % 16 == 0) = true := by rw [beq_iff_eq]; omega
  have z3 : (be (bl (s.extract 12 13)) % 16 == 0) = true := by rw [beq_iff_eq]; exact hf
  have HF := Aside0.mk hf
  clear hf
  go_wp2_with fail
  refine (Reader_Need.yes _ _ _).mono ?_
  rintro e wd ⟨rfl, rfl⟩
  clear z1 z2 z3 m1 m2 m3 m4 hB
  go_wp2_with fail
  refine (Reader_U8.yes _ _ _ _ HG.out.1 (by have := HX.out; omega)).mono ?_
  rintro e w15 ⟨rfl, g1⟩
  replace HG := Aside0.mk (HG.out.went g1)
  clear g1
  go_wp2_with fail
  refine (Reader_U16.yes _ _ _ _ HG.out.1 (by have := HX.out; omega)).mono ?_
  rintro e w16 ⟨rfl, g1⟩
  replace HG := Aside0.mk (HG.out.went g1)
  clear g1
  obtain ⟨c0, c1, c2, c3, c4⟩ := HG.out.facts
  clear c0 c3 c4
  go_wp2_with fail
  clear c1 c2
  replace HG := Aside0.mk ((HG.out.put 4 (.int .i64 ((be (bl (s.extract 13 14)) : Nat) : Int))).put 5 (.int .i64 ((be (bl (s.extract 14 16)) : Nat) : Int)))
  simp only [zeroT, List.setIfInBounds_toArray, List.set_cons_zero, List.set_cons_succ] at HG
  generalize ((w16.setCell ⟨k + 2, 4, none⟩ (.int .i64 ((be (bl (s.extract 13 14)) : Nat) : Int))).setCell ⟨k + 2, 5, none⟩ (.int .i64 ((be (bl (s.extract 14 16)) : Nat) : Int))) = we at HG ⊢
  refine (Reader_U16.yes _ _ _ _ HG.out.1 (by have := HX.out; omega)).mono ?_
  rintro e wf ⟨rfl, g1⟩
  replace HG := Aside0.mk (HG.out.went g1)
  clear g1
  go_wp2_with fail
  refine (Reader_U16.yes _ _ _ _ HG.out.1 (by have := HX.out; omega)).mono ?_
  rintro e w17 ⟨rfl, g1⟩
  replace HG := Aside0.mk (HG.out.went g1)
  clear g1
  obtain ⟨c0, c1, c2, c3, c4⟩ := HG.out.facts
  clear c0
  obtain ⟨M, hM, e1, e2, e3⟩ := lessT (ht s) HM.out.1 HN.out
  have HS := Aside0.mk hM
  have HS2 := Aside0.mk e2
  clear hM e1 e2 e3
  go_wp2_with fail
  rw [HS2.out]
  clear c1 c2 c3 c4
  replace HG := Aside0.mk ((HG.out.putSum ((be (bl (s.extract 16 18)) : Nat) : Int)).put 6 (.int .i64 ((be (bl (s.extract 18 20)) : Nat) : Int)))
  simp only [zeroT, List.setIfInBounds_toArray, List.set_cons_zero, List.set_cons_succ] at HG
  generalize ((w17.setCell ⟨k + 3, 0, none⟩ (.int .i64 ((be (bl (s.extract 16 18)) : Nat) : Int))).setCell ⟨k + 2, 6, none⟩ (.int .i64 ((be (bl (s.extract 18 20)) : Nat) : Int))) = wg at HG ⊢
  refine (TakeT.went _ _ _ M _ HG.out.1 (by have := HM.out; have := HS.out; omega)).mono ?_
  rintro e wh ⟨rfl, g1⟩
  replace HG := Aside0.mk (HG.out.went g1)
  clear g1
  go_wp2_with fail
  refine (Reader_Rest.calls _ _ _ _ HG.out.1).mono ?_
  rintro e wi ⟨rfl, g1⟩
  replace HG := Aside0.mk (HG.out.went g1)
  clear g1
  have HT := Aside0.mk (show 20 + M = ht s from HS.out)
  simp only [Nat.reduceAdd, HT.out] at HG ⊢
  obtain ⟨c0, c1, c2, c3, c4⟩ := HG.out.facts
  clear c0 c3 c4
  go_wp2_with fail
  clear c1 c2
  replace HG := Aside0.mk ((HG.out.put 7 (.string (s.extract 20 (ht s)))).put 8 (.string (s.extract (ht s) s.size)))
  simp only [zeroT, List.setIfInBounds_toArray, List.set_cons_zero, List.set_cons_succ] at HG
  generalize ((wi.setCell ⟨k + 2, 7, none⟩ (.string (s.extract 20 (ht s)))).setCell ⟨k + 2, 8, none⟩ (.string (s.extract (ht s) s.size))) = wj at HG ⊢
  refine (tcp_Right.calls (s.extract 20 (ht s)) (rightO (bl (s.extract 20 (ht s)))) _ (Pure.right_is _ (by simp only [ByteArray.size_extract]; have := HN.out; omega))).mono ?_
  rintro e wk ⟨rfl, g1⟩
  replace HG := Aside0.mk (HG.out.step g1)
  clear g1
  by_cases hr : rightO (bl (s.extract 20 (ht s))) = true
  case neg =>
    have he : tcpErr s = 4 := by unfold tcpErr; rw [if_neg (by have := HX.out; omega), if_pos HM.out, if_pos HF.out, if_neg hr]
    rw [Bool.eq_false_iff.mpr hr]
    clear hr
    go_wp2_with fail
    refine (Reader_Need.no _ _ _).mono ?_
    rintro e wl ⟨rfl, rfl⟩
    exact ⟨rfl, by rw [he]; rfl, _, _, _, HG.out, fun h0 => absurd (he.symm.trans h0) (by decide)⟩
  have he : tcpErr s = 0 := by unfold tcpErr; rw [if_neg (by have := HX.out; omega), if_pos HM.out, if_pos HF.out, if_pos hr]
  have HE := Aside0.mk he
  rw [hr]
  clear hr he
  go_wp2_with fail
  refine (Reader_Need.yes _ _ _).mono ?_
  rintro e wl ⟨rfl, rfl⟩
  go_wp2
  go_end0
  refine ⟨by rw [HE.out]; rfl, _, _, _, HG.out, fun _ => ⟨?_, rfl⟩⟩
  simp only [finalT]
end Go.Proofs.Ytcmalglippmocaa.G
end

section
namespace Go.Proofs.Ytcmalglippmocaa.G
open Go.RowKit Go.Proofs.YtcmalglippmocaaW.PrintWords Go.Proofs.YtcmalglippmocaaW.PrintLast Go.Proofs.YtcmalglippmocaaW.PrintMore Go.Proofs.Ytcmalglippmocaa.Pal
def VRT (k : Nat) (s : ByteArray) (w w1 : World) : Prop :=
  ∃ cs x, Hp w1 [(k, 9, #[.string s]), (k + 1, 69, #[.int .i64 0, .int .i64 0, .int .u32 0, .int .u32 0, .int .i64 0, .int .i64 0, .int .i64 0, .string ⟨#[]⟩, .string ⟨#[]⟩]), (k + 2, 69, cs), (k + 3, 3, #[.int .i64 x])] ∧ Below k w w1 ∧
    (tcpErr s = 0 → cs = finalT s ∧ x = ((be (bl (s.extract 16 18)) : Nat) : Int))
theorem VT.done {k : Nat} {s : ByteArray} {w w1 w2 : World} {n : Nat} {cs : Array Value} {x : Int} (h : VT k s w w1 n cs x) (hw : w1.grownBy w2 (some (k + 4)))
    (hx : tcpErr s = 0 → cs = finalT s ∧ x = ((be (bl (s.extract 16 18)) : Nat) : Int)) : VRT k s w w2 :=
  ⟨cs, x, Hp.grown (R := k + 4) (fun y hy => h.2.1 y (by simp at hy ⊢; rcases hy with rfl | rfl | rfl | rfl <;> simp)) hw (by simp), h.2.2.trans (below_of_grown hw (by have := h.1.1.lt; omega) (by omega)), hx⟩

set_option maxRecDepth 100000 in
theorem tcp_Get.reads (s : ByteArray) (hs : s.size ≤ 140737488351232) (w : World) :
    Calls Try.prog 65 #[.string s, .func (.func 75) #[] #[.pointer (some ⟨w.heap.size, 0, none⟩), .pointer (some ⟨w.heap.size + 1 + 1, 0, none⟩), .pointer (some ⟨w.heap.size + 1 + 1 + 1, 0, none⟩)]]
      ((((w.alloc (.cells #[.string s] 9)).alloc (.cells #[.int .i64 0, .int .i64 0, .int .u32 0, .int .u32 0, .int .i64 0, .int .i64 0, .int .i64 0, .string ⟨#[]⟩, .string ⟨#[]⟩] 69)).alloc (.cells #[.int .i64 0, .int .i64 0, .int .u32 0, .int .u32 0, .int .i64 0, .int .i64 0, .int .i64 0, .string ⟨#[]⟩, .string ⟨#[]⟩] 69)).alloc (.cells #[.int .i64 0] 3))
      fun e w' => e = .returned (.int .i64 (tcpErr s)) ∧ VRT w.heap.size s w w' := by
  obtain ⟨W, hW⟩ : ∃ W, W = ((((w.alloc (.cells #[.string s] 9)).alloc (.cells #[.int .i64 0, .int .i64 0, .int .u32 0, .int .u32 0, .int .i64 0, .int .i64 0, .int .i64 0, .string ⟨#[]⟩, .string ⟨#[]⟩] 69)).alloc (.cells #[.int .i64 0, .int .i64 0, .int .u32 0, .int .u32 0, .int .i64 0, .int .i64 0, .int .i64 0, .string ⟨#[]⟩, .string ⟨#[]⟩] 69)).alloc (.cells #[.int .i64 0] 3)) := ⟨_, rfl⟩
  have hk : W.heap.size = w.heap.size + 4 := by rw [hW]; simp
  have b0 : Blk W w.heap.size 9 #[.string s] := by rw [hW]; exact (((Blk.new w _ _).alloc _).alloc _).alloc _
  have b1 : Blk W (w.heap.size + 1) 69 #[.int .i64 0, .int .i64 0, .int .u32 0, .int .u32 0, .int .i64 0, .int .i64 0, .int .i64 0, .string ⟨#[]⟩, .string ⟨#[]⟩] := by
    rw [hW]
    have := Blk.new (w.alloc (.cells #[.string s] 9)) 69 #[.int .i64 0, .int .i64 0, .int .u32 0, .int .u32 0, .int .i64 0, .int .i64 0, .int .i64 0, .string ⟨#[]⟩, .string ⟨#[]⟩]
    rw [World.size_alloc] at this
    exact (this.alloc _).alloc _
  have b2 : Blk W (w.heap.size + 2) 69 #[.int .i64 0, .int .i64 0, .int .u32 0, .int .u32 0, .int .i64 0, .int .i64 0, .int .i64 0, .string ⟨#[]⟩, .string ⟨#[]⟩] := by
    rw [hW]
    have := Blk.new ((w.alloc (.cells #[.string s] 9)).alloc (.cells #[.int .i64 0, .int .i64 0, .int .u32 0, .int .u32 0, .int .i64 0, .int .i64 0, .int .i64 0, .string ⟨#[]⟩, .string ⟨#[]⟩] 69)) 69 #[.int .i64 0, .int .i64 0, .int .u32 0, .int .u32 0, .int .i64 0, .int .i64 0, .int .i64 0, .string ⟨#[]⟩, .string ⟨#[]⟩]
    rw [World.size_alloc, World.size_alloc] at this
    exact this.alloc _
  have b3 : Blk W (w.heap.size + 3) 3 #[.int .i64 0] := by
    rw [hW]
    have := Blk.new (((w.alloc (.cells #[.string s] 9)).alloc (.cells #[.int .i64 0, .int .i64 0, .int .u32 0, .int .u32 0, .int .i64 0, .int .i64 0, .int .i64 0, .string ⟨#[]⟩, .string ⟨#[]⟩] 69)).alloc (.cells #[.int .i64 0, .int .i64 0, .int .u32 0, .int .u32 0, .int .i64 0, .int .i64 0, .int .i64 0, .string ⟨#[]⟩, .string ⟨#[]⟩] 69)) 3 #[.int .i64 0]
    rw [World.size_alloc, World.size_alloc, World.size_alloc] at this
    exact this
  have hb : Below w.heap.size w W := by
    rw [hW]
    exact ((((Below.refl _ _).alloc (Nat.le_refl _) _).alloc (by simp) _).alloc (by simp; omega) _).alloc (by simp; omega) _
  rw [← hW]
  clear hW
  have hrd := readW_rd W s hs
  have hres := readW_res W s
  have hbl := readW_below W s
  rw [hk] at hrd hres hbl
  have hG : VT w.heap.size s w (readW W s) 0 zeroT 0 :=
    ⟨hrd, .cons (b0.below hbl (by omega)) (.cons (b1.below hbl (by omega)) (.cons (b2.below hbl (by omega)) (.cons (b3.below hbl (by omega)) (.cons hres (.nil _))))), hb.trans (hbl.mono (by omega))⟩
  have hrd' : ∀ Q : World → Prop, Calls Try.prog 75 (#[.pointer (some ⟨W.heap.size + 1, 0, none⟩)] ++ #[.pointer (some ⟨w.heap.size, 0, none⟩), .pointer (some ⟨w.heap.size + 1 + 1, 0, none⟩), .pointer (some ⟨w.heap.size + 1 + 1 + 1, 0, none⟩)]) (readW W s) (fun e w2 => e = did (tcpErr s) ∧ Blk w2 W.heap.size 25 #[.int .i64 0] ∧ Q w2) →
      Calls Try.prog 65 #[.string s, .func (.func 75) #[] #[.pointer (some ⟨w.heap.size, 0, none⟩), .pointer (some ⟨w.heap.size + 1 + 1, 0, none⟩), .pointer (some ⟨w.heap.size + 1 + 1 + 1, 0, none⟩)]] W
        fun e w' => e = .returned (.int .i64 (tcpErr s)) ∧ ∃ w2, Q w2 ∧ w2.grownBy w' (some W.heap.size) :=
    fun Q h => Read_calls 75 _ s (tcpErr s) W Q (fun _ _ => rfl) h
  rw [hk] at hrd'
  clear hrd hres hbl b0 b1 b2 b3 hb
  refine (hrd' (fun w2 => ∃ n cs x, VT w.heap.size s w w2 n cs x ∧ (tcpErr s = 0 → cs = finalT s ∧ x = ((be (bl (s.extract 16 18)) : Nat) : Int))) ?_).mono ?_
  · refine (tcp_Get1.walk w.heap.size s w (readW W s) hG).mono ?_
    rintro e w2 ⟨rfl, n, cs, x, hu, hx⟩
    exact ⟨rfl, hu.2.1.tail.tail.tail.tail.head, n, cs, x, hu, hx⟩
  · rintro e w' ⟨rfl, w2, ⟨n, cs, x, hu, hx⟩, hg⟩
    exact ⟨rfl, hu.done hg hx⟩

set_option maxHeartbeats 1000000 in
set_option maxRecDepth 100000 in
theorem tcp_Get.calls (s : ByteArray) (r1 r2 r3 r4 r5 r6 r7 : Int) (r8 r9 : ByteArray) (r10 r11 : Int) (w : World) (h : tcp_Get.f s = some (r1, r2, r3, r4, r5, r6, r7, r8, r9, r10, r11)) :
    Calls Try.prog 49 #[.string s] w fun e w' => e = .returned (.tuple #[.agg #[.int .i64 r1, .int .i64 r2, .int .u32 r3, .int .u32 r4, .int .i64 r5, .int .i64 r6, .int .i64 r7, .string r8, .string r9], .int .i64 r10, .int .i64 r11]) ∧ Below w.heap.size w w' := by
  unfold tcp_Get.f at h
  by_cases hs : s.size ≤ 140737488351232
  case neg => rw [if_neg hs] at h; exact absurd h (by simp)
  rw [if_pos hs] at h
  have hmf : ∀ (fn : Fn) (first cap : Array Value) (w : World), (Instr.makeFunc fn first cap).run Try.prog w = .ok (.func fn first cap) w := fun _ _ _ _ => rfl
  have hu := Try.underlying69
  have HS := Aside0.mk hs
  clear hs
  by_cases h0 : tcpErr s = 0
  · rw [if_pos h0] at h
    replace h := Option.some.inj h
    simp only [Prod.mk.injEq] at h
    obtain ⟨rfl, rfl, rfl, rfl, rfl, rfl, rfl, rfl, rfl, rfl, rfl⟩ := h
    have d1 : (tcpErr s != 0) = false := bne_eq_false_iff_eq.mpr h0
    have h := Aside0.mk h0
    clear h0
    go_enter Try.func49, Try.ntmps49
    go_wp2_with fail
    refine (tcp_Get.reads s HS.out w).mono ?_
    rintro e w2 ⟨rfl, cs, x, hp, hb, hx⟩
    obtain ⟨rfl, rfl⟩ := hx h.out
    have HB := Aside0.mk hb
    have c1 := hp.tail.head.cells
    have c2 := hp.tail.head.frees
    have c3 := hp.tail.tail.head.cells
    simp only [finalT] at c3
    have c4 := hp.tail.tail.tail.head.cell 0 _ rfl
    have HK := Aside0.mk hp.tail.head
    clear hp hb hx
    go_wp2_with fail
    go_region
    all_goals
      have c5 := (((((((((HK.out.set 0 (.int .i64 ((be (bl (s.extract 0 2)) : Nat) : Int))).set 1 (.int .i64 ((be (bl (s.extract 2 4)) : Nat) : Int))).set 2 (.int .u32 ((be (bl (s.extract 4 8)) : Nat) : Int))).set 3 (.int .u32 ((be (bl (s.extract 8 12)) : Nat) : Int))).set 4 (.int .i64 ((be (bl (s.extract 13 14)) : Nat) : Int))).set 5 (.int .i64 ((be (bl (s.extract 14 16)) : Nat) : Int))).set 6 (.int .i64 ((be (bl (s.extract 18 20)) : Nat) : Int))).set 7 (.string (s.extract 20 (ht s)))).set 8 (.string (s.extract (ht s) s.size))).drew.cells
      simp only [List.setIfInBounds_toArray, List.set_cons_zero, List.set_cons_succ] at c5
      clear c1 c2 c3 c4
      go_wp2
      refine ⟨rfl, _, ?_, rfl, ?_⟩
      rotate_left
      · exact (((((((((HB.out.setCell (by simp) _).setCell (by simp) _).setCell (by simp) _).setCell (by simp) _).setCell (by simp) _).setCell (by simp) _).setCell (by simp) _).setCell (by simp) _).setCell (by simp) _).drew
      simp [results, Try.results49, go_sem, hu, c5]
  · rw [if_neg h0] at h
    replace h := Option.some.inj h
    simp only [Prod.mk.injEq] at h
    obtain ⟨rfl, rfl, rfl, rfl, rfl, rfl, rfl, rfl, rfl, rfl, rfl⟩ := h
    have d1 : (tcpErr s != 0) = true := bne_iff_ne.mpr h0
    clear h0
    go_enter Try.func49, Try.ntmps49
    go_wp2_with fail
    refine (tcp_Get.reads s HS.out w).mono ?_
    rintro e w2 ⟨rfl, cs, x, hp, hb, hx⟩
    have HB := Aside0.mk hb
    have c1 := hp.tail.head.cells
    have c2 := hp.tail.head.frees
    have HK := Aside0.mk hp.tail.head
    clear hp hb hx
    go_wp2
    have c5 := (((((((((HK.out.set 0 (.int .i64 0)).set 1 (.int .i64 0)).set 2 (.int .u32 0)).set 3 (.int .u32 0)).set 4 (.int .i64 0)).set 5 (.int .i64 0)).set 6 (.int .i64 0)).set 7 (.string ⟨#[]⟩)).set 8 (.string ⟨#[]⟩)).cells
    simp only [List.setIfInBounds_toArray, List.set_cons_zero, List.set_cons_succ] at c5
    clear c1 c2
    refine ⟨rfl, _, ?_, rfl, ?_⟩
    rotate_left
    · exact (((((((((HB.out.setCell (by simp) _).setCell (by simp) _).setCell (by simp) _).setCell (by simp) _).setCell (by simp) _).setCell (by simp) _).setCell (by simp) _).setCell (by simp) _).setCell (by simp) _)
    simp [results, Try.results49, go_sem, hu, c5]
end Go.Proofs.Ytcmalglippmocaa.G
end

section
namespace Go.Proofs.Ytcmalglippmocaa.G
open Go.RowKit Go.Proofs.YtcmalglippmocaaW.PrintWords Go.Proofs.YtcmalglippmocaaW.PrintLast Go.Proofs.YtcmalglippmocaaW.PrintMore
attribute [local go_sem] max2_int min2_int max_two min_two max_three min_three max_four min_four

def flow_ports.f (a0 : Int) (a1 : ByteArray) : Option (Int × Int × Int × Int) := if a0 = 6 then ((tcp_Get.f a1).bind fun bt101 => (some (bt101.1, bt101.2.1, bt101.2.2.2.2.2.2.2.2.2.1, bt101.2.2.2.2.2.2.2.2.2.2))) else ((udp_Get.f a1).bind fun bt113 => (some (bt113.1, bt113.2.1, bt113.2.2.2.1, bt113.2.2.2.2)))
set_option maxHeartbeats 8000000 in
set_option maxRecDepth 100000 in
theorem flow_ports.calls (a0 : Int) (a1 : ByteArray) (r1 : Int) (r2 : Int) (r3 : Int) (r4 : Int) (w : World) (h : flow_ports.f a0 a1 = some (r1, r2, r3, r4)) :
  Calls Try.prog 26 #[.int .i64 a0, .string a1] w fun e w' => e = .returned (.tuple #[.int .i64 r1, .int .i64 r2, .int .i64 r3, .int .i64 r4]) ∧ Below w.heap.size w w' := by
 have hu69 := Try.underlying69
 have hu73 := Try.underlying73
 have HB := mA (Below.refl w.heap.size w)
 have H : (if a0 = 6 then ((tcp_Get.f a1).bind fun bt101 => (some (bt101.1, bt101.2.1, bt101.2.2.2.2.2.2.2.2.2.1, bt101.2.2.2.2.2.2.2.2.2.2))) else ((udp_Get.f a1).bind fun bt113 => (some (bt113.1, bt113.2.1, bt113.2.2.2.1, bt113.2.2.2.2)))) = some (r1, r2, r3, r4) := h
 clear h
 by_cases c3 : a0 = 6
 ·rw [if_pos c3] at H
  have c3b0 : (a0 == 6) = true := beq_iff_eq.mpr c3
  have c3b1 : (a0 != 6) = false := bne_eq_false_iff_eq.mpr c3
  clear c3
  replace H := Option.bind_eq_some_iff.mp H
  obtain ⟨⟨t101, t102, t103, t104, t105, t106, t107, t108, t109, t110, t111⟩, A40, H⟩ := H
  try dsimp +instances only at H
  have A4 := mA A40
  clear A40
  simp only [Option.some.injEq, Prod.mk.injEq] at H
  obtain ⟨rfl, rfl, rfl, rfl⟩ := H
  go_enter Try.func26, Try.ntmps26
  go_wp2_with (first | (go_at_call 49; (with_reducible refine (tcp_Get.calls a1 t101 t102 t103 t104 t105 t106 t107 t108 t109 t110 t111 _ A4.out).mono ?_); rintro e w5 ⟨rfl, hb⟩; have n0_ := mA (bP (by repeat (first | (with_reducible first | exact HB.out | apply bA | apply bN | apply bD) | exact HB.out)) hb); clear HB; have HB := n0_; clear n0_; (try clear hb); (try clear hb2); (try clear hk); (try clear hi)) | ((with_reducible refine gate_dst (N := 8) rfl ?_); refine box_event ?hg (N := 8) ?hd (cs := #[.int .i64 0, .int .i64 0, .int .u32 0, .int .u32 0, .int .i64 0, .int .i64 0, .int .i64 0, .string ⟨#[]⟩, .string ⟨#[]⟩]) (t := 69) ?hr ?_; (case hd => rfl); (case hg => rfl); (case hr => first | (go_simp; done) | (go_simp; rfl)); intro gb112 hg w6 hbox hb; obtain ⟨n0_, nq_⟩ := bpr (by repeat (first | (with_reducible first | exact HB.out | apply bA | apply bN | apply bD) | exact HB.out)) hb; have n1_ := mA (hbox); have n2_ := mA ((by rw [hg]; exact nq_ : w.heap.size ≤ gb112)); have n3_ := mA ((by rw [hg]; exact nq_ : w.heap.size ≤ gb112)); clear HB; have HB := n0_; have BK112 := n1_; have GW112 := n2_; have GE112 := n3_; clear nq_; clear n0_ n1_ n2_ n3_; clear hb hbox hg; obtain ⟨hcz7_0, hcz7_1, hcz7_2, hcz7_3, hcz7_4, hcz7_5, hcz7_6, hcz7_7, hcz7_8⟩ := bc9 BK112.out; obtain ⟨hfz7_0, hfz7_1, hfz7_2, hfz7_3, hfz7_4, hfz7_5, hfz7_6, hfz7_7, hfz7_8⟩ := bf9 BK112.out))
  try obtain ⟨hcz7_0, hcz7_1, hcz7_2, hcz7_3, hcz7_4, hcz7_5, hcz7_6, hcz7_7, hcz7_8⟩ := bc9 BK112.out
  try obtain ⟨hfz7_0, hfz7_1, hfz7_2, hfz7_3, hfz7_4, hfz7_5, hfz7_6, hfz7_7, hfz7_8⟩ := bf9 BK112.out
  repeat (go_quiet (first | (go_at_call 49; (with_reducible refine (tcp_Get.calls a1 t101 t102 t103 t104 t105 t106 t107 t108 t109 t110 t111 _ A4.out).mono ?_); rintro e w5 ⟨rfl, hb⟩; have n0_ := mA (bP (by repeat (first | (with_reducible first | exact HB.out | apply bA | apply bN | apply bD) | exact HB.out)) hb); clear HB; have HB := n0_; clear n0_; (try clear hb); (try clear hb2); (try clear hk); (try clear hi)) | ((with_reducible refine gate_dst (N := 8) rfl ?_); refine box_event ?hg (N := 8) ?hd (cs := #[.int .i64 0, .int .i64 0, .int .u32 0, .int .u32 0, .int .i64 0, .int .i64 0, .int .i64 0, .string ⟨#[]⟩, .string ⟨#[]⟩]) (t := 69) ?hr ?_; (case hd => rfl); (case hg => rfl); (case hr => first | (go_simp; done) | (go_simp; rfl)); intro gb112 hg w6 hbox hb; obtain ⟨n0_, nq_⟩ := bpr (by repeat (first | (with_reducible first | exact HB.out | apply bA | apply bN | apply bD) | exact HB.out)) hb; have n1_ := mA (hbox); have n2_ := mA ((by rw [hg]; exact nq_ : w.heap.size ≤ gb112)); have n3_ := mA ((by rw [hg]; exact nq_ : w.heap.size ≤ gb112)); clear HB; have HB := n0_; have BK112 := n1_; have GW112 := n2_; have GE112 := n3_; clear nq_; clear n0_ n1_ n2_ n3_; clear hb hbox hg; try obtain ⟨hcz7_0, hcz7_1, hcz7_2, hcz7_3, hcz7_4, hcz7_5, hcz7_6, hcz7_7, hcz7_8⟩ := bc9 BK112.out; try obtain ⟨hfz7_0, hfz7_1, hfz7_2, hfz7_3, hfz7_4, hfz7_5, hfz7_6, hfz7_7, hfz7_8⟩ := bf9 BK112.out)); try go_wp2_with (first | (go_at_call 49; (with_reducible refine (tcp_Get.calls a1 t101 t102 t103 t104 t105 t106 t107 t108 t109 t110 t111 _ A4.out).mono ?_); rintro e w5 ⟨rfl, hb⟩; have n0_ := mA (bP (by repeat (first | (with_reducible first | exact HB.out | apply bA | apply bN | apply bD) | exact HB.out)) hb); clear HB; have HB := n0_; clear n0_; (try clear hb); (try clear hb2); (try clear hk); (try clear hi)) | ((with_reducible refine gate_dst (N := 8) rfl ?_); refine box_event ?hg (N := 8) ?hd (cs := #[.int .i64 0, .int .i64 0, .int .u32 0, .int .u32 0, .int .i64 0, .int .i64 0, .int .i64 0, .string ⟨#[]⟩, .string ⟨#[]⟩]) (t := 69) ?hr ?_; (case hd => rfl); (case hg => rfl); (case hr => first | (go_simp; done) | (go_simp; rfl)); intro gb112 hg w6 hbox hb; obtain ⟨n0_, nq_⟩ := bpr (by repeat (first | (with_reducible first | exact HB.out | apply bA | apply bN | apply bD) | exact HB.out)) hb; have n1_ := mA (hbox); have n2_ := mA ((by rw [hg]; exact nq_ : w.heap.size ≤ gb112)); have n3_ := mA ((by rw [hg]; exact nq_ : w.heap.size ≤ gb112)); clear HB; have HB := n0_; have BK112 := n1_; have GW112 := n2_; have GE112 := n3_; clear nq_; clear n0_ n1_ n2_ n3_; clear hb hbox hg; try obtain ⟨hcz7_0, hcz7_1, hcz7_2, hcz7_3, hcz7_4, hcz7_5, hcz7_6, hcz7_7, hcz7_8⟩ := bc9 BK112.out; try obtain ⟨hfz7_0, hfz7_1, hfz7_2, hfz7_3, hfz7_4, hfz7_5, hfz7_6, hfz7_7, hfz7_8⟩ := bf9 BK112.out)))
  refine bodyPost_ret (results_list (rs := [.tmp 4, .tmp 5, .tmp 6, .tmp 7]) rfl (by simp) (.tmp (.tmp (.tmp (.tmp .nil))))) rfl ?_
  exact ⟨by first | rfl | (simp [errW_none, errW_some] <;> rfl) | (simp [*, errW_none, errW_some] <;> rfl), by repeat (first | (with_reducible first | exact HB.out | apply bA | apply bN | apply bD | refine bS ?_ GE112.out) | exact HB.out)⟩
 ·rw [if_neg c3] at H
  have c3b0 : (a0 == 6) = false := beq_eq_false_iff_ne.mpr c3
  have c3b1 : (a0 != 6) = true := bne_iff_ne.mpr c3
  replace H := Option.bind_eq_some_iff.mp H
  obtain ⟨⟨t113, t114, t115, t116, t117⟩, A80, H⟩ := H
  try dsimp +instances only at H
  have A8 := mA A80
  clear A80
  simp only [Option.some.injEq, Prod.mk.injEq] at H
  obtain ⟨rfl, rfl, rfl, rfl⟩ := H
  go_enter Try.func26, Try.ntmps26
  go_wp2_with (first | (go_at_call 50; (with_reducible refine (udp_Get.calls a1 t113 t114 t115 t116 t117 _ A8.out).mono ?_); rintro e w9 ⟨rfl, hb⟩; have n0_ := mA (bP (by repeat (first | (with_reducible first | exact HB.out | apply bA | apply bN | apply bD) | exact HB.out)) hb); clear HB; have HB := n0_; clear n0_; (try clear hb); (try clear hb2); (try clear hk); (try clear hi)) | ((with_reducible refine gate_dst (N := 11) rfl ?_); refine box_event ?hg (N := 11) ?hd (cs := #[.int .i64 0, .int .i64 0, .string ⟨#[]⟩]) (t := 73) ?hr ?_; (case hd => rfl); (case hg => rfl); (case hr => first | (go_simp; done) | (go_simp; rfl)); intro gb118 hg w10 hbox hb; obtain ⟨n0_, nq_⟩ := bpr (by repeat (first | (with_reducible first | exact HB.out | apply bA | apply bN | apply bD) | exact HB.out)) hb; have n1_ := mA (hbox); have n2_ := mA ((by rw [hg]; exact nq_ : w.heap.size ≤ gb118)); have n3_ := mA ((by rw [hg]; exact nq_ : w.heap.size ≤ gb118)); clear HB; have HB := n0_; have BK118 := n1_; have GW118 := n2_; have GE118 := n3_; clear nq_; clear n0_ n1_ n2_ n3_; clear hb hbox hg; obtain ⟨hcz11_0, hcz11_1, hcz11_2⟩ := bc3 BK118.out; obtain ⟨hfz11_0, hfz11_1, hfz11_2⟩ := bf3 BK118.out))
  try obtain ⟨hcz11_0, hcz11_1, hcz11_2⟩ := bc3 BK118.out
  try obtain ⟨hfz11_0, hfz11_1, hfz11_2⟩ := bf3 BK118.out
  repeat (go_quiet (first | (go_at_call 50; (with_reducible refine (udp_Get.calls a1 t113 t114 t115 t116 t117 _ A8.out).mono ?_); rintro e w9 ⟨rfl, hb⟩; have n0_ := mA (bP (by repeat (first | (with_reducible first | exact HB.out | apply bA | apply bN | apply bD) | exact HB.out)) hb); clear HB; have HB := n0_; clear n0_; (try clear hb); (try clear hb2); (try clear hk); (try clear hi)) | ((with_reducible refine gate_dst (N := 11) rfl ?_); refine box_event ?hg (N := 11) ?hd (cs := #[.int .i64 0, .int .i64 0, .string ⟨#[]⟩]) (t := 73) ?hr ?_; (case hd => rfl); (case hg => rfl); (case hr => first | (go_simp; done) | (go_simp; rfl)); intro gb118 hg w10 hbox hb; obtain ⟨n0_, nq_⟩ := bpr (by repeat (first | (with_reducible first | exact HB.out | apply bA | apply bN | apply bD) | exact HB.out)) hb; have n1_ := mA (hbox); have n2_ := mA ((by rw [hg]; exact nq_ : w.heap.size ≤ gb118)); have n3_ := mA ((by rw [hg]; exact nq_ : w.heap.size ≤ gb118)); clear HB; have HB := n0_; have BK118 := n1_; have GW118 := n2_; have GE118 := n3_; clear nq_; clear n0_ n1_ n2_ n3_; clear hb hbox hg; try obtain ⟨hcz11_0, hcz11_1, hcz11_2⟩ := bc3 BK118.out; try obtain ⟨hfz11_0, hfz11_1, hfz11_2⟩ := bf3 BK118.out)); try go_wp2_with (first | (go_at_call 50; (with_reducible refine (udp_Get.calls a1 t113 t114 t115 t116 t117 _ A8.out).mono ?_); rintro e w9 ⟨rfl, hb⟩; have n0_ := mA (bP (by repeat (first | (with_reducible first | exact HB.out | apply bA | apply bN | apply bD) | exact HB.out)) hb); clear HB; have HB := n0_; clear n0_; (try clear hb); (try clear hb2); (try clear hk); (try clear hi)) | ((with_reducible refine gate_dst (N := 11) rfl ?_); refine box_event ?hg (N := 11) ?hd (cs := #[.int .i64 0, .int .i64 0, .string ⟨#[]⟩]) (t := 73) ?hr ?_; (case hd => rfl); (case hg => rfl); (case hr => first | (go_simp; done) | (go_simp; rfl)); intro gb118 hg w10 hbox hb; obtain ⟨n0_, nq_⟩ := bpr (by repeat (first | (with_reducible first | exact HB.out | apply bA | apply bN | apply bD) | exact HB.out)) hb; have n1_ := mA (hbox); have n2_ := mA ((by rw [hg]; exact nq_ : w.heap.size ≤ gb118)); have n3_ := mA ((by rw [hg]; exact nq_ : w.heap.size ≤ gb118)); clear HB; have HB := n0_; have BK118 := n1_; have GW118 := n2_; have GE118 := n3_; clear nq_; clear n0_ n1_ n2_ n3_; clear hb hbox hg; try obtain ⟨hcz11_0, hcz11_1, hcz11_2⟩ := bc3 BK118.out; try obtain ⟨hfz11_0, hfz11_1, hfz11_2⟩ := bf3 BK118.out)))
  refine bodyPost_ret (results_list (rs := [.tmp 4, .tmp 5, .tmp 6, .tmp 7]) rfl (by simp) (.tmp (.tmp (.tmp (.tmp .nil))))) rfl ?_
  exact ⟨by first | rfl | (simp [errW_none, errW_some] <;> rfl) | (simp [*, errW_none, errW_some] <;> rfl), by repeat (first | (with_reducible first | exact HB.out | apply bA | apply bN | apply bD | refine bS ?_ GE118.out) | exact HB.out)⟩

end Go.Proofs.Ytcmalglippmocaa.G
end
