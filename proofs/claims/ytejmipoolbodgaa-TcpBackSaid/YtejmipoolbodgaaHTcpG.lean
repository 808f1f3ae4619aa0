/- By hand: tcp.Get's closure, walked once, with a branch at each Need. Printed by wip/gen/tcpget.py. -/
import Derived.Test.YtejmipoolbodgaaHWireR
import Derived.Test.YtejmipoolbodgaaHRead
import Derived.Test.YtejmipoolbodgaaHTcpF
import Derived.Test.YtejmipoolbodgaaHTcpM
import Derived.Test.YtejmipoolbodgaaPIp4G
import Derived.WalkLawsBesides
import Derived.RegionTactic
import Derived.Deep.RegionWith
import Derived.StillTailTactics
namespace Go.Proofs.Ytejmipoolbodgaa.G
open Go.RowKit Go.Proofs.YtejmipoolbodgaaW.PrintWords Go.Proofs.YtejmipoolbodgaaW.PrintLast Go.Proofs.YtejmipoolbodgaaW.PrintMore Go.Proofs.Ytejmipoolbodgaa.Pal
set_option linter.unusedVariables false
set_option linter.unusedSimpArgs false

theorem TakeT.went (R : Nat) (s : ByteArray) (n m : Nat) (w : World) (h : Rd w R s n) (hm : n + m ≤ s.size) :
    Calls Try.prog 49 #[.pointer (some ⟨R, 0, none⟩), .int .i64 (m : Int)] w fun e w' => e = .returned (.string (s.extract n (n + m))) ∧ Went w w' R s (n + m) := by
  refine (Reader_Take.yes R s n m w h hm).mono ?_
  rintro e w' ⟨rfl, k, j, rfl⟩
  exact ⟨rfl, grown_drewN (World.grownBy.trans (grown_drewN (grown_refl w _) k) (grown_setCell _ _ _ _)) j, (((h.1.drewN k).set 1 (.int .i64 ((n + m : Nat) : Int))).drewN j), hm, h.2.2⟩
/-- What tcp.Get's closure works on: the text, the named result, the segment, the sum, Read's result; then the reader. -/
def VT (k : Nat) (s : ByteArray) (w w1 : World) (n : Nat) (cs : Array Value) (x : Int) : Prop :=
  Rd w1 (k + 5) s n ∧ Hp w1 [(k, 9, #[.string s]), (k + 1, 127, #[.int .i64 0, .int .i64 0, .int .u32 0, .int .u32 0, .int .i64 0, .int .i64 0, .int .i64 0, .string ⟨#[]⟩, .string ⟨#[]⟩]), (k + 2, 127, cs), (k + 3, 3, #[.int .i64 x]), (k + 4, 38, #[.int .i64 0])] ∧ Below k w w1
theorem VT.went {k : Nat} {s : ByteArray} {w w1 w2 : World} {n m : Nat} {cs : Array Value} {x : Int} (h : VT k s w w1 n cs x) (hw : Went w1 w2 (k + 5) s m) : VT k s w w2 m cs x :=
  ⟨hw.2, h.2.1.grown hw.1 (by simp), h.2.2.trans (below_of_grown hw.1 (by have := h.1.1.lt; omega) (by omega))⟩
theorem VT.put {k : Nat} {s : ByteArray} {w w1 : World} {n : Nat} {cs : Array Value} {x : Int} (h : VT k s w w1 n cs x) (j : Nat) (v : Value) : VT k s w (w1.setCell ⟨k + 2, j, none⟩ v) n (cs.setIfInBounds j v) x :=
  ⟨⟨h.1.1.other _ (by simp) _, h.1.2⟩, h.2.1.set (l1 := [_, _]) (l2 := [_, _]) j v (by simp) (by simp), h.2.2.setCell (by simp) _⟩
theorem VT.putSum {k : Nat} {s : ByteArray} {w w1 : World} {n : Nat} {cs : Array Value} {x : Int} (h : VT k s w w1 n cs x) (y : Int) : VT k s w (w1.setCell ⟨k + 3, 0, none⟩ (.int .i64 y)) n cs y :=
  ⟨⟨h.1.1.other _ (by simp) _, h.1.2⟩, h.2.1.set (l1 := [_, _, _]) (l2 := [_]) 0 (.int .i64 y) (by simp) (by simp), h.2.2.setCell (by simp) _⟩
theorem VT.drew {k : Nat} {s : ByteArray} {w w1 : World} {n : Nat} {cs : Array Value} {x : Int} (h : VT k s w w1 n cs x) : VT k s w w1.drew n cs x := ⟨h.1, h.2.1, h.2.2.drew⟩
theorem VT.step {k : Nat} {s : ByteArray} {w w1 w2 : World} {n : Nat} {cs : Array Value} {x : Int} (h : VT k s w w1 n cs x) (hb : Below w1.heap.size w1 w2) : VT k s w w2 n cs x :=
  ⟨⟨h.1.1.below hb h.1.1.lt, h.1.2⟩, h.2.1.below hb (fun y hy => (h.2.1 y hy).lt), h.2.2.trans (hb.mono (by have := h.1.1.lt; omega))⟩
theorem VT.facts {k : Nat} {s : ByteArray} {w w1 : World} {n : Nat} {cs : Array Value} {x : Int} (h : VT k s w w1 n cs x) :
    w1.cell? ⟨k, 0, none⟩ = some (.string s) ∧ (∀ j, w1.frozen? ⟨k + 2, j, none⟩ = false) ∧ (∀ j, w1.cell? ⟨k + 2, j, none⟩ = cs[j]?) ∧ w1.cell? ⟨k + 3, 0, none⟩ = some (.int .i64 x) ∧ w1.frozen? ⟨k + 3, 0, none⟩ = false :=
  ⟨h.2.1.head.cell 0 _ rfl, h.2.1.tail.tail.head.frees, h.2.1.tail.tail.head.cells, h.2.1.tail.tail.tail.head.cell 0 _ rfl, h.2.1.tail.tail.tail.head.free 0⟩
def zeroT : Array Value := #[.int .i64 0, .int .i64 0, .int .u32 0, .int .u32 0, .int .i64 0, .int .i64 0, .int .i64 0, .string ⟨#[]⟩, .string ⟨#[]⟩]
def finalT (s : ByteArray) : Array Value := #[(.int .i64 ((be (bl (s.extract 0 2)) : Nat) : Int)), (.int .i64 ((be (bl (s.extract 2 4)) : Nat) : Int)), (.int .u32 ((be (bl (s.extract 4 8)) : Nat) : Int)), (.int .u32 ((be (bl (s.extract 8 12)) : Nat) : Int)), (.int .i64 ((be (bl (s.extract 13 14)) : Nat) : Int)), (.int .i64 ((be (bl (s.extract 14 16)) : Nat) : Int)), (.int .i64 ((be (bl (s.extract 18 20)) : Nat) : Int)), (.string (s.extract 20 (ht s))), (.string (s.extract (ht s) s.size))]
theorem lessT (N : Nat) (h : 20 ≤ N) (h2 : N ≤ 60) : ∃ M : Nat, 20 + M = N ∧ ((N : Int) - 20) = (M : Int) ∧ wrap64 ((N : Int) - 20) = (M : Int) ∧ IntKind.i64.wrap ((N : Int) - 20) = (M : Int) := by
  refine ⟨N - 20, by omega, by omega, ?_, ?_⟩
  · unfold wrap64; omega
  · rw [IntKind.wrap_i64]; omega

set_option maxHeartbeats 8000000 in
set_option maxRecDepth 100000 in
theorem tcp_Get1.walk (k : Nat) (s : ByteArray) (w w1 : World) (h : VT k s w w1 0 zeroT 0) :
    Calls Try.prog 154 #[.pointer (some ⟨k + 5, 0, none⟩), .pointer (some ⟨k, 0, none⟩), .pointer (some ⟨k + 2, 0, none⟩), .pointer (some ⟨k + 3, 0, none⟩)] w1 fun e w2 => e = did (tcpErr s) ∧ ∃ n cs x, VT k s w w2 n cs x ∧ (tcpErr s = 0 → cs = finalT s ∧ x = ((be (bl (s.extract 16 18)) : Nat) : Int)) := by
  have HG := Aside0.mk h
  obtain ⟨c0, c1, c2, c3, c4⟩ := HG.out.facts
  clear h c1 c2 c3 c4
  go_enter Try.func154, Try.ntmps154
  by_cases h20 : s.size < 20
  · have he : tcpErr s = 2 := if_pos h20
    have d1 : decide ((20 : Int) ≤ (s.size : Int)) = false := decide_eq_false (by omega)
    have d2 : decide (20 ≤ s.size) = false := decide_eq_false (by omega)
    clear h20
    go_wp2_with fail
    refine (Reader_Need.no _ _ _).mono ?_
    rintro e w2 ⟨rfl, rfl⟩
    exact ⟨rfl, by rw [he]; rfl, _, _, _, HG.out, fun h0 => absurd (he.symm.trans h0) (by decide)⟩
  have d1 : decide ((20 : Int) ≤ (s.size : Int)) = true := decide_eq_true (by omega)
  have d2 : decide (20 ≤ s.size) = true := decide_eq_true (by omega)
  go_wp2_with fail
  refine (Reader_Need.yes _ _ _).mono ?_
  rintro e w2 ⟨rfl, rfl⟩
  have HX := Aside0.mk (show 20 ≤ s.size by omega)
  clear d1 d2 c0 h20
  go_wp2_with fail
  refine (Reader_U16.yes _ _ _ _ HG.out.1 (by have := HX.out; omega)).mono ?_
  rintro e w11 ⟨rfl, g1⟩
  replace HG := Aside0.mk (HG.out.went g1)
  clear g1
  go_wp2_with fail
  refine (Reader_U16.yes _ _ _ _ HG.out.1 (by have := HX.out; omega)).mono ?_
  rintro e w12 ⟨rfl, g1⟩
  replace HG := Aside0.mk (HG.out.went g1)
  clear g1
  go_wp2_with fail
  refine (Reader_U32.yes _ _ _ _ HG.out.1 (by have := HX.out; omega)).mono ?_
  rintro e w13 ⟨rfl, g1⟩
  replace HG := Aside0.mk (HG.out.went g1)
  clear g1
  go_wp2_with fail
  refine (Reader_U32.yes _ _ _ _ HG.out.1 (by have := HX.out; omega)).mono ?_
  rintro e w14 ⟨rfl, g1⟩
  replace HG := Aside0.mk (HG.out.went g1)
  clear g1
  obtain ⟨c0, c1, c2, c3, c4⟩ := HG.out.facts
  simp only [zeroT] at c2
  clear c0 c3 c4
  go_wp2_with fail
  clear c1 c2
  replace HG := Aside0.mk ((((HG.out.put 0 (.int .i64 ((be (bl (s.extract 0 2)) : Nat) : Int))).put 1 (.int .i64 ((be (bl (s.extract 2 4)) : Nat) : Int))).put 2 (.int .u32 ((be (bl (s.extract 4 8)) : Nat) : Int))).put 3 (.int .u32 ((be (bl (s.extract 8 12)) : Nat) : Int)))
  simp only [zeroT, List.setIfInBounds_toArray, List.set_cons_zero, List.set_cons_succ] at HG
  generalize ((((w14.setCell ⟨k + 2, 0, none⟩ (.int .i64 ((be (bl (s.extract 0 2)) : Nat) : Int))).setCell ⟨k + 2, 1, none⟩ (.int .i64 ((be (bl (s.extract 2 4)) : Nat) : Int))).setCell ⟨k + 2, 2, none⟩ (.int .u32 ((be (bl (s.extract 4 8)) : Nat) : Int))).setCell ⟨k + 2, 3, none⟩ (.int .u32 ((be (bl (s.extract 8 12)) : Nat) : Int))) = wa at HG ⊢
  refine (Reader_U8.yes _ _ _ _ HG.out.1 (by have := HX.out; omega)).mono ?_
  rintro e wb ⟨rfl, g1⟩
  replace HG := Aside0.mk (HG.out.went g1)
  clear g1
  have hB : be (bl (s.extract 12 13)) < 256 := be_lt_of _ 1 (by rw [bl_length, ByteArray.size_extract]; have := HX.out; omega)
  have m1 : Go.bits .and .i64 ((be (bl (s.extract 12 13)) : Nat) : Int) 15 = ((be (bl (s.extract 12 13)) % 16 : Nat) : Int) := by exact Pure.and15 _ (by omega)
  have m2 : wrap64 ((ht s : Nat) : Int) = ((ht s : Nat) : Int) := by unfold ht wrap64; omega
  have m3 : IntKind.i64.wrap ((ht s : Nat) : Int) = ((ht s : Nat) : Int) := by rw [IntKind.wrap_i64]; unfold ht; omega
  have m4 : (((be (bl (s.extract 12 13)) : Nat) : Int) / 16 * 4) = ((ht s : Nat) : Int) := by unfold ht; omega
  have HN := Aside0.mk (show ht s ≤ 60 by unfold ht; omega)
  have c0 := HG.out.facts.1
  by_cases hl : 20 ≤ ht s
  case neg =>
    have l1 : decide ((20 : Int) ≤ ((ht s : Nat) : Int)) = false := decide_eq_false (by omega)
    have l2 : decide (20 ≤ ht s) = false := decide_eq_false hl
    have he : tcpErr s = 4 := by unfold tcpErr; rw [if_neg (by have := HX.out; omega), if_neg (fun h => hl h.1)]
    clear hl hB
    go_wp2_with fail
    refine (Reader_Need.no _ _ _).mono ?_
    rintro e wc ⟨rfl, rfl⟩
    exact ⟨rfl, by rw [he]; rfl, _, _, _, HG.out, fun h0 => absurd (he.symm.trans h0) (by decide)⟩
  have l1 : decide ((20 : Int) ≤ ((ht s : Nat) : Int)) = true := decide_eq_true (by omega)
  have l2 : decide (20 ≤ ht s) = true := decide_eq_true hl
  by_cases hm : ht s ≤ s.size
  case neg =>
    have m5 : decide (((ht s : Nat) : Int) ≤ (s.size : Int)) = false := decide_eq_false (by omega)
    have m6 : decide (ht s ≤ s.size) = false := decide_eq_false hm
    have he : tcpErr s = 4 := by unfold tcpErr; rw [if_neg (by have := HX.out; omega), if_neg (fun h => hm h.2)]
    clear hl hB hm
    go_wp2_with fail
    refine (Reader_Need.no _ _ _).mono ?_
    rintro e wc ⟨rfl, rfl⟩
    exact ⟨rfl, by rw [he]; rfl, _, _, _, HG.out, fun h0 => absurd (he.symm.trans h0) (by decide)⟩
  have m5 : decide (((ht s : Nat) : Int) ≤ (s.size : Int)) = true := decide_eq_true (by omega)
  have m6 : decide (ht s ≤ s.size) = true := decide_eq_true hm
  have HM := Aside0.mk (show 20 ≤ ht s ∧ ht s ≤ s.size from ⟨hl, hm⟩)
  clear hl hm
  go_wp2_with fail
  refine (Reader_Need.yes _ _ _).mono ?_
  rintro e wc ⟨rfl, rfl⟩
  clear l1 l2 m5 m6 c0
  by_cases hf : be (bl (s.extract 12 13)) % 16 = 0
  case neg =>
    have z1 : (((be (bl (s.extract 12 13)) % 16 : Nat) : Int) == 0) = false := by rw [beq_eq_false_iff_ne]; omega
    have z2 : (((be (bl (s.extract 12 13)) : Nat) : Int) % 16 == 0) = false := by rw [beq_eq_false_iff_ne]; omega
    have z3 : (be (bl (s.extract 12 13)) % 16 == 0) = false := by rw [beq_eq_false_iff_ne]; exact hf
    have he : tcpErr s = 9 := by unfold tcpErr; rw [if_neg (by have := HX.out; omega), if_pos HM.out, if_neg hf]
    clear hf hB
    go_wp2_with fail
    refine (Reader_Need.no _ _ _).mono ?_
    rintro e wd ⟨rfl, rfl⟩
    exact ⟨rfl, by rw [he]; rfl, _, _, _, HG.out, fun h0 => absurd (he.symm.trans h0) (by decide)⟩
  have z1 : (((be (bl (s.extract 12 13)) % 16 : Nat) : Int) == 0) = true := by rw [beq_iff_eq]; omega
  have z2 : (((be (bl (s.extract 12 13)) : Nat) : Int) % 16 == 0) = true := by rw [beq_iff_eq]; omega
  have z3 : (be (bl (s.extract 12 13)) % 16 == 0) = true := by rw [beq_iff_eq]; exact hf
  have HF := Aside0.mk hf
  clear hf
  go_wp2_with fail
  refine (Reader_Need.yes _ _ _).mono ?_
  rintro e wd ⟨rfl, rfl⟩
  clear z1 z2 z3 m1 m2 m3 m4 hB
  go_wp2_with fail
  refine (Reader_U8.yes _ _ _ _ HG.out.1 (by have := HX.out; omega)).mono ?_
  rintro e w15 ⟨rfl, g1⟩
  replace HG := Aside0.mk (HG.out.went g1)
  clear g1
  go_wp2_with fail
  refine (Reader_U16.yes _ _ _ _ HG.out.1 (by have := HX.out; omega)).mono ?_
  rintro e w16 ⟨rfl, g1⟩
  replace HG := Aside0.mk (HG.out.went g1)
  clear g1
  obtain ⟨c0, c1, c2, c3, c4⟩ := HG.out.facts
  clear c0 c3 c4
  go_wp2_with fail
  clear c1 c2
  replace HG := Aside0.mk ((HG.out.put 4 (.int .i64 ((be (bl (s.extract 13 14)) : Nat) : Int))).put 5 (.int .i64 ((be (bl (s.extract 14 16)) : Nat) : Int)))
  simp only [zeroT, List.setIfInBounds_toArray, List.set_cons_zero, List.set_cons_succ] at HG
  generalize ((w16.setCell ⟨k + 2, 4, none⟩ (.int .i64 ((be (bl (s.extract 13 14)) : Nat) : Int))).setCell ⟨k + 2, 5, none⟩ (.int .i64 ((be (bl (s.extract 14 16)) : Nat) : Int))) = we at HG ⊢
  refine (Reader_U16.yes _ _ _ _ HG.out.1 (by have := HX.out; omega)).mono ?_
  rintro e wf ⟨rfl, g1⟩
  replace HG := Aside0.mk (HG.out.went g1)
  clear g1
  go_wp2_with fail
  refine (Reader_U16.yes _ _ _ _ HG.out.1 (by have := HX.out; omega)).mono ?_
  rintro e w17 ⟨rfl, g1⟩
  replace HG := Aside0.mk (HG.out.went g1)
  clear g1
  obtain ⟨c0, c1, c2, c3, c4⟩ := HG.out.facts
  clear c0
  obtain ⟨M, hM, e1, e2, e3⟩ := lessT (ht s) HM.out.1 HN.out
  have HS := Aside0.mk hM
  have HS2 := Aside0.mk e2
  clear hM e1 e2 e3
  go_wp2_with fail
  rw [HS2.out]
  clear c1 c2 c3 c4
  replace HG := Aside0.mk ((HG.out.putSum ((be (bl (s.extract 16 18)) : Nat) : Int)).put 6 (.int .i64 ((be (bl (s.extract 18 20)) : Nat) : Int)))
  simp only [zeroT, List.setIfInBounds_toArray, List.set_cons_zero, List.set_cons_succ] at HG
  generalize ((w17.setCell ⟨k + 3, 0, none⟩ (.int .i64 ((be (bl (s.extract 16 18)) : Nat) : Int))).setCell ⟨k + 2, 6, none⟩ (.int .i64 ((be (bl (s.extract 18 20)) : Nat) : Int))) = wg at HG ⊢
  refine (TakeT.went _ _ _ M _ HG.out.1 (by have := HM.out; have := HS.out; omega)).mono ?_
  rintro e wh ⟨rfl, g1⟩
  replace HG := Aside0.mk (HG.out.went g1)
  clear g1
  go_wp2_with fail
  refine (Reader_Rest.calls _ _ _ _ HG.out.1).mono ?_
  rintro e wi ⟨rfl, g1⟩
  replace HG := Aside0.mk (HG.out.went g1)
  clear g1
  have HT := Aside0.mk (show 20 + M = ht s from HS.out)
  simp only [Nat.reduceAdd, HT.out] at HG ⊢
  obtain ⟨c0, c1, c2, c3, c4⟩ := HG.out.facts
  clear c0 c3 c4
  go_wp2_with fail
  clear c1 c2
  replace HG := Aside0.mk ((HG.out.put 7 (.string (s.extract 20 (ht s)))).put 8 (.string (s.extract (ht s) s.size)))
  simp only [zeroT, List.setIfInBounds_toArray, List.set_cons_zero, List.set_cons_succ] at HG
  generalize ((wi.setCell ⟨k + 2, 7, none⟩ (.string (s.extract 20 (ht s)))).setCell ⟨k + 2, 8, none⟩ (.string (s.extract (ht s) s.size))) = wj at HG ⊢
  refine (tcp_Right.calls (s.extract 20 (ht s)) (rightO (bl (s.extract 20 (ht s)))) _ (Pure.right_is _ (by simp only [ByteArray.size_extract]; have := HN.out; omega))).mono ?_
  rintro e wk ⟨rfl, g1⟩
  replace HG := Aside0.mk (HG.out.step g1)
  clear g1
  by_cases hr : rightO (bl (s.extract 20 (ht s))) = true
  case neg =>
    have he : tcpErr s = 4 := by unfold tcpErr; rw [if_neg (by have := HX.out; omega), if_pos HM.out, if_pos HF.out, if_neg hr]
    rw [Bool.eq_false_iff.mpr hr]
    clear hr
    go_wp2_with fail
    refine (Reader_Need.no _ _ _).mono ?_
    rintro e wl ⟨rfl, rfl⟩
    exact ⟨rfl, by rw [he]; rfl, _, _, _, HG.out, fun h0 => absurd (he.symm.trans h0) (by decide)⟩
  have he : tcpErr s = 0 := by unfold tcpErr; rw [if_neg (by have := HX.out; omega), if_pos HM.out, if_pos HF.out, if_pos hr]
  have HE := Aside0.mk he
  rw [hr]
  clear hr he
  go_wp2_with fail
  refine (Reader_Need.yes _ _ _).mono ?_
  rintro e wl ⟨rfl, rfl⟩
  go_wp2
  go_end0
  refine ⟨by rw [HE.out]; rfl, _, _, _, HG.out, fun _ => ⟨?_, rfl⟩⟩
  simp only [finalT]
end Go.Proofs.Ytejmipoolbodgaa.G
