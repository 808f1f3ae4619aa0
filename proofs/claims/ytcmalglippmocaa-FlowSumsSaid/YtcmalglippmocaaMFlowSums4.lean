/- Texts of this session, joined: each is a section. -/
import Derived.Test.YtcmalglippmocaaMFlowSums3
import Derived.WalkLawsBesides
import Derived.RegionTactic
import Derived.Deep.RegionWith
import Derived.StillTailTactics
import Derived.Lib.Builder
import Derived.Lib.FrozenHead2
import Derived.Lib.UnsafeStr
import Derived.Laws.Externs
import Derived.Lib.Hide
import Derived.Shelf.Strings.BuilderX
import Derived.Laws.Rows
import Derived.BigQuiet
set_option linter.unusedVariables false
set_option linter.unusedSimpArgs false
section
/- What ip4.Get computes, as a function. -/
namespace Go.Proofs.Ytcmalglippmocaa.Pure
theorem and_low (i : Nat) (hi : i ≤ 62) (x : Nat) (hx : x < 9223372036854775808) : Go.bits .and .i64 (x : Int) (((2 ^ i - 1 : Nat)) : Int) = ((x % 2 ^ i : Nat) : Int) := by
  have hp : 2 ^ i ≤ 2 ^ 62 := Nat.pow_le_pow_right (by decide) hi
  have h1 : 1 ≤ 2 ^ i := Nat.one_le_two_pow
  rw [Pal.i64_and x (2 ^ i - 1) hx (by omega), Nat.and_two_pow_sub_one_eq_mod]
theorem and15 (x : Nat) (hx : x < 65536) : Go.bits .and .i64 (x : Int) 15 = ((x % 16 : Nat) : Int) := and_low 4 (by decide) x (by omega)
theorem and1 (x : Nat) (hx : x < 65536) : Go.bits .and .i64 (x : Int) 1 = ((x % 2 : Nat) : Int) := and_low 1 (by decide) x (by omega)
theorem and8191 (x : Nat) (hx : x < 65536) : Go.bits .and .i64 (x : Int) 8191 = ((x % 8192 : Nat) : Int) := and_low 13 (by decide) x (by omega)
end Go.Proofs.Ytcmalglippmocaa.Pure
namespace Go.Proofs.Ytcmalglippmocaa.G
open Go.Proofs.Ytcmalglippmocaa.Pal
/-- How long a packet's header says it is. -/
def hl4 (s : ByteArray) : Nat := 4 * (be (bl (s.extract 0 1)) % 16)
/-- With which error ip4.Get stops. -/
def ip4Err (s : ByteArray) : Int :=
  if s.size < 20 then 2 else if be (bl (s.extract 0 1)) / 16 = 4 then (if 20 ≤ hl4 s ∧ hl4 s ≤ s.size ∧ be (bl (s.extract 2 4)) = s.size then (if csum (bl (s.extract 0 (hl4 s))) = 0 then (if be (bl (s.extract 6 8)) / 32768 = 0 then 0 else 9) else 5) else 4) else 3
end Go.Proofs.Ytcmalglippmocaa.G
end

section
/- By hand: ip4.Get: its closure, walked once, with a branch at each Need; then wire.Read round it, and Get. Laid by wip/gen/ip4get.py of this session. -/
namespace Go.Proofs.Ytcmalglippmocaa.G
open Go.RowKit Go.Proofs.YtcmalglippmocaaW.PrintWords Go.Proofs.YtcmalglippmocaaW.PrintLast Go.Proofs.YtcmalglippmocaaW.PrintMore Go.Proofs.Ytcmalglippmocaa.Pal
set_option linter.unusedVariables false
set_option linter.unusedSimpArgs false
/-- A region's walk that ends in a panic: told as a walk with nothing left. -/
theorem panicOut4 {P : Program} {fn : Func} {R : Ending → World → Prop} {ch : List PanicEntry} {a : Act} {w : World} (h : wpAny P .any #[] (fun _ a w => bodyPost P fn R (.panic ch) a w) 0 #[] a w) : bodyPost P fn R (.panic ch) a w := h.2

theorem Take4.went (R : Nat) (s : ByteArray) (n m : Nat) (w : World) (h : Rd w R s n) (hm : n + m ≤ s.size) :
    Calls Try.prog 70 #[.pointer (some ⟨R, 0, none⟩), .int .i64 (m : Int)] w fun e w' => e = .returned (.string (s.extract n (n + m))) ∧ Went w w' R s (n + m) := by
  refine (Reader_Take.yes R s n m w h hm).mono ?_
  rintro e w' ⟨rfl, k, j, rfl⟩
  exact ⟨rfl, grown_drewN (World.grownBy.trans (grown_drewN (grown_refl w _) k) (grown_setCell _ _ _ _)) j, (((h.1.drewN k).set 1 (.int .i64 ((n + m : Nat) : Int))).drewN j), hm, h.2.2⟩
/-- What ip4.Get's closure works on: the text, the named result, the header, the payload, Read's result; then the reader. -/
def VG4 (k : Nat) (s : ByteArray) (w w1 : World) (n : Nat) (cs : Array Value) (x : ByteArray) : Prop :=
  Rd w1 (k + 5) s n ∧ Hp w1 [(k, 9, #[.string s]), (k + 1, 50, #[.int .i64 0, .int .i64 0, .int .i64 0, .int .i64 0, .int .i64 0, .bool false, .bool false, .string ⟨#[]⟩, .string ⟨#[]⟩, .string ⟨#[]⟩]), (k + 2, 50, cs), (k + 3, 9, #[.string x]), (k + 4, 25, #[.int .i64 0])] ∧ Below k w w1
theorem VG4.went {k : Nat} {s : ByteArray} {w w1 w2 : World} {n m : Nat} {cs : Array Value} {x : ByteArray} (h : VG4 k s w w1 n cs x) (hw : Went w1 w2 (k + 5) s m) : VG4 k s w w2 m cs x :=
  ⟨hw.2, h.2.1.grown hw.1 (by simp), h.2.2.trans (below_of_grown hw.1 (by have := h.1.1.lt; omega) (by omega))⟩
theorem VG4.put {k : Nat} {s : ByteArray} {w w1 : World} {n : Nat} {cs : Array Value} {x : ByteArray} (h : VG4 k s w w1 n cs x) (j : Nat) (v : Value) : VG4 k s w (w1.setCell ⟨k + 2, j, none⟩ v) n (cs.setIfInBounds j v) x :=
  ⟨⟨h.1.1.other _ (by simp) _, h.1.2⟩, h.2.1.set (l1 := [_, _]) (l2 := [_, _]) j v (by simp) (by simp), h.2.2.setCell (by simp) _⟩
theorem VG4.putSum {k : Nat} {s : ByteArray} {w w1 : World} {n : Nat} {cs : Array Value} {x : ByteArray} (h : VG4 k s w w1 n cs x) (y : ByteArray) : VG4 k s w (w1.setCell ⟨k + 3, 0, none⟩ (.string y)) n cs y :=
  ⟨⟨h.1.1.other _ (by simp) _, h.1.2⟩, h.2.1.set (l1 := [_, _, _]) (l2 := [_]) 0 (.string y) (by simp) (by simp), h.2.2.setCell (by simp) _⟩
theorem VG4.drew {k : Nat} {s : ByteArray} {w w1 : World} {n : Nat} {cs : Array Value} {x : ByteArray} (h : VG4 k s w w1 n cs x) : VG4 k s w w1.drew n cs x := ⟨h.1, h.2.1, h.2.2.drew⟩
theorem VG4.drewN {k : Nat} {s : ByteArray} {w w1 : World} {n : Nat} {cs : Array Value} {x : ByteArray} (h : VG4 k s w w1 n cs x) (j : Nat) : VG4 k s w (w1.drewN j) n cs x := ⟨h.1, h.2.1, pw_below_drewN h.2.2 j⟩
theorem VG4.facts {k : Nat} {s : ByteArray} {w w1 : World} {n : Nat} {cs : Array Value} {x : ByteArray} (h : VG4 k s w w1 n cs x) :
    w1.cell? ⟨k, 0, none⟩ = some (.string s) ∧ (∀ j, w1.frozen? ⟨k + 2, j, none⟩ = false) ∧ (∀ j, w1.cell? ⟨k + 2, j, none⟩ = cs[j]?) ∧ w1.cell? ⟨k + 3, 0, none⟩ = some (.string x) ∧ w1.frozen? ⟨k + 3, 0, none⟩ = false :=
  ⟨h.2.1.head.cell 0 _ rfl, h.2.1.tail.tail.head.frees, h.2.1.tail.tail.head.cells, h.2.1.tail.tail.tail.head.cell 0 _ rfl, h.2.1.tail.tail.tail.head.free 0⟩

def zero4 : Array Value := #[.int .i64 0, .int .i64 0, .int .i64 0, .int .i64 0, .int .i64 0, .bool false, .bool false, .string ⟨#[]⟩, .string ⟨#[]⟩, .string ⟨#[]⟩]

theorem VG4.step {k : Nat} {s : ByteArray} {w w1 w2 : World} {n : Nat} {cs : Array Value} {x : ByteArray} (h : VG4 k s w w1 n cs x) (hb : Below w1.heap.size w1 w2) : VG4 k s w w2 n cs x :=
  ⟨⟨h.1.1.below hb h.1.1.lt, h.1.2⟩, h.2.1.below hb (fun y hy => (h.2.1 y hy).lt), h.2.2.trans (hb.mono (by have := h.1.1.lt; omega))⟩
theorem right_one (t : ByteArray) (h : t.size ≤ 1099511627776) : sum_Right.f [t] = some (csum (bl t) == 0) := by
  have e : cat [t] = bl t := by rw [cat_cons, cat_nil, List.append_nil]
  unfold sum_Right.f sum_Sum.f
  rw [if_pos (by rw [e, bl_length]; exact h), e, Option.bind_some]
  congr 1
  rw [Bool.eq_iff_iff]; simp
theorem flagA (F : Nat) : (((F : Int) / 16384 % 2) == 1) = (F / 16384 % 2 == 1) := by rw [Bool.eq_iff_iff, beq_iff_eq, beq_iff_eq]; omega
theorem flagB (F : Nat) : (((F : Int) / 8192 % 2) == 1) = (F / 8192 % 2 == 1) := by rw [Bool.eq_iff_iff, beq_iff_eq, beq_iff_eq]; omega
theorem flagC (F : Nat) : ((F : Int) % 8192) = ((F % 8192 : Nat) : Int) := by omega
theorem less20 (N : Nat) (h : 20 ≤ N) (h2 : N ≤ 60) : ∃ M : Nat, 20 + M = N ∧ ((N : Int) - 20) = (M : Int) ∧ wrap64 ((N : Int) - 20) = (M : Int) ∧ IntKind.i64.wrap ((N : Int) - 20) = (M : Int) := by
  refine ⟨N - 20, by omega, by omega, ?_, ?_⟩
  · unfold wrap64; omega
  · rw [IntKind.wrap_i64]; omega
def final4 (s : ByteArray) : Array Value := #[(.int .i64 (be (bl (s.extract 1 2)) : Nat)), (.int .i64 (be (bl (s.extract 4 6)) : Nat)), (.int .i64 ((be (bl (s.extract 6 8)) % 8192 : Nat) : Int)), (.int .i64 (be (bl (s.extract 8 9)) : Nat)), (.int .i64 (be (bl (s.extract 9 10)) : Nat)), (.bool (be (bl (s.extract 6 8)) / 16384 % 2 == 1)), (.bool (be (bl (s.extract 6 8)) / 8192 % 2 == 1)), (.string (s.extract 12 16)), (.string (s.extract 16 20)), (.string (s.extract 20 (hl4 s)))]


set_option maxHeartbeats 8000000 in
set_option maxRecDepth 100000 in
theorem ip4_Get1.walk (k : Nat) (s : ByteArray) (w w1 : World) (h : VG4 k s w w1 0 zero4 ⟨#[]⟩) :
    Calls Try.prog 66 #[.pointer (some ⟨k + 5, 0, none⟩), .pointer (some ⟨k, 0, none⟩), .pointer (some ⟨k + 2, 0, none⟩), .pointer (some ⟨k + 3, 0, none⟩)] w1 fun e w2 => e = did (ip4Err s) ∧ ∃ n cs x, VG4 k s w w2 n cs x ∧ (ip4Err s = 0 → cs = final4 s ∧ x = s.extract (hl4 s) s.size) := by
  have HG := Aside0.mk h
  obtain ⟨c0, c1, c2, c3, c4⟩ := h.facts
  clear h c1 c2 c3 c4
  go_enter Try.func66, Try.ntmps66
  by_cases h20 : s.size < 20
  · have he : ip4Err s = 2 := if_pos h20
    have d1 : decide ((20 : Int) ≤ (s.size : Int)) = false := decide_eq_false (by omega)
    have d2 : decide (20 ≤ s.size) = false := decide_eq_false (by omega)
    clear h20
    go_wp2_with fail
    refine (Reader_Need.no _ _ _).mono ?_
    rintro e w2 ⟨rfl, rfl⟩
    exact ⟨rfl, by rw [he]; rfl, _, _, _, HG.out, fun h0 => absurd (he.symm.trans h0) (by decide)⟩
  have d1 : decide ((20 : Int) ≤ (s.size : Int)) = true := decide_eq_true (by omega)
  have d2 : decide (20 ≤ s.size) = true := decide_eq_true (by omega)
  go_wp2_with fail
  refine (Reader_Need.yes _ _ _).mono ?_
  rintro e w2 ⟨rfl, rfl⟩
  clear d1 d2
  go_wp2_with fail
  refine (Reader_U8.yes _ _ _ _ HG.out.1 (by omega)).mono ?_
  rintro e w2 ⟨rfl, g1⟩
  replace HG := Aside0.mk (HG.out.went g1)
  clear g1 c0
  have hB : be (bl (s.extract 0 1)) < 256 := be_lt_of _ 1 (by rw [bl_length, ByteArray.size_extract]; omega)
  have m1 : Go.bits .and .i64 ((be (bl (s.extract 0 1)) : Nat) : Int) 15 = ((be (bl (s.extract 0 1)) % 16 : Nat) : Int) := by exact Pure.and15 _ (by omega)
  have m2 : wrap64 (4 * ((be (bl (s.extract 0 1)) % 16 : Nat) : Int)) = ((hl4 s : Nat) : Int) := by unfold hl4 wrap64; omega
  have m3 : IntKind.i64.wrap (4 * ((be (bl (s.extract 0 1)) % 16 : Nat) : Int)) = ((hl4 s : Nat) : Int) := by rw [IntKind.wrap_i64]; unfold hl4; omega
  have HN := Aside0.mk (show hl4 s ≤ 60 by unfold hl4; omega)
  by_cases hv : be (bl (s.extract 0 1)) / 16 = 4
  case neg =>
    have he : ip4Err s = 3 := by unfold ip4Err; rw [if_neg h20, if_neg hv]
    have v1 : (((be (bl (s.extract 0 1)) : Nat) : Int) / 16 == 4) = false := by rw [beq_eq_false_iff_ne]; omega
    have v2 : ((be (bl (s.extract 0 1))) / 16 == 4) = false := by rw [beq_eq_false_iff_ne]; exact hv
    go_wp2_with fail
    refine (Reader_Need.no _ _ _).mono ?_
    rintro e w3 ⟨rfl, rfl⟩
    exact ⟨rfl, by rw [he]; rfl, _, _, _, HG.out, fun h0 => absurd (he.symm.trans h0) (by decide)⟩
  have v1 : (((be (bl (s.extract 0 1)) : Nat) : Int) / 16 == 4) = true := by rw [beq_iff_eq]; omega
  have v2 : ((be (bl (s.extract 0 1))) / 16 == 4) = true := by rw [beq_iff_eq]; exact hv
  have HV := Aside0.mk hv
  clear hv
  have e4 : (4 * (((be (bl (s.extract 0 1)) : Nat) : Int) % 16)) = ((hl4 s : Nat) : Int) := by unfold hl4; omega
  go_wp2_with fail
  clear e4
  refine (Reader_Need.yes _ _ _).mono ?_
  rintro e w3 ⟨rfl, rfl⟩
  clear v1 v2 m1 m2 m3 hB
  go_wp2_with fail
  refine (Reader_U8.yes _ _ _ _ HG.out.1 (by omega)).mono ?_
  rintro e w3 ⟨rfl, g1⟩
  replace HG := Aside0.mk (HG.out.went g1)
  clear g1
  obtain ⟨c0, c1, c2, c3, c4⟩ := HG.out.facts
  simp only [zero4] at c2
  clear c0 c3 c4
  have HX := Aside0.mk h20
  clear h20
  go_wp2
  clear c1 c2
  replace HG := Aside0.mk (HG.out.put 0 (.int .i64 (be (bl (s.extract 1 2)) : Nat)))
  simp only [zero4, List.setIfInBounds_toArray, List.set_cons_zero, List.set_cons_succ] at HG
  generalize w3.setCell ⟨k + 2, 0, none⟩ (.int .i64 (be (bl (s.extract 1 2)) : Nat)) = w4 at HG ⊢
  generalize hN : hl4 s = N at HN ⊢
  have HNN := Aside0.mk hN
  clear hN
  have c0 := HG.out.facts.1
  by_cases hl : 20 ≤ N
  case neg =>
    have l1 : decide ((20 : Int) ≤ (N : Int)) = false := decide_eq_false (by omega)
    have l2 : decide (20 ≤ N) = false := decide_eq_false hl
    have he : ip4Err s = 4 := by unfold ip4Err; rw [if_neg HX.out, if_pos HV.out, if_neg (by rw [HNN.out]; exact fun h => hl h.1)]
    go_still_tail 16, (by kernel_rfl)
    change wpList _ _ _ _ _ w4.drew
    go_wp2_with fail
    refine (Reader_Need.no _ _ _).mono ?_
    rintro e w6 ⟨rfl, rfl⟩
    exact ⟨rfl, by rw [he]; rfl, _, _, _, HG.out.drew, fun h0 => absurd (he.symm.trans h0) (by decide)⟩
  have l1 : decide ((20 : Int) ≤ (N : Int)) = true := decide_eq_true (by omega)
  have l2 : decide (20 ≤ N) = true := decide_eq_true hl
  by_cases hm : N ≤ s.size
  case neg =>
    have m1 : decide ((N : Int) ≤ (s.size : Int)) = false := decide_eq_false (by omega)
    have m2 : decide (N ≤ s.size) = false := decide_eq_false hm
    have he : ip4Err s = 4 := by unfold ip4Err; rw [if_neg HX.out, if_pos HV.out, if_neg (by rw [HNN.out]; exact fun h => hm h.2.1)]
    go_still_tail 16, (by kernel_rfl)
    change wpList _ _ _ _ _ w4.drew
    go_wp2_with fail
    refine (Reader_Need.no _ _ _).mono ?_
    rintro e w6 ⟨rfl, rfl⟩
    exact ⟨rfl, by rw [he]; rfl, _, _, _, HG.out.drew, fun h0 => absurd (he.symm.trans h0) (by decide)⟩
  have m1 : decide ((N : Int) ≤ (s.size : Int)) = true := decide_eq_true (by omega)
  have m2 : decide (N ≤ s.size) = true := decide_eq_true hm
  by_cases ht : be (bl (s.extract 2 4)) = s.size
  case neg =>
    have t1 : (((be (bl (s.extract 2 4)) : Nat) : Int) == (s.size : Int)) = false := by rw [beq_eq_false_iff_ne]; omega
    have t2 : (be (bl (s.extract 2 4)) == s.size) = false := by rw [beq_eq_false_iff_ne]; exact ht
    have he : ip4Err s = 4 := by unfold ip4Err; rw [if_neg HX.out, if_pos HV.out, if_neg (fun h => ht h.2.2)]
    clear hl hm ht
    go_region_with ((first
      | (go_at_call 69; refine (Reader_U16.yes _ _ 2 _ HG.out.drew.1 ?_).mono ?_; (have := HX.out; omega); rintro e w5 ⟨rfl, g1⟩; have HG3 := Aside0.mk (HG.out.drew.went g1); have c3 := HG3.out.facts.1; clear g1)
      | (go_at_call 67; refine (Reader_Need.no _ _ _).mono ?_; rintro e w6 ⟨rfl, rfl⟩; refine panicOut4 ?_)))
    all_goals exact ⟨rfl, by rw [he]; rfl, _, _, _, HG3.out, fun h0 => absurd (he.symm.trans h0) (by decide)⟩
  have t1 : (((be (bl (s.extract 2 4)) : Nat) : Int) == (s.size : Int)) = true := by rw [beq_iff_eq]; omega
  have t2 : (be (bl (s.extract 2 4)) == s.size) = true := by rw [beq_iff_eq]; exact ht
  have HM := Aside0.mk (show 20 ≤ N ∧ N ≤ s.size ∧ be (bl (s.extract 2 4)) = s.size from ⟨hl, hm, ht⟩)
  clear hl hm ht
  go_region_with ((first
    | (go_at_call 69; refine (Reader_U16.yes _ _ 2 _ HG.out.drew.1 ?_).mono ?_; (have := HX.out; omega); rintro e w5 ⟨rfl, g1⟩; have HG3 := Aside0.mk (HG.out.drew.went g1); have c3 := HG3.out.facts.1; clear g1)
    | (go_at_call 67; refine (Reader_Need.yes _ _ _).mono ?_; rintro e w6 ⟨rfl, rfl⟩)))
  all_goals
    clear c0 l1 l2 m1 m2 t1 t2
    replace HG := HG3
    clear HG3
    have s1 : ((N : Int) ≤ (s.size : Int)) = True := eq_true (by have := HM.out; omega)
    have s2 : (N ≤ s.size) = True := eq_true HM.out.2.1
    go_wp2_with fail
    refine (sum_Right.calls _ _ [s.extract 0 N] (csum (bl (s.extract 0 N)) == 0) _ (C_one _ _ _) (by simp) (right_one _ (by simp only [ByteArray.size_extract]; have := HN.out; omega))).mono ?_
    rintro e w7 ⟨rfl, g1⟩
    replace HG := Aside0.mk (HG.out.step (((Below.refl w6.heap.size w6).alloc (Nat.le_refl _) _).trans (g1.mono (by simp))))
    clear g1 s1 s2
    by_cases hz : csum (bl (s.extract 0 N)) = 0
    case neg =>
      have z1 : (csum (bl (s.extract 0 N)) == 0) = false := by rw [beq_eq_false_iff_ne]; exact hz
      have he : ip4Err s = 5 := by unfold ip4Err; rw [if_neg HX.out, if_pos HV.out, HNN.out, if_pos HM.out, if_neg hz]
      rw [z1]
      clear hz z1
      go_wp2_with fail
      refine (Reader_Need.no _ _ _).mono ?_
      rintro e w8 ⟨rfl, rfl⟩
      exact ⟨rfl, by rw [he]; rfl, _, _, _, HG.out, fun h0 => absurd (he.symm.trans h0) (by decide)⟩
    have z1 : (csum (bl (s.extract 0 N)) == 0) = true := by rw [beq_iff_eq]; exact hz
    rw [z1]
    have HZ := Aside0.mk hz
    clear hz z1
    go_wp2_with fail
    refine (Reader_Need.yes _ _ _).mono ?_
    rintro e w8 ⟨rfl, rfl⟩
    go_wp2_with fail
    refine (Reader_U16.yes _ _ _ _ HG.out.1 (by have := HM.out; have := HX.out; omega)).mono ?_
    rintro e w9 ⟨rfl, g1⟩
    replace HG := Aside0.mk (HG.out.went g1)
    clear g1
    obtain ⟨c0, c1, c2, c3, c4⟩ := HG.out.facts
    clear c0 c3 c4
    go_wp2_with fail
    clear c1 c2
    replace HG := Aside0.mk (HG.out.put 1 (.int .i64 (be (bl (s.extract 4 6)) : Nat)))
    simp only [List.setIfInBounds_toArray, List.set_cons_zero, List.set_cons_succ] at HG
    generalize (w9.setCell ⟨k + 2, 1, none⟩ (.int .i64 (be (bl (s.extract 4 6)) : Nat))) = wa at HG ⊢
    refine (Reader_U16.yes _ _ _ _ HG.out.1 (by have := HM.out; have := HX.out; omega)).mono ?_
    rintro e w10 ⟨rfl, g1⟩
    replace HG := Aside0.mk (HG.out.went g1)
    clear g1
    have hF : be (bl (s.extract 6 8)) < 65536 := be_lt_of _ 2 (by rw [bl_length, ByteArray.size_extract]; have := HX.out; omega)
    by_cases hf : be (bl (s.extract 6 8)) / 32768 = 0
    case neg =>
      have z1 : (((be (bl (s.extract 6 8)) : Nat) : Int) / 32768 == 0) = false := by rw [beq_eq_false_iff_ne]; omega
      have z2 : (be (bl (s.extract 6 8)) / 32768 == 0) = false := by rw [beq_eq_false_iff_ne]; exact hf
      have he : ip4Err s = 9 := by unfold ip4Err; rw [if_neg HX.out, if_pos HV.out, HNN.out, if_pos HM.out, if_pos HZ.out, if_neg hf]
      clear hf hF
      go_wp2_with fail
      refine (Reader_Need.no _ _ _).mono ?_
      rintro e w11 ⟨rfl, rfl⟩
      exact ⟨rfl, by rw [he]; rfl, _, _, _, HG.out, fun h0 => absurd (he.symm.trans h0) (by decide)⟩
    have z1 : (((be (bl (s.extract 6 8)) : Nat) : Int) / 32768 == 0) = true := by rw [beq_iff_eq]; omega
    have z2 : (be (bl (s.extract 6 8)) / 32768 == 0) = true := by rw [beq_iff_eq]; exact hf
    have he : ip4Err s = 0 := by unfold ip4Err; rw [if_neg HX.out, if_pos HV.out, HNN.out, if_pos HM.out, if_pos HZ.out, if_pos hf]
    have HE := Aside0.mk he
    clear hf he
    go_wp2_with fail
    refine (Reader_Need.yes _ _ _).mono ?_
    rintro e w11 ⟨rfl, rfl⟩
    clear z1 z2
    have a1 : Go.bits .and .i64 (((be (bl (s.extract 6 8)) : Nat) : Int) / 16384) 1 = ((be (bl (s.extract 6 8)) / 16384 % 2 : Nat) : Int) := by rw [show ((be (bl (s.extract 6 8)) : Nat) : Int) / 16384 = ((be (bl (s.extract 6 8)) / 16384 : Nat) : Int) by omega]; exact Pure.and1 _ (by omega)
    have a2 : Go.bits .and .i64 (((be (bl (s.extract 6 8)) : Nat) : Int) / 8192) 1 = ((be (bl (s.extract 6 8)) / 8192 % 2 : Nat) : Int) := by rw [show ((be (bl (s.extract 6 8)) : Nat) : Int) / 8192 = ((be (bl (s.extract 6 8)) / 8192 : Nat) : Int) by omega]; exact Pure.and1 _ (by omega)
    have a3 : Go.bits .and .i64 ((be (bl (s.extract 6 8)) : Nat) : Int) 8191 = ((be (bl (s.extract 6 8)) % 8192 : Nat) : Int) := Pure.and8191 _ hF
    obtain ⟨c0, c1, c2, c3, c4⟩ := HG.out.facts
    clear c0 c3 c4
    go_wp2_with fail
    rw [flagA, flagB, flagC]
    clear c1 c2 a1 a2 a3 hF
    replace HG := Aside0.mk (((HG.out.put 5 (.bool (be (bl (s.extract 6 8)) / 16384 % 2 == 1))).put 6 (.bool (be (bl (s.extract 6 8)) / 8192 % 2 == 1))).put 2 (.int .i64 ((be (bl (s.extract 6 8)) % 8192 : Nat) : Int)))
    simp only [List.setIfInBounds_toArray, List.set_cons_zero, List.set_cons_succ] at HG
    generalize (((w11.setCell ⟨k + 2, 5, none⟩ (.bool (be (bl (s.extract 6 8)) / 16384 % 2 == 1))).setCell ⟨k + 2, 6, none⟩ (.bool (be (bl (s.extract 6 8)) / 8192 % 2 == 1))).setCell ⟨k + 2, 2, none⟩ (.int .i64 ((be (bl (s.extract 6 8)) % 8192 : Nat) : Int))) = wa at HG ⊢
    refine (Reader_U8.yes _ _ _ _ HG.out.1 (by have := HM.out; have := HX.out; omega)).mono ?_
    rintro e w12 ⟨rfl, g1⟩
    replace HG := Aside0.mk (HG.out.went g1)
    clear g1
    go_wp2_with fail
    refine (Reader_U8.yes _ _ _ _ HG.out.1 (by have := HM.out; have := HX.out; omega)).mono ?_
    rintro e w13 ⟨rfl, g1⟩
    replace HG := Aside0.mk (HG.out.went g1)
    clear g1
    obtain ⟨c0, c1, c2, c3, c4⟩ := HG.out.facts
    clear c0 c3 c4
    go_wp2_with fail
    clear c1 c2
    replace HG := Aside0.mk ((HG.out.put 3 (.int .i64 (be (bl (s.extract 8 9)) : Nat))).put 4 (.int .i64 (be (bl (s.extract 9 10)) : Nat)))
    simp only [List.setIfInBounds_toArray, List.set_cons_zero, List.set_cons_succ] at HG
    generalize ((w13.setCell ⟨k + 2, 3, none⟩ (.int .i64 (be (bl (s.extract 8 9)) : Nat))).setCell ⟨k + 2, 4, none⟩ (.int .i64 (be (bl (s.extract 9 10)) : Nat))) = wa at HG ⊢
    refine (Reader_U16.yes _ _ _ _ HG.out.1 (by have := HM.out; have := HX.out; omega)).mono ?_
    rintro e w14 ⟨rfl, g1⟩
    replace HG := Aside0.mk (HG.out.went g1)
    clear g1
    go_wp2_with fail
    refine (Take4.went _ _ _ 4 _ HG.out.1 (by have := HM.out; have := HX.out; omega)).mono ?_
    rintro e w15 ⟨rfl, g1⟩
    replace HG := Aside0.mk (HG.out.went g1)
    clear g1
    go_wp2_with fail
    refine (Take4.went _ _ _ 4 _ HG.out.1 (by have := HM.out; have := HX.out; omega)).mono ?_
    rintro e w16 ⟨rfl, g1⟩
    replace HG := Aside0.mk (HG.out.went g1)
    clear g1
    obtain ⟨c0, c1, c2, c3, c4⟩ := HG.out.facts
    clear c0 c3 c4
    obtain ⟨M, hM, e1, e2, e3⟩ := less20 N HM.out.1 HN.out
    have HS := Aside0.mk hM
    have HS2 := Aside0.mk e2
    clear hM e1 e2 e3
    go_wp2_with fail
    rw [HS2.out]
    clear c1 c2
    replace HG := Aside0.mk ((HG.out.put 7 (.string (s.extract 12 16))).put 8 (.string (s.extract 16 20)))
    simp only [List.setIfInBounds_toArray, List.set_cons_zero, List.set_cons_succ] at HG
    generalize ((w16.setCell ⟨k + 2, 7, none⟩ (.string (s.extract 12 16))).setCell ⟨k + 2, 8, none⟩ (.string (s.extract 16 20))) = wa at HG ⊢
    refine (Take4.went _ _ _ M _ HG.out.1 (by have := HM.out; have := HS.out; omega)).mono ?_
    rintro e w17 ⟨rfl, g1⟩
    replace HG := Aside0.mk (HG.out.went g1)
    clear g1
    go_wp2_with fail
    refine (Reader_Rest.calls _ _ _ _ HG.out.1).mono ?_
    rintro e w18 ⟨rfl, g1⟩
    replace HG := Aside0.mk (HG.out.went g1)
    clear g1
    obtain ⟨c0, c1, c2, c3, c4⟩ := HG.out.facts
    clear c0
    go_wp2
    go_end0
    refine ⟨by rw [HE.out]; rfl, _, _, _, (HG.out.put 9 _).putSum _, fun _ => ⟨?_, ?_⟩⟩
    · have h20 : 20 + M = N := HS.out
      simp only [List.setIfInBounds_toArray, List.set_cons_zero, List.set_cons_succ, final4, HNN.out, h20]
    · have h20 : 20 + M = N := HS.out
      simp only [HNN.out, h20]

end Go.Proofs.Ytcmalglippmocaa.G
end

section
/- ip4.Get as a function of bytes. -/
namespace Go.Proofs.Ytcmalglippmocaa.G
open Go.Proofs.Ytcmalglippmocaa.Pal
def ip4_Get.f (s : ByteArray) : Option (Int × Int × Int × Int × Int × Bool × Bool × ByteArray × ByteArray × ByteArray × ByteArray × Int) :=
  if s.size ≤ 140737488351232 then some (if ip4Err s = 0 then (((be (bl (s.extract 1 2)) : Nat) : Int), ((be (bl (s.extract 4 6)) : Nat) : Int), ((be (bl (s.extract 6 8)) % 8192 : Nat) : Int), ((be (bl (s.extract 8 9)) : Nat) : Int), ((be (bl (s.extract 9 10)) : Nat) : Int), (be (bl (s.extract 6 8)) / 16384 % 2 == 1), (be (bl (s.extract 6 8)) / 8192 % 2 == 1), s.extract 12 16, s.extract 16 20, s.extract 20 (hl4 s), s.extract (hl4 s) s.size, 0) else (0, 0, 0, 0, 0, false, false, ⟨#[]⟩, ⟨#[]⟩, ⟨#[]⟩, ⟨#[]⟩, ip4Err s)) else none
end Go.Proofs.Ytcmalglippmocaa.G
end

section
/- By hand: wire.Read round ip4.Get's closure, and ip4.Get. Turned from XHIp6. -/
namespace Go.Proofs.Ytcmalglippmocaa.G
open Go.RowKit Go.Proofs.YtcmalglippmocaaW.PrintWords Go.Proofs.YtcmalglippmocaaW.PrintLast Go.Proofs.YtcmalglippmocaaW.PrintMore Go.Proofs.Ytcmalglippmocaa.Pal
set_option linter.unusedVariables false
set_option linter.unusedSimpArgs false
/-- What Get's closure leaves, and Read's end behind it. -/
def VR4 (k : Nat) (s : ByteArray) (w w1 : World) : Prop :=
  ∃ cs x, Hp w1 [(k, 9, #[.string s]), (k + 1, 50, #[.int .i64 0, .int .i64 0, .int .i64 0, .int .i64 0, .int .i64 0, .bool false, .bool false, .string ⟨#[]⟩, .string ⟨#[]⟩, .string ⟨#[]⟩]), (k + 2, 50, cs), (k + 3, 9, #[.string x])] ∧ Below k w w1 ∧
    (ip4Err s = 0 → cs = final4 s ∧ x = s.extract (hl4 s) s.size)
theorem VG4.done {k : Nat} {s : ByteArray} {w w1 w2 : World} {n : Nat} {cs : Array Value} {x : ByteArray} (h : VG4 k s w w1 n cs x) (hw : w1.grownBy w2 (some (k + 4)))
    (hx : ip4Err s = 0 → cs = final4 s ∧ x = s.extract (hl4 s) s.size) : VR4 k s w w2 :=
  ⟨cs, x, Hp.grown (R := k + 4) (fun y hy => h.2.1 y (by simp at hy ⊢; rcases hy with rfl | rfl | rfl | rfl <;> simp)) hw (by simp), h.2.2.trans (below_of_grown hw (by have := h.1.1.lt; omega) (by omega)), hx⟩

set_option maxRecDepth 100000 in
theorem ip4_Get.reads (s : ByteArray) (hs : s.size ≤ 140737488351232) (w : World) :
    Calls Try.prog 65 #[.string s, .func (.func 66) #[] #[.pointer (some ⟨w.heap.size, 0, none⟩), .pointer (some ⟨w.heap.size + 1 + 1, 0, none⟩), .pointer (some ⟨w.heap.size + 1 + 1 + 1, 0, none⟩)]]
      ((((w.alloc (.cells #[.string s] 9)).alloc (.cells #[.int .i64 0, .int .i64 0, .int .i64 0, .int .i64 0, .int .i64 0, .bool false, .bool false, .string ⟨#[]⟩, .string ⟨#[]⟩, .string ⟨#[]⟩] 50)).alloc (.cells #[.int .i64 0, .int .i64 0, .int .i64 0, .int .i64 0, .int .i64 0, .bool false, .bool false, .string ⟨#[]⟩, .string ⟨#[]⟩, .string ⟨#[]⟩] 50)).alloc (.cells #[.string ⟨#[]⟩] 9))
      fun e w' => e = .returned (.int .i64 (ip4Err s)) ∧ VR4 w.heap.size s w w' := by
  obtain ⟨W, hW⟩ : ∃ W, W = ((((w.alloc (.cells #[.string s] 9)).alloc (.cells #[.int .i64 0, .int .i64 0, .int .i64 0, .int .i64 0, .int .i64 0, .bool false, .bool false, .string ⟨#[]⟩, .string ⟨#[]⟩, .string ⟨#[]⟩] 50)).alloc (.cells #[.int .i64 0, .int .i64 0, .int .i64 0, .int .i64 0, .int .i64 0, .bool false, .bool false, .string ⟨#[]⟩, .string ⟨#[]⟩, .string ⟨#[]⟩] 50)).alloc (.cells #[.string ⟨#[]⟩] 9)) := ⟨_, rfl⟩
  have hk : W.heap.size = w.heap.size + 4 := by rw [hW]; simp
  have b0 : Blk W w.heap.size 9 #[.string s] := by rw [hW]; exact (((Blk.new w _ _).alloc _).alloc _).alloc _
  have b1 : Blk W (w.heap.size + 1) 50 #[.int .i64 0, .int .i64 0, .int .i64 0, .int .i64 0, .int .i64 0, .bool false, .bool false, .string ⟨#[]⟩, .string ⟨#[]⟩, .string ⟨#[]⟩] := by
    rw [hW]
    have := Blk.new (w.alloc (.cells #[.string s] 9)) 50 #[.int .i64 0, .int .i64 0, .int .i64 0, .int .i64 0, .int .i64 0, .bool false, .bool false, .string ⟨#[]⟩, .string ⟨#[]⟩, .string ⟨#[]⟩]
    rw [World.size_alloc] at this
    exact (this.alloc _).alloc _
  have b2 : Blk W (w.heap.size + 2) 50 #[.int .i64 0, .int .i64 0, .int .i64 0, .int .i64 0, .int .i64 0, .bool false, .bool false, .string ⟨#[]⟩, .string ⟨#[]⟩, .string ⟨#[]⟩] := by
    rw [hW]
    have := Blk.new ((w.alloc (.cells #[.string s] 9)).alloc (.cells #[.int .i64 0, .int .i64 0, .int .i64 0, .int .i64 0, .int .i64 0, .bool false, .bool false, .string ⟨#[]⟩, .string ⟨#[]⟩, .string ⟨#[]⟩] 50)) 50 #[.int .i64 0, .int .i64 0, .int .i64 0, .int .i64 0, .int .i64 0, .bool false, .bool false, .string ⟨#[]⟩, .string ⟨#[]⟩, .string ⟨#[]⟩]
    rw [World.size_alloc, World.size_alloc] at this
    exact this.alloc _
  have b3 : Blk W (w.heap.size + 3) 9 #[.string ⟨#[]⟩] := by
    rw [hW]
    have := Blk.new (((w.alloc (.cells #[.string s] 9)).alloc (.cells #[.int .i64 0, .int .i64 0, .int .i64 0, .int .i64 0, .int .i64 0, .bool false, .bool false, .string ⟨#[]⟩, .string ⟨#[]⟩, .string ⟨#[]⟩] 50)).alloc (.cells #[.int .i64 0, .int .i64 0, .int .i64 0, .int .i64 0, .int .i64 0, .bool false, .bool false, .string ⟨#[]⟩, .string ⟨#[]⟩, .string ⟨#[]⟩] 50)) 9 #[.string ⟨#[]⟩]
    rw [World.size_alloc, World.size_alloc, World.size_alloc] at this
    exact this
  have hb : Below w.heap.size w W := by
    rw [hW]
    exact ((((Below.refl _ _).alloc (Nat.le_refl _) _).alloc (by simp) _).alloc (by simp; omega) _).alloc (by simp; omega) _
  rw [← hW]
  clear hW
  have hrd := readW_rd W s hs
  have hres := readW_res W s
  have hbl := readW_below W s
  rw [hk] at hrd hres hbl
  have hG : VG4 w.heap.size s w (readW W s) 0 zero4 ⟨#[]⟩ :=
    ⟨hrd, .cons (b0.below hbl (by omega)) (.cons (b1.below hbl (by omega)) (.cons (b2.below hbl (by omega)) (.cons (b3.below hbl (by omega)) (.cons hres (.nil _))))), hb.trans (hbl.mono (by omega))⟩
  have hrd' : ∀ Q : World → Prop, Calls Try.prog 66 (#[.pointer (some ⟨W.heap.size + 1, 0, none⟩)] ++ #[.pointer (some ⟨w.heap.size, 0, none⟩), .pointer (some ⟨w.heap.size + 1 + 1, 0, none⟩), .pointer (some ⟨w.heap.size + 1 + 1 + 1, 0, none⟩)]) (readW W s) (fun e w2 => e = did (ip4Err s) ∧ Blk w2 W.heap.size 25 #[.int .i64 0] ∧ Q w2) →
      Calls Try.prog 65 #[.string s, .func (.func 66) #[] #[.pointer (some ⟨w.heap.size, 0, none⟩), .pointer (some ⟨w.heap.size + 1 + 1, 0, none⟩), .pointer (some ⟨w.heap.size + 1 + 1 + 1, 0, none⟩)]] W
        fun e w' => e = .returned (.int .i64 (ip4Err s)) ∧ ∃ w2, Q w2 ∧ w2.grownBy w' (some W.heap.size) :=
    fun Q h => Read_calls 66 _ s (ip4Err s) W Q (fun _ _ => rfl) h
  rw [hk] at hrd'
  clear hrd hres hbl b0 b1 b2 b3 hb
  refine (hrd' (fun w2 => ∃ n cs x, VG4 w.heap.size s w w2 n cs x ∧ (ip4Err s = 0 → cs = final4 s ∧ x = s.extract (hl4 s) s.size)) ?_).mono ?_
  · refine (ip4_Get1.walk w.heap.size s w (readW W s) hG).mono ?_
    rintro e w2 ⟨rfl, n, cs, x, hu, hx⟩
    exact ⟨rfl, hu.2.1.tail.tail.tail.tail.head, n, cs, x, hu, hx⟩
  · rintro e w' ⟨rfl, w2, ⟨n, cs, x, hu, hx⟩, hg⟩
    exact ⟨rfl, hu.done hg hx⟩

set_option maxHeartbeats 1000000 in
set_option maxRecDepth 100000 in
theorem ip4_Get.calls (s : ByteArray) (r1 r2 r3 r4 r5 : Int) (r6 r7 : Bool) (r8 r9 r10 r11 : ByteArray) (r12 : Int) (w : World) (h : ip4_Get.f s = some (r1, r2, r3, r4, r5, r6, r7, r8, r9, r10, r11, r12)) :
    Calls Try.prog 47 #[.string s] w fun e w' => e = .returned (.tuple #[.agg #[.int .i64 r1, .int .i64 r2, .int .i64 r3, .int .i64 r4, .int .i64 r5, .bool r6, .bool r7, .string r8, .string r9, .string r10], .string r11, .int .i64 r12]) ∧ Below w.heap.size w w' := by
  unfold ip4_Get.f at h
  by_cases hs : s.size ≤ 140737488351232
  case neg => rw [if_neg hs] at h; exact absurd h (by simp)
  rw [if_pos hs] at h
  have hmf : ∀ (fn : Fn) (first cap : Array Value) (w : World), (Instr.makeFunc fn first cap).run Try.prog w = .ok (.func fn first cap) w := fun _ _ _ _ => rfl
  have hu := Try.underlying50
  have HS := Aside0.mk hs
  clear hs
  by_cases h0 : ip4Err s = 0
  · rw [if_pos h0] at h
    replace h := Option.some.inj h
    simp only [Prod.mk.injEq] at h
    obtain ⟨rfl, rfl, rfl, rfl, rfl, rfl, rfl, rfl, rfl, rfl, rfl, rfl⟩ := h
    have d1 : (ip4Err s != 0) = false := bne_eq_false_iff_eq.mpr h0
    have h := Aside0.mk h0
    clear h0
    go_enter Try.func47, Try.ntmps47
    go_wp2_with fail
    refine (ip4_Get.reads s HS.out w).mono ?_
    rintro e w2 ⟨rfl, cs, x, hp, hb, hx⟩
    obtain ⟨rfl, rfl⟩ := hx h.out
    have HB := Aside0.mk hb
    have c1 := hp.tail.head.cells
    have c2 := hp.tail.head.frees
    have c3 := hp.tail.tail.head.cells
    simp only [final4] at c3
    have c4 := hp.tail.tail.tail.head.cell 0 _ rfl
    have HK := Aside0.mk hp.tail.head
    clear hp hb hx
    go_wp2_with fail
    go_region
    all_goals
      have c5 := ((((((((((HK.out.set 0 (.int .i64 (be (bl (s.extract 1 2)) : Nat))).set 1 (.int .i64 (be (bl (s.extract 4 6)) : Nat))).set 2 (.int .i64 (((be (bl (s.extract 6 8)) : Nat) : Int) % 8192))).set 3 (.int .i64 (be (bl (s.extract 8 9)) : Nat))).set 4 (.int .i64 (be (bl (s.extract 9 10)) : Nat))).set 5 (.bool (be (bl (s.extract 6 8)) / 16384 % 2 == 1))).set 6 (.bool (be (bl (s.extract 6 8)) / 8192 % 2 == 1))).set 7 (.string (s.extract 12 16))).set 8 (.string (s.extract 16 20))).set 9 (.string (s.extract 20 (hl4 s)))).drew.cells
      simp only [List.setIfInBounds_toArray, List.set_cons_zero, List.set_cons_succ] at c5
      clear c1 c2 c3 c4
      go_wp2
      refine ⟨rfl, _, ?_, rfl, ?_⟩
      rotate_left
      · exact ((((((((((HB.out.setCell (by simp) _).setCell (by simp) _).setCell (by simp) _).setCell (by simp) _).setCell (by simp) _).setCell (by simp) _).setCell (by simp) _).setCell (by simp) _).setCell (by simp) _).setCell (by simp) _).drew
      simp [results, Try.results47, go_sem, hu, c5]
  · rw [if_neg h0] at h
    replace h := Option.some.inj h
    simp only [Prod.mk.injEq] at h
    obtain ⟨rfl, rfl, rfl, rfl, rfl, rfl, rfl, rfl, rfl, rfl, rfl, rfl⟩ := h
    have d1 : (ip4Err s != 0) = true := bne_iff_ne.mpr h0
    clear h0
    go_enter Try.func47, Try.ntmps47
    go_wp2_with fail
    refine (ip4_Get.reads s HS.out w).mono ?_
    rintro e w2 ⟨rfl, cs, x, hp, hb, hx⟩
    have HB := Aside0.mk hb
    have c1 := hp.tail.head.cells
    have c2 := hp.tail.head.frees
    have HK := Aside0.mk hp.tail.head
    clear hp hb hx
    go_wp2
    have c5 := ((((((((((HK.out.set 0 (.int .i64 0)).set 1 (.int .i64 0)).set 2 (.int .i64 0)).set 3 (.int .i64 0)).set 4 (.int .i64 0)).set 5 (.bool false)).set 6 (.bool false)).set 7 (.string ⟨#[]⟩)).set 8 (.string ⟨#[]⟩)).set 9 (.string ⟨#[]⟩)).cells
    simp only [List.setIfInBounds_toArray, List.set_cons_zero, List.set_cons_succ] at c5
    clear c1 c2
    refine ⟨rfl, _, ?_, rfl, ?_⟩
    rotate_left
    · exact ((((((((((HB.out.setCell (by simp) _).setCell (by simp) _).setCell (by simp) _).setCell (by simp) _).setCell (by simp) _).setCell (by simp) _).setCell (by simp) _).setCell (by simp) _).setCell (by simp) _).setCell (by simp) _)
    simp [results, Try.results47, go_sem, hu, c5]
end Go.Proofs.Ytcmalglippmocaa.G
end

section
/- By hand: wire's Writer (a strings.Builder in a struct): each method's contract over a writer's block. The walks of strings.Builder's methods are turned from the kit's shelf (Derived/Shelf/Strings), at a block of the Writer's type. -/
namespace Go.Proofs.Ytcmalglippmocaa.G
open Go.RowKit Go.Proofs.YtcmalglippmocaaW.PrintWords Go.Proofs.YtcmalglippmocaaW.PrintLast Go.Proofs.YtcmalglippmocaaW.PrintMore Go.Proofs.Ytcmalglippmocaa.Pal
set_option linter.unusedVariables false
set_option linter.unusedSimpArgs false

/-- Block b is a writer: its address word p, its buffer v, which holds the bytes l. -/
def WP (b : Nat) (p v : Value) (l : List UInt8) (w : World) : Prop :=
  w.heap[b]? = some (.cells #[p, v] 117 (0, 0)) ∧ w.ownsRowF b 5 1 v l.length (Lib.byteCells l) ∧ v.ownBlock ≠ some b ∧ (l = [] → v = .slice none 0 0)
def self (b : Nat) : Value := .pointer (some ⟨b, 0, none⟩)
/-- Block b is a writer that has written the bytes l. -/
def WAt (b : Nat) (l : List UInt8) (w : World) : Prop := ∃ v, WP b (.pointer none) v l w ∨ WP b (self b) v l w

theorem WP.lt {b : Nat} {p v : Value} {l : List UInt8} {w : World} (h : WP b p v l w) : b < w.heap.size := lt_of_block h.1
theorem WP.put {b : Nat} {p v v' : Value} {l : List UInt8} {w : World} (hb : w.heap[b]? = some (.cells #[p, v] 117 (0, 0))) (hown : w.ownsRowF b 5 1 v' l.length (Lib.byteCells l)) (hn : l = [] → v' = .slice none 0 0) :
    WP b p v' l (w.setCell ⟨b, 1, none⟩ v') := by
  have hne := Lib.ownBlock_neF hown hb (by decide)
  refine ⟨?_, ?_, hne, hn⟩
  · simp [World.setCell, Array.getElem?_modify, hb]
  · exact hown.kept (row := some b) ⟨rfl, rfl, rfl, by simp [World.setCell], fun k _ hk => Below.heap_setCell _ _ _ _ (fun e => hk (by simp [e]))⟩ (Or.inr hne)

/-- A writer that has just been made. -/
theorem WAt.new (w : World) : WAt w.heap.size [] (w.alloc (.cells #[.pointer none, .slice none 0 0] 117)) :=
  ⟨.slice none 0 0, .inl ⟨heap_alloc_new w _, ⟨by simp [Lib.byteCells], .inl ⟨rfl, rfl⟩⟩, by simp [Value.ownBlock], fun _ => rfl⟩⟩
theorem WAt.drew {b : Nat} {l : List UInt8} {w : World} (h : WAt b l w) : WAt b l w.drew := h
theorem WAt.drewN {b : Nat} {l : List UInt8} {w : World} (h : WAt b l w) (n : Nat) : WAt b l (w.drewN n) := h
/-- While a function writes: its struct parameter in block a, its writer in block b; below B all is as it was. -/
def WS (B a b : Nat) (w w1 : World) (T : TypeId) (cs : Array Value) (l : List UInt8) : Prop := (WAt b l w1 ∧ Blk w1 a T cs ∧ Below B w w1) ∧ a < b ∧ B ≤ b
theorem WS.next {B a b : Nat} {w w1 w2 : World} {T : TypeId} {cs : Array Value} {l l' : List UInt8} (h : WS B a b w w1 T cs l) (h1 : WAt b l' w2) (h2 : Below b w1 w2) : WS B a b w w2 T cs l' :=
  ⟨⟨h1, h.1.2.1.below h2 h.2.1, h.1.2.2.trans (h2.mono h.2.2)⟩, h.2⟩
theorem WS.startAt {B a : Nat} {w w1 : World} {T : TypeId} {cs : Array Value} (h : Blk w1 a T cs) (hB : Below B w w1) (hs : B ≤ w1.heap.size) : WS B a w1.heap.size w (w1.alloc (.cells #[.pointer none, .slice none 0 0] 117)) T cs [] :=
  ⟨⟨WAt.new w1, h.alloc _, hB.alloc hs _⟩, h.lt, hs⟩
theorem WS.start (w : World) (T : TypeId) (cs : Array Value) : WS w.heap.size w.heap.size (w.heap.size + 1) w ((w.alloc (.cells cs T)).alloc (.cells #[.pointer none, .slice none 0 0] 117)) T cs [] := by
  have h := WS.startAt (Blk.new w T cs) ((Below.refl _ _).alloc (Nat.le_refl _) _) (by simp)
  rwa [World.size_alloc] at h
end Go.Proofs.Ytcmalglippmocaa.G
end

section
/- By hand: udp.Check, udp.Put, udp.Get. -/
namespace Go.Proofs.Ytcmalglippmocaa.G
open Go.RowKit Go.Proofs.YtcmalglippmocaaW.PrintWords Go.Proofs.YtcmalglippmocaaW.PrintLast Go.Proofs.YtcmalglippmocaaW.PrintMore Go.Proofs.Ytcmalglippmocaa.Pal
set_option linter.unusedVariables false
set_option linter.unusedSimpArgs false

def in16 (x : Int) : Prop := 0 ≤ x ∧ x ≤ 65535
instance (x : Int) : Decidable (in16 x) := by unfold in16; infer_instance
def empty : ByteArray := ⟨#[]⟩
/-- What udp.Get's closure works on: the text, the named result, the datagram, the sum, Read's result; then the reader. -/
def UG (k : Nat) (s : ByteArray) (w w1 : World) (n : Nat) (cs : Array Value) (x : Int) : Prop :=
  Rd w1 (k + 5) s n ∧ Hp w1 [(k, 9, #[.string s]), (k + 1, 73, #[.int .i64 0, .int .i64 0, .string ⟨#[]⟩]), (k + 2, 73, cs), (k + 3, 3, #[.int .i64 x]), (k + 4, 25, #[.int .i64 0])] ∧ Below k w w1
theorem UG.went {k : Nat} {s : ByteArray} {w w1 w2 : World} {n m : Nat} {cs : Array Value} {x : Int} (h : UG k s w w1 n cs x) (hw : Went w1 w2 (k + 5) s m) : UG k s w w2 m cs x :=
  ⟨hw.2, h.2.1.grown hw.1 (by simp), h.2.2.trans (below_of_grown hw.1 (by have := h.1.1.lt; omega) (by omega))⟩
theorem UG.put {k : Nat} {s : ByteArray} {w w1 : World} {n : Nat} {cs : Array Value} {x : Int} (h : UG k s w w1 n cs x) (j : Nat) (v : Value) : UG k s w (w1.setCell ⟨k + 2, j, none⟩ v) n (cs.setIfInBounds j v) x :=
  ⟨⟨h.1.1.other _ (by simp) _, h.1.2⟩, h.2.1.set (l1 := [_, _]) (l2 := [_, _]) j v (by simp) (by simp), h.2.2.setCell (by simp) _⟩
theorem UG.drew {k : Nat} {s : ByteArray} {w w1 : World} {n : Nat} {cs : Array Value} {x : Int} (h : UG k s w w1 n cs x) : UG k s w w1.drew n cs x := ⟨h.1, h.2.1, h.2.2.drew⟩
theorem UG.facts {k : Nat} {s : ByteArray} {w w1 : World} {n : Nat} {cs : Array Value} {x : Int} (h : UG k s w w1 n cs x) :
    w1.cell? ⟨k, 0, none⟩ = some (.string s) ∧ (∀ j, w1.frozen? ⟨k + 2, j, none⟩ = false) ∧ (∀ j, w1.cell? ⟨k + 2, j, none⟩ = cs[j]?) :=
  ⟨h.2.1.head.cell 0 _ rfl, h.2.1.tail.tail.head.frees, h.2.1.tail.tail.head.cells⟩

/-- A region's walk that ends in a panic: told as a walk with nothing left. -/
theorem panicOut {P : Program} {fn : Func} {R : Ending → World → Prop} {ch : List PanicEntry} {a : Act} {w : World} (h : wpAny P .any #[] (fun _ a w => bodyPost P fn R (.panic ch) a w) 0 #[] a w) : bodyPost P fn R (.panic ch) a w := h.2
def udpErr (s : ByteArray) : Int := if s.size < 8 then 2 else if be (bl (s.extract 4 6)) = s.size then 0 else 4

set_option maxHeartbeats 1000000 in
set_option maxRecDepth 100000 in
theorem udp_Get1.len (k : Nat) (s : ByteArray) (w w1 : World) (h : UG k s w w1 0 #[.int .i64 0, .int .i64 0, .string ⟨#[]⟩] 0) (h8 : 8 ≤ s.size) (hne : ¬ be (bl (s.extract 4 6)) = s.size) :
    Calls Try.prog 77 #[.pointer (some ⟨k + 5, 0, none⟩), .pointer (some ⟨k, 0, none⟩), .pointer (some ⟨k + 2, 0, none⟩), .pointer (some ⟨k + 3, 0, none⟩)] w1 fun e w2 => e = stopped 4 ∧ ∃ n cs x, UG k s w w2 n cs x := by
  have HG := Aside0.mk h
  obtain ⟨c0, c1, c2⟩ := h.facts
  have d1 : decide ((8 : Int) ≤ (s.size : Int)) = true := decide_eq_true (by omega)
  clear h
  go_enter Try.func77, Try.ntmps77
  go_wp2_with fail
  refine (Reader_Need.yes _ _ _).mono ?_
  rintro e w2 ⟨rfl, rfl⟩
  go_wp2_with fail
  refine (Reader_U16.yes _ _ _ _ HG.out.1 (by omega)).mono ?_
  rintro e w2 ⟨rfl, g1⟩
  replace HG := Aside0.mk (HG.out.went g1)
  clear g1 c0 c1 c2
  go_wp2_with fail
  refine (Reader_U16.yes _ _ _ _ HG.out.1 (by omega)).mono ?_
  rintro e w2 ⟨rfl, g1⟩
  replace HG := Aside0.mk (HG.out.went g1)
  clear g1
  obtain ⟨c0, c1, c2⟩ := HG.out.facts
  go_wp2_with fail
  replace HG := Aside0.mk ((HG.out.put 0 (.int .i64 (be (bl (s.extract 0 2)) : Nat))).put 1 (.int .i64 (be (bl (s.extract 2 4)) : Nat)))
  clear c0 c1 c2
  generalize (w2.setCell ⟨k + 2, 0, none⟩ (.int .i64 (be (bl (s.extract 0 2)) : Nat))).setCell ⟨k + 2, 1, none⟩ (.int .i64 (be (bl (s.extract 2 4)) : Nat)) = wa at HG ⊢
  obtain ⟨c0, c1, c2⟩ := HG.out.facts
  clear c1 c2
  have d2 : (((be (bl (s.extract 4 6)) : Nat) : Int) == (s.size : Int)) = false := by rw [beq_eq_false_iff_ne]; omega
  have d3 : ((be (bl (s.extract 4 6))) == s.size) = false := by rw [beq_eq_false_iff_ne]; exact hne
  clear hne
  go_region_with ((first
      | (go_at_call 69; refine (Reader_U16.yes _ _ 4 _ HG.out.drew.1 ?_).mono ?_; omega; rintro e w3 ⟨rfl, g1⟩; have HG3 := Aside0.mk (HG.out.drew.went g1); have c3 := HG3.out.facts.1; clear g1)
      | (go_at_call 67; refine (Reader_Need.no _ _ _).mono ?_; rintro e w4 ⟨rfl, rfl⟩; refine panicOut ?_)))
  all_goals exact ⟨rfl, rfl, _, _, _, HG3.out⟩

theorem UG.putSum {k : Nat} {s : ByteArray} {w w1 : World} {n : Nat} {cs : Array Value} {x : Int} (h : UG k s w w1 n cs x) (y : Int) : UG k s w (w1.setCell ⟨k + 3, 0, none⟩ (.int .i64 y)) n cs y :=
  ⟨⟨h.1.1.other _ (by simp) _, h.1.2⟩, h.2.1.set (l1 := [_, _, _]) (l2 := [_]) 0 (.int .i64 y) (by simp) (by simp), h.2.2.setCell (by simp) _⟩
theorem UG.sumFree {k : Nat} {s : ByteArray} {w w1 : World} {n : Nat} {cs : Array Value} {x : Int} (h : UG k s w w1 n cs x) :
    w1.cell? ⟨k + 3, 0, none⟩ = some (.int .i64 x) ∧ w1.frozen? ⟨k + 3, 0, none⟩ = false :=
  ⟨h.2.1.tail.tail.tail.head.cell 0 _ rfl, h.2.1.tail.tail.tail.head.free 0⟩

set_option maxHeartbeats 1000000 in
set_option maxRecDepth 100000 in
theorem udp_Get1.short (k : Nat) (s : ByteArray) (w w1 : World) (h : UG k s w w1 0 #[.int .i64 0, .int .i64 0, .string ⟨#[]⟩] 0) (h8 : s.size < 8) :
    Calls Try.prog 77 #[.pointer (some ⟨k + 5, 0, none⟩), .pointer (some ⟨k, 0, none⟩), .pointer (some ⟨k + 2, 0, none⟩), .pointer (some ⟨k + 3, 0, none⟩)] w1 fun e w2 => e = stopped 2 ∧ ∃ n cs x, UG k s w w2 n cs x := by
  have HG := Aside0.mk h
  obtain ⟨c0, c1, c2⟩ := h.facts
  have d1 : decide ((8 : Int) ≤ (s.size : Int)) = false := decide_eq_false (by omega)
  clear h
  go_enter Try.func77, Try.ntmps77
  go_wp2_with fail
  refine (Reader_Need.no _ _ _).mono ?_
  rintro e w2 ⟨rfl, rfl⟩
  exact ⟨rfl, rfl, _, _, _, HG.out⟩

set_option maxHeartbeats 1000000 in
set_option maxRecDepth 100000 in
theorem udp_Get1.ok (k : Nat) (s : ByteArray) (w w1 : World) (h : UG k s w w1 0 #[.int .i64 0, .int .i64 0, .string ⟨#[]⟩] 0) (h8 : 8 ≤ s.size) (heq : be (bl (s.extract 4 6)) = s.size) :
    Calls Try.prog 77 #[.pointer (some ⟨k + 5, 0, none⟩), .pointer (some ⟨k, 0, none⟩), .pointer (some ⟨k + 2, 0, none⟩), .pointer (some ⟨k + 3, 0, none⟩)] w1 fun e w2 => e = .returned (.tuple #[]) ∧
      UG k s w w2 s.size #[.int .i64 (be (bl (s.extract 0 2)) : Nat), .int .i64 (be (bl (s.extract 2 4)) : Nat), .string (s.extract 8 s.size)] (be (bl (s.extract 6 8)) : Nat) := by
  have HG := Aside0.mk h
  obtain ⟨c0, c1, c2⟩ := h.facts
  have d1 : decide ((8 : Int) ≤ (s.size : Int)) = true := decide_eq_true (by omega)
  clear h
  go_enter Try.func77, Try.ntmps77
  go_wp2_with fail
  refine (Reader_Need.yes _ _ _).mono ?_
  rintro e w2 ⟨rfl, rfl⟩
  go_wp2_with fail
  refine (Reader_U16.yes _ _ _ _ HG.out.1 (by omega)).mono ?_
  rintro e w2 ⟨rfl, g1⟩
  replace HG := Aside0.mk (HG.out.went g1)
  clear g1 c0 c1 c2
  go_wp2_with fail
  refine (Reader_U16.yes _ _ _ _ HG.out.1 (by omega)).mono ?_
  rintro e w2 ⟨rfl, g1⟩
  replace HG := Aside0.mk (HG.out.went g1)
  clear g1
  obtain ⟨c0, c1, c2⟩ := HG.out.facts
  go_wp2_with fail
  replace HG := Aside0.mk ((HG.out.put 0 (.int .i64 (be (bl (s.extract 0 2)) : Nat))).put 1 (.int .i64 (be (bl (s.extract 2 4)) : Nat)))
  clear c0 c1 c2
  generalize (w2.setCell ⟨k + 2, 0, none⟩ (.int .i64 (be (bl (s.extract 0 2)) : Nat))).setCell ⟨k + 2, 1, none⟩ (.int .i64 (be (bl (s.extract 2 4)) : Nat)) = wa at HG ⊢
  obtain ⟨c0, c1, c2⟩ := HG.out.facts
  clear c1 c2
  have d2 : (((be (bl (s.extract 4 6)) : Nat) : Int) == (s.size : Int)) = true := by rw [heq]; exact beq_self_eq_true _
  have d3 : ((be (bl (s.extract 4 6))) == s.size) = true := by rw [heq]; exact beq_self_eq_true _
  clear heq
  go_region_with ((first
      | (go_at_call 69; refine (Reader_U16.yes _ _ 4 _ HG.out.drew.1 ?_).mono ?_; omega; rintro e w3 ⟨rfl, g1⟩; have HG3 := Aside0.mk (HG.out.drew.went g1); have c3 := HG3.out.facts.1; clear g1)
      | (go_at_call 67; refine (Reader_Need.yes _ _ _).mono ?_; rintro e w4 ⟨rfl, rfl⟩)))
  all_goals
    clear c3 c0
    go_wp2_with fail
    refine (Reader_U16.yes _ _ _ _ HG3.out.1 (by omega)).mono ?_
    rintro e w5 ⟨rfl, g1⟩
    replace HG := Aside0.mk (HG3.out.went g1)
    clear g1 HG3
    go_wp2_with fail
    refine (Reader_Rest.calls _ _ _ _ HG.out.1).mono ?_
    rintro e w6 ⟨rfl, g1⟩
    replace HG := Aside0.mk (HG.out.went g1)
    clear g1
    obtain ⟨c0, c1, c2⟩ := HG.out.facts
    obtain ⟨c3, c4⟩ := HG.out.sumFree
    go_wp2
    go_end0
    exact ⟨rfl, (HG.out.putSum _).put 2 _⟩

def udp_Get.f (s : ByteArray) : Option (Int × Int × ByteArray × Int × Int) :=
  if s.size ≤ 140737488351232 then some (if udpErr s = 0 then ((be (bl (s.extract 0 2)) : Nat), (be (bl (s.extract 2 4)) : Nat), s.extract 8 s.size, (be (bl (s.extract 6 8)) : Nat), 0) else (0, 0, empty, 0, udpErr s)) else none

/-- What Get's closure leaves, and Read's end behind it. -/
def UR (k : Nat) (s : ByteArray) (w w1 : World) : Prop :=
  ∃ cs x, Hp w1 [(k, 9, #[.string s]), (k + 1, 73, #[.int .i64 0, .int .i64 0, .string ⟨#[]⟩]), (k + 2, 73, cs), (k + 3, 3, #[.int .i64 x])] ∧ Below k w w1 ∧
    (udpErr s = 0 → cs = #[.int .i64 (be (bl (s.extract 0 2)) : Nat), .int .i64 (be (bl (s.extract 2 4)) : Nat), .string (s.extract 8 s.size)] ∧ x = (be (bl (s.extract 6 8)) : Nat))
theorem UG.done {k : Nat} {s : ByteArray} {w w1 w2 : World} {n : Nat} {cs : Array Value} {x : Int} (h : UG k s w w1 n cs x) (hw : w1.grownBy w2 (some (k + 4)))
    (hx : udpErr s = 0 → cs = #[.int .i64 (be (bl (s.extract 0 2)) : Nat), .int .i64 (be (bl (s.extract 2 4)) : Nat), .string (s.extract 8 s.size)] ∧ x = (be (bl (s.extract 6 8)) : Nat)) : UR k s w w2 :=
  ⟨cs, x, Hp.grown (R := k + 4) (fun y hy => h.2.1 y (by simp at hy ⊢; rcases hy with rfl | rfl | rfl | rfl <;> simp)) hw (by simp), h.2.2.trans (below_of_grown hw (by have := h.1.1.lt; omega) (by omega)), hx⟩

set_option maxRecDepth 100000 in
theorem udp_Get.reads (s : ByteArray) (hs : s.size ≤ 140737488351232) (w : World) :
    Calls Try.prog 65 #[.string s, .func (.func 77) #[] #[.pointer (some ⟨w.heap.size, 0, none⟩), .pointer (some ⟨w.heap.size + 1 + 1, 0, none⟩), .pointer (some ⟨w.heap.size + 1 + 1 + 1, 0, none⟩)]]
      ((((w.alloc (.cells #[.string s] 9)).alloc (.cells #[.int .i64 0, .int .i64 0, .string ⟨#[]⟩] 73)).alloc (.cells #[.int .i64 0, .int .i64 0, .string ⟨#[]⟩] 73)).alloc (.cells #[.int .i64 0] 3))
      fun e w' => e = .returned (.int .i64 (udpErr s)) ∧ UR w.heap.size s w w' := by
  obtain ⟨W, hW⟩ : ∃ W, W = ((((w.alloc (.cells #[.string s] 9)).alloc (.cells #[.int .i64 0, .int .i64 0, .string ⟨#[]⟩] 73)).alloc (.cells #[.int .i64 0, .int .i64 0, .string ⟨#[]⟩] 73)).alloc (.cells #[.int .i64 0] 3)) := ⟨_, rfl⟩
  have hk : W.heap.size = w.heap.size + 4 := by rw [hW]; simp
  have b0 : Blk W w.heap.size 9 #[.string s] := by rw [hW]; exact (((Blk.new w _ _).alloc _).alloc _).alloc _
  have b1 : Blk W (w.heap.size + 1) 73 #[.int .i64 0, .int .i64 0, .string ⟨#[]⟩] := by
    rw [hW]
    have := Blk.new (w.alloc (.cells #[.string s] 9)) 73 #[.int .i64 0, .int .i64 0, .string ⟨#[]⟩]
    rw [World.size_alloc] at this
    exact (this.alloc _).alloc _
  have b2 : Blk W (w.heap.size + 2) 73 #[.int .i64 0, .int .i64 0, .string ⟨#[]⟩] := by
    rw [hW]
    have := Blk.new ((w.alloc (.cells #[.string s] 9)).alloc (.cells #[.int .i64 0, .int .i64 0, .string ⟨#[]⟩] 73)) 73 #[.int .i64 0, .int .i64 0, .string ⟨#[]⟩]
    rw [World.size_alloc, World.size_alloc] at this
    exact this.alloc _
  have b3 : Blk W (w.heap.size + 3) 3 #[.int .i64 0] := by
    rw [hW]
    have := Blk.new (((w.alloc (.cells #[.string s] 9)).alloc (.cells #[.int .i64 0, .int .i64 0, .string ⟨#[]⟩] 73)).alloc (.cells #[.int .i64 0, .int .i64 0, .string ⟨#[]⟩] 73)) 3 #[.int .i64 0]
    rw [World.size_alloc, World.size_alloc, World.size_alloc] at this
    exact this
  have hb : Below w.heap.size w W := by
    rw [hW]
    exact ((((Below.refl _ _).alloc (Nat.le_refl _) _).alloc (by simp) _).alloc (by simp; omega) _).alloc (by simp; omega) _
  rw [← hW]
  clear hW
  have hrd := readW_rd W s hs
  have hres := readW_res W s
  have hbl := readW_below W s
  rw [hk] at hrd hres hbl
  have hG : UG w.heap.size s w (readW W s) 0 #[.int .i64 0, .int .i64 0, .string ⟨#[]⟩] 0 :=
    ⟨hrd, .cons (b0.below hbl (by omega)) (.cons (b1.below hbl (by omega)) (.cons (b2.below hbl (by omega)) (.cons (b3.below hbl (by omega)) (.cons hres (.nil _))))), hb.trans (hbl.mono (by omega))⟩
  have hrd' : ∀ Q : World → Prop, Calls Try.prog 77 (#[.pointer (some ⟨W.heap.size + 1, 0, none⟩)] ++ #[.pointer (some ⟨w.heap.size, 0, none⟩), .pointer (some ⟨w.heap.size + 1 + 1, 0, none⟩), .pointer (some ⟨w.heap.size + 1 + 1 + 1, 0, none⟩)]) (readW W s) (fun e w2 => e = did (udpErr s) ∧ Blk w2 W.heap.size 25 #[.int .i64 0] ∧ Q w2) →
      Calls Try.prog 65 #[.string s, .func (.func 77) #[] #[.pointer (some ⟨w.heap.size, 0, none⟩), .pointer (some ⟨w.heap.size + 1 + 1, 0, none⟩), .pointer (some ⟨w.heap.size + 1 + 1 + 1, 0, none⟩)]] W
        fun e w' => e = .returned (.int .i64 (udpErr s)) ∧ ∃ w2, Q w2 ∧ w2.grownBy w' (some W.heap.size) :=
    fun Q h => Read_calls 77 _ s (udpErr s) W Q (fun _ _ => rfl) h
  rw [hk] at hrd'
  clear hrd hres hbl b0 b1 b2 b3 hb
  by_cases h8 : s.size < 8
  · have he : udpErr s = 2 := if_pos h8
    rw [he] at hrd' ⊢
    refine (hrd' (fun w2 => ∃ n cs x, UG w.heap.size s w w2 n cs x) ?_).mono ?_
    · refine (udp_Get1.short w.heap.size s w (readW W s) hG h8).mono ?_
      rintro e w2 ⟨rfl, n, cs, x, hu⟩
      exact ⟨rfl, hu.2.1.tail.tail.tail.tail.head, n, cs, x, hu⟩
    · rintro e w' ⟨rfl, w2, ⟨n, cs, x, hu⟩, hg⟩
      exact ⟨rfl, hu.done hg (fun h0 => absurd (he.symm.trans h0) (by decide))⟩
  · by_cases heq : be (bl (s.extract 4 6)) = s.size
    · have he : udpErr s = 0 := by unfold udpErr; rw [if_neg h8, if_pos heq]
      rw [he] at hrd' ⊢
      refine (hrd' (fun w2 => UG w.heap.size s w w2 s.size #[.int .i64 (be (bl (s.extract 0 2)) : Nat), .int .i64 (be (bl (s.extract 2 4)) : Nat), .string (s.extract 8 s.size)] (be (bl (s.extract 6 8)) : Nat)) ?_).mono ?_
      · refine (udp_Get1.ok w.heap.size s w (readW W s) hG (by omega) heq).mono ?_
        rintro e w2 ⟨rfl, hu⟩
        exact ⟨rfl, hu.2.1.tail.tail.tail.tail.head, hu⟩
      · rintro e w' ⟨rfl, w2, hu, hg⟩
        exact ⟨rfl, hu.done hg (fun _ => ⟨rfl, rfl⟩)⟩
    · have he : udpErr s = 4 := by unfold udpErr; rw [if_neg h8, if_neg heq]
      rw [he] at hrd' ⊢
      refine (hrd' (fun w2 => ∃ n cs x, UG w.heap.size s w w2 n cs x) ?_).mono ?_
      · refine (udp_Get1.len w.heap.size s w (readW W s) hG (by omega) heq).mono ?_
        rintro e w2 ⟨rfl, n, cs, x, hu⟩
        exact ⟨rfl, hu.2.1.tail.tail.tail.tail.head, n, cs, x, hu⟩
      · rintro e w' ⟨rfl, w2, ⟨n, cs, x, hu⟩, hg⟩
        exact ⟨rfl, hu.done hg (fun h0 => absurd (he.symm.trans h0) (by decide))⟩

set_option maxHeartbeats 1000000 in
set_option maxRecDepth 100000 in
theorem udp_Get.calls (s : ByteArray) (r1 r2 : Int) (r3 : ByteArray) (r4 r5 : Int) (w : World) (h : udp_Get.f s = some (r1, r2, r3, r4, r5)) :
    Calls Try.prog 50 #[.string s] w fun e w' => e = .returned (.tuple #[.agg #[.int .i64 r1, .int .i64 r2, .string r3], .int .i64 r4, .int .i64 r5]) ∧ Below w.heap.size w w' := by
  unfold udp_Get.f at h
  by_cases hs : s.size ≤ 140737488351232
  case neg => rw [if_neg hs] at h; exact absurd h (by simp)
  rw [if_pos hs] at h
  have hmf : ∀ (fn : Fn) (first cap : Array Value) (w : World), (Instr.makeFunc fn first cap).run Try.prog w = .ok (.func fn first cap) w := fun _ _ _ _ => rfl
  have hu := Try.underlying73
  have HS := Aside0.mk hs
  clear hs
  by_cases h0 : udpErr s = 0
  · rw [if_pos h0] at h
    obtain ⟨rfl, rfl, rfl, rfl, rfl⟩ : (be (bl (s.extract 0 2)) : Nat) = r1 ∧ (be (bl (s.extract 2 4)) : Nat) = r2 ∧ s.extract 8 s.size = r3 ∧ (be (bl (s.extract 6 8)) : Nat) = r4 ∧ 0 = r5 := by
      have h := Option.some.inj h; simp only [Prod.mk.injEq] at h; exact h
    have d1 : (udpErr s != 0) = false := bne_eq_false_iff_eq.mpr h0
    replace h := Aside0.mk h0
    clear h0
    go_enter Try.func50, Try.ntmps50
    go_wp2_with fail
    refine (udp_Get.reads s HS.out w).mono ?_
    rintro e w2 ⟨rfl, cs, x, hp, hb, hx⟩
    obtain ⟨rfl, rfl⟩ := hx h.out
    have HB := Aside0.mk hb
    have c1 := hp.tail.head.cells
    have c2 := hp.tail.head.frees
    have c3 := hp.tail.tail.head.cells
    have c4 := hp.tail.tail.tail.head.cell 0 _ rfl
    have HK := Aside0.mk hp.tail.head
    clear hp hb hx
    go_wp2_with fail
    go_region
    all_goals
      have c5 := (((HK.out.set 0 (.int .i64 (be (bl (s.extract 0 2)) : Nat))).set 1 (.int .i64 (be (bl (s.extract 2 4)) : Nat))).set 2 (.string (s.extract 8 s.size))).drew.cells
      simp only [List.setIfInBounds_toArray, List.set_cons_zero, List.set_cons_succ] at c5
      clear c1 c2 c3 c4
      go_wp2
      refine ⟨rfl, _, ?_, rfl, ?_⟩
      rotate_left
      · exact (((HB.out.setCell (by simp) _).setCell (by simp) _).setCell (by simp) _).drew
      simp [results, Try.results50, go_sem, hu, c5]
  · rw [if_neg h0] at h
    obtain ⟨rfl, rfl, rfl, rfl, rfl⟩ : 0 = r1 ∧ 0 = r2 ∧ empty = r3 ∧ 0 = r4 ∧ udpErr s = r5 := by
      have h := Option.some.inj h; simp only [Prod.mk.injEq] at h; exact h
    have d1 : (udpErr s != 0) = true := bne_iff_ne.mpr h0
    clear h h0
    go_enter Try.func50, Try.ntmps50
    go_wp2_with fail
    refine (udp_Get.reads s HS.out w).mono ?_
    rintro e w2 ⟨rfl, cs, x, hp, hb, hx⟩
    have HB := Aside0.mk hb
    have c1 := hp.tail.head.cells
    have c2 := hp.tail.head.frees
    have HK := Aside0.mk hp.tail.head
    clear hp hb hx
    go_wp2
    have c5 := (((HK.out.set 0 (.int .i64 0)).set 1 (.int .i64 0)).set 2 (.string ⟨#[]⟩)).cells
    simp only [List.setIfInBounds_toArray, List.set_cons_zero, List.set_cons_succ] at c5
    clear c1 c2
    refine ⟨rfl, _, ?_, rfl, ?_⟩
    rotate_left
    · exact ((HB.out.setCell (by simp) _).setCell (by simp) _).setCell (by simp) _
    simp [results, Try.results50, go_sem, hu, c5]
    rfl
end Go.Proofs.Ytcmalglippmocaa.G
end

section
/- By hand: ip6.Put, ip6.Get. -/
namespace Go.Proofs.Ytcmalglippmocaa.G
open Go.RowKit Go.Proofs.YtcmalglippmocaaW.PrintWords Go.Proofs.YtcmalglippmocaaW.PrintLast Go.Proofs.YtcmalglippmocaaW.PrintMore Go.Proofs.Ytcmalglippmocaa.Pal
set_option linter.unusedVariables false
set_option linter.unusedSimpArgs false

theorem Reader_Take.went (R : Nat) (s : ByteArray) (n m : Nat) (w : World) (h : Rd w R s n) (hm : n + m ≤ s.size) :
    Calls Try.prog 70 #[.pointer (some ⟨R, 0, none⟩), .int .i64 (m : Int)] w fun e w' => e = .returned (.string (s.extract n (n + m))) ∧ Went w w' R s (n + m) := by
  refine (Reader_Take.yes R s n m w h hm).mono ?_
  rintro e w' ⟨rfl, k, j, rfl⟩
  exact ⟨rfl, grown_drewN (World.grownBy.trans (grown_drewN (grown_refl w _) k) (grown_setCell _ _ _ _)) j, (((h.1.drewN k).set 1 (.int .i64 ((n + m : Nat) : Int))).drewN j), hm, h.2.2⟩
/-- What ip6.Get's closure works on: the text, the named result, the header, the payload, Read's result; then the reader. -/
def VG (k : Nat) (s : ByteArray) (w w1 : World) (n : Nat) (cs : Array Value) (x : ByteArray) : Prop :=
  Rd w1 (k + 5) s n ∧ Hp w1 [(k, 9, #[.string s]), (k + 1, 53, #[.int .i64 0, .int .i64 0, .int .i64 0, .int .i64 0, .string ⟨#[]⟩, .string ⟨#[]⟩]), (k + 2, 53, cs), (k + 3, 9, #[.string x]), (k + 4, 25, #[.int .i64 0])] ∧ Below k w w1
theorem VG.went {k : Nat} {s : ByteArray} {w w1 w2 : World} {n m : Nat} {cs : Array Value} {x : ByteArray} (h : VG k s w w1 n cs x) (hw : Went w1 w2 (k + 5) s m) : VG k s w w2 m cs x :=
  ⟨hw.2, h.2.1.grown hw.1 (by simp), h.2.2.trans (below_of_grown hw.1 (by have := h.1.1.lt; omega) (by omega))⟩
theorem VG.put {k : Nat} {s : ByteArray} {w w1 : World} {n : Nat} {cs : Array Value} {x : ByteArray} (h : VG k s w w1 n cs x) (j : Nat) (v : Value) : VG k s w (w1.setCell ⟨k + 2, j, none⟩ v) n (cs.setIfInBounds j v) x :=
  ⟨⟨h.1.1.other _ (by simp) _, h.1.2⟩, h.2.1.set (l1 := [_, _]) (l2 := [_, _]) j v (by simp) (by simp), h.2.2.setCell (by simp) _⟩
theorem VG.putSum {k : Nat} {s : ByteArray} {w w1 : World} {n : Nat} {cs : Array Value} {x : ByteArray} (h : VG k s w w1 n cs x) (y : ByteArray) : VG k s w (w1.setCell ⟨k + 3, 0, none⟩ (.string y)) n cs y :=
  ⟨⟨h.1.1.other _ (by simp) _, h.1.2⟩, h.2.1.set (l1 := [_, _, _]) (l2 := [_]) 0 (.string y) (by simp) (by simp), h.2.2.setCell (by simp) _⟩
theorem VG.drew {k : Nat} {s : ByteArray} {w w1 : World} {n : Nat} {cs : Array Value} {x : ByteArray} (h : VG k s w w1 n cs x) : VG k s w w1.drew n cs x := ⟨h.1, h.2.1, h.2.2.drew⟩
theorem VG.drewN {k : Nat} {s : ByteArray} {w w1 : World} {n : Nat} {cs : Array Value} {x : ByteArray} (h : VG k s w w1 n cs x) (j : Nat) : VG k s w (w1.drewN j) n cs x := ⟨h.1, h.2.1, pw_below_drewN h.2.2 j⟩
theorem VG.facts {k : Nat} {s : ByteArray} {w w1 : World} {n : Nat} {cs : Array Value} {x : ByteArray} (h : VG k s w w1 n cs x) :
    w1.cell? ⟨k, 0, none⟩ = some (.string s) ∧ (∀ j, w1.frozen? ⟨k + 2, j, none⟩ = false) ∧ (∀ j, w1.cell? ⟨k + 2, j, none⟩ = cs[j]?) ∧ w1.cell? ⟨k + 3, 0, none⟩ = some (.string x) ∧ w1.frozen? ⟨k + 3, 0, none⟩ = false :=
  ⟨h.2.1.head.cell 0 _ rfl, h.2.1.tail.tail.head.frees, h.2.1.tail.tail.head.cells, h.2.1.tail.tail.tail.head.cell 0 _ rfl, h.2.1.tail.tail.tail.head.free 0⟩
def zero6 : Array Value := #[.int .i64 0, .int .i64 0, .int .i64 0, .int .i64 0, .string ⟨#[]⟩, .string ⟨#[]⟩]
def ip6Err (s : ByteArray) : Int := if s.size < 40 then 2 else if be (bl (s.extract 0 4)) / 268435456 = 6 then (if (be (bl (s.extract 4 6)) : Int) = (s.size : Int) - 40 then 0 else 4) else 3

set_option maxHeartbeats 1000000 in
set_option maxRecDepth 100000 in
theorem ip6_Get1.short (k : Nat) (s : ByteArray) (w w1 : World) (h : VG k s w w1 0 zero6 ⟨#[]⟩) (h8 : s.size < 40) :
    Calls Try.prog 72 #[.pointer (some ⟨k + 5, 0, none⟩), .pointer (some ⟨k, 0, none⟩), .pointer (some ⟨k + 2, 0, none⟩), .pointer (some ⟨k + 3, 0, none⟩)] w1 fun e w2 => e = stopped 2 ∧ ∃ n cs x, VG k s w w2 n cs x := by
  have HG := Aside0.mk h
  have d1 : decide ((40 : Int) ≤ (s.size : Int) - ((0 : Nat) : Int)) = false := decide_eq_false (by omega)
  have d2 : decide ((40 : Int) ≤ (s.size : Int)) = false := decide_eq_false (by omega)
  clear h
  go_enter Try.func72, Try.ntmps72
  go_wp2_with fail
  refine (Reader_Left.calls _ _ _ _ HG.out.1).mono ?_
  rintro e w2 ⟨rfl, j, rfl⟩
  go_wp2_with fail
  refine (Reader_Need.no _ _ _).mono ?_
  rintro e w3 ⟨rfl, rfl⟩
  exact ⟨rfl, rfl, _, _, _, HG.out.drewN j⟩

set_option maxHeartbeats 1000000 in
set_option maxRecDepth 100000 in
theorem ip6_Get1.vers (k : Nat) (s : ByteArray) (w w1 : World) (h : VG k s w w1 0 zero6 ⟨#[]⟩) (h8 : 40 ≤ s.size) (hv : ¬ be (bl (s.extract 0 4)) / 268435456 = 6) :
    Calls Try.prog 72 #[.pointer (some ⟨k + 5, 0, none⟩), .pointer (some ⟨k, 0, none⟩), .pointer (some ⟨k + 2, 0, none⟩), .pointer (some ⟨k + 3, 0, none⟩)] w1 fun e w2 => e = stopped 3 ∧ ∃ n cs x, VG k s w w2 n cs x := by
  have HG := Aside0.mk h
  have d1 : decide ((40 : Int) ≤ (s.size : Int) - ((0 : Nat) : Int)) = true := decide_eq_true (by omega)
  have d2 : decide ((40 : Int) ≤ (s.size : Int)) = true := decide_eq_true (by omega)
  have hw : wrap64 ((be (bl (s.extract 0 4)) : Nat) : Int) = ((be (bl (s.extract 0 4)) : Nat) : Int) := by have hb : be (bl (s.extract 0 4)) < 4294967296 := be_small_U32 s 0; unfold wrap64; omega
  have v1 : (((be (bl (s.extract 0 4)) : Nat) : Int) / 268435456 == 6) = false := by rw [beq_eq_false_iff_ne]; omega
  have v2 : ((be (bl (s.extract 0 4))) / 268435456 == 6) = false := by rw [beq_eq_false_iff_ne]; exact hv
  clear h
  go_enter Try.func72, Try.ntmps72
  go_wp2_with fail
  refine (Reader_Left.calls _ _ _ _ HG.out.1).mono ?_
  rintro e w2 ⟨rfl, j, rfl⟩
  go_wp2_with fail
  refine (Reader_Need.yes _ _ _).mono ?_
  rintro e w3 ⟨rfl, rfl⟩
  go_wp2_with fail
  refine (Reader_U32.yes _ _ _ _ (HG.out.drewN j).1 (by omega)).mono ?_
  rintro e w2 ⟨rfl, g1⟩
  replace HG := Aside0.mk ((HG.out.drewN j).went g1)
  clear g1
  go_wp2_with fail
  refine (Reader_Need.no _ _ _).mono ?_
  rintro e w4 ⟨rfl, rfl⟩
  exact ⟨rfl, rfl, _, _, _, HG.out⟩

set_option maxHeartbeats 1000000 in
set_option maxRecDepth 100000 in
theorem ip6_Get1.len (k : Nat) (s : ByteArray) (w w1 : World) (h : VG k s w w1 0 zero6 ⟨#[]⟩) (h8 : 40 ≤ s.size) (hv : be (bl (s.extract 0 4)) / 268435456 = 6) (hl : ¬ ((be (bl (s.extract 4 6)) : Nat) : Int) = (s.size : Int) - 40) :
    Calls Try.prog 72 #[.pointer (some ⟨k + 5, 0, none⟩), .pointer (some ⟨k, 0, none⟩), .pointer (some ⟨k + 2, 0, none⟩), .pointer (some ⟨k + 3, 0, none⟩)] w1 fun e w2 => e = stopped 4 ∧ ∃ n cs x, VG k s w w2 n cs x := by
  have HG := Aside0.mk h
  have d1 : decide ((40 : Int) ≤ (s.size : Int) - ((0 : Nat) : Int)) = true := decide_eq_true (by omega)
  have d2 : decide ((40 : Int) ≤ (s.size : Int)) = true := decide_eq_true (by omega)
  have hw : wrap64 ((be (bl (s.extract 0 4)) : Nat) : Int) = ((be (bl (s.extract 0 4)) : Nat) : Int) := by have hb : be (bl (s.extract 0 4)) < 4294967296 := be_small_U32 s 0; unfold wrap64; omega
  have v1 : (((be (bl (s.extract 0 4)) : Nat) : Int) / 268435456 == 6) = true := by rw [beq_iff_eq]; omega
  have v2 : ((be (bl (s.extract 0 4))) / 268435456 == 6) = true := by rw [beq_iff_eq]; exact hv
  clear h
  go_enter Try.func72, Try.ntmps72
  go_wp2_with fail
  refine (Reader_Left.calls _ _ _ _ HG.out.1).mono ?_
  rintro e w2 ⟨rfl, j, rfl⟩
  go_wp2_with fail
  refine (Reader_Need.yes _ _ _).mono ?_
  rintro e w3 ⟨rfl, rfl⟩
  go_wp2_with fail
  refine (Reader_U32.yes _ _ _ _ (HG.out.drewN j).1 (by omega)).mono ?_
  rintro e w2 ⟨rfl, g1⟩
  replace HG := Aside0.mk ((HG.out.drewN j).went g1)
  clear g1
  go_wp2_with fail
  refine (Reader_Need.yes _ _ _).mono ?_
  rintro e w4 ⟨rfl, rfl⟩
  go_wp2_with fail
  have c0 := HG.out.facts.1
  have l1 : (((be (bl (s.extract 4 6)) : Nat) : Int) == (s.size : Int) - 40) = false := by rw [beq_eq_false_iff_ne]; exact hl
  have l2 : (((be (bl (s.extract 4 6)) : Nat) : Int) == wrap64 ((s.size : Int) - 40)) = false := by rw [show wrap64 ((s.size : Int) - 40) = (s.size : Int) - 40 by unfold wrap64; have := HG.out.1.2.2; omega]; exact l1
  have l3 : (((be (bl (s.extract 4 6)) : Nat) : Int) == IntKind.i64.wrap ((s.size : Int) - 40)) = false := by rw [show IntKind.i64.wrap ((s.size : Int) - 40) = (s.size : Int) - 40 by rw [IntKind.wrap_i64]; have := HG.out.1.2.2; omega]; exact l1
  clear hl
  go_region_with ((first
      | (go_at_call 69; refine (Reader_U16.yes _ _ 4 _ HG.out.drew.1 ?_).mono ?_; omega; rintro e w5 ⟨rfl, g1⟩; have HG3 := Aside0.mk (HG.out.drew.went g1); have c3 := HG3.out.facts.1; clear g1)
      | (go_at_call 67; refine (Reader_Need.no _ _ _).mono ?_; rintro e w6 ⟨rfl, rfl⟩; refine panicOut ?_)))
  all_goals exact ⟨rfl, rfl, _, _, _, HG3.out⟩

set_option maxHeartbeats 1000000 in
set_option maxRecDepth 100000 in
theorem ip6_Get1.ok (k : Nat) (s : ByteArray) (w w1 : World) (h : VG k s w w1 0 zero6 ⟨#[]⟩) (h8 : 40 ≤ s.size) (hv : be (bl (s.extract 0 4)) / 268435456 = 6) (hl : ((be (bl (s.extract 4 6)) : Nat) : Int) = (s.size : Int) - 40) :
    Calls Try.prog 72 #[.pointer (some ⟨k + 5, 0, none⟩), .pointer (some ⟨k, 0, none⟩), .pointer (some ⟨k + 2, 0, none⟩), .pointer (some ⟨k + 3, 0, none⟩)] w1 fun e w2 => e = .returned (.tuple #[]) ∧ ∃ n, VG k s w w2 n #[.int .i64 (Go.bits .and .i64 (((be (bl (s.extract 0 4)) : Nat) : Int) / 1048576) 255), .int .i64 (Go.bits .and .i64 ((be (bl (s.extract 0 4)) : Nat) : Int) 1048575), .int .i64 (be (bl (s.extract 6 7)) : Nat), .int .i64 (be (bl (s.extract 7 8)) : Nat), .string (s.extract 8 24), .string (s.extract 24 40)] (s.extract 40 s.size) := by
  have HG := Aside0.mk h
  have d1 : decide ((40 : Int) ≤ (s.size : Int) - ((0 : Nat) : Int)) = true := decide_eq_true (by omega)
  have d2 : decide ((40 : Int) ≤ (s.size : Int)) = true := decide_eq_true (by omega)
  have hw : wrap64 ((be (bl (s.extract 0 4)) : Nat) : Int) = ((be (bl (s.extract 0 4)) : Nat) : Int) := by have hb : be (bl (s.extract 0 4)) < 4294967296 := be_small_U32 s 0; unfold wrap64; omega
  have v1 : (((be (bl (s.extract 0 4)) : Nat) : Int) / 268435456 == 6) = true := by rw [beq_iff_eq]; omega
  have v2 : ((be (bl (s.extract 0 4))) / 268435456 == 6) = true := by rw [beq_iff_eq]; exact hv
  clear h
  go_enter Try.func72, Try.ntmps72
  go_wp2_with fail
  refine (Reader_Left.calls _ _ _ _ HG.out.1).mono ?_
  rintro e w2 ⟨rfl, j, rfl⟩
  go_wp2_with fail
  refine (Reader_Need.yes _ _ _).mono ?_
  rintro e w3 ⟨rfl, rfl⟩
  go_wp2_with fail
  refine (Reader_U32.yes _ _ _ _ (HG.out.drewN j).1 (by omega)).mono ?_
  rintro e w2 ⟨rfl, g1⟩
  replace HG := Aside0.mk ((HG.out.drewN j).went g1)
  clear g1
  go_wp2_with fail
  refine (Reader_Need.yes _ _ _).mono ?_
  rintro e w4 ⟨rfl, rfl⟩
  go_wp2_with fail
  have c0 := HG.out.facts.1
  have l1 : (((be (bl (s.extract 4 6)) : Nat) : Int) == (s.size : Int) - 40) = true := by rw [beq_iff_eq]; exact hl
  have l2 : (((be (bl (s.extract 4 6)) : Nat) : Int) == wrap64 ((s.size : Int) - 40)) = true := by rw [show wrap64 ((s.size : Int) - 40) = (s.size : Int) - 40 by unfold wrap64; have := HG.out.1.2.2; omega]; exact l1
  have l3 : (((be (bl (s.extract 4 6)) : Nat) : Int) == IntKind.i64.wrap ((s.size : Int) - 40)) = true := by rw [show IntKind.i64.wrap ((s.size : Int) - 40) = (s.size : Int) - 40 by rw [IntKind.wrap_i64]; have := HG.out.1.2.2; omega]; exact l1
  clear hl
  go_region_with ((first
      | (go_at_call 69; refine (Reader_U16.yes _ _ 4 _ HG.out.drew.1 ?_).mono ?_; omega; rintro e w5 ⟨rfl, g1⟩; have HG3 := Aside0.mk (HG.out.drew.went g1); have c3 := HG3.out.facts.1; clear g1)
      | (go_at_call 67; refine (Reader_Need.yes _ _ _).mono ?_; rintro e w6 ⟨rfl, rfl⟩)))
  all_goals
    clear c0 c3 l1 l2 l3 v1 v2 d1 d2 hw
    replace HG := HG3
    clear HG3
    go_wp2_with fail
    refine (Reader_U8.yes _ _ _ _ HG.out.1 (by omega)).mono ?_
    rintro e w7 ⟨rfl, g1⟩
    replace HG := Aside0.mk (HG.out.went g1)
    clear g1
    go_wp2_with fail
    refine (Reader_U8.yes _ _ _ _ HG.out.1 (by omega)).mono ?_
    rintro e w8 ⟨rfl, g1⟩
    replace HG := Aside0.mk (HG.out.went g1)
    clear g1
    go_wp2_with fail
    refine (Reader_Take.went _ _ _ 16 _ HG.out.1 (by omega)).mono ?_
    rintro e w9 ⟨rfl, g1⟩
    replace HG := Aside0.mk (HG.out.went g1)
    clear g1
    go_wp2_with fail
    refine (Reader_Take.went _ _ _ 16 _ HG.out.1 (by omega)).mono ?_
    rintro e w10 ⟨rfl, g1⟩
    replace HG := Aside0.mk (HG.out.went g1)
    clear g1
    obtain ⟨c0, c1, c2, c3, c4⟩ := HG.out.facts
    simp only [zero6] at c2
    go_wp2_with fail
    replace HG := Aside0.mk ((((((HG.out.put 0 (.int .i64 (Go.bits .and .i64 (((be (bl (s.extract 0 4)) : Nat) : Int) / 1048576) 255))).put 1 (.int .i64 (Go.bits .and .i64 ((be (bl (s.extract 0 4)) : Nat) : Int) 1048575))).put 2 (.int .i64 (be (bl (s.extract 6 7)) : Nat))).put 3 (.int .i64 (be (bl (s.extract 7 8)) : Nat))).put 4 (.string (s.extract 8 24))).put 5 (.string (s.extract 24 40)))
    clear c0 c1 c2 c3 c4
    refine (Reader_Rest.calls _ _ _ _ HG.out.1).mono ?_
    rintro e w11 ⟨rfl, g1⟩
    replace HG := Aside0.mk (HG.out.went g1)
    clear g1
    obtain ⟨c0, c1, c2, c3, c4⟩ := HG.out.facts
    clear c0 c1 c2
    go_wp2
    go_end0
    exact ⟨rfl, _, HG.out.putSum _⟩
/-- What Get's closure leaves, and Read's end behind it. -/
def VR (k : Nat) (s : ByteArray) (w w1 : World) : Prop :=
  ∃ cs x, Hp w1 [(k, 9, #[.string s]), (k + 1, 53, #[.int .i64 0, .int .i64 0, .int .i64 0, .int .i64 0, .string ⟨#[]⟩, .string ⟨#[]⟩]), (k + 2, 53, cs), (k + 3, 9, #[.string x])] ∧ Below k w w1 ∧
    (ip6Err s = 0 → cs = #[(.int .i64 (Go.bits .and .i64 (((be (bl (s.extract 0 4)) : Nat) : Int) / 1048576) 255)), (.int .i64 (Go.bits .and .i64 ((be (bl (s.extract 0 4)) : Nat) : Int) 1048575)), (.int .i64 (be (bl (s.extract 6 7)) : Nat)), (.int .i64 (be (bl (s.extract 7 8)) : Nat)), (.string (s.extract 8 24)), (.string (s.extract 24 40))] ∧ x = s.extract 40 s.size)
theorem VG.done {k : Nat} {s : ByteArray} {w w1 w2 : World} {n : Nat} {cs : Array Value} {x : ByteArray} (h : VG k s w w1 n cs x) (hw : w1.grownBy w2 (some (k + 4)))
    (hx : ip6Err s = 0 → cs = #[(.int .i64 (Go.bits .and .i64 (((be (bl (s.extract 0 4)) : Nat) : Int) / 1048576) 255)), (.int .i64 (Go.bits .and .i64 ((be (bl (s.extract 0 4)) : Nat) : Int) 1048575)), (.int .i64 (be (bl (s.extract 6 7)) : Nat)), (.int .i64 (be (bl (s.extract 7 8)) : Nat)), (.string (s.extract 8 24)), (.string (s.extract 24 40))] ∧ x = s.extract 40 s.size) : VR k s w w2 :=
  ⟨cs, x, Hp.grown (R := k + 4) (fun y hy => h.2.1 y (by simp at hy ⊢; rcases hy with rfl | rfl | rfl | rfl <;> simp)) hw (by simp), h.2.2.trans (below_of_grown hw (by have := h.1.1.lt; omega) (by omega)), hx⟩

set_option maxRecDepth 100000 in
theorem ip6_Get.reads (s : ByteArray) (hs : s.size ≤ 140737488351232) (w : World) :
    Calls Try.prog 65 #[.string s, .func (.func 72) #[] #[.pointer (some ⟨w.heap.size, 0, none⟩), .pointer (some ⟨w.heap.size + 1 + 1, 0, none⟩), .pointer (some ⟨w.heap.size + 1 + 1 + 1, 0, none⟩)]]
      ((((w.alloc (.cells #[.string s] 9)).alloc (.cells #[.int .i64 0, .int .i64 0, .int .i64 0, .int .i64 0, .string ⟨#[]⟩, .string ⟨#[]⟩] 53)).alloc (.cells #[.int .i64 0, .int .i64 0, .int .i64 0, .int .i64 0, .string ⟨#[]⟩, .string ⟨#[]⟩] 53)).alloc (.cells #[.string ⟨#[]⟩] 9))
      fun e w' => e = .returned (.int .i64 (ip6Err s)) ∧ VR w.heap.size s w w' := by
  obtain ⟨W, hW⟩ : ∃ W, W = ((((w.alloc (.cells #[.string s] 9)).alloc (.cells #[.int .i64 0, .int .i64 0, .int .i64 0, .int .i64 0, .string ⟨#[]⟩, .string ⟨#[]⟩] 53)).alloc (.cells #[.int .i64 0, .int .i64 0, .int .i64 0, .int .i64 0, .string ⟨#[]⟩, .string ⟨#[]⟩] 53)).alloc (.cells #[.string ⟨#[]⟩] 9)) := ⟨_, rfl⟩
  have hk : W.heap.size = w.heap.size + 4 := by rw [hW]; simp
  have b0 : Blk W w.heap.size 9 #[.string s] := by rw [hW]; exact (((Blk.new w _ _).alloc _).alloc _).alloc _
  have b1 : Blk W (w.heap.size + 1) 53 #[.int .i64 0, .int .i64 0, .int .i64 0, .int .i64 0, .string ⟨#[]⟩, .string ⟨#[]⟩] := by
    rw [hW]
    have := Blk.new (w.alloc (.cells #[.string s] 9)) 53 #[.int .i64 0, .int .i64 0, .int .i64 0, .int .i64 0, .string ⟨#[]⟩, .string ⟨#[]⟩]
    rw [World.size_alloc] at this
    exact (this.alloc _).alloc _
  have b2 : Blk W (w.heap.size + 2) 53 #[.int .i64 0, .int .i64 0, .int .i64 0, .int .i64 0, .string ⟨#[]⟩, .string ⟨#[]⟩] := by
    rw [hW]
    have := Blk.new ((w.alloc (.cells #[.string s] 9)).alloc (.cells #[.int .i64 0, .int .i64 0, .int .i64 0, .int .i64 0, .string ⟨#[]⟩, .string ⟨#[]⟩] 53)) 53 #[.int .i64 0, .int .i64 0, .int .i64 0, .int .i64 0, .string ⟨#[]⟩, .string ⟨#[]⟩]
    rw [World.size_alloc, World.size_alloc] at this
    exact this.alloc _
  have b3 : Blk W (w.heap.size + 3) 9 #[.string ⟨#[]⟩] := by
    rw [hW]
    have := Blk.new (((w.alloc (.cells #[.string s] 9)).alloc (.cells #[.int .i64 0, .int .i64 0, .int .i64 0, .int .i64 0, .string ⟨#[]⟩, .string ⟨#[]⟩] 53)).alloc (.cells #[.int .i64 0, .int .i64 0, .int .i64 0, .int .i64 0, .string ⟨#[]⟩, .string ⟨#[]⟩] 53)) 9 #[.string ⟨#[]⟩]
    rw [World.size_alloc, World.size_alloc, World.size_alloc] at this
    exact this
  have hb : Below w.heap.size w W := by
    rw [hW]
    exact ((((Below.refl _ _).alloc (Nat.le_refl _) _).alloc (by simp) _).alloc (by simp; omega) _).alloc (by simp; omega) _
  rw [← hW]
  clear hW
  have hrd := readW_rd W s hs
  have hres := readW_res W s
  have hbl := readW_below W s
  rw [hk] at hrd hres hbl
  have hG : VG w.heap.size s w (readW W s) 0 zero6 ⟨#[]⟩ :=
    ⟨hrd, .cons (b0.below hbl (by omega)) (.cons (b1.below hbl (by omega)) (.cons (b2.below hbl (by omega)) (.cons (b3.below hbl (by omega)) (.cons hres (.nil _))))), hb.trans (hbl.mono (by omega))⟩
  have hrd' : ∀ Q : World → Prop, Calls Try.prog 72 (#[.pointer (some ⟨W.heap.size + 1, 0, none⟩)] ++ #[.pointer (some ⟨w.heap.size, 0, none⟩), .pointer (some ⟨w.heap.size + 1 + 1, 0, none⟩), .pointer (some ⟨w.heap.size + 1 + 1 + 1, 0, none⟩)]) (readW W s) (fun e w2 => e = did (ip6Err s) ∧ Blk w2 W.heap.size 25 #[.int .i64 0] ∧ Q w2) →
      Calls Try.prog 65 #[.string s, .func (.func 72) #[] #[.pointer (some ⟨w.heap.size, 0, none⟩), .pointer (some ⟨w.heap.size + 1 + 1, 0, none⟩), .pointer (some ⟨w.heap.size + 1 + 1 + 1, 0, none⟩)]] W
        fun e w' => e = .returned (.int .i64 (ip6Err s)) ∧ ∃ w2, Q w2 ∧ w2.grownBy w' (some W.heap.size) :=
    fun Q h => Read_calls 72 _ s (ip6Err s) W Q (fun _ _ => rfl) h
  rw [hk] at hrd'
  clear hrd hres hbl b0 b1 b2 b3 hb
  by_cases h8 : s.size < 40
  · have he : ip6Err s = 2 := if_pos h8
    rw [he] at hrd' ⊢
    refine (hrd' (fun w2 => ∃ n cs x, VG w.heap.size s w w2 n cs x) ?_).mono ?_
    · refine (ip6_Get1.short w.heap.size s w (readW W s) hG h8).mono ?_
      rintro e w2 ⟨rfl, n, cs, x, hu⟩
      exact ⟨rfl, hu.2.1.tail.tail.tail.tail.head, n, cs, x, hu⟩
    · rintro e w' ⟨rfl, w2, ⟨n, cs, x, hu⟩, hg⟩
      exact ⟨rfl, hu.done hg (fun h0 => absurd (he.symm.trans h0) (by decide))⟩
  by_cases hv : be (bl (s.extract 0 4)) / 268435456 = 6
  case neg =>
    have he : ip6Err s = 3 := by unfold ip6Err; rw [if_neg h8, if_neg hv]
    rw [he] at hrd' ⊢
    refine (hrd' (fun w2 => ∃ n cs x, VG w.heap.size s w w2 n cs x) ?_).mono ?_
    · refine (ip6_Get1.vers w.heap.size s w (readW W s) hG (by omega) hv).mono ?_
      rintro e w2 ⟨rfl, n, cs, x, hu⟩
      exact ⟨rfl, hu.2.1.tail.tail.tail.tail.head, n, cs, x, hu⟩
    · rintro e w' ⟨rfl, w2, ⟨n, cs, x, hu⟩, hg⟩
      exact ⟨rfl, hu.done hg (fun h0 => absurd (he.symm.trans h0) (by decide))⟩
  by_cases hl : ((be (bl (s.extract 4 6)) : Nat) : Int) = (s.size : Int) - 40
  case neg =>
    have he : ip6Err s = 4 := by unfold ip6Err; rw [if_neg h8, if_pos hv, if_neg hl]
    rw [he] at hrd' ⊢
    refine (hrd' (fun w2 => ∃ n cs x, VG w.heap.size s w w2 n cs x) ?_).mono ?_
    · refine (ip6_Get1.len w.heap.size s w (readW W s) hG (by omega) hv hl).mono ?_
      rintro e w2 ⟨rfl, n, cs, x, hu⟩
      exact ⟨rfl, hu.2.1.tail.tail.tail.tail.head, n, cs, x, hu⟩
    · rintro e w' ⟨rfl, w2, ⟨n, cs, x, hu⟩, hg⟩
      exact ⟨rfl, hu.done hg (fun h0 => absurd (he.symm.trans h0) (by decide))⟩
  have he : ip6Err s = 0 := by unfold ip6Err; rw [if_neg h8, if_pos hv, if_pos hl]
  rw [he] at hrd' ⊢
  refine (hrd' (fun w2 => ∃ n, VG w.heap.size s w w2 n #[(.int .i64 (Go.bits .and .i64 (((be (bl (s.extract 0 4)) : Nat) : Int) / 1048576) 255)), (.int .i64 (Go.bits .and .i64 ((be (bl (s.extract 0 4)) : Nat) : Int) 1048575)), (.int .i64 (be (bl (s.extract 6 7)) : Nat)), (.int .i64 (be (bl (s.extract 7 8)) : Nat)), (.string (s.extract 8 24)), (.string (s.extract 24 40))] (s.extract 40 s.size)) ?_).mono ?_
  · refine (ip6_Get1.ok w.heap.size s w (readW W s) hG (by omega) hv hl).mono ?_
    rintro e w2 ⟨rfl, n, hu⟩
    exact ⟨rfl, hu.2.1.tail.tail.tail.tail.head, n, hu⟩
  · rintro e w' ⟨rfl, w2, ⟨n, hu⟩, hg⟩
    exact ⟨rfl, hu.done hg (fun _ => ⟨rfl, rfl⟩)⟩

def ip6_Get.f (s : ByteArray) : Option (Int × Int × Int × Int × ByteArray × ByteArray × ByteArray × Int) :=
  if s.size ≤ 140737488351232 then some (if ip6Err s = 0 then (Go.bits .and .i64 (((be (bl (s.extract 0 4)) : Nat) : Int) / 1048576) 255, Go.bits .and .i64 ((be (bl (s.extract 0 4)) : Nat) : Int) 1048575, ((be (bl (s.extract 6 7)) : Nat) : Int), ((be (bl (s.extract 7 8)) : Nat) : Int), s.extract 8 24, s.extract 24 40, s.extract 40 s.size, 0) else (0, 0, 0, 0, empty, empty, empty, ip6Err s)) else none

set_option maxHeartbeats 1000000 in
set_option maxRecDepth 100000 in
theorem ip6_Get.calls (s : ByteArray) (r1 r2 r3 r4 : Int) (r5 r6 r7 : ByteArray) (r8 : Int) (w : World) (h : ip6_Get.f s = some (r1, r2, r3, r4, r5, r6, r7, r8)) :
    Calls Try.prog 48 #[.string s] w fun e w' => e = .returned (.tuple #[.agg #[.int .i64 r1, .int .i64 r2, .int .i64 r3, .int .i64 r4, .string r5, .string r6], .string r7, .int .i64 r8]) ∧ Below w.heap.size w w' := by
  unfold ip6_Get.f at h
  by_cases hs : s.size ≤ 140737488351232
  case neg => rw [if_neg hs] at h; exact absurd h (by simp)
  rw [if_pos hs] at h
  have hmf : ∀ (fn : Fn) (first cap : Array Value) (w : World), (Instr.makeFunc fn first cap).run Try.prog w = .ok (.func fn first cap) w := fun _ _ _ _ => rfl
  have hu := Try.underlying53
  have HS := Aside0.mk hs
  clear hs
  by_cases h0 : ip6Err s = 0
  · rw [if_pos h0] at h
    replace h := Option.some.inj h
    simp only [Prod.mk.injEq] at h
    obtain ⟨rfl, rfl, rfl, rfl, rfl, rfl, rfl, rfl⟩ := h
    have d1 : (ip6Err s != 0) = false := bne_eq_false_iff_eq.mpr h0
    have h := Aside0.mk h0
    clear h0
    go_enter Try.func48, Try.ntmps48
    go_wp2_with fail
    refine (ip6_Get.reads s HS.out w).mono ?_
    rintro e w2 ⟨rfl, cs, x, hp, hb, hx⟩
    obtain ⟨rfl, rfl⟩ := hx h.out
    have HB := Aside0.mk hb
    have c1 := hp.tail.head.cells
    have c2 := hp.tail.head.frees
    have c3 := hp.tail.tail.head.cells
    have c4 := hp.tail.tail.tail.head.cell 0 _ rfl
    have HK := Aside0.mk hp.tail.head
    clear hp hb hx
    go_wp2_with fail
    go_region
    all_goals
      have c5 := (((((((HK.out.set 0 (.int .i64 (Go.bits .and .i64 (((be (bl (s.extract 0 4)) : Nat) : Int) / 1048576) 255))).set 1 (.int .i64 (Go.bits .and .i64 ((be (bl (s.extract 0 4)) : Nat) : Int) 1048575))).set 2 (.int .i64 (be (bl (s.extract 6 7)) : Nat))).set 3 (.int .i64 (be (bl (s.extract 7 8)) : Nat))).set 4 (.string (s.extract 8 24))).set 5 (.string (s.extract 24 40)))).drew.cells
      simp only [List.setIfInBounds_toArray, List.set_cons_zero, List.set_cons_succ] at c5
      clear c1 c2 c3 c4
      go_wp2
      refine ⟨rfl, _, ?_, rfl, ?_⟩
      rotate_left
      · exact ((((((HB.out.setCell (by simp) _).setCell (by simp) _).setCell (by simp) _).setCell (by simp) _).setCell (by simp) _).setCell (by simp) _).drew
      simp [results, Try.results48, go_sem, hu, c5]
  · rw [if_neg h0] at h
    replace h := Option.some.inj h
    simp only [Prod.mk.injEq] at h
    obtain ⟨rfl, rfl, rfl, rfl, rfl, rfl, rfl, rfl⟩ := h
    have d1 : (ip6Err s != 0) = true := bne_iff_ne.mpr h0
    clear h0
    go_enter Try.func48, Try.ntmps48
    go_wp2_with fail
    refine (ip6_Get.reads s HS.out w).mono ?_
    rintro e w2 ⟨rfl, cs, x, hp, hb, hx⟩
    have HB := Aside0.mk hb
    have c1 := hp.tail.head.cells
    have c2 := hp.tail.head.frees
    have HK := Aside0.mk hp.tail.head
    clear hp hb hx
    go_wp2
    have c5 := (((((((HK.out.set 0 (.int .i64 0)).set 1 (.int .i64 0)).set 2 (.int .i64 0)).set 3 (.int .i64 0)).set 4 (.string ⟨#[]⟩)).set 5 (.string ⟨#[]⟩))).cells
    simp only [List.setIfInBounds_toArray, List.set_cons_zero, List.set_cons_succ] at c5
    clear c1 c2
    refine ⟨rfl, _, ?_, rfl, ?_⟩
    rotate_left
    · exact (((((HB.out.setCell (by simp) _).setCell (by simp) _).setCell (by simp) _).setCell (by simp) _).setCell (by simp) _).setCell (by simp) _
    simp [results, Try.results48, go_sem, hu, c5]
    rfl
end Go.Proofs.Ytcmalglippmocaa.G
end

section
/- Plain: the program's package-level tables as a world holds them, and that what lies above them leaves them so. -/
namespace Go.Proofs.Ytcmalglippmocaa.G
open Go.RowKit Go.Proofs.Ytcmalglippmocaa.Pal
/-- Block b holds the whole numbers l, cell by cell. -/
def TabAt (w : World) (b : Nat) (l : List Int) : Prop := ∀ j x, l[j]? = some x → w.cell? ⟨b, j, none⟩ = some (.int .i64 x)
theorem TabAt.lt {w : World} {b : Nat} {l : List Int} {x : Int} (h : TabAt w b (x :: l)) : b < w.heap.size := by
  have := h 0 x rfl
  by_cases hb : b < w.heap.size
  · exact hb
  · rw [World.cell?] at this
    simp [Array.getElem?_eq_none (Nat.le_of_not_lt hb)] at this
theorem TabAt.below {w w' : World} {b : Nat} {x : Int} {l : List Int} (h : TabAt w b (x :: l)) (hb : Below w.heap.size w w') : TabAt w' b (x :: l) := fun j y hy =>
  (hb.cell (p := ⟨b, j, none⟩) h.lt).trans (h j y hy)
theorem isEmpty_of {s : ByteArray} (h : s.size = 0) : s.toList.isEmpty = true := by
  have e : s = ⟨#[]⟩ := by apply ByteArray.ext; exact Array.eq_empty_of_size_eq_zero h
  rw [e]; decide +kernel
theorem isEmpty_not {s : ByteArray} (h : ¬ s.size = 0) : s.toList.isEmpty = false := by
  have e : s.toList = s.data.toList := ByteArray.toList_eq s
  rw [e]
  cases hb : s.data.toList with
  | nil => exact absurd (show s.data.size = 0 by rw [← Array.length_toList, hb]; rfl) h
  | cons a l => rfl
/-- A result that lies in a variable of its own, whole, and one beside it. -/
theorem results_cell_tmp {P : Program} {fn : Func} {p t : Tmp} {ty : TypeId} (h : fn.results = #[.cell p ty, .tmp t]) (tmps : Array Value) (w : World) (k : Nat) (cs : Array Value) (d : TypeDesc)
    (hp : tmps.getD p undef = .pointer (some ⟨k, 0, none⟩)) (hb : Blk w k ty cs) (hu : P.underlying ty = some d) (hd : (match d with | .struct _ | .array _ _ => true | _ => false) = true) (hi : (P.info? ty).map (·.size) = some cs.size) :
    (results fn tmps).run P w = .ok (.tuple #[.agg cs, tmps.getD t undef]) w := by
  have hp' : tmps[p]?.getD undef = .pointer (some ⟨k, 0, none⟩) := by simpa using hp
  simp [results, h, hp', asAddr, run_loadVar_row w k ty ty cs (0, 0) d hb hu hd hi]
end Go.Proofs.Ytcmalglippmocaa.G
end

section
/- By hand: flow's two kinds of packets: their methods; flow.open, whose result is an interface value. -/
namespace Go.Proofs.Ytcmalglippmocaa.G
open Go.RowKit Go.Proofs.YtcmalglippmocaaW.PrintWords Go.Proofs.YtcmalglippmocaaW.PrintLast Go.Proofs.YtcmalglippmocaaW.PrintMore Go.Proofs.Ytcmalglippmocaa.Pal
set_option linter.unusedVariables false
set_option linter.unusedSimpArgs false
abbrev cs4 (r1 r2 r3 r4 r5 : Int) (r6 r7 : Bool) (r8 r9 r10 : ByteArray) : Array Value := #[.int .i64 r1, .int .i64 r2, .int .i64 r3, .int .i64 r4, .int .i64 r5, .bool r6, .bool r7, .string r8, .string r9, .string r10]
abbrev cs6 (r1 r2 r3 r4 : Int) (r5 r6 : ByteArray) : Array Value := #[.int .i64 r1, .int .i64 r2, .int .i64 r3, .int .i64 r4, .string r5, .string r6]
section
variable (r1 r2 r3 r4 r5 : Int) (r6 r7 : Bool) (r8 r9 r10 : ByteArray)
theorem four_m_proto : ∀ w : World, (method 256 92 (.agg (cs4 r1 r2 r3 r4 r5 r6 r7 r8 r9 r10)) "palanquin/flow.proto").run Try.prog w = .ok (106, .agg (cs4 r1 r2 r3 r4 r5 r6 r7 r8 r9 r10)) w := fun _ => by kernel_rfl
theorem four_m_ends : ∀ w : World, (method 256 92 (.agg (cs4 r1 r2 r3 r4 r5 r6 r7 r8 r9 r10)) "palanquin/flow.ends").run Try.prog w = .ok (104, .agg (cs4 r1 r2 r3 r4 r5 r6 r7 r8 r9 r10)) w := fun _ => by kernel_rfl
theorem four_m_piece : ∀ w : World, (method 256 92 (.agg (cs4 r1 r2 r3 r4 r5 r6 r7 r8 r9 r10)) "palanquin/flow.piece").run Try.prog w = .ok (105, .agg (cs4 r1 r2 r3 r4 r5 r6 r7 r8 r9 r10)) w := fun _ => by kernel_rfl
theorem four_m_bare : ∀ w : World, (method 256 92 (.agg (cs4 r1 r2 r3 r4 r5 r6 r7 r8 r9 r10)) "palanquin/flow.bare").run Try.prog w = .ok (103, .agg (cs4 r1 r2 r3 r4 r5 r6 r7 r8 r9 r10)) w := fun _ => by kernel_rfl
end
section
variable (r1 r2 r3 r4 : Int) (r5 r6 : ByteArray)
theorem six_m_proto : ∀ w : World, (method 256 96 (.agg (cs6 r1 r2 r3 r4 r5 r6)) "palanquin/flow.proto").run Try.prog w = .ok (110, .agg (cs6 r1 r2 r3 r4 r5 r6)) w := fun _ => by kernel_rfl
theorem six_m_ends : ∀ w : World, (method 256 96 (.agg (cs6 r1 r2 r3 r4 r5 r6)) "palanquin/flow.ends").run Try.prog w = .ok (108, .agg (cs6 r1 r2 r3 r4 r5 r6)) w := fun _ => by kernel_rfl
theorem six_m_piece : ∀ w : World, (method 256 96 (.agg (cs6 r1 r2 r3 r4 r5 r6)) "palanquin/flow.piece").run Try.prog w = .ok (109, .agg (cs6 r1 r2 r3 r4 r5 r6)) w := fun _ => by kernel_rfl
theorem six_m_bare : ∀ w : World, (method 256 96 (.agg (cs6 r1 r2 r3 r4 r5 r6)) "palanquin/flow.bare").run Try.prog w = .ok (107, .agg (cs6 r1 r2 r3 r4 r5 r6)) w := fun _ => by kernel_rfl
end
section
variable (r1 r2 r3 r4 r5 : Int) (r6 r7 : Bool) (r8 r9 r10 : ByteArray) (w : World)
set_option maxHeartbeats 1000000 in
theorem four_proto : Calls Try.prog 106 #[.agg (cs4 r1 r2 r3 r4 r5 r6 r7 r8 r9 r10)] w fun e w' => e = .returned (.int .i64 r5) ∧ Below w.heap.size w w' := by
  go_enter Try.func106, Try.ntmps106
  go_wp2
  go_ret
  exact ⟨rfl, (Below.refl _ _).alloc (Nat.le_refl _) _⟩
set_option maxHeartbeats 1000000 in
theorem four_ends : Calls Try.prog 104 #[.agg (cs4 r1 r2 r3 r4 r5 r6 r7 r8 r9 r10)] w fun e w' => e = .returned (.tuple #[.string r8, .string r9]) ∧ Below w.heap.size w w' := by
  go_enter Try.func104, Try.ntmps104
  go_wp2
  go_quiet (fail)
  go_wp2
  go_ret2
  exact ⟨rfl, pw_below_drewN ((Below.refl _ _).alloc (Nat.le_refl _) _) _⟩
set_option maxHeartbeats 1000000 in
theorem four_piece : Calls Try.prog 105 #[.agg (cs4 r1 r2 r3 r4 r5 r6 r7 r8 r9 r10)] w fun e w' => e = .returned (.bool (r3 != 0 || r7)) ∧ Below w.heap.size w w' := by
  cases h : (r3 != 0)
  all_goals
    go_enter Try.func105, Try.ntmps105
    go_wp2
    go_ret
    exact ⟨rfl, (Below.refl _ _).alloc (Nat.le_refl _) _⟩
set_option maxHeartbeats 1000000 in
theorem four_bare : Calls Try.prog 103 #[.agg (cs4 r1 r2 r3 r4 r5 r6 r7 r8 r9 r10)] w fun e w' => e = .returned (.bool true) ∧ Below w.heap.size w w' := by
  go_enter Try.func103, Try.ntmps103
  go_wp2
  go_ret
  exact ⟨rfl, (Below.refl _ _).alloc (Nat.le_refl _) _⟩
end
section
variable (r1 r2 r3 r4 : Int) (r5 r6 : ByteArray) (w : World)
set_option maxHeartbeats 1000000 in
theorem six_proto : Calls Try.prog 110 #[.agg (cs6 r1 r2 r3 r4 r5 r6)] w fun e w' => e = .returned (.int .i64 r3) ∧ Below w.heap.size w w' := by
  go_enter Try.func110, Try.ntmps110
  go_wp2
  go_ret
  exact ⟨rfl, (Below.refl _ _).alloc (Nat.le_refl _) _⟩
set_option maxHeartbeats 1000000 in
theorem six_ends : Calls Try.prog 108 #[.agg (cs6 r1 r2 r3 r4 r5 r6)] w fun e w' => e = .returned (.tuple #[.string r5, .string r6]) ∧ Below w.heap.size w w' := by
  go_enter Try.func108, Try.ntmps108
  go_wp2
  go_quiet (fail)
  go_wp2
  go_ret2
  exact ⟨rfl, pw_below_drewN ((Below.refl _ _).alloc (Nat.le_refl _) _) _⟩
set_option maxHeartbeats 1000000 in
theorem six_piece : Calls Try.prog 109 #[.agg (cs6 r1 r2 r3 r4 r5 r6)] w fun e w' => e = .returned (.bool false) ∧ Below w.heap.size w w' := by
  go_enter Try.func109, Try.ntmps109
  go_wp2
  go_ret
  exact ⟨rfl, (Below.refl _ _).alloc (Nat.le_refl _) _⟩
set_option maxHeartbeats 1000000 in
theorem six_bare : Calls Try.prog 107 #[.agg (cs6 r1 r2 r3 r4 r5 r6)] w fun e w' => e = .returned (.bool false) ∧ Below w.heap.size w w' := by
  go_enter Try.func107, Try.ntmps107
  go_wp2
  go_ret
  exact ⟨rfl, (Below.refl _ _).alloc (Nat.le_refl _) _⟩
end

set_option maxHeartbeats 2000000 in
set_option maxRecDepth 100000 in
theorem open_none (s : ByteArray) (w : World) (h : s.size = 0) : Calls Try.prog 25 #[.string s] w fun e w' => e = .returned (.tuple #[.nilIface, .string ⟨#[]⟩, .int .i64 2]) ∧ Below w.heap.size w w' := by
  have e0 := isEmpty_of h
  clear h
  go_enter Try.func25, Try.ntmps25
  go_wp2
  go_ret3
  exact ⟨rfl, Below.refl _ _⟩
set_option maxHeartbeats 2000000 in
set_option maxRecDepth 100000 in
theorem open_other (s : ByteArray) (w : World) (h : ¬ s.size = 0) (h4 : bt s 0 / 16 ≠ 4) (h6 : bt s 0 / 16 ≠ 6) : Calls Try.prog 25 #[.string s] w fun e w' => e = .returned (.tuple #[.nilIface, .string ⟨#[]⟩, .int .i64 3]) ∧ Below w.heap.size w w' := by
  have e0 := isEmpty_not h
  have hx : ∀ h : 0 < s.size, ((s[0]'h).toNat : Int) = bt s 0 := bt_at s 0
  have q4 : (0 < s.size) = True := eq_true (by omega)
  have d4 : (bt s 0 / 16 == 4) = false := beq_eq_false_iff_ne.mpr h4
  have d6 : (bt s 0 / 16 == 6) = false := beq_eq_false_iff_ne.mpr h6
  clear h h4 h6
  go_enter Try.func25, Try.ntmps25
  go_wp2
  go_ret3
  exact ⟨rfl, Below.refl _ _⟩
set_option maxHeartbeats 2000000 in
set_option maxRecDepth 100000 in
theorem open_four (s : ByteArray) (w : World) (h : ¬ s.size = 0) (h4 : bt s 0 / 16 = 4) {r1 r2 r3 r4 r5 : Int} {r6 r7 : Bool} {r8 r9 r10 r11 : ByteArray} {r12 : Int} (hf : ip4_Get.f s = some (r1, r2, r3, r4, r5, r6, r7, r8, r9, r10, r11, r12)) :
    Calls Try.prog 25 #[.string s] w fun e w' => e = .returned (.tuple #[.iface 92 (.agg (cs4 r1 r2 r3 r4 r5 r6 r7 r8 r9 r10)), .string r11, .int .i64 r12]) ∧ Below w.heap.size w w' := by
  have e0 := isEmpty_not h
  have hx : ∀ h : 0 < s.size, ((s[0]'h).toNat : Int) = bt s 0 := bt_at s 0
  have q4 : (0 < s.size) = True := eq_true (by omega)
  have d4 : (bt s 0 / 16 == 4) = true := beq_iff_eq.mpr h4
  have HF := Aside0.mk hf
  clear h h4 hf
  go_enter Try.func25, Try.ntmps25
  go_wp2_with fail
  refine (ip4_Get.calls _ _ _ _ _ _ _ _ _ _ _ _ _ _ HF.out).mono ?_
  rintro e w2 ⟨rfl, hb⟩
  have HB := Aside0.mk hb
  clear hb e0 hx q4 d4
  go_wp2
  go_ret3
  exact ⟨rfl, below_alloc HB.out _⟩
set_option maxHeartbeats 2000000 in
set_option maxRecDepth 100000 in
theorem open_six (s : ByteArray) (w : World) (h : ¬ s.size = 0) (h4 : bt s 0 / 16 = 6) {r1 r2 r3 r4 : Int} {r5 r6 r7 : ByteArray} {r8 : Int} (hf : ip6_Get.f s = some (r1, r2, r3, r4, r5, r6, r7, r8)) :
    Calls Try.prog 25 #[.string s] w fun e w' => e = .returned (.tuple #[.iface 96 (.agg (cs6 r1 r2 r3 r4 r5 r6)), .string r7, .int .i64 r8]) ∧ Below w.heap.size w w' := by
  have e0 := isEmpty_not h
  have hx : ∀ h : 0 < s.size, ((s[0]'h).toNat : Int) = bt s 0 := bt_at s 0
  have q4 : (0 < s.size) = True := eq_true (by omega)
  have d4 : (bt s 0 / 16 == 4) = false := by rw [h4]; rfl
  have d6 : (bt s 0 / 16 == 6) = true := beq_iff_eq.mpr h4
  have HF := Aside0.mk hf
  clear h h4 hf
  go_enter Try.func25, Try.ntmps25
  go_wp2_with fail
  refine (ip6_Get.calls _ _ _ _ _ _ _ _ _ _ HF.out).mono ?_
  rintro e w2 ⟨rfl, hb⟩
  have HB := Aside0.mk hb
  clear hb e0 hx q4 d4 d6
  go_wp2
  go_ret3
  exact ⟨rfl, below_alloc HB.out _⟩
end Go.Proofs.Ytcmalglippmocaa.G
end

section
/- Plain theory of TCP options: where each one begins, and how long it is. No program in it. -/
namespace Go.Proofs.Ytcmalglippmocaa.Pal
/-- How long the option is that begins at i; none: it isn't right. -/
def optLen (l : List UInt8) (i : Nat) : Option Nat :=
  if l.getD i 0 = 1 then some 1 else if i + 1 = l.length ∨ (l.getD (i + 1) 0).toNat < 2 ∨ l.length < i + (l.getD (i + 1) 0).toNat then none else some (l.getD (i + 1) 0).toNat
/-- The options from i on, by so many steps: where each begins, how long it is; none: they aren't right. -/
def walkO : Nat → List UInt8 → Nat → Option (List (Nat × Nat))
  | 0, _, _ => some []
  | k + 1, l, i => if i < l.length ∧ l.getD i 0 ≠ 0 then (optLen l i).bind fun n => (walkO k l (i + n)).map ((i, n) :: ·) else some []
theorem optLen_bound {l : List UInt8} {i n : Nat} (hi : i < l.length) (h : optLen l i = some n) : 1 ≤ n ∧ i + n ≤ l.length := by
  unfold optLen at h
  split at h
  · obtain rfl := Option.some.inj h; omega
  · split at h
    · exact absurd h (by simp)
    · rename_i h1
      obtain rfl := Option.some.inj h
      omega
theorem walkO_fuel (l : List UInt8) : ∀ (k k' i : Nat), l.length < k + i → l.length < k' + i → walkO k l i = walkO k' l i
  | 0, 0, _, _, _ => rfl
  | 0, k' + 1, i, h, _ => by rw [walkO, walkO, if_neg (by omega)]
  | k + 1, 0, i, _, h => by rw [walkO, walkO, if_neg (by omega)]
  | k + 1, k' + 1, i, h, h' => by
    rw [walkO, walkO]
    by_cases c : i < l.length ∧ l.getD i 0 ≠ 0
    · rw [if_pos c, if_pos c]
      cases ho : optLen l i with
      | none => rfl
      | some n =>
        have hb := optLen_bound c.1 ho
        rw [Option.bind_some, Option.bind_some, walkO_fuel l k k' (i + n) (by omega) (by omega)]
    · rw [if_neg c, if_neg c]
def W (l : List UInt8) (i : Nat) : Option (List (Nat × Nat)) := walkO (l.length + 1) l i
theorem W_end {l : List UInt8} {i : Nat} (h : ¬ (i < l.length ∧ l.getD i 0 ≠ 0)) : W l i = some [] := by unfold W; rw [walkO, if_neg h]
theorem W_step {l : List UInt8} {i : Nat} (h : i < l.length ∧ l.getD i 0 ≠ 0) : W l i = (optLen l i).bind fun n => (W l (i + n)).map ((i, n) :: ·) := by
  unfold W
  rw [walkO, if_pos h]
  cases ho : optLen l i with
  | none => rfl
  | some n =>
    have hb := optLen_bound h.1 ho
    rw [Option.bind_some, Option.bind_some, walkO_fuel l l.length (l.length + 1) (i + n) (by omega) (by omega)]
/-- By what is left. -/
theorem W_ind {P : Nat → Prop} (l : List UInt8) (h : ∀ i, (∀ n, 1 ≤ n → i < l.length → P (i + n)) → P i) : ∀ i, P i := by
  have : ∀ (m i : Nat), l.length ≤ m + i → P i := by
    intro m
    induction m with
    | zero => intro i hi; exact h i fun n _ hl => absurd hl (by omega)
    | succ m ih => intro i hi; exact h i fun n hn hl => ih (i + n) (by omega)
  exact fun i => this l.length i (by omega)
/-- A walk that is right, step by step. -/
theorem W_cons {l : List UInt8} {i : Nat} {L : List (Nat × Nat)} (h : W l i = some L) :
    (¬ (i < l.length ∧ l.getD i 0 ≠ 0) ∧ L = []) ∨ ((i < l.length ∧ l.getD i 0 ≠ 0) ∧ ∃ n L', optLen l i = some n ∧ W l (i + n) = some L' ∧ L = (i, n) :: L') := by
  by_cases c : i < l.length ∧ l.getD i 0 ≠ 0
  · rw [W_step c] at h
    cases ho : optLen l i with
    | none => rw [ho] at h; exact absurd h (by simp)
    | some n =>
      rw [ho, Option.bind_some] at h
      cases hw : W l (i + n) with
      | none => rw [hw] at h; exact absurd h (by simp)
      | some L' =>
        rw [hw] at h
        exact .inr ⟨c, n, L', rfl, hw, (Option.some.inj h).symm⟩
  · rw [W_end c] at h
    exact .inl ⟨c, (Option.some.inj h).symm⟩
def rightO (l : List UInt8) : Bool := (W l 0).isSome
end Go.Proofs.Ytcmalglippmocaa.Pal
end

section
/- What tcp.Right and tcp.MSS compute, as functions; plain facts of them. -/
namespace Go.Proofs.Ytcmalglippmocaa.G
open Go.Proofs.Ytcmalglippmocaa.Pal
def tcp_Right.f (s : ByteArray) : Option Bool := if s.size ≤ 140737488351232 then some (rightO (bl s)) else none
end Go.Proofs.Ytcmalglippmocaa.G
namespace Go.Proofs.Ytcmalglippmocaa.Pure
open Go.Proofs.Ytcmalglippmocaa.Pal Go.Proofs.Ytcmalglippmocaa.G
theorem right_is (s : ByteArray) (h : s.size ≤ 140737488351232) : tcp_Right.f s = some (rightO (bl s)) := by unfold tcp_Right.f; rw [if_pos h]
end Go.Proofs.Ytcmalglippmocaa.Pure
end

section
/- tcp.Check, tcp.Put, tcp.Get as functions of numbers and bytes. No program in it. -/
namespace Go.Proofs.Ytcmalglippmocaa.G
open Go.Proofs.Ytcmalglippmocaa.Pal
set_option linter.unusedVariables false
def tcpOk (src dst flags win urg : Int) (opt : ByteArray) : Prop := in16 src ∧ in16 dst ∧ in16 win ∧ in16 urg ∧ (0 ≤ flags ∧ flags ≤ 255) ∧ opt.size ≤ 40 ∧ opt.size % 4 = 0
instance (src dst flags win urg : Int) (opt : ByteArray) : Decidable (tcpOk src dst flags win urg opt) := by unfold tcpOk; infer_instance
/-- How long a segment's header says it is. -/
def ht (s : ByteArray) : Nat := be (bl (s.extract 12 13)) / 16 * 4
/-- With which error tcp.Get stops. -/
def tcpErr (s : ByteArray) : Int :=
  if s.size < 20 then 2 else if 20 ≤ ht s ∧ ht s ≤ s.size then (if be (bl (s.extract 12 13)) % 16 = 0 then (if rightO (bl (s.extract 20 (ht s))) = true then 0 else 4) else 9) else 4
def tcp_Get.f (s : ByteArray) : Option (Int × Int × Int × Int × Int × Int × Int × ByteArray × ByteArray × Int × Int) :=
  if s.size ≤ 140737488351232 then some (if tcpErr s = 0 then (((be (bl (s.extract 0 2)) : Nat) : Int), ((be (bl (s.extract 2 4)) : Nat) : Int), ((be (bl (s.extract 4 8)) : Nat) : Int), ((be (bl (s.extract 8 12)) : Nat) : Int), ((be (bl (s.extract 13 14)) : Nat) : Int), ((be (bl (s.extract 14 16)) : Nat) : Int), ((be (bl (s.extract 18 20)) : Nat) : Int), s.extract 20 (ht s), s.extract (ht s) s.size, ((be (bl (s.extract 16 18)) : Nat) : Int), 0) else (0, 0, 0, 0, 0, 0, 0, ⟨#[]⟩, ⟨#[]⟩, 0, tcpErr s)) else none
end Go.Proofs.Ytcmalglippmocaa.G
end

section
/- Plain theory: what a walk over options yields, one behind the other. No program in it. -/
namespace Go.Proofs.Ytcmalglippmocaa.Pal
/-- What is yielded from i on: each option's place and bytes; -1 where they aren't right. -/
def itemsF : Nat → ByteArray → Nat → List (Int × ByteArray)
  | 0, _, _ => []
  | k + 1, s, i => if i < (bl s).length ∧ (bl s).getD i 0 ≠ 0 then (match optLen (bl s) i with | none => [(-1, ⟨#[]⟩)] | some n => ((i : Int), s.extract i (i + n)) :: itemsF k s (i + n)) else []
theorem itemsF_fuel (s : ByteArray) : ∀ (k k' i : Nat), (bl s).length < k + i → (bl s).length < k' + i → itemsF k s i = itemsF k' s i
  | 0, 0, _, _, _ => rfl
  | 0, k' + 1, i, h, _ => by rw [itemsF, itemsF, if_neg (by omega)]
  | k + 1, 0, i, _, h => by rw [itemsF, itemsF, if_neg (by omega)]
  | k + 1, k' + 1, i, h, h' => by
    rw [itemsF, itemsF]
    by_cases c : i < (bl s).length ∧ (bl s).getD i 0 ≠ 0
    · rw [if_pos c, if_pos c]
      cases ho : optLen (bl s) i with
      | none => rfl
      | some n =>
        have hb := optLen_bound c.1 ho
        simp only
        rw [itemsF_fuel s k k' (i + n) (by omega) (by omega)]
    · rw [if_neg c, if_neg c]
def items (s : ByteArray) (i : Nat) : List (Int × ByteArray) := itemsF ((bl s).length + 1) s i
theorem items_end {s : ByteArray} {i : Nat} (h : ¬ (i < (bl s).length ∧ (bl s).getD i 0 ≠ 0)) : items s i = [] := by unfold items; rw [itemsF, if_neg h]
theorem items_bad {s : ByteArray} {i : Nat} (h : i < (bl s).length ∧ (bl s).getD i 0 ≠ 0) (ho : optLen (bl s) i = none) : items s i = [(-1, ⟨#[]⟩)] := by unfold items; rw [itemsF, if_pos h, ho]
theorem items_step {s : ByteArray} {i n : Nat} (h : i < (bl s).length ∧ (bl s).getD i 0 ≠ 0) (ho : optLen (bl s) i = some n) : items s i = ((i : Int), s.extract i (i + n)) :: items s (i + n) := by
  have hb := optLen_bound h.1 ho
  unfold items
  rw [itemsF, if_pos h, ho]
  simp only
  rw [itemsF_fuel s (bl s).length ((bl s).length + 1) (i + n) (by omega) (by omega)]
def itemOf (s : ByteArray) (p : Nat × Nat) : Int × ByteArray := ((p.1 : Int), s.extract p.1 (p.1 + p.2))
/-- Options that are right are yielded as they are walked. -/
theorem items_right (s : ByteArray) : ∀ i L, W (bl s) i = some L → items s i = L.map (itemOf s) := by
  refine W_ind (P := fun i => ∀ L, W (bl s) i = some L → items s i = L.map (itemOf s)) (bl s) fun i ih L h => ?_
  rcases W_cons h with ⟨c, rfl⟩ | ⟨c, n, L', ho, hw, rfl⟩
  · exact items_end c
  · have hb := optLen_bound c.1 ho
    rw [items_step c ho, ih n hb.1 c.1 L' hw]; rfl
theorem items_wrong (s : ByteArray) : ∀ i, W (bl s) i = none → ∃ L : List (Nat × Nat), items s i = L.map (itemOf s) ++ [(-1, ⟨#[]⟩)] := by
  refine W_ind (P := fun i => W (bl s) i = none → ∃ L : List (Nat × Nat), items s i = L.map (itemOf s) ++ [(-1, ⟨#[]⟩)]) (bl s) fun i ih h => ?_
  by_cases c : i < (bl s).length ∧ (bl s).getD i 0 ≠ 0
  · cases ho : optLen (bl s) i with
    | none => exact ⟨[], items_bad c ho⟩
    | some n =>
      have hb := optLen_bound c.1 ho
      rw [W_step c, ho, Option.bind_some] at h
      obtain ⟨L, hL⟩ := ih n hb.1 c.1 (by cases hw : W (bl s) (i + n) with | none => rfl | some M => rw [hw] at h; exact absurd h (by simp))
      exact ⟨(i, n) :: L, by rw [items_step c ho, hL]; rfl⟩
  · rw [W_end c] at h; exact absurd h (by simp)
/-- Right: none of what is yielded has a place below 0. -/
theorem items_all (s : ByteArray) : rightO (bl s) = true ↔ ∀ x ∈ items s 0, ¬ x.1 < 0 := by
  unfold rightO
  cases hw : W (bl s) 0 with
  | some L =>
    rw [items_right s 0 L hw]
    refine ⟨fun _ x hx => ?_, fun _ => rfl⟩
    obtain ⟨p, _, rfl⟩ := List.mem_map.mp hx
    unfold itemOf; dsimp only; omega
  | none =>
    obtain ⟨L, hL⟩ := items_wrong s 0 hw
    rw [hL]
    refine ⟨fun h => absurd h (by simp), fun h => absurd (h (-1, ⟨#[]⟩) (by simp)) (by decide)⟩
end Go.Proofs.Ytcmalglippmocaa.Pal
end
