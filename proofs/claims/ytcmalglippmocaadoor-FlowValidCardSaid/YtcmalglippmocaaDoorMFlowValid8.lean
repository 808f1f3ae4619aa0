/- Texts of this session, joined: each is a section. -/
import Derived.Test.YtcmalglippmocaaDoorMFlowValid3
import Derived.Test.YtcmalglippmocaaDoorMFlowValid5
import Derived.WalkLawsBesides
import Derived.RegionTactic
import Derived.Deep.RegionWith
import Derived.StillTailTactics
import Derived.Test.YtcmalglippmocaaDoorMFlowValid4
import Derived.BigQuiet
import Derived.Test.YtcmalglippmocaaDoorMFlowValid6
set_option linter.unusedVariables false
set_option linter.unusedSimpArgs false
section
namespace Go.Proofs.YtcmalglippmocaaDoor.G
open Go.RowKit Go.Proofs.YtcmalglippmocaaDoorW.PrintWords Go.Proofs.YtcmalglippmocaaDoorW.PrintLast Go.Proofs.YtcmalglippmocaaDoorW.PrintMore Go.Proofs.YtcmalglippmocaaDoor.Pal
theorem panicOut4 {P : Program} {fn : Func} {R : Ending → World → Prop} {ch : List PanicEntry} {a : Act} {w : World} (h : wpAny P .any #[] (fun _ a w => bodyPost P fn R (.panic ch) a w) 0 #[] a w) : bodyPost P fn R (.panic ch) a w := h.2

theorem Take4.went (R : Nat) (s : ByteArray) (n m : Nat) (w : World) (h : Rd w R s n) (hm : n + m ≤ s.size) :
    Calls Tryd.prog 106 #[.pointer (some ⟨R, 0, none⟩), .int .i64 (m : Int)] w fun e w' => e = .returned (.string (s.extract n (n + m))) ∧ Went w w' R s (n + m) := by
  refine (Reader_Take.yes R s n m w h hm).mono ?_
  rintro e w' ⟨rfl, k, j, rfl⟩
  exact ⟨rfl, grown_drewN (World.grownBy.trans (grown_drewN (grown_refl w _) k) (grown_setCell _ _ _ _)) j, (((h.1.drewN k).set 1 (.int .i64 ((n + m : Nat) : Int))).drewN j), hm, h.2.2⟩
def VG4 (k : Nat) (s : ByteArray) (w w1 : World) (n : Nat) (cs : Array Value) (x : ByteArray) : Prop :=
  Rd w1 (k + 5) s n ∧ Hp w1 [(k, 9, #[.string s]), (k + 1, 69, #[.int .i64 0, .int .i64 0, .int .i64 0, .int .i64 0, .int .i64 0, .bool false, .bool false, .string ⟨#[]⟩, .string ⟨#[]⟩, .string ⟨#[]⟩]), (k + 2, 69, cs), (k + 3, 9, #[.string x]), (k + 4, 24, #[.int .i64 0])] ∧ Below k w w1
theorem VG4.went {k : Nat} {s : ByteArray} {w w1 w2 : World} {n m : Nat} {cs : Array Value} {x : ByteArray} (h : VG4 k s w w1 n cs x) (hw : Went w1 w2 (k + 5) s m) : VG4 k s w w2 m cs x :=
  ⟨hw.2, h.2.1.grown hw.1 (by simp), h.2.2.trans (below_of_grown hw.1 (by have := h.1.1.lt; omega) (by omega))⟩
theorem VG4.put {k : Nat} {s : ByteArray} {w w1 : World} {n : Nat} {cs : Array Value} {x : ByteArray} (h : VG4 k s w w1 n cs x) (j : Nat) (v : Value) : VG4 k s w (w1.setCell ⟨k + 2, j, none⟩ v) n (cs.setIfInBounds j v) x :=
  ⟨⟨h.1.1.other _ (by simp) _, h.1.2⟩, h.2.1.set (l1 := [_, _]) (l2 := [_, _]) j v (by simp) (by simp), h.2.2.setCell (by simp) _⟩
theorem VG4.putSum {k : Nat} {s : ByteArray} {w w1 : World} {n : Nat} {cs : Array Value} {x : ByteArray} (h : VG4 k s w w1 n cs x) (y : ByteArray) : VG4 k s w (w1.setCell ⟨k + 3, 0, none⟩ (.string y)) n cs y :=
  ⟨⟨h.1.1.other _ (by simp) _, h.1.2⟩, h.2.1.set (l1 := [_, _, _]) (l2 := [_]) 0 (.string y) (by simp) (by simp), h.2.2.setCell (by simp) _⟩
theorem VG4.drew {k : Nat} {s : ByteArray} {w w1 : World} {n : Nat} {cs : Array Value} {x : ByteArray} (h : VG4 k s w w1 n cs x) : VG4 k s w w1.drew n cs x := ⟨h.1, h.2.1, h.2.2.drew⟩
theorem VG4.drewN {k : Nat} {s : ByteArray} {w w1 : World} {n : Nat} {cs : Array Value} {x : ByteArray} (h : VG4 k s w w1 n cs x) (j : Nat) : VG4 k s w (w1.drewN j) n cs x := ⟨h.1, h.2.1, pw_below_drewN h.2.2 j⟩
theorem VG4.facts {k : Nat} {s : ByteArray} {w w1 : World} {n : Nat} {cs : Array Value} {x : ByteArray} (h : VG4 k s w w1 n cs x) :
    w1.cell? ⟨k, 0, none⟩ = some (.string s) ∧ (∀ j, w1.frozen? ⟨k + 2, j, none⟩ = false) ∧ (∀ j, w1.cell? ⟨k + 2, j, none⟩ = cs[j]?) ∧ w1.cell? ⟨k + 3, 0, none⟩ = some (.string x) ∧ w1.frozen? ⟨k + 3, 0, none⟩ = false :=
  ⟨h.2.1.head.cell 0 _ rfl, h.2.1.tail.tail.head.frees, h.2.1.tail.tail.head.cells, h.2.1.tail.tail.tail.head.cell 0 _ rfl, h.2.1.tail.tail.tail.head.free 0⟩

def zero4 : Array Value := #[.int .i64 0, .int .i64 0, .int .i64 0, .int .i64 0, .int .i64 0, .bool false, .bool false, .string ⟨#[]⟩, .string ⟨#[]⟩, .string ⟨#[]⟩]

theorem VG4.step {k : Nat} {s : ByteArray} {w w1 w2 : World} {n : Nat} {cs : Array Value} {x : ByteArray} (h : VG4 k s w w1 n cs x) (hb : Below w1.heap.size w1 w2) : VG4 k s w w2 n cs x :=
  ⟨⟨h.1.1.below hb h.1.1.lt, h.1.2⟩, h.2.1.below hb (fun y hy => (h.2.1 y hy).lt), h.2.2.trans (hb.mono (by have := h.1.1.lt; omega))⟩
theorem right_one (t : ByteArray) (h : t.size ≤ 1099511627776) : sum_Right.f [t] = some (csum (bl t) == 0) := by
  have e : cat [t] = bl t := by rw [cat_cons, cat_nil, List.append_nil]
  unfold sum_Right.f sum_Sum.f
  rw [if_pos (by rw [e, bl_length]; exact h), e, Option.bind_some]
  congr 1
  rw [Bool.eq_iff_iff]; simp
theorem flagA (F : Nat) : (((F : Int) / 16384 % 2) == 1) = (F / 16384 % 2 == 1) := by rw [Bool.eq_iff_iff, beq_iff_eq, beq_iff_eq]; omega
theorem flagB (F : Nat) : (((F : Int) / 8192 % 2) == 1) = (F / 8192 % 2 == 1) := by rw [Bool.eq_iff_iff, beq_iff_eq, beq_iff_eq]; omega
theorem flagC (F : Nat) : ((F : Int) % 8192) = ((F % 8192 : Nat) : Int) := by omega
theorem less20 (N : Nat) (h : 20 ≤ N) (h2 : N ≤ 60) : ∃ M : Nat, 20 + M = N ∧ ((N : Int) - 20) = (M : Int) ∧ wrap64 ((N : Int) - 20) = (M : Int) ∧ IntKind.i64.wrap ((N : Int) - 20) = (M : Int) := by
  refine ⟨N - 20, by omega, by omega, ?_, ?_⟩
  · unfold wrap64; omega
  · rw [IntKind.wrap_i64]; omega
def final4 (s : ByteArray) : Array Value := #[(.int .i64 (be (bl (s.extract 1 2)) : Nat)), (.int .i64 (be (bl (s.extract 4 6)) : Nat)), (.int .i64 ((be (bl (s.extract 6 8)) % 8192 : Nat) : Int)), (.int .i64 (be (bl (s.extract 8 9)) : Nat)), (.int .i64 (be (bl (s.extract 9 10)) : Nat)), (.bool (be (bl (s.extract 6 8)) / 16384 % 2 == 1)), (.bool (be (bl (s.extract 6 8)) / 8192 % 2 == 1)), (.string (s.extract 12 16)), (.string (s.extract 16 20)), (.string (s.extract 20 (hl4 s)))]


set_option maxHeartbeats 8000000 in
set_option maxRecDepth 100000 in
theorem ip4_Get1.walk (k : Nat) (s : ByteArray) (w w1 : World) (h : VG4 k s w w1 0 zero4 ⟨#[]⟩) :
    Calls Tryd.prog 134 #[.pointer (some ⟨k + 5, 0, none⟩), .pointer (some ⟨k, 0, none⟩), .pointer (some ⟨k + 2, 0, none⟩), .pointer (some ⟨k + 3, 0, none⟩)] w1 fun e w2 => e = did (ip4Err s) ∧ ∃ n cs x, VG4 k s w w2 n cs x ∧ (ip4Err s = 0 → cs = final4 s ∧ x = s.extract (hl4 s) s.size) := by
  have HG := Aside0.mk h
  obtain ⟨c0, c1, c2, c3, c4⟩ := h.facts
  clear h c1 c2 c3 c4
  go_enter Tryd.func134, Tryd.ntmps134
  by_cases h20 : s.size < 20
  · have he : ip4Err s = 2 := if_pos h20
    have d1 : decide ((20 : Int) ≤ (s.size : Int)) = false := decide_eq_false (by omega)
    have d2 : decide (20 ≤ s.size) = false := decide_eq_false (by omega)
    clear h20
    go_wp2_with fail
    refine (Reader_Need.no _ _ _).mono ?_
    rintro e w2 ⟨rfl, rfl⟩
    exact ⟨rfl, by rw [he]; rfl, _, _, _, HG.out, fun h0 => absurd (he.symm.trans h0) (by decide)⟩
  have d1 : decide ((20 : Int) ≤ (s.size : Int)) = true := decide_eq_true (by omega)
  have d2 : decide (20 ≤ s.size) = true := decide_eq_true (by omega)
  go_wp2_with fail
  refine (Reader_Need.yes _ _ _).mono ?_
  rintro e w2 ⟨rfl, rfl⟩
  clear d1 d2
  go_wp2_with fail
  refine (Reader_U8.yes _ _ _ _ HG.out.1 (by omega)).mono ?_
  rintro e w2 ⟨rfl, g1⟩
  replace HG := Aside0.mk (HG.out.went g1)
  clear g1 c0
  have hB : be (bl (s.extract 0 1)) < 256 := be_lt_of _ 1 (by rw [bl_length, ByteArray.size_extract]; omega)
  have m1 : Go.bits .and .i64 ((be (bl (s.extract 0 1)) : Nat) : Int) 15 = ((be (bl (s.extract 0 1)) % 16 : Nat) : Int) := by exact Pure.and15 _ (by omega)
  have m2 : wrap64 (4 * ((be (bl (s.extract 0 1)) % 16 : Nat) : Int)) = ((hl4 s : Nat) : Int) := by unfold hl4 wrap64; omega
  have m3 : IntKind.i64.wrap (4 * ((be (bl (s.extract 0 1)) % 16 : Nat) : Int)) = ((hl4 s : Nat) : Int) := by rw [IntKind.wrap_i64]; unfold hl4; omega
  have HN := Aside0.mk (show hl4 s ≤ 60 by unfold hl4; omega)
  by_cases hv : be (bl (s.extract 0 1)) / 16 = 4
  case neg =>
    have he : ip4Err s = 3 := by unfold ip4Err; rw [if_neg h20, if_neg hv]
    have v1 : (((be (bl (s.extract 0 1)) : Nat) : Int) / 16 == 4) = false := by rw [beq_eq_false_iff_ne]; omega
    have v2 : ((be (bl (s.extract 0 1))) / 16 == 4) = false := by rw [beq_eq_false_iff_ne]; exact hv
    go_wp2_with fail
    refine (Reader_Need.no _ _ _).mono ?_
    rintro e w3 ⟨rfl, rfl⟩
    exact ⟨rfl, by rw [he]; rfl, _, _, _, HG.out, fun h0 => absurd (he.symm.trans h0) (by decide)⟩
  have v1 : (((be (bl (s.extract 0 1)) : Nat) : Int) / 16 == 4) = true := by rw [beq_iff_eq]; omega
  have v2 : ((be (bl (s.extract 0 1))) / 16 == 4) = true := by rw [beq_iff_eq]; exact hv
  have HV := Aside0.mk hv
  clear hv
  have e4 : (4 * (((be (bl (s.extract 0 1)) : Nat) : Int) % 16)) = ((hl4 s : Nat) : Int) := by unfold hl4; omega
  go_wp2_with fail
  clear e4
  refine (Reader_Need.yes _ _ _).mono ?_
  rintro e w3 ⟨rfl, rfl⟩
  clear v1 v2 m1 m2 m3 hB
  go_wp2_with fail
  refine (Reader_U8.yes _ _ _ _ HG.out.1 (by omega)).mono ?_
  rintro e w3 ⟨rfl, g1⟩
  replace HG := Aside0.mk (HG.out.went g1)
  clear g1
  obtain ⟨c0, c1, c2, c3, c4⟩ := HG.out.facts
  simp only [zero4] at c2
  clear c0 c3 c4
  have HX := Aside0.mk h20
  clear h20
  go_wp2
  clear c1 c2
  replace HG := Aside0.mk (HG.out.put 0 (.int .i64 (be (bl (s.extract 1 2)) : Nat)))
  simp only [zero4, List.setIfInBounds_toArray, List.set_cons_zero, List.set_cons_succ] at HG
  generalize w3.setCell ⟨k + 2, 0, none⟩ (.int .i64 (be (bl (s.extract 1 2)) : Nat)) = w4 at HG ⊢
  generalize hN : hl4 s = N at HN ⊢
  have HNN := Aside0.mk hN
  clear hN
  have c0 := HG.out.facts.1
  by_cases hl : 20 ≤ N
  case neg =>
    have l1 : decide ((20 : Int) ≤ (N : Int)) = false := decide_eq_false (by omega)
    have l2 : decide (20 ≤ N) = false := decide_eq_false hl
    have he : ip4Err s = 4 := by unfold ip4Err; rw [if_neg HX.out, if_pos HV.out, if_neg (by rw [HNN.out]; exact fun h => hl h.1)]
    go_still_tail 16, (by kernel_rfl)
    change wpList _ _ _ _ _ w4.drew
    go_wp2_with fail
    refine (Reader_Need.no _ _ _).mono ?_
    rintro e w6 ⟨rfl, rfl⟩
    exact ⟨rfl, by rw [he]; rfl, _, _, _, HG.out.drew, fun h0 => absurd (he.symm.trans h0) (by decide)⟩
  have l1 : decide ((20 : Int) ≤ (N : Int)) = true := decide_eq_true (by omega)
  have l2 : decide (20 ≤ N) = true := decide_eq_true hl
  by_cases hm : N ≤ s.size
  case neg =>
    have m1 : decide ((N : Int) ≤ (s.size : Int)) = false := decide_eq_false (by omega)
    have m2 : decide (N ≤ s.size) = false := decide_eq_false hm
    have he : ip4Err s = 4 := by unfold ip4Err; rw [if_neg HX.out, if_pos HV.out, if_neg (by rw [HNN.out]; exact fun h => hm h.2.1)]
    go_still_tail 16, (by kernel_rfl)
    change wpList _ _ _ _ _ w4.drew
    go_wp2_with fail
    refine (Reader_Need.no _ _ _).mono ?_
    rintro e w6 ⟨rfl, rfl⟩
    exact ⟨rfl, by rw [he]; rfl, _, _, _, HG.out.drew, fun h0 => absurd (he.symm.trans h0) (by decide)⟩
  have m1 : decide ((N : Int) ≤ (s.size : Int)) = true := decide_eq_true (by omega)
  have m2 : decide (N ≤ s.size) = true := decide_eq_true hm
  by_cases ht : be (bl (s.extract 2 4)) = s.size
  case neg =>
    have t1 : (((be (bl (s.extract 2 4)) : Nat) : Int) == (s.size : Int)) = false := by rw [beq_eq_false_iff_ne]; omega
    have t2 : (be (bl (s.extract 2 4)) == s.size) = false := by rw [beq_eq_false_iff_ne]; exact ht
    have he : ip4Err s = 4 := by unfold ip4Err; rw [if_neg HX.out, if_pos HV.out, if_neg (fun h => ht h.2.2)]
    clear hl hm ht
    go_region_with ((first
      | (go_at_call 66; refine (Reader_U16.yes _ _ 2 _ HG.out.drew.1 ?_).mono ?_; (have := HX.out; omega); rintro e w5 ⟨rfl, g1⟩; have HG3 := Aside0.mk (HG.out.drew.went g1); have c3 := HG3.out.facts.1; clear g1)
      | (go_at_call 65; refine (Reader_Need.no _ _ _).mono ?_; rintro e w6 ⟨rfl, rfl⟩; refine panicOut4 ?_)))
    all_goals exact ⟨rfl, by rw [he]; rfl, _, _, _, HG3.out, fun h0 => absurd (he.symm.trans h0) (by decide)⟩
  have t1 : (((be (bl (s.extract 2 4)) : Nat) : Int) == (s.size : Int)) = true := by rw [beq_iff_eq]; omega
  have t2 : (be (bl (s.extract 2 4)) == s.size) = true := by rw [beq_iff_eq]; exact ht
  have HM := Aside0.mk (show 20 ≤ N ∧ N ≤ s.size ∧ be (bl (s.extract 2 4)) = s.size from ⟨hl, hm, ht⟩)
  clear hl hm ht
  go_region_with ((first
    | (go_at_call 66; refine (Reader_U16.yes _ _ 2 _ HG.out.drew.1 ?_).mono ?_; (have := HX.out; omega); rintro e w5 ⟨rfl, g1⟩; have HG3 := Aside0.mk (HG.out.drew.went g1); have c3 := HG3.out.facts.1; clear g1)
    | (go_at_call 65; refine (Reader_Need.yes _ _ _).mono ?_; rintro e w6 ⟨rfl, rfl⟩)))
  all_goals
    clear c0 l1 l2 m1 m2 t1 t2
    replace HG := HG3
    clear HG3
    have s1 : ((N : Int) ≤ (s.size : Int)) = True := eq_true (by have := HM.out; omega)
    have s2 : (N ≤ s.size) = True := eq_true HM.out.2.1
    go_wp2_with fail
    refine (sum_Right.calls _ _ [s.extract 0 N] (csum (bl (s.extract 0 N)) == 0) _ (C_one _ _ _) (by simp) (right_one _ (by simp only [ByteArray.size_extract]; have := HN.out; omega))).mono ?_
    rintro e w7 ⟨rfl, g1⟩
    replace HG := Aside0.mk (HG.out.step (((Below.refl w6.heap.size w6).alloc (Nat.le_refl _) _).trans (g1.mono (by simp))))
    clear g1 s1 s2
    by_cases hz : csum (bl (s.extract 0 N)) = 0
    case neg =>
      have z1 : (csum (bl (s.extract 0 N)) == 0) = false := by rw [beq_eq_false_iff_ne]; exact hz
      have he : ip4Err s = 5 := by unfold ip4Err; rw [if_neg HX.out, if_pos HV.out, HNN.out, if_pos HM.out, if_neg hz]
      rw [z1]
      clear hz z1
      go_wp2_with fail
      refine (Reader_Need.no _ _ _).mono ?_
      rintro e w8 ⟨rfl, rfl⟩
      exact ⟨rfl, by rw [he]; rfl, _, _, _, HG.out, fun h0 => absurd (he.symm.trans h0) (by decide)⟩
    have z1 : (csum (bl (s.extract 0 N)) == 0) = true := by rw [beq_iff_eq]; exact hz
    rw [z1]
    have HZ := Aside0.mk hz
    clear hz z1
    go_wp2_with fail
    refine (Reader_Need.yes _ _ _).mono ?_
    rintro e w8 ⟨rfl, rfl⟩
    go_wp2_with fail
    refine (Reader_U16.yes _ _ _ _ HG.out.1 (by have := HM.out; have := HX.out; omega)).mono ?_
    rintro e w9 ⟨rfl, g1⟩
    replace HG := Aside0.mk (HG.out.went g1)
    clear g1
    obtain ⟨c0, c1, c2, c3, c4⟩ := HG.out.facts
    clear c0 c3 c4
    go_wp2_with fail
    clear c1 c2
    replace HG := Aside0.mk (HG.out.put 1 (.int .i64 (be (bl (s.extract 4 6)) : Nat)))
    simp only [List.setIfInBounds_toArray, List.set_cons_zero, List.set_cons_succ] at HG
    generalize (w9.setCell ⟨k + 2, 1, none⟩ (.int .i64 (be (bl (s.extract 4 6)) : Nat))) = wa at HG ⊢
    refine (Reader_U16.yes _ _ _ _ HG.out.1 (by have := HM.out; have := HX.out; omega)).mono ?_
    rintro e w10 ⟨rfl, g1⟩
    replace HG := Aside0.mk (HG.out.went g1)
    clear g1
    have hF : be (bl (s.extract 6 8)) < 65536 := be_lt_of _ 2 (by rw [bl_length, ByteArray.size_extract]; have := HX.out; omega)
    by_cases hf : be (bl (s.extract 6 8)) / 32768 = 0
    case neg =>
      have z1 : (((be (bl (s.extract 6 8)) : Nat) : Int) / 32768 == 0) = false := by rw [beq_eq_false_iff_ne]; omega
      have z2 : (be (bl (s.extract 6 8)) / 32768 == 0) = false := by rw [beq_eq_false_iff_ne]; exact hf
      have he : ip4Err s = 9 := by unfold ip4Err; rw [if_neg HX.out, if_pos HV.out, HNN.out, if_pos HM.out, if_pos HZ.out, if_neg hf]
      clear hf hF
      go_wp2_with fail
      refine (Reader_Need.no _ _ _).mono ?_
      rintro e w11 ⟨rfl, rfl⟩
      exact ⟨rfl, by rw [he]; rfl, _, _, _, HG.out, fun h0 => absurd (he.symm.trans h0) (by decide)⟩
    have z1 : (((be (bl (s.extract 6 8)) : Nat) : Int) / 32768 == 0) = true := by rw [beq_iff_eq]; omega
    have z2 : (be (bl (s.extract 6 8)) / 32768 == 0) = true := by rw [beq_iff_eq]; exact hf
    have he : ip4Err s = 0 := by unfold ip4Err; rw [if_neg HX.out, if_pos HV.out, HNN.out, if_pos HM.out, if_pos HZ.out, if_pos hf]
    have HE := Aside0.mk he
    clear hf he
    go_wp2_with fail
    refine (Reader_Need.yes _ _ _).mono ?_
    rintro e w11 ⟨rfl, rfl⟩
    clear z1 z2
    have a1 : Go.bits .and .i64 (((be (bl (s.extract 6 8)) : Nat) : Int) / 16384) 1 = ((be (bl (s.extract 6 8)) / 16384 % 2 : Nat) : Int) := by rw [show ((be (bl (s.extract 6 8)) : Nat) : Int) / 16384 = ((be (bl (s.extract 6 8)) / 16384 : Nat) : Int) by omega]; exact Pure.and1 _ (by omega)
    have a2 : Go.bits .and .i64 (((be (bl (s.extract 6 8)) : Nat) : Int) / 8192) 1 = ((be (bl (s.extract 6 8)) / 8192 % 2 : Nat) : Int) := by rw [show ((be (bl (s.extract 6 8)) : Nat) : Int) / 8192 = ((be (bl (s.extract 6 8)) / 8192 : Nat) : Int) by omega]; exact Pure.and1 _ (by omega)
    have a3 : Go.bits .and .i64 ((be (bl (s.extract 6 8)) : Nat) : Int) 8191 = ((be (bl (s.extract 6 8)) % 8192 : Nat) : Int) := Pure.and8191 _ hF
    obtain ⟨c0, c1, c2, c3, c4⟩ := HG.out.facts
    clear c0 c3 c4
    go_wp2_with fail
    rw [flagA, flagB, flagC]
    clear c1 c2 a1 a2 a3 hF
    replace HG := Aside0.mk (((HG.out.put 5 (.bool (be (bl (s.extract 6 8)) / 16384 % 2 == 1))).put 6 (.bool (be (bl (s.extract 6 8)) / 8192 % 2 == 1))).put 2 (.int .i64 ((be (bl (s.extract 6 8)) % 8192 : Nat) : Int)))
    simp only [List.setIfInBounds_toArray, List.set_cons_zero, List.set_cons_succ] at HG
    generalize (((w11.setCell ⟨k + 2, 5, none⟩ (.bool (be (bl (s.extract 6 8)) / 16384 % 2 == 1))).setCell ⟨k + 2, 6, none⟩ (.bool (be (bl (s.extract 6 8)) / 8192 % 2 == 1))).setCell ⟨k + 2, 2, none⟩ (.int .i64 ((be (bl (s.extract 6 8)) % 8192 : Nat) : Int))) = wa at HG ⊢
    refine (Reader_U8.yes _ _ _ _ HG.out.1 (by have := HM.out; have := HX.out; omega)).mono ?_
    rintro e w12 ⟨rfl, g1⟩
    replace HG := Aside0.mk (HG.out.went g1)
    clear g1
    go_wp2_with fail
    refine (Reader_U8.yes _ _ _ _ HG.out.1 (by have := HM.out; have := HX.out; omega)).mono ?_
    rintro e w13 ⟨rfl, g1⟩
    replace HG := Aside0.mk (HG.out.went g1)
    clear g1
    obtain ⟨c0, c1, c2, c3, c4⟩ := HG.out.facts
    clear c0 c3 c4
    go_wp2_with fail
    clear c1 c2
    replace HG := Aside0.mk ((HG.out.put 3 (.int .i64 (be (bl (s.extract 8 9)) : Nat))).put 4 (.int .i64 (be (bl (s.extract 9 10)) : Nat)))
    simp only [List.setIfInBounds_toArray, List.set_cons_zero, List.set_cons_succ] at HG
    generalize ((w13.setCell ⟨k + 2, 3, none⟩ (.int .i64 (be (bl (s.extract 8 9)) : Nat))).setCell ⟨k + 2, 4, none⟩ (.int .i64 (be (bl (s.extract 9 10)) : Nat))) = wa at HG ⊢
    refine (Reader_U16.yes _ _ _ _ HG.out.1 (by have := HM.out; have := HX.out; omega)).mono ?_
    rintro e w14 ⟨rfl, g1⟩
    replace HG := Aside0.mk (HG.out.went g1)
    clear g1
    go_wp2_with fail
    refine (Take4.went _ _ _ 4 _ HG.out.1 (by have := HM.out; have := HX.out; omega)).mono ?_
    rintro e w15 ⟨rfl, g1⟩
    replace HG := Aside0.mk (HG.out.went g1)
    clear g1
    go_wp2_with fail
    refine (Take4.went _ _ _ 4 _ HG.out.1 (by have := HM.out; have := HX.out; omega)).mono ?_
    rintro e w16 ⟨rfl, g1⟩
    replace HG := Aside0.mk (HG.out.went g1)
    clear g1
    obtain ⟨c0, c1, c2, c3, c4⟩ := HG.out.facts
    clear c0 c3 c4
    obtain ⟨M, hM, e1, e2, e3⟩ := less20 N HM.out.1 HN.out
    have HS := Aside0.mk hM
    have HS2 := Aside0.mk e2
    clear hM e1 e2 e3
    go_wp2_with fail
    rw [HS2.out]
    clear c1 c2
    replace HG := Aside0.mk ((HG.out.put 7 (.string (s.extract 12 16))).put 8 (.string (s.extract 16 20)))
    simp only [List.setIfInBounds_toArray, List.set_cons_zero, List.set_cons_succ] at HG
    generalize ((w16.setCell ⟨k + 2, 7, none⟩ (.string (s.extract 12 16))).setCell ⟨k + 2, 8, none⟩ (.string (s.extract 16 20))) = wa at HG ⊢
    refine (Take4.went _ _ _ M _ HG.out.1 (by have := HM.out; have := HS.out; omega)).mono ?_
    rintro e w17 ⟨rfl, g1⟩
    replace HG := Aside0.mk (HG.out.went g1)
    clear g1
    go_wp2_with fail
    refine (Reader_Rest.calls _ _ _ _ HG.out.1).mono ?_
    rintro e w18 ⟨rfl, g1⟩
    replace HG := Aside0.mk (HG.out.went g1)
    clear g1
    obtain ⟨c0, c1, c2, c3, c4⟩ := HG.out.facts
    clear c0
    go_wp2
    go_end0
    refine ⟨by rw [HE.out]; rfl, _, _, _, (HG.out.put 9 _).putSum _, fun _ => ⟨?_, ?_⟩⟩
    · have h20 : 20 + M = N := HS.out
      simp only [List.setIfInBounds_toArray, List.set_cons_zero, List.set_cons_succ, final4, HNN.out, h20]
    · have h20 : 20 + M = N := HS.out
      simp only [HNN.out, h20]

end Go.Proofs.YtcmalglippmocaaDoor.G
end

section
namespace Go.Proofs.YtcmalglippmocaaDoor.G
open Go.Proofs.YtcmalglippmocaaDoor.Pal
def ip4_Get.f (s : ByteArray) : Option (Int × Int × Int × Int × Int × Bool × Bool × ByteArray × ByteArray × ByteArray × ByteArray × Int) :=
  if s.size ≤ 140737488351232 then some (if ip4Err s = 0 then (((be (bl (s.extract 1 2)) : Nat) : Int), ((be (bl (s.extract 4 6)) : Nat) : Int), ((be (bl (s.extract 6 8)) % 8192 : Nat) : Int), ((be (bl (s.extract 8 9)) : Nat) : Int), ((be (bl (s.extract 9 10)) : Nat) : Int), (be (bl (s.extract 6 8)) / 16384 % 2 == 1), (be (bl (s.extract 6 8)) / 8192 % 2 == 1), s.extract 12 16, s.extract 16 20, s.extract 20 (hl4 s), s.extract (hl4 s) s.size, 0) else (0, 0, 0, 0, 0, false, false, ⟨#[]⟩, ⟨#[]⟩, ⟨#[]⟩, ⟨#[]⟩, ip4Err s)) else none
end Go.Proofs.YtcmalglippmocaaDoor.G
end

section
namespace Go.Proofs.YtcmalglippmocaaDoor.G
open Go.RowKit Go.Proofs.YtcmalglippmocaaDoorW.PrintWords Go.Proofs.YtcmalglippmocaaDoorW.PrintLast Go.Proofs.YtcmalglippmocaaDoorW.PrintMore Go.Proofs.YtcmalglippmocaaDoor.Pal
def VR4 (k : Nat) (s : ByteArray) (w w1 : World) : Prop :=
  ∃ cs x, Hp w1 [(k, 9, #[.string s]), (k + 1, 69, #[.int .i64 0, .int .i64 0, .int .i64 0, .int .i64 0, .int .i64 0, .bool false, .bool false, .string ⟨#[]⟩, .string ⟨#[]⟩, .string ⟨#[]⟩]), (k + 2, 69, cs), (k + 3, 9, #[.string x])] ∧ Below k w w1 ∧
    (ip4Err s = 0 → cs = final4 s ∧ x = s.extract (hl4 s) s.size)
theorem VG4.done {k : Nat} {s : ByteArray} {w w1 w2 : World} {n : Nat} {cs : Array Value} {x : ByteArray} (h : VG4 k s w w1 n cs x) (hw : w1.grownBy w2 (some (k + 4)))
    (hx : ip4Err s = 0 → cs = final4 s ∧ x = s.extract (hl4 s) s.size) : VR4 k s w w2 :=
  ⟨cs, x, Hp.grown (R := k + 4) (fun y hy => h.2.1 y (by simp at hy ⊢; rcases hy with rfl | rfl | rfl | rfl <;> simp)) hw (by simp), h.2.2.trans (below_of_grown hw (by have := h.1.1.lt; omega) (by omega)), hx⟩

set_option maxRecDepth 100000 in
theorem ip4_Get.reads (s : ByteArray) (hs : s.size ≤ 140737488351232) (w : World) :
    Calls Tryd.prog 63 #[.string s, .func (.func 134) #[] #[.pointer (some ⟨w.heap.size, 0, none⟩), .pointer (some ⟨w.heap.size + 1 + 1, 0, none⟩), .pointer (some ⟨w.heap.size + 1 + 1 + 1, 0, none⟩)]]
      ((((w.alloc (.cells #[.string s] 9)).alloc (.cells #[.int .i64 0, .int .i64 0, .int .i64 0, .int .i64 0, .int .i64 0, .bool false, .bool false, .string ⟨#[]⟩, .string ⟨#[]⟩, .string ⟨#[]⟩] 69)).alloc (.cells #[.int .i64 0, .int .i64 0, .int .i64 0, .int .i64 0, .int .i64 0, .bool false, .bool false, .string ⟨#[]⟩, .string ⟨#[]⟩, .string ⟨#[]⟩] 69)).alloc (.cells #[.string ⟨#[]⟩] 9))
      fun e w' => e = .returned (.int .i64 (ip4Err s)) ∧ VR4 w.heap.size s w w' := by
  obtain ⟨W, hW⟩ : ∃ W, W = ((((w.alloc (.cells #[.string s] 9)).alloc (.cells #[.int .i64 0, .int .i64 0, .int .i64 0, .int .i64 0, .int .i64 0, .bool false, .bool false, .string ⟨#[]⟩, .string ⟨#[]⟩, .string ⟨#[]⟩] 69)).alloc (.cells #[.int .i64 0, .int .i64 0, .int .i64 0, .int .i64 0, .int .i64 0, .bool false, .bool false, .string ⟨#[]⟩, .string ⟨#[]⟩, .string ⟨#[]⟩] 69)).alloc (.cells #[.string ⟨#[]⟩] 9)) := ⟨_, rfl⟩
  have hk : W.heap.size = w.heap.size + 4 := by rw [hW]; simp
  have b0 : Blk W w.heap.size 9 #[.string s] := by rw [hW]; exact (((Blk.new w _ _).alloc _).alloc _).alloc _
  have b1 : Blk W (w.heap.size + 1) 69 #[.int .i64 0, .int .i64 0, .int .i64 0, .int .i64 0, .int .i64 0, .bool false, .bool false, .string ⟨#[]⟩, .string ⟨#[]⟩, .string ⟨#[]⟩] := by
    rw [hW]
    have := Blk.new (w.alloc (.cells #[.string s] 9)) 69 #[.int .i64 0, .int .i64 0, .int .i64 0, .int .i64 0, .int .i64 0, .bool false, .bool false, .string ⟨#[]⟩, .string ⟨#[]⟩, .string ⟨#[]⟩]
    rw [World.size_alloc] at this
    exact (this.alloc _).alloc _
  have b2 : Blk W (w.heap.size + 2) 69 #[.int .i64 0, .int .i64 0, .int .i64 0, .int .i64 0, .int .i64 0, .bool false, .bool false, .string ⟨#[]⟩, .string ⟨#[]⟩, .string ⟨#[]⟩] := by
    rw [hW]
    have := Blk.new ((w.alloc (.cells #[.string s] 9)).alloc (.cells #[.int .i64 0, .int .i64 0, .int .i64 0, .int .i64 0, .int .i64 0, .bool false, .bool false, .string ⟨#[]⟩, .string ⟨#[]⟩, .string ⟨#[]⟩] 69)) 69 #[.int .i64 0, .int .i64 0, .int .i64 0, .int .i64 0, .int .i64 0, .bool false, .bool false, .string ⟨#[]⟩, .string ⟨#[]⟩, .string ⟨#[]⟩]
    rw [World.size_alloc, World.size_alloc] at this
    exact this.alloc _
  have b3 : Blk W (w.heap.size + 3) 9 #[.string ⟨#[]⟩] := by
    rw [hW]
    have := Blk.new (((w.alloc (.cells #[.string s] 9)).alloc (.cells #[.int .i64 0, .int .i64 0, .int .i64 0, .int .i64 0, .int .i64 0, .bool false, .bool false, .string ⟨#[]⟩, .string ⟨#[]⟩, .string ⟨#[]⟩] 69)).alloc (.cells #[.int .i64 0, .int .i64 0, .int .i64 0, .int .i64 0, .int .i64 0, .bool false, .bool false, .string ⟨#[]⟩, .string ⟨#[]⟩, .string ⟨#[]⟩] 69)) 9 #[.string ⟨#[]⟩]
    rw [World.size_alloc, World.size_alloc, World.size_alloc] at this
    exact this
  have hb : Below w.heap.size w W := by
    rw [hW]
    exact ((((Below.refl _ _).alloc (Nat.le_refl _) _).alloc (by simp) _).alloc (by simp; omega) _).alloc (by simp; omega) _
  rw [← hW]
  clear hW
  have hrd := readW_rd W s hs
  have hres := readW_res W s
  have hbl := readW_below W s
  rw [hk] at hrd hres hbl
  have hG : VG4 w.heap.size s w (readW W s) 0 zero4 ⟨#[]⟩ :=
    ⟨hrd, .cons (b0.below hbl (by omega)) (.cons (b1.below hbl (by omega)) (.cons (b2.below hbl (by omega)) (.cons (b3.below hbl (by omega)) (.cons hres (.nil _))))), hb.trans (hbl.mono (by omega))⟩
  have hrd' : ∀ Q : World → Prop, Calls Tryd.prog 134 (#[.pointer (some ⟨W.heap.size + 1, 0, none⟩)] ++ #[.pointer (some ⟨w.heap.size, 0, none⟩), .pointer (some ⟨w.heap.size + 1 + 1, 0, none⟩), .pointer (some ⟨w.heap.size + 1 + 1 + 1, 0, none⟩)]) (readW W s) (fun e w2 => e = did (ip4Err s) ∧ Blk w2 W.heap.size 24 #[.int .i64 0] ∧ Q w2) →
      Calls Tryd.prog 63 #[.string s, .func (.func 134) #[] #[.pointer (some ⟨w.heap.size, 0, none⟩), .pointer (some ⟨w.heap.size + 1 + 1, 0, none⟩), .pointer (some ⟨w.heap.size + 1 + 1 + 1, 0, none⟩)]] W
        fun e w' => e = .returned (.int .i64 (ip4Err s)) ∧ ∃ w2, Q w2 ∧ w2.grownBy w' (some W.heap.size) :=
    fun Q h => Read_calls 134 _ s (ip4Err s) W Q (fun _ _ => rfl) h
  rw [hk] at hrd'
  clear hrd hres hbl b0 b1 b2 b3 hb
  refine (hrd' (fun w2 => ∃ n cs x, VG4 w.heap.size s w w2 n cs x ∧ (ip4Err s = 0 → cs = final4 s ∧ x = s.extract (hl4 s) s.size)) ?_).mono ?_
  · refine (ip4_Get1.walk w.heap.size s w (readW W s) hG).mono ?_
    rintro e w2 ⟨rfl, n, cs, x, hu, hx⟩
    exact ⟨rfl, hu.2.1.tail.tail.tail.tail.head, n, cs, x, hu, hx⟩
  · rintro e w' ⟨rfl, w2, ⟨n, cs, x, hu, hx⟩, hg⟩
    exact ⟨rfl, hu.done hg hx⟩

set_option maxHeartbeats 1000000 in
set_option maxRecDepth 100000 in
theorem ip4_Get.calls (s : ByteArray) (r1 r2 r3 r4 r5 : Int) (r6 r7 : Bool) (r8 r9 r10 r11 : ByteArray) (r12 : Int) (w : World) (h : ip4_Get.f s = some (r1, r2, r3, r4, r5, r6, r7, r8, r9, r10, r11, r12)) :
    Calls Tryd.prog 99 #[.string s] w fun e w' => e = .returned (.tuple #[.agg #[.int .i64 r1, .int .i64 r2, .int .i64 r3, .int .i64 r4, .int .i64 r5, .bool r6, .bool r7, .string r8, .string r9, .string r10], .string r11, .int .i64 r12]) ∧ Below w.heap.size w w' := by
  unfold ip4_Get.f at h
  by_cases hs : s.size ≤ 140737488351232
  case neg => rw [if_neg hs] at h; exact absurd h (by simp)
  rw [if_pos hs] at h
  have hmf : ∀ (fn : Fn) (first cap : Array Value) (w : World), (Instr.makeFunc fn first cap).run Tryd.prog w = .ok (.func fn first cap) w := fun _ _ _ _ => rfl
  have hu := Tryd.underlying69
  have HS := Aside0.mk hs
  clear hs
  by_cases h0 : ip4Err s = 0
  · rw [if_pos h0] at h
    replace h := Option.some.inj h
    simp only [Prod.mk.injEq] at h
    obtain ⟨rfl, rfl, rfl, rfl, rfl, rfl, rfl, rfl, rfl, rfl, rfl, rfl⟩ := h
    have d1 : (ip4Err s != 0) = false := bne_eq_false_iff_eq.mpr h0
    have h := Aside0.mk h0
    clear h0
    go_enter Tryd.func99, Tryd.ntmps99
    go_wp2_with fail
    refine (ip4_Get.reads s HS.out w).mono ?_
    rintro e w2 ⟨rfl, cs, x, hp, hb, hx⟩
    obtain ⟨rfl, rfl⟩ := hx h.out
    have HB := Aside0.mk hb
    have c1 := hp.tail.head.cells
    have c2 := hp.tail.head.frees
    have c3 := hp.tail.tail.head.cells
    simp only [final4] at c3
    have c4 := hp.tail.tail.tail.head.cell 0 _ rfl
    have HK := Aside0.mk hp.tail.head
    clear hp hb hx
    go_wp2_with fail
    go_region
    all_goals
      have c5 := ((((((((((HK.out.set 0 (.int .i64 (be (bl (s.extract 1 2)) : Nat))).set 1 (.int .i64 (be (bl (s.extract 4 6)) : Nat))).set 2 (.int .i64 (((be (bl (s.extract 6 8)) : Nat) : Int) % 8192))).set 3 (.int .i64 (be (bl (s.extract 8 9)) : Nat))).set 4 (.int .i64 (be (bl (s.extract 9 10)) : Nat))).set 5 (.bool (be (bl (s.extract 6 8)) / 16384 % 2 == 1))).set 6 (.bool (be (bl (s.extract 6 8)) / 8192 % 2 == 1))).set 7 (.string (s.extract 12 16))).set 8 (.string (s.extract 16 20))).set 9 (.string (s.extract 20 (hl4 s)))).drew.cells
      simp only [List.setIfInBounds_toArray, List.set_cons_zero, List.set_cons_succ] at c5
      clear c1 c2 c3 c4
      go_wp2
      refine ⟨rfl, _, ?_, rfl, ?_⟩
      rotate_left
      · exact ((((((((((HB.out.setCell (by simp) _).setCell (by simp) _).setCell (by simp) _).setCell (by simp) _).setCell (by simp) _).setCell (by simp) _).setCell (by simp) _).setCell (by simp) _).setCell (by simp) _).setCell (by simp) _).drew
      simp [results, Tryd.results99, go_sem, hu, c5]
  · rw [if_neg h0] at h
    replace h := Option.some.inj h
    simp only [Prod.mk.injEq] at h
    obtain ⟨rfl, rfl, rfl, rfl, rfl, rfl, rfl, rfl, rfl, rfl, rfl, rfl⟩ := h
    have d1 : (ip4Err s != 0) = true := bne_iff_ne.mpr h0
    clear h0
    go_enter Tryd.func99, Tryd.ntmps99
    go_wp2_with fail
    refine (ip4_Get.reads s HS.out w).mono ?_
    rintro e w2 ⟨rfl, cs, x, hp, hb, hx⟩
    have HB := Aside0.mk hb
    have c1 := hp.tail.head.cells
    have c2 := hp.tail.head.frees
    have HK := Aside0.mk hp.tail.head
    clear hp hb hx
    go_wp2
    have c5 := ((((((((((HK.out.set 0 (.int .i64 0)).set 1 (.int .i64 0)).set 2 (.int .i64 0)).set 3 (.int .i64 0)).set 4 (.int .i64 0)).set 5 (.bool false)).set 6 (.bool false)).set 7 (.string ⟨#[]⟩)).set 8 (.string ⟨#[]⟩)).set 9 (.string ⟨#[]⟩)).cells
    simp only [List.setIfInBounds_toArray, List.set_cons_zero, List.set_cons_succ] at c5
    clear c1 c2
    refine ⟨rfl, _, ?_, rfl, ?_⟩
    rotate_left
    · exact ((((((((((HB.out.setCell (by simp) _).setCell (by simp) _).setCell (by simp) _).setCell (by simp) _).setCell (by simp) _).setCell (by simp) _).setCell (by simp) _).setCell (by simp) _).setCell (by simp) _).setCell (by simp) _)
    simp [results, Tryd.results99, go_sem, hu, c5]
end Go.Proofs.YtcmalglippmocaaDoor.G
end

section
namespace Go.Proofs.YtcmalglippmocaaDoor.G
open Go.RowKit Go.Proofs.YtcmalglippmocaaDoorW.PrintWords Go.Proofs.YtcmalglippmocaaDoorW.PrintLast Go.Proofs.YtcmalglippmocaaDoorW.PrintMore Go.Proofs.YtcmalglippmocaaDoor.Pal
abbrev cs4 (r1 r2 r3 r4 r5 : Int) (r6 r7 : Bool) (r8 r9 r10 : ByteArray) : Array Value := #[.int .i64 r1, .int .i64 r2, .int .i64 r3, .int .i64 r4, .int .i64 r5, .bool r6, .bool r7, .string r8, .string r9, .string r10]
abbrev cs6 (r1 r2 r3 r4 : Int) (r5 r6 : ByteArray) : Array Value := #[.int .i64 r1, .int .i64 r2, .int .i64 r3, .int .i64 r4, .string r5, .string r6]
section
variable (r1 r2 r3 r4 r5 : Int) (r6 r7 : Bool) (r8 r9 r10 : ByteArray)
theorem four_m_proto : ∀ w : World, (method 328 193 (.agg (cs4 r1 r2 r3 r4 r5 r6 r7 r8 r9 r10)) "palanquin/flow.proto").run Tryd.prog w = .ok (169, .agg (cs4 r1 r2 r3 r4 r5 r6 r7 r8 r9 r10)) w := fun _ => by kernel_rfl
theorem four_m_ends : ∀ w : World, (method 328 193 (.agg (cs4 r1 r2 r3 r4 r5 r6 r7 r8 r9 r10)) "palanquin/flow.ends").run Tryd.prog w = .ok (167, .agg (cs4 r1 r2 r3 r4 r5 r6 r7 r8 r9 r10)) w := fun _ => by kernel_rfl
theorem four_m_piece : ∀ w : World, (method 328 193 (.agg (cs4 r1 r2 r3 r4 r5 r6 r7 r8 r9 r10)) "palanquin/flow.piece").run Tryd.prog w = .ok (168, .agg (cs4 r1 r2 r3 r4 r5 r6 r7 r8 r9 r10)) w := fun _ => by kernel_rfl
theorem four_m_bare : ∀ w : World, (method 328 193 (.agg (cs4 r1 r2 r3 r4 r5 r6 r7 r8 r9 r10)) "palanquin/flow.bare").run Tryd.prog w = .ok (166, .agg (cs4 r1 r2 r3 r4 r5 r6 r7 r8 r9 r10)) w := fun _ => by kernel_rfl
end
section
variable (r1 r2 r3 r4 : Int) (r5 r6 : ByteArray)
theorem six_m_proto : ∀ w : World, (method 328 197 (.agg (cs6 r1 r2 r3 r4 r5 r6)) "palanquin/flow.proto").run Tryd.prog w = .ok (173, .agg (cs6 r1 r2 r3 r4 r5 r6)) w := fun _ => by kernel_rfl
theorem six_m_ends : ∀ w : World, (method 328 197 (.agg (cs6 r1 r2 r3 r4 r5 r6)) "palanquin/flow.ends").run Tryd.prog w = .ok (171, .agg (cs6 r1 r2 r3 r4 r5 r6)) w := fun _ => by kernel_rfl
theorem six_m_piece : ∀ w : World, (method 328 197 (.agg (cs6 r1 r2 r3 r4 r5 r6)) "palanquin/flow.piece").run Tryd.prog w = .ok (172, .agg (cs6 r1 r2 r3 r4 r5 r6)) w := fun _ => by kernel_rfl
theorem six_m_bare : ∀ w : World, (method 328 197 (.agg (cs6 r1 r2 r3 r4 r5 r6)) "palanquin/flow.bare").run Tryd.prog w = .ok (170, .agg (cs6 r1 r2 r3 r4 r5 r6)) w := fun _ => by kernel_rfl
end
section
variable (r1 r2 r3 r4 r5 : Int) (r6 r7 : Bool) (r8 r9 r10 : ByteArray) (w : World)
set_option maxHeartbeats 1000000 in
theorem four_proto : Calls Tryd.prog 169 #[.agg (cs4 r1 r2 r3 r4 r5 r6 r7 r8 r9 r10)] w fun e w' => e = .returned (.int .i64 r5) ∧ Below w.heap.size w w' := by
  go_enter Tryd.func169, Tryd.ntmps169
  go_wp2
  go_ret
  exact ⟨rfl, (Below.refl _ _).alloc (Nat.le_refl _) _⟩
set_option maxHeartbeats 1000000 in
theorem four_ends : Calls Tryd.prog 167 #[.agg (cs4 r1 r2 r3 r4 r5 r6 r7 r8 r9 r10)] w fun e w' => e = .returned (.tuple #[.string r8, .string r9]) ∧ Below w.heap.size w w' := by
  go_enter Tryd.func167, Tryd.ntmps167
  go_wp2
  go_quiet (fail)
  go_wp2
  go_ret2
  exact ⟨rfl, pw_below_drewN ((Below.refl _ _).alloc (Nat.le_refl _) _) _⟩
set_option maxHeartbeats 1000000 in
theorem four_piece : Calls Tryd.prog 168 #[.agg (cs4 r1 r2 r3 r4 r5 r6 r7 r8 r9 r10)] w fun e w' => e = .returned (.bool (r3 != 0 || r7)) ∧ Below w.heap.size w w' := by
  cases h : (r3 != 0)
  all_goals
    go_enter Tryd.func168, Tryd.ntmps168
    go_wp2
    go_ret
    exact ⟨rfl, (Below.refl _ _).alloc (Nat.le_refl _) _⟩
set_option maxHeartbeats 1000000 in
theorem four_bare : Calls Tryd.prog 166 #[.agg (cs4 r1 r2 r3 r4 r5 r6 r7 r8 r9 r10)] w fun e w' => e = .returned (.bool true) ∧ Below w.heap.size w w' := by
  go_enter Tryd.func166, Tryd.ntmps166
  go_wp2
  go_ret
  exact ⟨rfl, (Below.refl _ _).alloc (Nat.le_refl _) _⟩
end
section
variable (r1 r2 r3 r4 : Int) (r5 r6 : ByteArray) (w : World)
set_option maxHeartbeats 1000000 in
theorem six_proto : Calls Tryd.prog 173 #[.agg (cs6 r1 r2 r3 r4 r5 r6)] w fun e w' => e = .returned (.int .i64 r3) ∧ Below w.heap.size w w' := by
  go_enter Tryd.func173, Tryd.ntmps173
  go_wp2
  go_ret
  exact ⟨rfl, (Below.refl _ _).alloc (Nat.le_refl _) _⟩
set_option maxHeartbeats 1000000 in
theorem six_ends : Calls Tryd.prog 171 #[.agg (cs6 r1 r2 r3 r4 r5 r6)] w fun e w' => e = .returned (.tuple #[.string r5, .string r6]) ∧ Below w.heap.size w w' := by
  go_enter Tryd.func171, Tryd.ntmps171
  go_wp2
  go_quiet (fail)
  go_wp2
  go_ret2
  exact ⟨rfl, pw_below_drewN ((Below.refl _ _).alloc (Nat.le_refl _) _) _⟩
set_option maxHeartbeats 1000000 in
theorem six_piece : Calls Tryd.prog 172 #[.agg (cs6 r1 r2 r3 r4 r5 r6)] w fun e w' => e = .returned (.bool false) ∧ Below w.heap.size w w' := by
  go_enter Tryd.func172, Tryd.ntmps172
  go_wp2
  go_ret
  exact ⟨rfl, (Below.refl _ _).alloc (Nat.le_refl _) _⟩
set_option maxHeartbeats 1000000 in
theorem six_bare : Calls Tryd.prog 170 #[.agg (cs6 r1 r2 r3 r4 r5 r6)] w fun e w' => e = .returned (.bool false) ∧ Below w.heap.size w w' := by
  go_enter Tryd.func170, Tryd.ntmps170
  go_wp2
  go_ret
  exact ⟨rfl, (Below.refl _ _).alloc (Nat.le_refl _) _⟩
end

set_option maxHeartbeats 2000000 in
set_option maxRecDepth 100000 in
theorem open_none (s : ByteArray) (w : World) (h : s.size = 0) : Calls Tryd.prog 95 #[.string s] w fun e w' => e = .returned (.tuple #[.nilIface, .string ⟨#[]⟩, .int .i64 2]) ∧ Below w.heap.size w w' := by
  have e0 := isEmpty_of h
  clear h
  go_enter Tryd.func95, Tryd.ntmps95
  go_wp2
  go_ret3
  exact ⟨rfl, Below.refl _ _⟩
set_option maxHeartbeats 2000000 in
set_option maxRecDepth 100000 in
theorem open_other (s : ByteArray) (w : World) (h : ¬ s.size = 0) (h4 : bt s 0 / 16 ≠ 4) (h6 : bt s 0 / 16 ≠ 6) : Calls Tryd.prog 95 #[.string s] w fun e w' => e = .returned (.tuple #[.nilIface, .string ⟨#[]⟩, .int .i64 3]) ∧ Below w.heap.size w w' := by
  have e0 := isEmpty_not h
  have hx : ∀ h : 0 < s.size, ((s[0]'h).toNat : Int) = bt s 0 := bt_at s 0
  have q4 : (0 < s.size) = True := eq_true (by omega)
  have d4 : (bt s 0 / 16 == 4) = false := beq_eq_false_iff_ne.mpr h4
  have d6 : (bt s 0 / 16 == 6) = false := beq_eq_false_iff_ne.mpr h6
  clear h h4 h6
  go_enter Tryd.func95, Tryd.ntmps95
  go_wp2
  go_ret3
  exact ⟨rfl, Below.refl _ _⟩
set_option maxHeartbeats 2000000 in
set_option maxRecDepth 100000 in
theorem open_four (s : ByteArray) (w : World) (h : ¬ s.size = 0) (h4 : bt s 0 / 16 = 4) {r1 r2 r3 r4 r5 : Int} {r6 r7 : Bool} {r8 r9 r10 r11 : ByteArray} {r12 : Int} (hf : ip4_Get.f s = some (r1, r2, r3, r4, r5, r6, r7, r8, r9, r10, r11, r12)) :
    Calls Tryd.prog 95 #[.string s] w fun e w' => e = .returned (.tuple #[.iface 193 (.agg (cs4 r1 r2 r3 r4 r5 r6 r7 r8 r9 r10)), .string r11, .int .i64 r12]) ∧ Below w.heap.size w w' := by
  have e0 := isEmpty_not h
  have hx : ∀ h : 0 < s.size, ((s[0]'h).toNat : Int) = bt s 0 := bt_at s 0
  have q4 : (0 < s.size) = True := eq_true (by omega)
  have d4 : (bt s 0 / 16 == 4) = true := beq_iff_eq.mpr h4
  have HF := Aside0.mk hf
  clear h h4 hf
  go_enter Tryd.func95, Tryd.ntmps95
  go_wp2_with fail
  refine (ip4_Get.calls _ _ _ _ _ _ _ _ _ _ _ _ _ _ HF.out).mono ?_
  rintro e w2 ⟨rfl, hb⟩
  have HB := Aside0.mk hb
  clear hb e0 hx q4 d4
  go_wp2
  go_ret3
  exact ⟨rfl, below_alloc HB.out _⟩
set_option maxHeartbeats 2000000 in
set_option maxRecDepth 100000 in
theorem open_six (s : ByteArray) (w : World) (h : ¬ s.size = 0) (h4 : bt s 0 / 16 = 6) {r1 r2 r3 r4 : Int} {r5 r6 r7 : ByteArray} {r8 : Int} (hf : ip6_Get.f s = some (r1, r2, r3, r4, r5, r6, r7, r8)) :
    Calls Tryd.prog 95 #[.string s] w fun e w' => e = .returned (.tuple #[.iface 197 (.agg (cs6 r1 r2 r3 r4 r5 r6)), .string r7, .int .i64 r8]) ∧ Below w.heap.size w w' := by
  have e0 := isEmpty_not h
  have hx : ∀ h : 0 < s.size, ((s[0]'h).toNat : Int) = bt s 0 := bt_at s 0
  have q4 : (0 < s.size) = True := eq_true (by omega)
  have d4 : (bt s 0 / 16 == 4) = false := by rw [h4]; rfl
  have d6 : (bt s 0 / 16 == 6) = true := beq_iff_eq.mpr h4
  have HF := Aside0.mk hf
  clear h h4 hf
  go_enter Tryd.func95, Tryd.ntmps95
  go_wp2_with fail
  refine (ip6_Get.calls _ _ _ _ _ _ _ _ _ _ HF.out).mono ?_
  rintro e w2 ⟨rfl, hb⟩
  have HB := Aside0.mk hb
  clear hb e0 hx q4 d4 d6
  go_wp2
  go_ret3
  exact ⟨rfl, below_alloc HB.out _⟩
end Go.Proofs.YtcmalglippmocaaDoor.G
end

section
namespace Go.Proofs.YtcmalglippmocaaDoor.G
open Go.RowKit Go.Proofs.YtcmalglippmocaaDoorW.PrintWords Go.Proofs.YtcmalglippmocaaDoorW.PrintLast Go.Proofs.YtcmalglippmocaaDoorW.PrintMore Go.Proofs.YtcmalglippmocaaDoor.Pal
abbrev FlowR := Int × ByteArray × ByteArray × Int × Int × Int
def flow_bad (e : Int) : FlowR := (0, ⟨#[]⟩, ⟨#[]⟩, 0, 0, e)
def flow_fin (proto : Int) (src dst pay : ByteArray) (piece bare : Bool) : Option FlowR :=
  if piece = true then some (flow_bad 14) else if proto ≠ 6 ∧ proto ≠ 17 then some (flow_bad 6) else
  (flow_ports.f proto pay).bind fun q => if q.2.2.2 ≠ 0 then some (flow_bad q.2.2.2) else
  (sum_Pseudo.f src dst proto pay.size).bind fun ps => (sum_Right.f [ps, pay]).bind fun r =>
  if (if proto = 17 ∧ q.2.2.1 = 0 then bare else r) = true then some (proto, src, dst, q.1, q.2.1, 0) else some (flow_bad 5)
def flow_Get.f (s : ByteArray) : Option FlowR :=
  if s.size = 0 then some (flow_bad 2) else if bt s 0 / 16 = 4 then (ip4_Get.f s).bind fun q => if q.2.2.2.2.2.2.2.2.2.2.2 ≠ 0 then some (flow_bad q.2.2.2.2.2.2.2.2.2.2.2) else flow_fin q.2.2.2.2.1 q.2.2.2.2.2.2.2.1 q.2.2.2.2.2.2.2.2.1 q.2.2.2.2.2.2.2.2.2.2.1 (q.2.2.1 != 0 || q.2.2.2.2.2.2.1) true
  else if bt s 0 / 16 = 6 then (ip6_Get.f s).bind fun q => if q.2.2.2.2.2.2.2 ≠ 0 then some (flow_bad q.2.2.2.2.2.2.2) else flow_fin q.2.2.1 q.2.2.2.2.1 q.2.2.2.2.2.1 q.2.2.2.2.2.2.1 false false
  else some (flow_bad 3)
theorem ite_in_no {c : Prop} {d : Decidable c} {α : Type} {b r : Bool} {x y z : α} (h : ¬ c) (H : (if (if c then b else r) = true then x else y) = z) : (if r = true then x else y) = z := by rw [if_neg h] at H; exact H
theorem ite_in_yes {c : Prop} {d : Decidable c} {α : Type} {b r : Bool} {x y z : α} (h : c) (H : (if (if c then b else r) = true then x else y) = z) : (if b = true then x else y) = z := by rw [if_pos h] at H; exact H
set_option maxHeartbeats 8000000 in
set_option maxRecDepth 100000 in
theorem flow_four (s : ByteArray) (r1 r2 r3 r4 r5 : Int) (r6 r7 : Bool) (r8 r9 r10 r11 : ByteArray) (w : World) (t1 : Int) (t2 t3 : ByteArray) (t4 t5 t6 : Int)
    (ho : Calls Tryd.prog 95 #[.string s] (w.alloc (.cells #[.int .i64 0, .string ⟨#[]⟩, .string ⟨#[]⟩, .int .i64 0, .int .i64 0] 88)) fun e w' => e = .returned (.tuple #[.iface 193 (.agg (cs4 r1 r2 r3 r4 r5 r6 r7 r8 r9 r10)), .string r11, .int .i64 0]) ∧ Below (w.heap.size + 1) (w.alloc (.cells #[.int .i64 0, .string ⟨#[]⟩, .string ⟨#[]⟩, .int .i64 0, .int .i64 0] 88)) w')
    (hf : flow_fin r5 r8 r9 r11 (r3 != 0 || r7) true = some (t1, t2, t3, t4, t5, t6)) :
    Calls Tryd.prog 51 #[.string s] w fun e w' => e = .returned (.tuple #[.agg #[.int .i64 t1, .string t2, .string t3, .int .i64 t4, .int .i64 t5], .int .i64 t6]) ∧ Below w.heap.size w w' := by
  have HO := Aside0.mk ho
  have hu := Tryd.underlying88
  obtain ⟨k, hk⟩ : ∃ k, w.heap.size = k := ⟨_, rfl⟩
  have HK := Aside0.mk (show w.heap.size = k from hk)
  have HB := Aside0.mk ((Below.refl w.heap.size w).alloc (Nat.le_refl _) (.cells #[.int .i64 0, .string ⟨#[]⟩, .string ⟨#[]⟩, .int .i64 0, .int .i64 0] 88))
  have HR := Aside0.mk (Blk.new w 88 #[.int .i64 0, .string ⟨#[]⟩, .string ⟨#[]⟩, .int .i64 0, .int .i64 0])
  have HE := Aside0.mk hf
  clear ho hf
  go_enter Tryd.func51, Tryd.ntmps51
  go_wp2_with fail
  refine HO.out.mono ?_
  rintro e w2 ⟨rfl, hb⟩
  replace HB := Aside0.mk (HB.out.trans (hb.mono (by omega)))
  replace HR := Aside0.mk (HR.out.below hb (by omega))
  clear HO hb
  rw [hk] at HB HR
  clear hk
  have m1 := four_m_proto r1 r2 r3 r4 r5 r6 r7 r8 r9 r10
  go_wp2_with fail
  refine (four_proto r1 r2 r3 r4 r5 r6 r7 r8 r9 r10 _).mono ?_
  rintro e w3 ⟨rfl, hb⟩
  replace HB := Aside0.mk (HB.out.trans (hb.mono (by have := HB.out.size; have := HK.out; omega)))
  replace HR := Aside0.mk (HR.out.below hb HR.out.lt)
  clear hb m1
  go_upto_region 5 with (fail)
  have HN := Aside0.mk (Blk.new w3 88 #[.int .i64 r5, .string ⟨#[]⟩, .string ⟨#[]⟩, .int .i64 0, .int .i64 0])
  have HGT := Aside0.mk (show k < w3.heap.size from HR.out.lt)
  replace HR := Aside0.mk (HR.out.alloc (.cells #[.int .i64 r5, .string ⟨#[]⟩, .string ⟨#[]⟩, .int .i64 0, .int .i64 0] 88))
  replace HB := Aside0.mk (HB.out.alloc (by have := HGT.out; omega) (.cells #[.int .i64 r5, .string ⟨#[]⟩, .string ⟨#[]⟩, .int .i64 0, .int .i64 0] 88))
  generalize w3.heap.size = g at HN HGT ⊢
  generalize w3.alloc (.cells #[.int .i64 r5, .string ⟨#[]⟩, .string ⟨#[]⟩, .int .i64 0, .int .i64 0] 88) = w4 at HN HR HB ⊢
  have m2 := four_m_ends r1 r2 r3 r4 r5 r6 r7 r8 r9 r10
  go_wp2_with fail
  refine (four_ends r1 r2 r3 r4 r5 r6 r7 r8 r9 r10 _).mono ?_
  rintro e w5 ⟨rfl, hb⟩
  replace HB := Aside0.mk (HB.out.trans (hb.mono (by have := HB.out.size; have := HK.out; omega)))
  replace HR := Aside0.mk (HR.out.below hb HR.out.lt)
  replace HN := Aside0.mk (HN.out.below hb HN.out.lt)
  clear hb m2
  have n0 := HN.out.frees
  have n1 := HN.out.cells
  go_upto_region 6 with (fail)
  clear n0 n1
  replace HR := Aside0.mk ((HR.out.other ⟨g, 1, none⟩ (by have := HGT.out; simp; omega) (.string r8)).other ⟨g, 2, none⟩ (by have := HGT.out; simp; omega) (.string r9))
  replace HB := Aside0.mk ((HB.out.setCell (p := ⟨g, 1, none⟩) (by have := HGT.out; simp; omega) (.string r8)).setCell (p := ⟨g, 2, none⟩) (by have := HGT.out; simp; omega) (.string r9))
  replace HN := Aside0.mk ((HN.out.set 1 (.string r8)).set 2 (.string r9))
  simp only [List.setIfInBounds_toArray, List.set_cons_zero, List.set_cons_succ] at HN
  generalize (w5.setCell ⟨g, 1, none⟩ (.string r8)).setCell ⟨g, 2, none⟩ (.string r9) = w6 at HN HR HB ⊢
  have m3 := four_m_piece r1 r2 r3 r4 r5 r6 r7 r8 r9 r10
  go_wp2_with fail
  refine (four_piece r1 r2 r3 r4 r5 r6 r7 r8 r9 r10 _).mono ?_
  rintro e w7 ⟨rfl, hb⟩
  replace HB := Aside0.mk (HB.out.trans (hb.mono (by have := HB.out.size; have := HK.out; omega)))
  replace HR := Aside0.mk (HR.out.below hb HR.out.lt)
  replace HN := Aside0.mk (HN.out.below hb HN.out.lt)
  clear hb m3
  cases hp : (r3 != 0 || r7) with
  | true =>
    have hr : (t1, t2, t3, t4, t5, t6) = flow_bad 14 := by
      have := HE.out; unfold flow_fin at this; rw [if_pos hp] at this; exact (Option.some.inj this).symm
    simp only [flow_bad, Prod.mk.injEq] at hr
    obtain ⟨rfl, rfl, rfl, rfl, rfl, rfl⟩ := hr
    clear hp
    have f0 := HR.out.frees
    have f1 := HR.out.cells
    go_wp2
    have HR1 := Aside0.mk (((((HR.out.set 0 (.int .i64 0)).set 1 (.string ⟨#[]⟩)).set 2 (.string ⟨#[]⟩)).set 3 (.int .i64 0)).set 4 (.int .i64 0))
    simp only [List.setIfInBounds_toArray, List.set_cons_zero, List.set_cons_succ] at HR1
    refine bodyPost_ret (results_cell_tmp rfl _ _ k _ _ rfl HR1.out Tryd.underlying88 rfl (by kernel_rfl)) rfl ?_
    exact ⟨rfl, by rw [HK.out]; exact ((((HB.out.setCell (p := ⟨k, 0, none⟩) (Nat.le_refl _) _).setCell (p := ⟨k, 1, none⟩) (Nat.le_refl _) _).setCell (p := ⟨k, 2, none⟩) (Nat.le_refl _) _).setCell (p := ⟨k, 3, none⟩) (Nat.le_refl _) _).setCell (p := ⟨k, 4, none⟩) (Nat.le_refl _) _⟩
  | false =>
  have HP := Aside0.mk hp
  clear hp
  by_cases h6 : r5 ≠ 6 ∧ r5 ≠ 17
  · as_aux_lemma =>
    have hr : (t1, t2, t3, t4, t5, t6) = flow_bad 6 := by
      have := HE.out; unfold flow_fin at this; rw [HP.out, if_neg (by decide), if_pos h6] at this; exact (Option.some.inj this).symm
    simp only [flow_bad, Prod.mk.injEq] at hr
    obtain ⟨rfl, rfl, rfl, rfl, rfl, rfl⟩ := hr
    have d1 : (r5 != 6) = true := bne_iff_ne.mpr h6.1
    have d2 : (r5 != 17) = true := bne_iff_ne.mpr h6.2
    clear h6
    have n1 := HN.out.cells
    have f0 := HR.out.frees
    have f1 := HR.out.cells
    go_wp2
    have HR1 := Aside0.mk (((((HR.out.set 0 (.int .i64 0)).set 1 (.string ⟨#[]⟩)).set 2 (.string ⟨#[]⟩)).set 3 (.int .i64 0)).set 4 (.int .i64 0))
    simp only [List.setIfInBounds_toArray, List.set_cons_zero, List.set_cons_succ] at HR1
    refine bodyPost_ret (results_cell_tmp rfl _ _ k _ _ rfl HR1.out Tryd.underlying88 rfl (by kernel_rfl)) rfl ?_
    exact ⟨rfl, by rw [HK.out]; exact ((((HB.out.setCell (p := ⟨k, 0, none⟩) (Nat.le_refl _) _).setCell (p := ⟨k, 1, none⟩) (Nat.le_refl _) _).setCell (p := ⟨k, 2, none⟩) (Nat.le_refl _) _).setCell (p := ⟨k, 3, none⟩) (Nat.le_refl _) _).setCell (p := ⟨k, 4, none⟩) (Nat.le_refl _) _⟩
  have hq : r5 = 6 ∨ r5 = 17 := by
    by_cases e6 : r5 = 6
    · left; exact e6
    · right; exact Classical.not_not.1 fun h => h6 ⟨e6, h⟩
  have HQ := Aside0.mk h6
  clear h6
  rcases hq with rfl | rfl
  · as_aux_lemma =>
    have hE : ((flow_ports.f 6 r11).bind fun q => if q.2.2.2 ≠ 0 then some (flow_bad q.2.2.2) else (sum_Pseudo.f r8 r9 6 r11.size).bind fun ps => (sum_Right.f [ps, r11]).bind fun r => if (if (6 : Int) = 17 ∧ q.2.2.1 = 0 then true else r) = true then some (6, r8, r9, q.1, q.2.1, 0) else some (flow_bad 5)) = some (t1, t2, t3, t4, t5, t6) := by
      have := HE.out; unfold flow_fin at this; rw [HP.out, if_neg (by decide), if_neg HQ.out] at this; exact this
    obtain ⟨⟨p1, p2, p3, p4⟩, hp1, hE⟩ := Option.bind_eq_some_iff.1 hE
    have HPP := Aside0.mk hp1
    replace hE : (if p4 ≠ 0 then some (flow_bad p4) else (sum_Pseudo.f r8 r9 6 r11.size).bind fun ps => (sum_Right.f [ps, r11]).bind fun r => if (if (6 : Int) = 17 ∧ p3 = 0 then true else r) = true then some (6, r8, r9, p1, p2, 0) else some (flow_bad 5)) = some (t1, t2, t3, t4, t5, t6) := hE
    clear HE hp1 HQ
    have HE := Aside0.mk hE
    clear hE
    have n1 := HN.out.cells
    go_wp2_with fail
    refine (flow_ports.calls 6 r11 p1 p2 p3 p4 _ HPP.out).mono ?_
    rintro e w8 ⟨rfl, hb⟩
    replace HB := Aside0.mk (HB.out.trans (hb.mono (by have := HB.out.size; have := HK.out; omega)))
    replace HR := Aside0.mk (HR.out.below hb HR.out.lt)
    replace HN := Aside0.mk (HN.out.below hb HN.out.lt)
    clear hb n1
    have n0 := HN.out.frees
    have n1 := HN.out.cells
    go_upto_region 12 with (fail)
    clear n0 n1
    replace HR := Aside0.mk ((HR.out.other ⟨g, 3, none⟩ (by have := HGT.out; simp; omega) (.int .i64 p1)).other ⟨g, 4, none⟩ (by have := HGT.out; simp; omega) (.int .i64 p2))
    replace HB := Aside0.mk ((HB.out.setCell (p := ⟨g, 3, none⟩) (by have := HGT.out; simp; omega) (.int .i64 p1)).setCell (p := ⟨g, 4, none⟩) (by have := HGT.out; simp; omega) (.int .i64 p2))
    replace HN := Aside0.mk ((HN.out.set 3 (.int .i64 p1)).set 4 (.int .i64 p2))
    simp only [List.setIfInBounds_toArray, List.set_cons_zero, List.set_cons_succ] at HN
    generalize (w8.setCell ⟨g, 3, none⟩ (.int .i64 p1)).setCell ⟨g, 4, none⟩ (.int .i64 p2) = w9 at HN HR HB ⊢
    by_cases h4 : p4 = 0
    case neg =>
      as_aux_lemma =>
      have hr : (t1, t2, t3, t4, t5, t6) = flow_bad p4 := by
        have := HE.out; rw [if_pos h4] at this; exact (Option.some.inj this).symm
      simp only [flow_bad, Prod.mk.injEq] at hr
      obtain ⟨rfl, rfl, rfl, rfl, rfl, rfl⟩ := hr
      have d1 : (t6 != 0) = true := bne_iff_ne.mpr h4
      clear h4 HE HPP
      have f0 := HR.out.frees
      have f1 := HR.out.cells
      go_wp2
      have HR1 := Aside0.mk (((((HR.out.set 0 (.int .i64 0)).set 1 (.string ⟨#[]⟩)).set 2 (.string ⟨#[]⟩)).set 3 (.int .i64 0)).set 4 (.int .i64 0))
      simp only [List.setIfInBounds_toArray, List.set_cons_zero, List.set_cons_succ] at HR1
      refine bodyPost_ret (results_cell_tmp rfl _ _ k _ _ rfl HR1.out Tryd.underlying88 rfl (by kernel_rfl)) rfl ?_
      exact ⟨rfl, by rw [HK.out]; exact ((((HB.out.setCell (p := ⟨k, 0, none⟩) (Nat.le_refl _) _).setCell (p := ⟨k, 1, none⟩) (Nat.le_refl _) _).setCell (p := ⟨k, 2, none⟩) (Nat.le_refl _) _).setCell (p := ⟨k, 3, none⟩) (Nat.le_refl _) _).setCell (p := ⟨k, 4, none⟩) (Nat.le_refl _) _⟩
    subst h4
    have hE : ((sum_Pseudo.f r8 r9 6 r11.size).bind fun ps => (sum_Right.f [ps, r11]).bind fun r => if (if (6 : Int) = 17 ∧ p3 = 0 then true else r) = true then some (6, r8, r9, p1, p2, 0) else some (flow_bad 5)) = some (t1, t2, t3, t4, t5, t6) := by have := HE.out; rw [if_neg (by decide)] at this; exact this
    obtain ⟨ps, hps, hE⟩ := Option.bind_eq_some_iff.1 hE
    obtain ⟨rt, hrt, hE⟩ := Option.bind_eq_some_iff.1 hE
    have HPS := Aside0.mk hps
    have HRT := Aside0.mk hrt
    clear HE hps hrt HPP
    have HE := Aside0.mk hE
    clear hE
    have n1 := HN.out.cells
    go_wp2_with fail
    refine (sum_Pseudo.calls r8 r9 6 (r11.size : Int) ps _ HPS.out).mono ?_
    rintro e w10 ⟨rfl, hb⟩
    replace HB := Aside0.mk (HB.out.trans (hb.mono (by have := HB.out.size; have := HK.out; omega)))
    replace HR := Aside0.mk (HR.out.below hb HR.out.lt)
    replace HN := Aside0.mk (HN.out.below hb HN.out.lt)
    clear hb n1
    go_wp2_with fail
    refine (sum_Right.calls _ _ [ps, r11] rt _ (C_two _ _ _ _) (by simp) HRT.out).mono ?_
    rintro e w11 ⟨rfl, hb⟩
    replace HR := Aside0.mk ((HR.out.alloc _).below hb (HR.out.alloc _).lt)
    replace HN := Aside0.mk ((HN.out.alloc _).below hb (HN.out.alloc _).lt)
    replace HB := Aside0.mk ((HB.out.alloc (by have := HB.out.size; have := HK.out; omega) _).trans (hb.mono (by have := HB.out.size; have := HK.out; simp; omega)))
    clear hb HRT HPS
    cases rt with
    | true =>
      as_aux_lemma =>
      have hr : (t1, t2, t3, t4, t5, t6) = (6, r8, r9, p1, p2, 0) := by
        have := HE.out; replace this := ite_in_no (fun h => absurd h.1 (by decide)) this; rw [if_pos rfl] at this; exact (Option.some.inj this).symm
      simp only [Prod.mk.injEq] at hr
      obtain ⟨rfl, rfl, rfl, rfl, rfl, rfl⟩ := hr
      have n1 := HN.out.cells
      have f0 := HR.out.frees
      have f1 := HR.out.cells
      go_wp2
      have HR1 := Aside0.mk (((((HR.out.set 0 (.int .i64 6)).set 1 (.string t2)).set 2 (.string t3)).set 3 (.int .i64 t4)).set 4 (.int .i64 t5))
      simp only [List.setIfInBounds_toArray, List.set_cons_zero, List.set_cons_succ] at HR1
      refine bodyPost_ret (results_cell_tmp rfl _ _ k _ _ rfl HR1.out Tryd.underlying88 rfl (by kernel_rfl)) rfl ?_
      exact ⟨rfl, by rw [HK.out]; exact ((((HB.out.setCell (p := ⟨k, 0, none⟩) (Nat.le_refl _) _).setCell (p := ⟨k, 1, none⟩) (Nat.le_refl _) _).setCell (p := ⟨k, 2, none⟩) (Nat.le_refl _) _).setCell (p := ⟨k, 3, none⟩) (Nat.le_refl _) _).setCell (p := ⟨k, 4, none⟩) (Nat.le_refl _) _⟩
    | false =>
      as_aux_lemma =>
      have hr : (t1, t2, t3, t4, t5, t6) = flow_bad 5 := by
        have := HE.out; replace this := ite_in_no (fun h => absurd h.1 (by decide)) this; rw [if_neg (by decide)] at this; exact (Option.some.inj this).symm
      simp only [flow_bad, Prod.mk.injEq] at hr
      obtain ⟨rfl, rfl, rfl, rfl, rfl, rfl⟩ := hr
      have n1 := HN.out.cells
      have f0 := HR.out.frees
      have f1 := HR.out.cells
      go_wp2
      have HR1 := Aside0.mk (((((HR.out.set 0 (.int .i64 0)).set 1 (.string ⟨#[]⟩)).set 2 (.string ⟨#[]⟩)).set 3 (.int .i64 0)).set 4 (.int .i64 0))
      simp only [List.setIfInBounds_toArray, List.set_cons_zero, List.set_cons_succ] at HR1
      refine bodyPost_ret (results_cell_tmp rfl _ _ k _ _ rfl HR1.out Tryd.underlying88 rfl (by kernel_rfl)) rfl ?_
      exact ⟨rfl, by rw [HK.out]; exact ((((HB.out.setCell (p := ⟨k, 0, none⟩) (Nat.le_refl _) _).setCell (p := ⟨k, 1, none⟩) (Nat.le_refl _) _).setCell (p := ⟨k, 2, none⟩) (Nat.le_refl _) _).setCell (p := ⟨k, 3, none⟩) (Nat.le_refl _) _).setCell (p := ⟨k, 4, none⟩) (Nat.le_refl _) _⟩
  · as_aux_lemma =>
    have hE : ((flow_ports.f 17 r11).bind fun q => if q.2.2.2 ≠ 0 then some (flow_bad q.2.2.2) else (sum_Pseudo.f r8 r9 17 r11.size).bind fun ps => (sum_Right.f [ps, r11]).bind fun r => if (if q.2.2.1 = 0 then true else r) = true then some (17, r8, r9, q.1, q.2.1, 0) else some (flow_bad 5)) = some (t1, t2, t3, t4, t5, t6) := by
      have := HE.out; unfold flow_fin at this; rw [HP.out, if_neg (by decide), if_neg HQ.out] at this; simpa only [eq_self, true_and] using this
    obtain ⟨⟨p1, p2, p3, p4⟩, hp1, hE⟩ := Option.bind_eq_some_iff.1 hE
    have HPP := Aside0.mk hp1
    replace hE : (if p4 ≠ 0 then some (flow_bad p4) else (sum_Pseudo.f r8 r9 17 r11.size).bind fun ps => (sum_Right.f [ps, r11]).bind fun r => if (if p3 = 0 then true else r) = true then some (17, r8, r9, p1, p2, 0) else some (flow_bad 5)) = some (t1, t2, t3, t4, t5, t6) := hE
    clear HE hp1 HQ
    have HE := Aside0.mk hE
    clear hE
    have n1 := HN.out.cells
    go_wp2_with fail
    refine (flow_ports.calls 17 r11 p1 p2 p3 p4 _ HPP.out).mono ?_
    rintro e w8 ⟨rfl, hb⟩
    replace HB := Aside0.mk (HB.out.trans (hb.mono (by have := HB.out.size; have := HK.out; omega)))
    replace HR := Aside0.mk (HR.out.below hb HR.out.lt)
    replace HN := Aside0.mk (HN.out.below hb HN.out.lt)
    clear hb n1
    have n0 := HN.out.frees
    have n1 := HN.out.cells
    go_upto_region 12 with (fail)
    clear n0 n1
    replace HR := Aside0.mk ((HR.out.other ⟨g, 3, none⟩ (by have := HGT.out; simp; omega) (.int .i64 p1)).other ⟨g, 4, none⟩ (by have := HGT.out; simp; omega) (.int .i64 p2))
    replace HB := Aside0.mk ((HB.out.setCell (p := ⟨g, 3, none⟩) (by have := HGT.out; simp; omega) (.int .i64 p1)).setCell (p := ⟨g, 4, none⟩) (by have := HGT.out; simp; omega) (.int .i64 p2))
    replace HN := Aside0.mk ((HN.out.set 3 (.int .i64 p1)).set 4 (.int .i64 p2))
    simp only [List.setIfInBounds_toArray, List.set_cons_zero, List.set_cons_succ] at HN
    generalize (w8.setCell ⟨g, 3, none⟩ (.int .i64 p1)).setCell ⟨g, 4, none⟩ (.int .i64 p2) = w9 at HN HR HB ⊢
    by_cases h4 : p4 = 0
    case neg =>
      as_aux_lemma =>
      have hr : (t1, t2, t3, t4, t5, t6) = flow_bad p4 := by
        have := HE.out; rw [if_pos h4] at this; exact (Option.some.inj this).symm
      simp only [flow_bad, Prod.mk.injEq] at hr
      obtain ⟨rfl, rfl, rfl, rfl, rfl, rfl⟩ := hr
      have d1 : (t6 != 0) = true := bne_iff_ne.mpr h4
      clear h4 HE HPP
      have f0 := HR.out.frees
      have f1 := HR.out.cells
      go_wp2
      have HR1 := Aside0.mk (((((HR.out.set 0 (.int .i64 0)).set 1 (.string ⟨#[]⟩)).set 2 (.string ⟨#[]⟩)).set 3 (.int .i64 0)).set 4 (.int .i64 0))
      simp only [List.setIfInBounds_toArray, List.set_cons_zero, List.set_cons_succ] at HR1
      refine bodyPost_ret (results_cell_tmp rfl _ _ k _ _ rfl HR1.out Tryd.underlying88 rfl (by kernel_rfl)) rfl ?_
      exact ⟨rfl, by rw [HK.out]; exact ((((HB.out.setCell (p := ⟨k, 0, none⟩) (Nat.le_refl _) _).setCell (p := ⟨k, 1, none⟩) (Nat.le_refl _) _).setCell (p := ⟨k, 2, none⟩) (Nat.le_refl _) _).setCell (p := ⟨k, 3, none⟩) (Nat.le_refl _) _).setCell (p := ⟨k, 4, none⟩) (Nat.le_refl _) _⟩
    subst h4
    have hE : ((sum_Pseudo.f r8 r9 17 r11.size).bind fun ps => (sum_Right.f [ps, r11]).bind fun r => if (if p3 = 0 then true else r) = true then some (17, r8, r9, p1, p2, 0) else some (flow_bad 5)) = some (t1, t2, t3, t4, t5, t6) := by have := HE.out; rw [if_neg (by decide)] at this; exact this
    obtain ⟨ps, hps, hE⟩ := Option.bind_eq_some_iff.1 hE
    obtain ⟨rt, hrt, hE⟩ := Option.bind_eq_some_iff.1 hE
    have HPS := Aside0.mk hps
    have HRT := Aside0.mk hrt
    clear HE hps hrt HPP
    have HE := Aside0.mk hE
    clear hE
    have n1 := HN.out.cells
    go_wp2_with fail
    refine (sum_Pseudo.calls r8 r9 17 (r11.size : Int) ps _ HPS.out).mono ?_
    rintro e w10 ⟨rfl, hb⟩
    replace HB := Aside0.mk (HB.out.trans (hb.mono (by have := HB.out.size; have := HK.out; omega)))
    replace HR := Aside0.mk (HR.out.below hb HR.out.lt)
    replace HN := Aside0.mk (HN.out.below hb HN.out.lt)
    clear hb n1
    go_wp2_with fail
    refine (sum_Right.calls _ _ [ps, r11] rt _ (C_two _ _ _ _) (by simp) HRT.out).mono ?_
    rintro e w11 ⟨rfl, hb⟩
    replace HR := Aside0.mk ((HR.out.alloc _).below hb (HR.out.alloc _).lt)
    replace HN := Aside0.mk ((HN.out.alloc _).below hb (HN.out.alloc _).lt)
    replace HB := Aside0.mk ((HB.out.alloc (by have := HB.out.size; have := HK.out; omega) _).trans (hb.mono (by have := HB.out.size; have := HK.out; simp; omega)))
    clear hb HRT HPS
    by_cases h3 : p3 = 0
    · subst h3
      have n1 := HN.out.cells
      have m4 := four_m_bare r1 r2 r3 r4 17 r6 r7 r8 r9 r10
      go_wp2_with fail
      refine (four_bare r1 r2 r3 r4 17 r6 r7 r8 r9 r10 _).mono ?_
      rintro e w12 ⟨rfl, hb⟩
      replace HB := Aside0.mk (HB.out.trans (hb.mono (by have := HB.out.size; have := HK.out; omega)))
      replace HR := Aside0.mk (HR.out.below hb HR.out.lt)
      replace HN := Aside0.mk (HN.out.below hb HN.out.lt)
      clear hb m4 n1
      have hr : (t1, t2, t3, t4, t5, t6) = (17, r8, r9, p1, p2, 0) := by
        have := HE.out; replace this := ite_in_yes (by first | trivial | rfl) this; rw [if_pos rfl] at this; exact (Option.some.inj this).symm
      simp only [Prod.mk.injEq] at hr
      obtain ⟨rfl, rfl, rfl, rfl, rfl, rfl⟩ := hr
      have n1 := HN.out.cells
      have f0 := HR.out.frees
      have f1 := HR.out.cells
      go_wp2
      have HR1 := Aside0.mk (((((HR.out.set 0 (.int .i64 17)).set 1 (.string t2)).set 2 (.string t3)).set 3 (.int .i64 t4)).set 4 (.int .i64 t5))
      simp only [List.setIfInBounds_toArray, List.set_cons_zero, List.set_cons_succ] at HR1
      refine bodyPost_ret (results_cell_tmp rfl _ _ k _ _ rfl HR1.out Tryd.underlying88 rfl (by kernel_rfl)) rfl ?_
      exact ⟨rfl, by rw [HK.out]; exact ((((HB.out.setCell (p := ⟨k, 0, none⟩) (Nat.le_refl _) _).setCell (p := ⟨k, 1, none⟩) (Nat.le_refl _) _).setCell (p := ⟨k, 2, none⟩) (Nat.le_refl _) _).setCell (p := ⟨k, 3, none⟩) (Nat.le_refl _) _).setCell (p := ⟨k, 4, none⟩) (Nat.le_refl _) _⟩
    · have e3 : (p3 == 0) = false := beq_eq_false_iff_ne.mpr h3
      have H3 := Aside0.mk h3
      clear h3
      cases rt with
      | true =>
        as_aux_lemma =>
        have hr : (t1, t2, t3, t4, t5, t6) = (17, r8, r9, p1, p2, 0) := by
          have := HE.out; replace this := ite_in_no H3.out this; rw [if_pos rfl] at this; exact (Option.some.inj this).symm
        simp only [Prod.mk.injEq] at hr
        obtain ⟨rfl, rfl, rfl, rfl, rfl, rfl⟩ := hr
        have n1 := HN.out.cells
        have f0 := HR.out.frees
        have f1 := HR.out.cells
        go_wp2
        have HR1 := Aside0.mk (((((HR.out.set 0 (.int .i64 17)).set 1 (.string t2)).set 2 (.string t3)).set 3 (.int .i64 t4)).set 4 (.int .i64 t5))
        simp only [List.setIfInBounds_toArray, List.set_cons_zero, List.set_cons_succ] at HR1
        refine bodyPost_ret (results_cell_tmp rfl _ _ k _ _ rfl HR1.out Tryd.underlying88 rfl (by kernel_rfl)) rfl ?_
        exact ⟨rfl, by rw [HK.out]; exact ((((HB.out.setCell (p := ⟨k, 0, none⟩) (Nat.le_refl _) _).setCell (p := ⟨k, 1, none⟩) (Nat.le_refl _) _).setCell (p := ⟨k, 2, none⟩) (Nat.le_refl _) _).setCell (p := ⟨k, 3, none⟩) (Nat.le_refl _) _).setCell (p := ⟨k, 4, none⟩) (Nat.le_refl _) _⟩
      | false =>
        as_aux_lemma =>
        have hr : (t1, t2, t3, t4, t5, t6) = flow_bad 5 := by
          have := HE.out; replace this := ite_in_no H3.out this; rw [if_neg (by decide)] at this; exact (Option.some.inj this).symm
        simp only [flow_bad, Prod.mk.injEq] at hr
        obtain ⟨rfl, rfl, rfl, rfl, rfl, rfl⟩ := hr
        have n1 := HN.out.cells
        have f0 := HR.out.frees
        have f1 := HR.out.cells
        go_wp2
        have HR1 := Aside0.mk (((((HR.out.set 0 (.int .i64 0)).set 1 (.string ⟨#[]⟩)).set 2 (.string ⟨#[]⟩)).set 3 (.int .i64 0)).set 4 (.int .i64 0))
        simp only [List.setIfInBounds_toArray, List.set_cons_zero, List.set_cons_succ] at HR1
        refine bodyPost_ret (results_cell_tmp rfl _ _ k _ _ rfl HR1.out Tryd.underlying88 rfl (by kernel_rfl)) rfl ?_
        exact ⟨rfl, by rw [HK.out]; exact ((((HB.out.setCell (p := ⟨k, 0, none⟩) (Nat.le_refl _) _).setCell (p := ⟨k, 1, none⟩) (Nat.le_refl _) _).setCell (p := ⟨k, 2, none⟩) (Nat.le_refl _) _).setCell (p := ⟨k, 3, none⟩) (Nat.le_refl _) _).setCell (p := ⟨k, 4, none⟩) (Nat.le_refl _) _⟩
set_option maxHeartbeats 8000000 in
set_option maxRecDepth 100000 in
theorem flow_six (s : ByteArray) (r1 r2 r3 r4 : Int) (r5 r6 r7 : ByteArray) (w : World) (t1 : Int) (t2 t3 : ByteArray) (t4 t5 t6 : Int)
    (ho : Calls Tryd.prog 95 #[.string s] (w.alloc (.cells #[.int .i64 0, .string ⟨#[]⟩, .string ⟨#[]⟩, .int .i64 0, .int .i64 0] 88)) fun e w' => e = .returned (.tuple #[.iface 197 (.agg (cs6 r1 r2 r3 r4 r5 r6)), .string r7, .int .i64 0]) ∧ Below (w.heap.size + 1) (w.alloc (.cells #[.int .i64 0, .string ⟨#[]⟩, .string ⟨#[]⟩, .int .i64 0, .int .i64 0] 88)) w')
    (hf : flow_fin r3 r5 r6 r7 false false = some (t1, t2, t3, t4, t5, t6)) :
    Calls Tryd.prog 51 #[.string s] w fun e w' => e = .returned (.tuple #[.agg #[.int .i64 t1, .string t2, .string t3, .int .i64 t4, .int .i64 t5], .int .i64 t6]) ∧ Below w.heap.size w w' := by
  have HO := Aside0.mk ho
  have hu := Tryd.underlying88
  obtain ⟨k, hk⟩ : ∃ k, w.heap.size = k := ⟨_, rfl⟩
  have HK := Aside0.mk (show w.heap.size = k from hk)
  have HB := Aside0.mk ((Below.refl w.heap.size w).alloc (Nat.le_refl _) (.cells #[.int .i64 0, .string ⟨#[]⟩, .string ⟨#[]⟩, .int .i64 0, .int .i64 0] 88))
  have HR := Aside0.mk (Blk.new w 88 #[.int .i64 0, .string ⟨#[]⟩, .string ⟨#[]⟩, .int .i64 0, .int .i64 0])
  have HE := Aside0.mk hf
  clear ho hf
  go_enter Tryd.func51, Tryd.ntmps51
  go_wp2_with fail
  refine HO.out.mono ?_
  rintro e w2 ⟨rfl, hb⟩
  replace HB := Aside0.mk (HB.out.trans (hb.mono (by omega)))
  replace HR := Aside0.mk (HR.out.below hb (by omega))
  clear HO hb
  rw [hk] at HB HR
  clear hk
  have m1 := six_m_proto r1 r2 r3 r4 r5 r6
  go_wp2_with fail
  refine (six_proto r1 r2 r3 r4 r5 r6 _).mono ?_
  rintro e w3 ⟨rfl, hb⟩
  replace HB := Aside0.mk (HB.out.trans (hb.mono (by have := HB.out.size; have := HK.out; omega)))
  replace HR := Aside0.mk (HR.out.below hb HR.out.lt)
  clear hb m1
  go_upto_region 5 with (fail)
  have HN := Aside0.mk (Blk.new w3 88 #[.int .i64 r3, .string ⟨#[]⟩, .string ⟨#[]⟩, .int .i64 0, .int .i64 0])
  have HGT := Aside0.mk (show k < w3.heap.size from HR.out.lt)
  replace HR := Aside0.mk (HR.out.alloc (.cells #[.int .i64 r3, .string ⟨#[]⟩, .string ⟨#[]⟩, .int .i64 0, .int .i64 0] 88))
  replace HB := Aside0.mk (HB.out.alloc (by have := HGT.out; omega) (.cells #[.int .i64 r3, .string ⟨#[]⟩, .string ⟨#[]⟩, .int .i64 0, .int .i64 0] 88))
  generalize w3.heap.size = g at HN HGT ⊢
  generalize w3.alloc (.cells #[.int .i64 r3, .string ⟨#[]⟩, .string ⟨#[]⟩, .int .i64 0, .int .i64 0] 88) = w4 at HN HR HB ⊢
  have m2 := six_m_ends r1 r2 r3 r4 r5 r6
  go_wp2_with fail
  refine (six_ends r1 r2 r3 r4 r5 r6 _).mono ?_
  rintro e w5 ⟨rfl, hb⟩
  replace HB := Aside0.mk (HB.out.trans (hb.mono (by have := HB.out.size; have := HK.out; omega)))
  replace HR := Aside0.mk (HR.out.below hb HR.out.lt)
  replace HN := Aside0.mk (HN.out.below hb HN.out.lt)
  clear hb m2
  have n0 := HN.out.frees
  have n1 := HN.out.cells
  go_upto_region 6 with (fail)
  clear n0 n1
  replace HR := Aside0.mk ((HR.out.other ⟨g, 1, none⟩ (by have := HGT.out; simp; omega) (.string r5)).other ⟨g, 2, none⟩ (by have := HGT.out; simp; omega) (.string r6))
  replace HB := Aside0.mk ((HB.out.setCell (p := ⟨g, 1, none⟩) (by have := HGT.out; simp; omega) (.string r5)).setCell (p := ⟨g, 2, none⟩) (by have := HGT.out; simp; omega) (.string r6))
  replace HN := Aside0.mk ((HN.out.set 1 (.string r5)).set 2 (.string r6))
  simp only [List.setIfInBounds_toArray, List.set_cons_zero, List.set_cons_succ] at HN
  generalize (w5.setCell ⟨g, 1, none⟩ (.string r5)).setCell ⟨g, 2, none⟩ (.string r6) = w6 at HN HR HB ⊢
  have m3 := six_m_piece r1 r2 r3 r4 r5 r6
  go_wp2_with fail
  refine (six_piece r1 r2 r3 r4 r5 r6 _).mono ?_
  rintro e w7 ⟨rfl, hb⟩
  replace HB := Aside0.mk (HB.out.trans (hb.mono (by have := HB.out.size; have := HK.out; omega)))
  replace HR := Aside0.mk (HR.out.below hb HR.out.lt)
  replace HN := Aside0.mk (HN.out.below hb HN.out.lt)
  clear hb m3
  have HP := Aside0.mk (show false = false from rfl)
  by_cases h6 : r3 ≠ 6 ∧ r3 ≠ 17
  · as_aux_lemma =>
    have hr : (t1, t2, t3, t4, t5, t6) = flow_bad 6 := by
      have := HE.out; unfold flow_fin at this; rw [if_neg (by decide), if_pos h6] at this; exact (Option.some.inj this).symm
    simp only [flow_bad, Prod.mk.injEq] at hr
    obtain ⟨rfl, rfl, rfl, rfl, rfl, rfl⟩ := hr
    have d1 : (r3 != 6) = true := bne_iff_ne.mpr h6.1
    have d2 : (r3 != 17) = true := bne_iff_ne.mpr h6.2
    clear h6
    have n1 := HN.out.cells
    have f0 := HR.out.frees
    have f1 := HR.out.cells
    go_wp2
    have HR1 := Aside0.mk (((((HR.out.set 0 (.int .i64 0)).set 1 (.string ⟨#[]⟩)).set 2 (.string ⟨#[]⟩)).set 3 (.int .i64 0)).set 4 (.int .i64 0))
    simp only [List.setIfInBounds_toArray, List.set_cons_zero, List.set_cons_succ] at HR1
    refine bodyPost_ret (results_cell_tmp rfl _ _ k _ _ rfl HR1.out Tryd.underlying88 rfl (by kernel_rfl)) rfl ?_
    exact ⟨rfl, by rw [HK.out]; exact ((((HB.out.setCell (p := ⟨k, 0, none⟩) (Nat.le_refl _) _).setCell (p := ⟨k, 1, none⟩) (Nat.le_refl _) _).setCell (p := ⟨k, 2, none⟩) (Nat.le_refl _) _).setCell (p := ⟨k, 3, none⟩) (Nat.le_refl _) _).setCell (p := ⟨k, 4, none⟩) (Nat.le_refl _) _⟩
  have hq : r3 = 6 ∨ r3 = 17 := by
    by_cases e6 : r3 = 6
    · left; exact e6
    · right; exact Classical.not_not.1 fun h => h6 ⟨e6, h⟩
  have HQ := Aside0.mk h6
  clear h6
  rcases hq with rfl | rfl
  · as_aux_lemma =>
    have hE : ((flow_ports.f 6 r7).bind fun q => if q.2.2.2 ≠ 0 then some (flow_bad q.2.2.2) else (sum_Pseudo.f r5 r6 6 r7.size).bind fun ps => (sum_Right.f [ps, r7]).bind fun r => if (if (6 : Int) = 17 ∧ q.2.2.1 = 0 then false else r) = true then some (6, r5, r6, q.1, q.2.1, 0) else some (flow_bad 5)) = some (t1, t2, t3, t4, t5, t6) := by
      have := HE.out; unfold flow_fin at this; rw [if_neg (by decide), if_neg HQ.out] at this; exact this
    obtain ⟨⟨p1, p2, p3, p4⟩, hp1, hE⟩ := Option.bind_eq_some_iff.1 hE
    have HPP := Aside0.mk hp1
    replace hE : (if p4 ≠ 0 then some (flow_bad p4) else (sum_Pseudo.f r5 r6 6 r7.size).bind fun ps => (sum_Right.f [ps, r7]).bind fun r => if (if (6 : Int) = 17 ∧ p3 = 0 then false else r) = true then some (6, r5, r6, p1, p2, 0) else some (flow_bad 5)) = some (t1, t2, t3, t4, t5, t6) := hE
    clear HE hp1 HQ
    have HE := Aside0.mk hE
    clear hE
    have n1 := HN.out.cells
    go_wp2_with fail
    refine (flow_ports.calls 6 r7 p1 p2 p3 p4 _ HPP.out).mono ?_
    rintro e w8 ⟨rfl, hb⟩
    replace HB := Aside0.mk (HB.out.trans (hb.mono (by have := HB.out.size; have := HK.out; omega)))
    replace HR := Aside0.mk (HR.out.below hb HR.out.lt)
    replace HN := Aside0.mk (HN.out.below hb HN.out.lt)
    clear hb n1
    have n0 := HN.out.frees
    have n1 := HN.out.cells
    go_upto_region 12 with (fail)
    clear n0 n1
    replace HR := Aside0.mk ((HR.out.other ⟨g, 3, none⟩ (by have := HGT.out; simp; omega) (.int .i64 p1)).other ⟨g, 4, none⟩ (by have := HGT.out; simp; omega) (.int .i64 p2))
    replace HB := Aside0.mk ((HB.out.setCell (p := ⟨g, 3, none⟩) (by have := HGT.out; simp; omega) (.int .i64 p1)).setCell (p := ⟨g, 4, none⟩) (by have := HGT.out; simp; omega) (.int .i64 p2))
    replace HN := Aside0.mk ((HN.out.set 3 (.int .i64 p1)).set 4 (.int .i64 p2))
    simp only [List.setIfInBounds_toArray, List.set_cons_zero, List.set_cons_succ] at HN
    generalize (w8.setCell ⟨g, 3, none⟩ (.int .i64 p1)).setCell ⟨g, 4, none⟩ (.int .i64 p2) = w9 at HN HR HB ⊢
    by_cases h4 : p4 = 0
    case neg =>
      as_aux_lemma =>
      have hr : (t1, t2, t3, t4, t5, t6) = flow_bad p4 := by
        have := HE.out; rw [if_pos h4] at this; exact (Option.some.inj this).symm
      simp only [flow_bad, Prod.mk.injEq] at hr
      obtain ⟨rfl, rfl, rfl, rfl, rfl, rfl⟩ := hr
      have d1 : (t6 != 0) = true := bne_iff_ne.mpr h4
      clear h4 HE HPP
      have f0 := HR.out.frees
      have f1 := HR.out.cells
      go_wp2
      have HR1 := Aside0.mk (((((HR.out.set 0 (.int .i64 0)).set 1 (.string ⟨#[]⟩)).set 2 (.string ⟨#[]⟩)).set 3 (.int .i64 0)).set 4 (.int .i64 0))
      simp only [List.setIfInBounds_toArray, List.set_cons_zero, List.set_cons_succ] at HR1
      refine bodyPost_ret (results_cell_tmp rfl _ _ k _ _ rfl HR1.out Tryd.underlying88 rfl (by kernel_rfl)) rfl ?_
      exact ⟨rfl, by rw [HK.out]; exact ((((HB.out.setCell (p := ⟨k, 0, none⟩) (Nat.le_refl _) _).setCell (p := ⟨k, 1, none⟩) (Nat.le_refl _) _).setCell (p := ⟨k, 2, none⟩) (Nat.le_refl _) _).setCell (p := ⟨k, 3, none⟩) (Nat.le_refl _) _).setCell (p := ⟨k, 4, none⟩) (Nat.le_refl _) _⟩
    subst h4
    have hE : ((sum_Pseudo.f r5 r6 6 r7.size).bind fun ps => (sum_Right.f [ps, r7]).bind fun r => if (if (6 : Int) = 17 ∧ p3 = 0 then false else r) = true then some (6, r5, r6, p1, p2, 0) else some (flow_bad 5)) = some (t1, t2, t3, t4, t5, t6) := by have := HE.out; rw [if_neg (by decide)] at this; exact this
    obtain ⟨ps, hps, hE⟩ := Option.bind_eq_some_iff.1 hE
    obtain ⟨rt, hrt, hE⟩ := Option.bind_eq_some_iff.1 hE
    have HPS := Aside0.mk hps
    have HRT := Aside0.mk hrt
    clear HE hps hrt HPP
    have HE := Aside0.mk hE
    clear hE
    have n1 := HN.out.cells
    go_wp2_with fail
    refine (sum_Pseudo.calls r5 r6 6 (r7.size : Int) ps _ HPS.out).mono ?_
    rintro e w10 ⟨rfl, hb⟩
    replace HB := Aside0.mk (HB.out.trans (hb.mono (by have := HB.out.size; have := HK.out; omega)))
    replace HR := Aside0.mk (HR.out.below hb HR.out.lt)
    replace HN := Aside0.mk (HN.out.below hb HN.out.lt)
    clear hb n1
    go_wp2_with fail
    refine (sum_Right.calls _ _ [ps, r7] rt _ (C_two _ _ _ _) (by simp) HRT.out).mono ?_
    rintro e w11 ⟨rfl, hb⟩
    replace HR := Aside0.mk ((HR.out.alloc _).below hb (HR.out.alloc _).lt)
    replace HN := Aside0.mk ((HN.out.alloc _).below hb (HN.out.alloc _).lt)
    replace HB := Aside0.mk ((HB.out.alloc (by have := HB.out.size; have := HK.out; omega) _).trans (hb.mono (by have := HB.out.size; have := HK.out; simp; omega)))
    clear hb HRT HPS
    cases rt with
    | true =>
      as_aux_lemma =>
      have hr : (t1, t2, t3, t4, t5, t6) = (6, r5, r6, p1, p2, 0) := by
        have := HE.out; replace this := ite_in_no (fun h => absurd h.1 (by decide)) this; rw [if_pos rfl] at this; exact (Option.some.inj this).symm
      simp only [Prod.mk.injEq] at hr
      obtain ⟨rfl, rfl, rfl, rfl, rfl, rfl⟩ := hr
      have n1 := HN.out.cells
      have f0 := HR.out.frees
      have f1 := HR.out.cells
      go_wp2
      have HR1 := Aside0.mk (((((HR.out.set 0 (.int .i64 6)).set 1 (.string t2)).set 2 (.string t3)).set 3 (.int .i64 t4)).set 4 (.int .i64 t5))
      simp only [List.setIfInBounds_toArray, List.set_cons_zero, List.set_cons_succ] at HR1
      refine bodyPost_ret (results_cell_tmp rfl _ _ k _ _ rfl HR1.out Tryd.underlying88 rfl (by kernel_rfl)) rfl ?_
      exact ⟨rfl, by rw [HK.out]; exact ((((HB.out.setCell (p := ⟨k, 0, none⟩) (Nat.le_refl _) _).setCell (p := ⟨k, 1, none⟩) (Nat.le_refl _) _).setCell (p := ⟨k, 2, none⟩) (Nat.le_refl _) _).setCell (p := ⟨k, 3, none⟩) (Nat.le_refl _) _).setCell (p := ⟨k, 4, none⟩) (Nat.le_refl _) _⟩
    | false =>
      as_aux_lemma =>
      have hr : (t1, t2, t3, t4, t5, t6) = flow_bad 5 := by
        have := HE.out; replace this := ite_in_no (fun h => absurd h.1 (by decide)) this; rw [if_neg (by decide)] at this; exact (Option.some.inj this).symm
      simp only [flow_bad, Prod.mk.injEq] at hr
      obtain ⟨rfl, rfl, rfl, rfl, rfl, rfl⟩ := hr
      have n1 := HN.out.cells
      have f0 := HR.out.frees
      have f1 := HR.out.cells
      go_wp2
      have HR1 := Aside0.mk (((((HR.out.set 0 (.int .i64 0)).set 1 (.string ⟨#[]⟩)).set 2 (.string ⟨#[]⟩)).set 3 (.int .i64 0)).set 4 (.int .i64 0))
      simp only [List.setIfInBounds_toArray, List.set_cons_zero, List.set_cons_succ] at HR1
      refine bodyPost_ret (results_cell_tmp rfl _ _ k _ _ rfl HR1.out Tryd.underlying88 rfl (by kernel_rfl)) rfl ?_
      exact ⟨rfl, by rw [HK.out]; exact ((((HB.out.setCell (p := ⟨k, 0, none⟩) (Nat.le_refl _) _).setCell (p := ⟨k, 1, none⟩) (Nat.le_refl _) _).setCell (p := ⟨k, 2, none⟩) (Nat.le_refl _) _).setCell (p := ⟨k, 3, none⟩) (Nat.le_refl _) _).setCell (p := ⟨k, 4, none⟩) (Nat.le_refl _) _⟩
  · as_aux_lemma =>
    have hE : ((flow_ports.f 17 r7).bind fun q => if q.2.2.2 ≠ 0 then some (flow_bad q.2.2.2) else (sum_Pseudo.f r5 r6 17 r7.size).bind fun ps => (sum_Right.f [ps, r7]).bind fun r => if (if q.2.2.1 = 0 then false else r) = true then some (17, r5, r6, q.1, q.2.1, 0) else some (flow_bad 5)) = some (t1, t2, t3, t4, t5, t6) := by
      have := HE.out; unfold flow_fin at this; rw [if_neg (by decide), if_neg HQ.out] at this; simpa only [eq_self, true_and] using this
    obtain ⟨⟨p1, p2, p3, p4⟩, hp1, hE⟩ := Option.bind_eq_some_iff.1 hE
    have HPP := Aside0.mk hp1
    replace hE : (if p4 ≠ 0 then some (flow_bad p4) else (sum_Pseudo.f r5 r6 17 r7.size).bind fun ps => (sum_Right.f [ps, r7]).bind fun r => if (if p3 = 0 then false else r) = true then some (17, r5, r6, p1, p2, 0) else some (flow_bad 5)) = some (t1, t2, t3, t4, t5, t6) := hE
    clear HE hp1 HQ
    have HE := Aside0.mk hE
    clear hE
    have n1 := HN.out.cells
    go_wp2_with fail
    refine (flow_ports.calls 17 r7 p1 p2 p3 p4 _ HPP.out).mono ?_
    rintro e w8 ⟨rfl, hb⟩
    replace HB := Aside0.mk (HB.out.trans (hb.mono (by have := HB.out.size; have := HK.out; omega)))
    replace HR := Aside0.mk (HR.out.below hb HR.out.lt)
    replace HN := Aside0.mk (HN.out.below hb HN.out.lt)
    clear hb n1
    have n0 := HN.out.frees
    have n1 := HN.out.cells
    go_upto_region 12 with (fail)
    clear n0 n1
    replace HR := Aside0.mk ((HR.out.other ⟨g, 3, none⟩ (by have := HGT.out; simp; omega) (.int .i64 p1)).other ⟨g, 4, none⟩ (by have := HGT.out; simp; omega) (.int .i64 p2))
    replace HB := Aside0.mk ((HB.out.setCell (p := ⟨g, 3, none⟩) (by have := HGT.out; simp; omega) (.int .i64 p1)).setCell (p := ⟨g, 4, none⟩) (by have := HGT.out; simp; omega) (.int .i64 p2))
    replace HN := Aside0.mk ((HN.out.set 3 (.int .i64 p1)).set 4 (.int .i64 p2))
    simp only [List.setIfInBounds_toArray, List.set_cons_zero, List.set_cons_succ] at HN
    generalize (w8.setCell ⟨g, 3, none⟩ (.int .i64 p1)).setCell ⟨g, 4, none⟩ (.int .i64 p2) = w9 at HN HR HB ⊢
    by_cases h4 : p4 = 0
    case neg =>
      as_aux_lemma =>
      have hr : (t1, t2, t3, t4, t5, t6) = flow_bad p4 := by
        have := HE.out; rw [if_pos h4] at this; exact (Option.some.inj this).symm
      simp only [flow_bad, Prod.mk.injEq] at hr
      obtain ⟨rfl, rfl, rfl, rfl, rfl, rfl⟩ := hr
      have d1 : (t6 != 0) = true := bne_iff_ne.mpr h4
      clear h4 HE HPP
      have f0 := HR.out.frees
      have f1 := HR.out.cells
      go_wp2
      have HR1 := Aside0.mk (((((HR.out.set 0 (.int .i64 0)).set 1 (.string ⟨#[]⟩)).set 2 (.string ⟨#[]⟩)).set 3 (.int .i64 0)).set 4 (.int .i64 0))
      simp only [List.setIfInBounds_toArray, List.set_cons_zero, List.set_cons_succ] at HR1
      refine bodyPost_ret (results_cell_tmp rfl _ _ k _ _ rfl HR1.out Tryd.underlying88 rfl (by kernel_rfl)) rfl ?_
      exact ⟨rfl, by rw [HK.out]; exact ((((HB.out.setCell (p := ⟨k, 0, none⟩) (Nat.le_refl _) _).setCell (p := ⟨k, 1, none⟩) (Nat.le_refl _) _).setCell (p := ⟨k, 2, none⟩) (Nat.le_refl _) _).setCell (p := ⟨k, 3, none⟩) (Nat.le_refl _) _).setCell (p := ⟨k, 4, none⟩) (Nat.le_refl _) _⟩
    subst h4
    have hE : ((sum_Pseudo.f r5 r6 17 r7.size).bind fun ps => (sum_Right.f [ps, r7]).bind fun r => if (if p3 = 0 then false else r) = true then some (17, r5, r6, p1, p2, 0) else some (flow_bad 5)) = some (t1, t2, t3, t4, t5, t6) := by have := HE.out; rw [if_neg (by decide)] at this; exact this
    obtain ⟨ps, hps, hE⟩ := Option.bind_eq_some_iff.1 hE
    obtain ⟨rt, hrt, hE⟩ := Option.bind_eq_some_iff.1 hE
    have HPS := Aside0.mk hps
    have HRT := Aside0.mk hrt
    clear HE hps hrt HPP
    have HE := Aside0.mk hE
    clear hE
    have n1 := HN.out.cells
    go_wp2_with fail
    refine (sum_Pseudo.calls r5 r6 17 (r7.size : Int) ps _ HPS.out).mono ?_
    rintro e w10 ⟨rfl, hb⟩
    replace HB := Aside0.mk (HB.out.trans (hb.mono (by have := HB.out.size; have := HK.out; omega)))
    replace HR := Aside0.mk (HR.out.below hb HR.out.lt)
    replace HN := Aside0.mk (HN.out.below hb HN.out.lt)
    clear hb n1
    go_wp2_with fail
    refine (sum_Right.calls _ _ [ps, r7] rt _ (C_two _ _ _ _) (by simp) HRT.out).mono ?_
    rintro e w11 ⟨rfl, hb⟩
    replace HR := Aside0.mk ((HR.out.alloc _).below hb (HR.out.alloc _).lt)
    replace HN := Aside0.mk ((HN.out.alloc _).below hb (HN.out.alloc _).lt)
    replace HB := Aside0.mk ((HB.out.alloc (by have := HB.out.size; have := HK.out; omega) _).trans (hb.mono (by have := HB.out.size; have := HK.out; simp; omega)))
    clear hb HRT HPS
    by_cases h3 : p3 = 0
    · subst h3
      have n1 := HN.out.cells
      have m4 := six_m_bare r1 r2 17 r4 r5 r6
      go_wp2_with fail
      refine (six_bare r1 r2 17 r4 r5 r6 _).mono ?_
      rintro e w12 ⟨rfl, hb⟩
      replace HB := Aside0.mk (HB.out.trans (hb.mono (by have := HB.out.size; have := HK.out; omega)))
      replace HR := Aside0.mk (HR.out.below hb HR.out.lt)
      replace HN := Aside0.mk (HN.out.below hb HN.out.lt)
      clear hb m4 n1
      have hr : (t1, t2, t3, t4, t5, t6) = flow_bad 5 := by
        have := HE.out; replace this := ite_in_yes (by first | trivial | rfl) this; rw [if_neg (by decide)] at this; exact (Option.some.inj this).symm
      simp only [flow_bad, Prod.mk.injEq] at hr
      obtain ⟨rfl, rfl, rfl, rfl, rfl, rfl⟩ := hr
      have n1 := HN.out.cells
      have f0 := HR.out.frees
      have f1 := HR.out.cells
      go_wp2
      have HR1 := Aside0.mk (((((HR.out.set 0 (.int .i64 0)).set 1 (.string ⟨#[]⟩)).set 2 (.string ⟨#[]⟩)).set 3 (.int .i64 0)).set 4 (.int .i64 0))
      simp only [List.setIfInBounds_toArray, List.set_cons_zero, List.set_cons_succ] at HR1
      refine bodyPost_ret (results_cell_tmp rfl _ _ k _ _ rfl HR1.out Tryd.underlying88 rfl (by kernel_rfl)) rfl ?_
      exact ⟨rfl, by rw [HK.out]; exact ((((HB.out.setCell (p := ⟨k, 0, none⟩) (Nat.le_refl _) _).setCell (p := ⟨k, 1, none⟩) (Nat.le_refl _) _).setCell (p := ⟨k, 2, none⟩) (Nat.le_refl _) _).setCell (p := ⟨k, 3, none⟩) (Nat.le_refl _) _).setCell (p := ⟨k, 4, none⟩) (Nat.le_refl _) _⟩
    · have e3 : (p3 == 0) = false := beq_eq_false_iff_ne.mpr h3
      have H3 := Aside0.mk h3
      clear h3
      cases rt with
      | true =>
        as_aux_lemma =>
        have hr : (t1, t2, t3, t4, t5, t6) = (17, r5, r6, p1, p2, 0) := by
          have := HE.out; replace this := ite_in_no H3.out this; rw [if_pos rfl] at this; exact (Option.some.inj this).symm
        simp only [Prod.mk.injEq] at hr
        obtain ⟨rfl, rfl, rfl, rfl, rfl, rfl⟩ := hr
        have n1 := HN.out.cells
        have f0 := HR.out.frees
        have f1 := HR.out.cells
        go_wp2
        have HR1 := Aside0.mk (((((HR.out.set 0 (.int .i64 17)).set 1 (.string t2)).set 2 (.string t3)).set 3 (.int .i64 t4)).set 4 (.int .i64 t5))
        simp only [List.setIfInBounds_toArray, List.set_cons_zero, List.set_cons_succ] at HR1
        refine bodyPost_ret (results_cell_tmp rfl _ _ k _ _ rfl HR1.out Tryd.underlying88 rfl (by kernel_rfl)) rfl ?_
        exact ⟨rfl, by rw [HK.out]; exact ((((HB.out.setCell (p := ⟨k, 0, none⟩) (Nat.le_refl _) _).setCell (p := ⟨k, 1, none⟩) (Nat.le_refl _) _).setCell (p := ⟨k, 2, none⟩) (Nat.le_refl _) _).setCell (p := ⟨k, 3, none⟩) (Nat.le_refl _) _).setCell (p := ⟨k, 4, none⟩) (Nat.le_refl _) _⟩
      | false =>
        as_aux_lemma =>
        have hr : (t1, t2, t3, t4, t5, t6) = flow_bad 5 := by
          have := HE.out; replace this := ite_in_no H3.out this; rw [if_neg (by decide)] at this; exact (Option.some.inj this).symm
        simp only [flow_bad, Prod.mk.injEq] at hr
        obtain ⟨rfl, rfl, rfl, rfl, rfl, rfl⟩ := hr
        have n1 := HN.out.cells
        have f0 := HR.out.frees
        have f1 := HR.out.cells
        go_wp2
        have HR1 := Aside0.mk (((((HR.out.set 0 (.int .i64 0)).set 1 (.string ⟨#[]⟩)).set 2 (.string ⟨#[]⟩)).set 3 (.int .i64 0)).set 4 (.int .i64 0))
        simp only [List.setIfInBounds_toArray, List.set_cons_zero, List.set_cons_succ] at HR1
        refine bodyPost_ret (results_cell_tmp rfl _ _ k _ _ rfl HR1.out Tryd.underlying88 rfl (by kernel_rfl)) rfl ?_
        exact ⟨rfl, by rw [HK.out]; exact ((((HB.out.setCell (p := ⟨k, 0, none⟩) (Nat.le_refl _) _).setCell (p := ⟨k, 1, none⟩) (Nat.le_refl _) _).setCell (p := ⟨k, 2, none⟩) (Nat.le_refl _) _).setCell (p := ⟨k, 3, none⟩) (Nat.le_refl _) _).setCell (p := ⟨k, 4, none⟩) (Nat.le_refl _) _⟩
set_option maxHeartbeats 4000000 in
set_option maxRecDepth 100000 in
theorem flow_err (s : ByteArray) (v : Value) (pl : ByteArray) (x : Int) (hx : x ≠ 0) (w : World)
    (ho : Calls Tryd.prog 95 #[.string s] (w.alloc (.cells #[.int .i64 0, .string ⟨#[]⟩, .string ⟨#[]⟩, .int .i64 0, .int .i64 0] 88)) fun e w' => e = .returned (.tuple #[v, .string pl, .int .i64 x]) ∧ Below (w.heap.size + 1) (w.alloc (.cells #[.int .i64 0, .string ⟨#[]⟩, .string ⟨#[]⟩, .int .i64 0, .int .i64 0] 88)) w') :
    Calls Tryd.prog 51 #[.string s] w fun e w' => e = .returned (.tuple #[.agg #[.int .i64 0, .string ⟨#[]⟩, .string ⟨#[]⟩, .int .i64 0, .int .i64 0], .int .i64 x]) ∧ Below w.heap.size w w' := by
  have HO := Aside0.mk ho
  have hu := Tryd.underlying88
  obtain ⟨k, hk⟩ : ∃ k, w.heap.size = k := ⟨_, rfl⟩
  have HK := Aside0.mk (show w.heap.size = k from hk)
  have HB := Aside0.mk ((Below.refl w.heap.size w).alloc (Nat.le_refl _) (.cells #[.int .i64 0, .string ⟨#[]⟩, .string ⟨#[]⟩, .int .i64 0, .int .i64 0] 88))
  have HR := Aside0.mk (Blk.new w 88 #[.int .i64 0, .string ⟨#[]⟩, .string ⟨#[]⟩, .int .i64 0, .int .i64 0])
  have d1 : (x != 0) = true := bne_iff_ne.mpr hx
  clear ho hx
  go_enter Tryd.func51, Tryd.ntmps51
  go_wp2_with fail
  refine HO.out.mono ?_
  rintro e w2 ⟨rfl, hb⟩
  replace HB := Aside0.mk (HB.out.trans (hb.mono (by omega)))
  replace HR := Aside0.mk (HR.out.below hb (by omega))
  clear HO hb
  rw [hk] at HB HR
  clear hk
  have f0 := HR.out.frees
  have f1 := HR.out.cells
  go_wp2
  have HR1 := Aside0.mk (((((HR.out.set 0 (.int .i64 0)).set 1 (.string ⟨#[]⟩)).set 2 (.string ⟨#[]⟩)).set 3 (.int .i64 0)).set 4 (.int .i64 0))
  simp only [List.setIfInBounds_toArray, List.set_cons_zero, List.set_cons_succ] at HR1
  refine bodyPost_ret (results_cell_tmp rfl _ _ k _ _ rfl HR1.out Tryd.underlying88 rfl (by kernel_rfl)) rfl ?_
  exact ⟨rfl, by rw [HK.out]; exact ((((HB.out.setCell (p := ⟨k, 0, none⟩) (Nat.le_refl _) _).setCell (p := ⟨k, 1, none⟩) (Nat.le_refl _) _).setCell (p := ⟨k, 2, none⟩) (Nat.le_refl _) _).setCell (p := ⟨k, 3, none⟩) (Nat.le_refl _) _).setCell (p := ⟨k, 4, none⟩) (Nat.le_refl _) _⟩
theorem open_at {s : ByteArray} {w : World} {v : Value} (h : Calls Tryd.prog 95 #[.string s] (w.alloc (.cells #[.int .i64 0, .string ⟨#[]⟩, .string ⟨#[]⟩, .int .i64 0, .int .i64 0] 88)) fun e w' => e = .returned v ∧ Below (w.alloc (.cells #[.int .i64 0, .string ⟨#[]⟩, .string ⟨#[]⟩, .int .i64 0, .int .i64 0] 88)).heap.size (w.alloc (.cells #[.int .i64 0, .string ⟨#[]⟩, .string ⟨#[]⟩, .int .i64 0, .int .i64 0] 88)) w') :
    Calls Tryd.prog 95 #[.string s] (w.alloc (.cells #[.int .i64 0, .string ⟨#[]⟩, .string ⟨#[]⟩, .int .i64 0, .int .i64 0] 88)) fun e w' => e = .returned v ∧ Below (w.heap.size + 1) (w.alloc (.cells #[.int .i64 0, .string ⟨#[]⟩, .string ⟨#[]⟩, .int .i64 0, .int .i64 0] 88)) w' := by
  rw [World.size_alloc] at h; exact h
theorem flow_Get.calls (s : ByteArray) (r1 : Int) (r2 r3 : ByteArray) (r4 r5 r6 : Int) (w : World) (h : flow_Get.f s = some (r1, r2, r3, r4, r5, r6)) :
    Calls Tryd.prog 51 #[.string s] w fun e w' => e = .returned (.tuple #[.agg #[.int .i64 r1, .string r2, .string r3, .int .i64 r4, .int .i64 r5], .int .i64 r6]) ∧ Below w.heap.size w w' := by
  unfold flow_Get.f at h
  have inj : ∀ e : Int, some (flow_bad e) = some (r1, r2, r3, r4, r5, r6) → r1 = 0 ∧ r2 = ⟨#[]⟩ ∧ r3 = ⟨#[]⟩ ∧ r4 = 0 ∧ r5 = 0 ∧ r6 = e := fun e h => by
    have := Option.some.inj h
    simp only [flow_bad, Prod.mk.injEq] at this
    obtain ⟨h1, h2, h3, h4, h5, h6⟩ := this
    exact ⟨h1.symm, h2.symm, h3.symm, h4.symm, h5.symm, h6.symm⟩
  by_cases h0 : s.size = 0
  · rw [if_pos h0] at h
    obtain ⟨rfl, rfl, rfl, rfl, rfl, rfl⟩ := inj _ h
    exact flow_err s _ _ _ (by decide) w (open_at (open_none s _ h0))
  rw [if_neg h0] at h
  by_cases h4 : bt s 0 / 16 = 4
  · rw [if_pos h4] at h
    obtain ⟨⟨q1, q2, q3, q4, q5, q6, q7, q8, q9, q10, q11, q12⟩, hg, h⟩ := Option.bind_eq_some_iff.1 h
    by_cases he : q12 = 0
    · subst he
      rw [if_neg (fun h' => h' rfl)] at h
      exact flow_four s q1 q2 q3 q4 q5 q6 q7 q8 q9 q10 q11 w _ _ _ _ _ _ (open_at (open_four s _ h0 h4 hg)) h
    · rw [if_pos he] at h
      obtain ⟨rfl, rfl, rfl, rfl, rfl, rfl⟩ := inj _ h
      exact flow_err s _ _ _ he w (open_at (open_four s _ h0 h4 hg))
  rw [if_neg h4] at h
  by_cases h6 : bt s 0 / 16 = 6
  · rw [if_pos h6] at h
    obtain ⟨⟨q1, q2, q3, q4, q5, q6, q7, q8⟩, hg, h⟩ := Option.bind_eq_some_iff.1 h
    by_cases he : q8 = 0
    · subst he
      rw [if_neg (fun h' => h' rfl)] at h
      exact flow_six s q1 q2 q3 q4 q5 q6 q7 w _ _ _ _ _ _ (open_at (open_six s _ h0 h6 hg)) h
    · rw [if_pos he] at h
      obtain ⟨rfl, rfl, rfl, rfl, rfl, rfl⟩ := inj _ h
      exact flow_err s _ _ _ he w (open_at (open_six s _ h0 h6 hg))
  rw [if_neg h6] at h
  obtain ⟨rfl, rfl, rfl, rfl, rfl, rfl⟩ := inj _ h
  exact flow_err s _ _ _ (by decide) w (open_at (open_other s _ h0 h4 h6))
end Go.Proofs.YtcmalglippmocaaDoor.G
end
