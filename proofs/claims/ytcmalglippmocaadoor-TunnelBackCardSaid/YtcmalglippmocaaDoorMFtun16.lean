/- Texts of this session, joined: each is a section. -/
import Derived.Test.YtcmalglippmocaaDoorMFtun4
import Derived.Test.YtcmalglippmocaaDoorMFtun2
import Derived.Test.YtcmalglippmocaaDoorMFtun10
import Derived.WalkLawsBesides
import Derived.RegionTactic
import Derived.Deep.RegionWith
import Derived.StillTailTactics
set_option linter.unusedVariables false
set_option linter.unusedSimpArgs false
section
namespace Go.Proofs.YtcmalglippmocaaDoor.G
open Go.RowKit Go.Proofs.YtcmalglippmocaaDoorW.PrintWords Go.Proofs.YtcmalglippmocaaDoorW.PrintLast Go.Proofs.YtcmalglippmocaaDoorW.PrintMore Go.Proofs.YtcmalglippmocaaDoor.Pal
theorem panicOut4 {P : Program} {fn : Func} {R : Ending → World → Prop} {ch : List PanicEntry} {a : Act} {w : World} (h : wpAny P .any #[] (fun _ a w => bodyPost P fn R (.panic ch) a w) 0 #[] a w) : bodyPost P fn R (.panic ch) a w := h.2

theorem Take4.went (R : Nat) (s : ByteArray) (n m : Nat) (w : World) (h : Rd w R s n) (hm : n + m ≤ s.size) :
    Calls Tryd.prog 106 #[.pointer (some ⟨R, 0, none⟩), .int .i64 (m : Int)] w fun e w' => e = .returned (.string (s.extract n (n + m))) ∧ Went w w' R s (n + m) := by
  refine (Reader_Take.yes R s n m w h hm).mono ?_
  rintro e w' ⟨rfl, k, j, rfl⟩
  exact ⟨rfl, grown_drewN (World.grownBy.trans (grown_drewN (grown_refl w _) k) (grown_setCell _ _ _ _)) j, (((h.1.drewN k).set 1 (.int .i64 ((n + m : Nat) : Int))).drewN j), hm, h.2.2⟩
def VG4 (k : Nat) (s : ByteArray) (w w1 : World) (n : Nat) (cs : Array Value) (x : ByteArray) : Prop :=
  Rd w1 (k + 5) s n ∧ Hp w1 [(k, 9, #[.string s]), (k + 1, 69, #[.int .i64 0, .int .i64 0, .int .i64 0, .int .i64 0, .int .i64 0, .bool false, .bool false, .string ⟨#[]⟩, .string ⟨#[]⟩, .string ⟨#[]⟩]), (k + 2, 69, cs), (k + 3, 9, #[.string x]), (k + 4, 24, #[.int .i64 0])] ∧ Below k w w1
theorem VG4.went {k : Nat} {s : ByteArray} {w w1 w2 : World} {n m : Nat} {cs : Array Value} {x : ByteArray} (h : VG4 k s w w1 n cs x) (hw : Went w1 w2 (k + 5) s m) : VG4 k s w w2 m cs x :=
  ⟨hw.2, h.2.1.grown hw.1 (by simp), h.2.2.trans (below_of_grown hw.1 (by have := h.1.1.lt; omega) (by omega))⟩
theorem VG4.put {k : Nat} {s : ByteArray} {w w1 : World} {n : Nat} {cs : Array Value} {x : ByteArray} (h : VG4 k s w w1 n cs x) (j : Nat) (v : Value) : VG4 k s w (w1.setCell ⟨k + 2, j, none⟩ v) n (cs.setIfInBounds j v) x :=
  ⟨⟨h.1.1.other _ (by simp) _, h.1.2⟩, h.2.1.set (l1 := [_, _]) (l2 := [_, _]) j v (by simp) (by simp), h.2.2.setCell (by simp) _⟩
theorem VG4.putSum {k : Nat} {s : ByteArray} {w w1 : World} {n : Nat} {cs : Array Value} {x : ByteArray} (h : VG4 k s w w1 n cs x) (y : ByteArray) : VG4 k s w (w1.setCell ⟨k + 3, 0, none⟩ (.string y)) n cs y :=
  ⟨⟨h.1.1.other _ (by simp) _, h.1.2⟩, h.2.1.set (l1 := [_, _, _]) (l2 := [_]) 0 (.string y) (by simp) (by simp), h.2.2.setCell (by simp) _⟩
theorem VG4.drew {k : Nat} {s : ByteArray} {w w1 : World} {n : Nat} {cs : Array Value} {x : ByteArray} (h : VG4 k s w w1 n cs x) : VG4 k s w w1.drew n cs x := ⟨h.1, h.2.1, h.2.2.drew⟩
theorem VG4.drewN {k : Nat} {s : ByteArray} {w w1 : World} {n : Nat} {cs : Array Value} {x : ByteArray} (h : VG4 k s w w1 n cs x) (j : Nat) : VG4 k s w (w1.drewN j) n cs x := ⟨h.1, h.2.1, pw_below_drewN h.2.2 j⟩
theorem VG4.facts {k : Nat} {s : ByteArray} {w w1 : World} {n : Nat} {cs : Array Value} {x : ByteArray} (h : VG4 k s w w1 n cs x) :
    w1.cell? ⟨k, 0, none⟩ = some (.string s) ∧ (∀ j, w1.frozen? ⟨k + 2, j, none⟩ = false) ∧ (∀ j, w1.cell? ⟨k + 2, j, none⟩ = cs[j]?) ∧ w1.cell? ⟨k + 3, 0, none⟩ = some (.string x) ∧ w1.frozen? ⟨k + 3, 0, none⟩ = false :=
  ⟨h.2.1.head.cell 0 _ rfl, h.2.1.tail.tail.head.frees, h.2.1.tail.tail.head.cells, h.2.1.tail.tail.tail.head.cell 0 _ rfl, h.2.1.tail.tail.tail.head.free 0⟩

def zero4 : Array Value := #[.int .i64 0, .int .i64 0, .int .i64 0, .int .i64 0, .int .i64 0, .bool false, .bool false, .string ⟨#[]⟩, .string ⟨#[]⟩, .string ⟨#[]⟩]

theorem VG4.step {k : Nat} {s : ByteArray} {w w1 w2 : World} {n : Nat} {cs : Array Value} {x : ByteArray} (h : VG4 k s w w1 n cs x) (hb : Below w1.heap.size w1 w2) : VG4 k s w w2 n cs x :=
  ⟨⟨h.1.1.below hb h.1.1.lt, h.1.2⟩, h.2.1.below hb (fun y hy => (h.2.1 y hy).lt), h.2.2.trans (hb.mono (by have := h.1.1.lt; omega))⟩
theorem right_one (t : ByteArray) (h : t.size ≤ 1099511627776) : sum_Right.f [t] = some (csum (bl t) == 0) := by
  have e : cat [t] = bl t := by rw [cat_cons, cat_nil, List.append_nil]
  unfold sum_Right.f sum_Sum.f
  rw [if_pos (by rw [e, bl_length]; exact h), e, Option.bind_some]
  congr 1
  rw [Bool.eq_iff_iff]; simp
theorem flagA (F : Nat) : (((F : Int) / 16384 % 2) == 1) = (F / 16384 % 2 == 1) := by rw [Bool.eq_iff_iff, beq_iff_eq, beq_iff_eq]; omega
theorem flagB (F : Nat) : (((F : Int) / 8192 % 2) == 1) = (F / 8192 % 2 == 1) := by rw [Bool.eq_iff_iff, beq_iff_eq, beq_iff_eq]; omega
theorem flagC (F : Nat) : ((F : Int) % 8192) = ((F % 8192 : Nat) : Int) := by omega
theorem less20 (N : Nat) (h : 20 ≤ N) (h2 : N ≤ 60) : ∃ M : Nat, 20 + M = N ∧ ((N : Int) - 20) = (M : Int) ∧ wrap64 ((N : Int) - 20) = (M : Int) ∧ IntKind.i64.wrap ((N : Int) - 20) = (M : Int) := by
  refine ⟨N - 20, by omega, by omega, ?_, ?_⟩
  · unfold wrap64; omega
  · rw [IntKind.wrap_i64]; omega
def final4 (s : ByteArray) : Array Value := #[(.int .i64 (be (bl (s.extract 1 2)) : Nat)), (.int .i64 (be (bl (s.extract 4 6)) : Nat)), (.int .i64 ((be (bl (s.extract 6 8)) % 8192 : Nat) : Int)), (.int .i64 (be (bl (s.extract 8 9)) : Nat)), (.int .i64 (be (bl (s.extract 9 10)) : Nat)), (.bool (be (bl (s.extract 6 8)) / 16384 % 2 == 1)), (.bool (be (bl (s.extract 6 8)) / 8192 % 2 == 1)), (.string (s.extract 12 16)), (.string (s.extract 16 20)), (.string (s.extract 20 (hl4 s)))]


set_option maxHeartbeats 8000000 in
set_option maxRecDepth 100000 in
theorem ip4_Get1.walk (k : Nat) (s : ByteArray) (w w1 : World) (h : VG4 k s w w1 0 zero4 ⟨#[]⟩) :
    Calls Tryd.prog 134 #[.pointer (some ⟨k + 5, 0, none⟩), .pointer (some ⟨k, 0, none⟩), .pointer (some ⟨k + 2, 0, none⟩), .pointer (some ⟨k + 3, 0, none⟩)] w1 fun e w2 => e = did (ip4Err s) ∧ ∃ n cs x, VG4 k s w w2 n cs x ∧ (ip4Err s = 0 → cs = final4 s ∧ x = s.extract (hl4 s) s.size) := by
  have HG := Aside0.mk h
  obtain ⟨c0, c1, c2, c3, c4⟩ := h.facts
  clear h c1 c2 c3 c4
  go_enter Tryd.func134, Tryd.ntmps134
  by_cases h20 : s.size < 20
  · have he : ip4Err s = 2 := if_pos h20
    have d1 : decide ((20 : Int) ≤ (s.size : Int)) = false := decide_eq_false (by omega)
    have d2 : decide (20 ≤ s.size) = false := decide_eq_false (by omega)
    clear h20
    go_wp2_with fail
    refine (Reader_Need.no _ _ _).mono ?_
    rintro e w2 ⟨rfl, rfl⟩
    exact ⟨rfl, by rw [he]; rfl, _, _, _, HG.out, fun h0 => absurd (he.symm.trans h0) (by decide)⟩
  have d1 : decide ((20 : Int) ≤ (s.size : Int)) = true := decide_eq_true (by omega)
  have d2 : decide (20 ≤ s.size) = true := decide_eq_true (by omega)
  go_wp2_with fail
  refine (Reader_Need.yes _ _ _).mono ?_
  rintro e w2 ⟨rfl, rfl⟩
  clear d1 d2
  go_wp2_with fail
  refine (Reader_U8.yes _ _ _ _ HG.out.1 (by omega)).mono ?_
  rintro e w2 ⟨rfl, g1⟩
  replace HG := Aside0.mk (HG.out.went g1)
  clear g1 c0
  have hB : be (bl (s.extract 0 1)) < 256 := be_lt_of _ 1 (by rw [bl_length, ByteArray.size_extract]; omega)
  have m1 : Go.bits .and .i64 ((be (bl (s.extract 0 1)) : Nat) : Int) 15 = ((be (bl (s.extract 0 1)) % 16 : Nat) : Int) := by exact Pure.and15 _ (by omega)
  have m2 : wrap64 (4 * ((be (bl (s.extract 0 1)) % 16 : Nat) : Int)) = ((hl4 s : Nat) : Int) := by unfold hl4 wrap64; omega
  have m3 : IntKind.i64.wrap (4 * ((be (bl (s.extract 0 1)) % 16 : Nat) : Int)) = ((hl4 s : Nat) : Int) := by rw [IntKind.wrap_i64]; unfold hl4; omega
  have HN := Aside0.mk (show hl4 s ≤ 60 by unfold hl4; omega)
  by_cases hv : be (bl (s.extract 0 1)) / 16 = 4
  case neg =>
    have he : ip4Err s = 3 := by unfold ip4Err; rw [if_neg h20, if_neg hv]
    have v1 : (((be (bl (s.extract 0 1)) : Nat) : Int) / 16 == 4) = false := by rw [beq_eq_false_iff_ne]; omega
    have v2 : ((be (bl (s.extract 0 1))) / 16 == 4) = false := by rw [beq_eq_false_iff_ne]; exact hv
    go_wp2_with fail
    refine (Reader_Need.no _ _ _).mono ?_
    rintro e w3 ⟨rfl, rfl⟩
    exact ⟨rfl, by rw [he]; rfl, _, _, _, HG.out, fun h0 => absurd (he.symm.trans h0) (by decide)⟩
  have v1 : (((be (bl (s.extract 0 1)) : Nat) : Int) / 16 == 4) = true := by rw [beq_iff_eq]; omega
  have v2 : ((be (bl (s.extract 0 1))) / 16 == 4) = true := by rw [beq_iff_eq]; exact hv
  have HV := Aside0.mk hv
  clear hv
  have e4 : (4 * (((be (bl (s.extract 0 1)) : Nat) : Int) % 16)) = ((hl4 s : Nat) : Int) := by unfold hl4; omega
  go_wp2_with fail
  clear e4
  refine (Reader_Need.yes _ _ _).mono ?_
  rintro e w3 ⟨rfl, rfl⟩
  clear v1 v2 m1 m2 m3 hB
  go_wp2_with fail
  refine (Reader_U8.yes _ _ _ _ HG.out.1 (by omega)).mono ?_
  rintro e w3 ⟨rfl, g1⟩
  replace HG := Aside0.mk (HG.out.went g1)
  clear g1
  obtain ⟨c0, c1, c2, c3, c4⟩ := HG.out.facts
  simp only [zero4] at c2
  clear c0 c3 c4
  have HX := Aside0.mk h20
  clear h20
  go_wp2
  clear c1 c2
  replace HG := Aside0.mk (HG.out.put 0 (.int .i64 (be (bl (s.extract 1 2)) : Nat)))
  simp only [zero4, List.setIfInBounds_toArray, List.set_cons_zero, List.set_cons_succ] at HG
  generalize w3.setCell ⟨k + 2, 0, none⟩ (.int .i64 (be (bl (s.extract 1 2)) : Nat)) = w4 at HG ⊢
  generalize hN : hl4 s = N at HN ⊢
  have HNN := Aside0.mk hN
  clear hN
  have c0 := HG.out.facts.1
  by_cases hl : 20 ≤ N
  case neg =>
    have l1 : decide ((20 : Int) ≤ (N : Int)) = false := decide_eq_false (by omega)
    have l2 : decide (20 ≤ N) = false := decide_eq_false hl
    have he : ip4Err s = 4 := by unfold ip4Err; rw [if_neg HX.out, if_pos HV.out, if_neg (by rw [HNN.out]; exact fun h => hl h.1)]
    go_still_tail 16, (by kernel_rfl)
    change wpList _ _ _ _ _ w4.drew
    go_wp2_with fail
    refine (Reader_Need.no _ _ _).mono ?_
    rintro e w6 ⟨rfl, rfl⟩
    exact ⟨rfl, by rw [he]; rfl, _, _, _, HG.out.drew, fun h0 => absurd (he.symm.trans h0) (by decide)⟩
  have l1 : decide ((20 : Int) ≤ (N : Int)) = true := decide_eq_true (by omega)
  have l2 : decide (20 ≤ N) = true := decide_eq_true hl
  by_cases hm : N ≤ s.size
  case neg =>
    have m1 : decide ((N : Int) ≤ (s.size : Int)) = false := decide_eq_false (by omega)
    have m2 : decide (N ≤ s.size) = false := decide_eq_false hm
    have he : ip4Err s = 4 := by unfold ip4Err; rw [if_neg HX.out, if_pos HV.out, if_neg (by rw [HNN.out]; exact fun h => hm h.2.1)]
    go_still_tail 16, (by kernel_rfl)
    change wpList _ _ _ _ _ w4.drew
    go_wp2_with fail
    refine (Reader_Need.no _ _ _).mono ?_
    rintro e w6 ⟨rfl, rfl⟩
    exact ⟨rfl, by rw [he]; rfl, _, _, _, HG.out.drew, fun h0 => absurd (he.symm.trans h0) (by decide)⟩
  have m1 : decide ((N : Int) ≤ (s.size : Int)) = true := decide_eq_true (by omega)
  have m2 : decide (N ≤ s.size) = true := decide_eq_true hm
  by_cases ht : be (bl (s.extract 2 4)) = s.size
  case neg =>
    have t1 : (((be (bl (s.extract 2 4)) : Nat) : Int) == (s.size : Int)) = false := by rw [beq_eq_false_iff_ne]; omega
    have t2 : (be (bl (s.extract 2 4)) == s.size) = false := by rw [beq_eq_false_iff_ne]; exact ht
    have he : ip4Err s = 4 := by unfold ip4Err; rw [if_neg HX.out, if_pos HV.out, if_neg (fun h => ht h.2.2)]
    clear hl hm ht
    go_region_with ((first
      | (go_at_call 66; refine (Reader_U16.yes _ _ 2 _ HG.out.drew.1 ?_).mono ?_; (have := HX.out; omega); rintro e w5 ⟨rfl, g1⟩; have HG3 := Aside0.mk (HG.out.drew.went g1); have c3 := HG3.out.facts.1; clear g1)
      | (go_at_call 65; refine (Reader_Need.no _ _ _).mono ?_; rintro e w6 ⟨rfl, rfl⟩; refine panicOut4 ?_)))
    all_goals exact ⟨rfl, by rw [he]; rfl, _, _, _, HG3.out, fun h0 => absurd (he.symm.trans h0) (by decide)⟩
  have t1 : (((be (bl (s.extract 2 4)) : Nat) : Int) == (s.size : Int)) = true := by rw [beq_iff_eq]; omega
  have t2 : (be (bl (s.extract 2 4)) == s.size) = true := by rw [beq_iff_eq]; exact ht
  have HM := Aside0.mk (show 20 ≤ N ∧ N ≤ s.size ∧ be (bl (s.extract 2 4)) = s.size from ⟨hl, hm, ht⟩)
  clear hl hm ht
  go_region_with ((first
    | (go_at_call 66; refine (Reader_U16.yes _ _ 2 _ HG.out.drew.1 ?_).mono ?_; (have := HX.out; omega); rintro e w5 ⟨rfl, g1⟩; have HG3 := Aside0.mk (HG.out.drew.went g1); have c3 := HG3.out.facts.1; clear g1)
    | (go_at_call 65; refine (Reader_Need.yes _ _ _).mono ?_; rintro e w6 ⟨rfl, rfl⟩)))
  all_goals
    clear c0 l1 l2 m1 m2 t1 t2
    replace HG := HG3
    clear HG3
    have s1 : ((N : Int) ≤ (s.size : Int)) = True := eq_true (by have := HM.out; omega)
    have s2 : (N ≤ s.size) = True := eq_true HM.out.2.1
    go_wp2_with fail
    refine (sum_Right.calls _ _ [s.extract 0 N] (csum (bl (s.extract 0 N)) == 0) _ (C_one _ _ _) (by simp) (right_one _ (by simp only [ByteArray.size_extract]; have := HN.out; omega))).mono ?_
    rintro e w7 ⟨rfl, g1⟩
    replace HG := Aside0.mk (HG.out.step (((Below.refl w6.heap.size w6).alloc (Nat.le_refl _) _).trans (g1.mono (by simp))))
    clear g1 s1 s2
    by_cases hz : csum (bl (s.extract 0 N)) = 0
    case neg =>
      have z1 : (csum (bl (s.extract 0 N)) == 0) = false := by rw [beq_eq_false_iff_ne]; exact hz
      have he : ip4Err s = 5 := by unfold ip4Err; rw [if_neg HX.out, if_pos HV.out, HNN.out, if_pos HM.out, if_neg hz]
      rw [z1]
      clear hz z1
      go_wp2_with fail
      refine (Reader_Need.no _ _ _).mono ?_
      rintro e w8 ⟨rfl, rfl⟩
      exact ⟨rfl, by rw [he]; rfl, _, _, _, HG.out, fun h0 => absurd (he.symm.trans h0) (by decide)⟩
    have z1 : (csum (bl (s.extract 0 N)) == 0) = true := by rw [beq_iff_eq]; exact hz
    rw [z1]
    have HZ := Aside0.mk hz
    clear hz z1
    go_wp2_with fail
    refine (Reader_Need.yes _ _ _).mono ?_
    rintro e w8 ⟨rfl, rfl⟩
    go_wp2_with fail
    refine (Reader_U16.yes _ _ _ _ HG.out.1 (by have := HM.out; have := HX.out; omega)).mono ?_
    rintro e w9 ⟨rfl, g1⟩
    replace HG := Aside0.mk (HG.out.went g1)
    clear g1
    obtain ⟨c0, c1, c2, c3, c4⟩ := HG.out.facts
    clear c0 c3 c4
    go_wp2_with fail
    clear c1 c2
    replace HG := Aside0.mk (HG.out.put 1 (.int .i64 (be (bl (s.extract 4 6)) : Nat)))
    simp only [List.setIfInBounds_toArray, List.set_cons_zero, List.set_cons_succ] at HG
    generalize (w9.setCell ⟨k + 2, 1, none⟩ (.int .i64 (be (bl (s.extract 4 6)) : Nat))) = wa at HG ⊢
    refine (Reader_U16.yes _ _ _ _ HG.out.1 (by have := HM.out; have := HX.out; omega)).mono ?_
    rintro e w10 ⟨rfl, g1⟩
    replace HG := Aside0.mk (HG.out.went g1)
    clear g1
    have hF : be (bl (s.extract 6 8)) < 65536 := be_lt_of _ 2 (by rw [bl_length, ByteArray.size_extract]; have := HX.out; omega)
    by_cases hf : be (bl (s.extract 6 8)) / 32768 = 0
    case neg =>
      have z1 : (((be (bl (s.extract 6 8)) : Nat) : Int) / 32768 == 0) = false := by rw [beq_eq_false_iff_ne]; omega
      have z2 : (be (bl (s.extract 6 8)) / 32768 == 0) = false := by rw [beq_eq_false_iff_ne]; exact hf
      have he : ip4Err s = 9 := by unfold ip4Err; rw [if_neg HX.out, if_pos HV.out, HNN.out, if_pos HM.out, if_pos HZ.out, if_neg hf]
      clear hf hF
      go_wp2_with fail
      refine (Reader_Need.no _ _ _).mono ?_
      rintro e w11 ⟨rfl, rfl⟩
      exact ⟨rfl, by rw [he]; rfl, _, _, _, HG.out, fun h0 => absurd (he.symm.trans h0) (by decide)⟩
    have z1 : (((be (bl (s.extract 6 8)) : Nat) : Int) / 32768 == 0) = true := by rw [beq_iff_eq]; omega
    have z2 : (be (bl (s.extract 6 8)) / 32768 == 0) = true := by rw [beq_iff_eq]; exact hf
    have he : ip4Err s = 0 := by unfold ip4Err; rw [if_neg HX.out, if_pos HV.out, HNN.out, if_pos HM.out, if_pos HZ.out, if_pos hf]
    have HE := Aside0.mk he
    clear hf he
    go_wp2_with fail
    refine (Reader_Need.yes _ _ _).mono ?_
    rintro e w11 ⟨rfl, rfl⟩
    clear z1 z2
    have a1 : Go.bits .and .i64 (((be (bl (s.extract 6 8)) : Nat) : Int) / 16384) 1 = ((be (bl (s.extract 6 8)) / 16384 % 2 : Nat) : Int) := by rw [show ((be (bl (s.extract 6 8)) : Nat) : Int) / 16384 = ((be (bl (s.extract 6 8)) / 16384 : Nat) : Int) by omega]; exact Pure.and1 _ (by omega)
    have a2 : Go.bits .and .i64 (((be (bl (s.extract 6 8)) : Nat) : Int) / 8192) 1 = ((be (bl (s.extract 6 8)) / 8192 % 2 : Nat) : Int) := by rw [show ((be (bl (s.extract 6 8)) : Nat) : Int) / 8192 = ((be (bl (s.extract 6 8)) / 8192 : Nat) : Int) by omega]; exact Pure.and1 _ (by omega)
    have a3 : Go.bits .and .i64 ((be (bl (s.extract 6 8)) : Nat) : Int) 8191 = ((be (bl (s.extract 6 8)) % 8192 : Nat) : Int) := Pure.and8191 _ hF
    obtain ⟨c0, c1, c2, c3, c4⟩ := HG.out.facts
    clear c0 c3 c4
    go_wp2_with fail
    rw [flagA, flagB, flagC]
    clear c1 c2 a1 a2 a3 hF
    replace HG := Aside0.mk (((HG.out.put 5 (.bool (be (bl (s.extract 6 8)) / 16384 % 2 == 1))).put 6 (.bool (be (bl (s.extract 6 8)) / 8192 % 2 == 1))).put 2 (.int .i64 ((be (bl (s.extract 6 8)) % 8192 : Nat) : Int)))
    simp only [List.setIfInBounds_toArray, List.set_cons_zero, List.set_cons_succ] at HG
    generalize (((w11.setCell ⟨k + 2, 5, none⟩ (.bool (be (bl (s.extract 6 8)) / 16384 % 2 == 1))).setCell ⟨k + 2, 6, none⟩ (.bool (be (bl (s.extract 6 8)) / 8192 % 2 == 1))).setCell ⟨k + 2, 2, none⟩ (.int .i64 ((be (bl (s.extract 6 8)) % 8192 : Nat) : Int))) = wa at HG ⊢
    refine (Reader_U8.yes _ _ _ _ HG.out.1 (by have := HM.out; have := HX.out; omega)).mono ?_
    rintro e w12 ⟨rfl, g1⟩
    replace HG := Aside0.mk (HG.out.went g1)
    clear g1
    go_wp2_with fail
    refine (Reader_U8.yes _ _ _ _ HG.out.1 (by have := HM.out; have := HX.out; omega)).mono ?_
    rintro e w13 ⟨rfl, g1⟩
    replace HG := Aside0.mk (HG.out.went g1)
    clear g1
    obtain ⟨c0, c1, c2, c3, c4⟩ := HG.out.facts
    clear c0 c3 c4
    go_wp2_with fail
    clear c1 c2
    replace HG := Aside0.mk ((HG.out.put 3 (.int .i64 (be (bl (s.extract 8 9)) : Nat))).put 4 (.int .i64 (be (bl (s.extract 9 10)) : Nat)))
    simp only [List.setIfInBounds_toArray, List.set_cons_zero, List.set_cons_succ] at HG
    generalize ((w13.setCell ⟨k + 2, 3, none⟩ (.int .i64 (be (bl (s.extract 8 9)) : Nat))).setCell ⟨k + 2, 4, none⟩ (.int .i64 (be (bl (s.extract 9 10)) : Nat))) = wa at HG ⊢
    refine (Reader_U16.yes _ _ _ _ HG.out.1 (by have := HM.out; have := HX.out; omega)).mono ?_
    rintro e w14 ⟨rfl, g1⟩
    replace HG := Aside0.mk (HG.out.went g1)
    clear g1
    go_wp2_with fail
    refine (Take4.went _ _ _ 4 _ HG.out.1 (by have := HM.out; have := HX.out; omega)).mono ?_
    rintro e w15 ⟨rfl, g1⟩
    replace HG := Aside0.mk (HG.out.went g1)
    clear g1
    go_wp2_with fail
    refine (Take4.went _ _ _ 4 _ HG.out.1 (by have := HM.out; have := HX.out; omega)).mono ?_
    rintro e w16 ⟨rfl, g1⟩
    replace HG := Aside0.mk (HG.out.went g1)
    clear g1
    obtain ⟨c0, c1, c2, c3, c4⟩ := HG.out.facts
    clear c0 c3 c4
    obtain ⟨M, hM, e1, e2, e3⟩ := less20 N HM.out.1 HN.out
    have HS := Aside0.mk hM
    have HS2 := Aside0.mk e2
    clear hM e1 e2 e3
    go_wp2_with fail
    rw [HS2.out]
    clear c1 c2
    replace HG := Aside0.mk ((HG.out.put 7 (.string (s.extract 12 16))).put 8 (.string (s.extract 16 20)))
    simp only [List.setIfInBounds_toArray, List.set_cons_zero, List.set_cons_succ] at HG
    generalize ((w16.setCell ⟨k + 2, 7, none⟩ (.string (s.extract 12 16))).setCell ⟨k + 2, 8, none⟩ (.string (s.extract 16 20))) = wa at HG ⊢
    refine (Take4.went _ _ _ M _ HG.out.1 (by have := HM.out; have := HS.out; omega)).mono ?_
    rintro e w17 ⟨rfl, g1⟩
    replace HG := Aside0.mk (HG.out.went g1)
    clear g1
    go_wp2_with fail
    refine (Reader_Rest.calls _ _ _ _ HG.out.1).mono ?_
    rintro e w18 ⟨rfl, g1⟩
    replace HG := Aside0.mk (HG.out.went g1)
    clear g1
    obtain ⟨c0, c1, c2, c3, c4⟩ := HG.out.facts
    clear c0
    go_wp2
    go_end0
    refine ⟨by rw [HE.out]; rfl, _, _, _, (HG.out.put 9 _).putSum _, fun _ => ⟨?_, ?_⟩⟩
    · have h20 : 20 + M = N := HS.out
      simp only [List.setIfInBounds_toArray, List.set_cons_zero, List.set_cons_succ, final4, HNN.out, h20]
    · have h20 : 20 + M = N := HS.out
      simp only [HNN.out, h20]

end Go.Proofs.YtcmalglippmocaaDoor.G
end
