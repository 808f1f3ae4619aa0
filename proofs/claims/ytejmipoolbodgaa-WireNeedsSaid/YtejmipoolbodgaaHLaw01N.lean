/- By hand: the law WireNeeds: its walk, for the answer true alone. -/
import Derived.Test.YtejmipoolbodgaaHLaw01
import Derived.Laws.Strings2
import Derived.Laws.Strings3
namespace Go.Proofs.Ytejmipoolbodgaa.G
open Go.RowKit Go.Proofs.YtejmipoolbodgaaW.PrintWords Go.Proofs.YtejmipoolbodgaaW.PrintLast Go.Proofs.YtejmipoolbodgaaW.PrintMore Go.Proofs.Ytejmipoolbodgaa.Pal
set_option linter.unusedVariables false
set_option linter.unusedSimpArgs false
/-- What WireNeeds' closures work on: s, at, e; seen, rest; Read's result; then the reader. -/
def NE (k j : Nat) (s : ByteArray) (i : Nat) (e : Int) (w1 : World) (n : Nat) (seen : Int) (x : ByteArray) : Prop :=
  Rd w1 (j + 3) s n ∧ Hp w1 [(k, 9, #[.string s]), (k + 1, 3, #[.int .i64 (i : Int)]), (k + 1 + 1, 3, #[.int .i64 e]), (j, 3, #[.int .i64 seen]), (j + 1, 9, #[.string x]), (j + 2, 38, #[.int .i64 0])]
theorem NE.went {k j : Nat} {s : ByteArray} {i : Nat} {e : Int} {w1 w2 : World} {n m : Nat} {seen : Int} {x : ByteArray} (h : NE k j s i e w1 n seen x) (hk : k + 2 < j) (hw : Went w1 w2 (j + 3) s m) : NE k j s i e w2 m seen x :=
  ⟨hw.2, h.2.grown hw.1 (by simp; omega)⟩
theorem NE.drew {k j : Nat} {s : ByteArray} {i : Nat} {e : Int} {w1 : World} {n : Nat} {seen : Int} {x : ByteArray} (h : NE k j s i e w1 n seen x) : NE k j s i e w1.drew n seen x := h
theorem NE.drewN {k j : Nat} {s : ByteArray} {i : Nat} {e : Int} {w1 : World} {n : Nat} {seen : Int} {x : ByteArray} (h : NE k j s i e w1 n seen x) (q : Nat) : NE k j s i e (w1.drewN q) n seen x := h
theorem NE.rest {k j : Nat} {s : ByteArray} {i : Nat} {e : Int} {w1 : World} {n : Nat} {seen : Int} {x : ByteArray} (h : NE k j s i e w1 n seen x) (hk : k + 2 < j) (y : ByteArray) : NE k j s i e (w1.setCell ⟨j + 1, 0, none⟩ (.string y)) n seen y :=
  ⟨⟨h.1.1.other _ (by simp) _, h.1.2⟩, Hp.set (l1 := [_, _, _, _]) (l2 := [_]) h.2 0 (.string y) (by simp; omega) (by simp)⟩
theorem NE.see {k j : Nat} {s : ByteArray} {i : Nat} {e : Int} {w1 : World} {n : Nat} {seen : Int} {x : ByteArray} (h : NE k j s i e w1 n seen x) (hk : k + 2 < j) (y : Int) : NE k j s i e (w1.setCell ⟨j, 0, none⟩ (.int .i64 y)) n y x :=
  ⟨⟨h.1.1.other _ (by simp) _, h.1.2⟩, Hp.set (l1 := [_, _, _]) (l2 := [_, _]) h.2 0 (.int .i64 y) (by simp; omega) (by simp)⟩
theorem NE.facts {k j : Nat} {s : ByteArray} {i : Nat} {e : Int} {w1 : World} {n : Nat} {seen : Int} {x : ByteArray} (h : NE k j s i e w1 n seen x) :
    w1.cell? ⟨k, 0, none⟩ = some (.string s) ∧ w1.cell? ⟨k + 1, 0, none⟩ = some (.int .i64 (i : Int)) ∧ w1.cell? ⟨k + 1 + 1, 0, none⟩ = some (.int .i64 e) ∧ (w1.cell? ⟨j, 0, none⟩ = some (.int .i64 seen) ∧ w1.frozen? ⟨j, 0, none⟩ = false) ∧ w1.cell? ⟨j + 1, 0, none⟩ = some (.string x) ∧ w1.frozen? ⟨j + 1, 0, none⟩ = false :=
  ⟨h.2.head.cell 0 _ rfl, h.2.tail.head.cell 0 _ rfl, h.2.tail.tail.head.cell 0 _ rfl, ⟨h.2.tail.tail.tail.head.cell 0 _ rfl, h.2.tail.tail.tail.head.free 0⟩, h.2.tail.tail.tail.tail.head.cell 0 _ rfl, h.2.tail.tail.tail.tail.head.free 0⟩
theorem Take1.went (R : Nat) (s : ByteArray) (n m : Nat) (w : World) (h : Rd w R s n) (hm : n + m ≤ s.size) :
    Calls Try.prog 49 #[.pointer (some ⟨R, 0, none⟩), .int .i64 (m : Int)] w fun e w' => e = .returned (.string (s.extract n (n + m))) ∧ Went w w' R s (n + m) := by
  refine (Reader_Take.yes R s n m w h hm).mono ?_
  rintro e w' ⟨rfl, k, j, rfl⟩
  exact ⟨rfl, grown_drewN (World.grownBy.trans (grown_drewN (grown_refl w _) k) (grown_setCell _ _ _ _)) j, (((h.1.drewN k).set 1 (.int .i64 ((n + m : Nat) : Int))).drewN j), hm, h.2.2⟩

/-- A region's end, told by a frame and a world: its other exits told as none. -/
def cutPost (R : Act → World → Prop) : Exit → Act → World → Prop
  | .normal, a, w => R a w
  | _, _, _ => False
theorem cut_intro {R : Act → World → Prop} {a : Act} {w : World} (h : R a w) : cutPost R .normal a w := h
theorem region_cut {P : Program} {c : Code} {Q : Exit → Act → World → Prop} {a a1 : Act} {w w1 : World} (h : c.wp P (cutPost (fun a' w' => a' = a1 ∧ ∃ q, w' = w1.drewN q)) a w) (hk : ∀ q, Q .normal a1 (w1.drewN q)) : c.wp P Q a w :=
  Code.wp_mono (fun e a' w' hq => by
    cases e <;> first
      | (obtain ⟨rfl, q, rfl⟩ := hq; exact hk q)
      | exact False.elim hq) h
set_option maxHeartbeats 40000000 in
set_option maxRecDepth 100000 in
theorem needs1 (k j : Nat) (s : ByteArray) (i : Nat) (e : Int) (hi : i ≤ s.size) (hs : s.size ≤ 5000) (w1 : World) (hkj : k + 2 < j) (h : NE k j s i e w1 0 0 ⟨#[]⟩) :
    Calls Try.prog 52 #[.pointer (some ⟨j + 3, 0, none⟩), .pointer (some ⟨k, 0, none⟩), .pointer (some ⟨k + 1 + 1, 0, none⟩), .pointer (some ⟨k + 1, 0, none⟩), .pointer (some ⟨j + 1, 0, none⟩), .pointer (some ⟨j, 0, none⟩)] w1 fun e' w2 => e' = .returned (.tuple #[]) ∧ NE k j s i e w2 s.size 1 (s.extract i s.size) ∧ Below j w1 w2 := by
  have HG := Aside0.mk h
  have HB := Aside0.mk (Below.refl j w1)
  have HI := Aside0.mk (show i ≤ s.size ∧ s.size ≤ 5000 ∧ k + 2 < j from ⟨hi, hs, hkj⟩)
  obtain ⟨c0, c1, c2, ⟨c3, z3⟩, c4, z4⟩ := h.facts
  clear h hi hs hkj c1 c3 z3 c4 z4
  go_enter Try.func52, Try.ntmps52
  go_wp2_with fail
  apply region_cut (w1 := w1)
  · go_region_with ((first
      | (go_at_call 53; refine (Reader_Left.calls _ s 0 _ ?_).mono ?_; exact HG.out.1; rintro e5 w5 ⟨rfl, q5, rfl⟩)
      | (go_at_call 54; refine (Reader_At.calls _ s 0 _ ?_).mono ?_; exact HG.out.1; rintro e6 w6 ⟨rfl, q6, rfl⟩)
      | (go_at_call 50; refine (Reader_Need.yes _ _ _).mono ?_; rintro e7 w7 ⟨rfl, rfl⟩)))
    all_goals exact cut_intro ⟨rfl, _, rfl⟩
  intro q
  replace HG := Aside0.mk (HG.out.drewN q)
  replace HB := Aside0.mk (pw_below_drewN HB.out q)
  generalize w1.drewN q = w2 at HG HB ⊢
  clear c0 c2
  obtain ⟨c0, c1, c2, ⟨c3, z3⟩, c4, z4⟩ := HG.out.facts
  clear c0 c2 c3 z3 c4 z4
  go_wp2_with fail
  refine (Take1.went _ s 0 i _ HG.out.1 (by have := HI.out; omega)).mono ?_
  rintro e' w3 ⟨rfl, g1⟩
  replace HB := Aside0.mk (HB.out.trans (below_of_grown g1.1 (by have := HG.out.1.1.lt; omega) (by omega)))
  replace HG := Aside0.mk (HG.out.went HI.out.2.2 g1)
  clear g1 c1
  rw [Nat.zero_add] at HG
  obtain ⟨c0, c1, c2, ⟨c3, z3⟩, c4, z4⟩ := HG.out.facts
  clear c3 z3 c4 z4
  have hsub : wrap64 ((s.size : Int) - (i : Int)) = (s.size : Int) - (i : Int) := by have := HI.out; unfold wrap64; omega
  have hsub2 : IntKind.i64.wrap ((s.size : Int) - (i : Int)) = (s.size : Int) - (i : Int) := by have := HI.out; rw [IntKind.wrap_i64]; omega
  go_wp2_with fail
  apply region_cut (w1 := w3)
  · go_region_with ((first
      | (go_at_call 53; refine (Reader_Left.calls _ s i _ ?_).mono ?_; exact HG.out.1; rintro e5 w5 ⟨rfl, q5, rfl⟩)
      | (go_at_call 54; refine (Reader_At.calls _ s i _ ?_).mono ?_; exact HG.out.1; rintro e6 w6 ⟨rfl, q6, rfl⟩)
      | (go_at_call 50; refine (Reader_Need.yes _ _ _).mono ?_; rintro e7 w7 ⟨rfl, rfl⟩)))
    all_goals exact cut_intro ⟨rfl, _, rfl⟩
  intro q
  clear hsub hsub2
  replace HG := Aside0.mk (HG.out.drewN q)
  replace HB := Aside0.mk (pw_below_drewN HB.out q)
  generalize w3.drewN q = w4 at HG HB ⊢
  clear c0 c1 c2
  go_wp2_with fail
  refine (Reader_Rest.calls _ _ _ _ HG.out.1).mono ?_
  rintro e' w5 ⟨rfl, g1⟩
  replace HB := Aside0.mk (HB.out.trans (below_of_grown g1.1 (by have := HG.out.1.1.lt; omega) (by omega)))
  replace HG := Aside0.mk (HG.out.went HI.out.2.2 g1)
  clear g1
  obtain ⟨c0, c1, c2, ⟨c3, z3⟩, c4, z4⟩ := HG.out.facts
  clear c0 c1 c2 c3 z3
  go_wp2_with fail
  clear c4 z4
  replace HG := Aside0.mk (HG.out.rest HI.out.2.2 (s.extract i s.size))
  replace HB := Aside0.mk (HB.out.setCell (p := ⟨j + 1, 0, none⟩) (by simp) (.string (s.extract i s.size)))
  generalize w5.setCell ⟨j + 1, 0, none⟩ (.string (s.extract i s.size)) = w6 at HG HB ⊢
  obtain ⟨c0, c1, c2, ⟨c3, z3⟩, c4, z4⟩ := HG.out.facts
  clear c0 c1 c3 z3 c4 z4
  apply region_cut (w1 := w6)
  · go_region_with ((first
      | (go_at_call 53; refine (Reader_Left.calls _ s s.size _ ?_).mono ?_; exact HG.out.1; rintro e5 w5 ⟨rfl, q5, rfl⟩)
      | (go_at_call 54; refine (Reader_At.calls _ s s.size _ ?_).mono ?_; exact HG.out.1; rintro e6 w6 ⟨rfl, q6, rfl⟩)
      | (go_at_call 50; refine (Reader_Need.yes _ _ _).mono ?_; rintro e7 w7 ⟨rfl, rfl⟩)))
    all_goals exact cut_intro ⟨rfl, _, rfl⟩
  intro q
  replace HG := Aside0.mk (HG.out.drewN q)
  replace HB := Aside0.mk (pw_below_drewN HB.out q)
  generalize w6.drewN q = w7 at HG HB ⊢
  clear c2
  obtain ⟨c0, c1, c2, ⟨c3, z3⟩, c4, z4⟩ := HG.out.facts
  clear c0 c1 c2 c4 z4
  go_wp2
  go_end0
  exact ⟨rfl, HG.out.see HI.out.2.2 1, HB.out.setCell (p := ⟨j, 0, none⟩) (Nat.le_refl _) _⟩

set_option maxHeartbeats 1000000 in
set_option maxRecDepth 100000 in
theorem needs2 (k j : Nat) (s : ByteArray) (i : Nat) (e : Int) (hi : i ≤ s.size) (w1 : World) (hkj : k + 2 < j) (seen : Int) (x : ByteArray) (h : NE k j s i e w1 0 seen x) :
    Calls Try.prog 55 #[.pointer (some ⟨j + 3, 0, none⟩), .pointer (some ⟨k + 1, 0, none⟩), .pointer (some ⟨k + 1 + 1, 0, none⟩), .pointer (some ⟨j, 0, none⟩)] w1 fun e' w2 => e' = stopped e ∧ NE k j s i e w2 i seen x ∧ Below j w1 w2 := by
  have HG := Aside0.mk h
  have HB := Aside0.mk (Below.refl j w1)
  have HI := Aside0.mk (show i ≤ s.size ∧ k + 2 < j from ⟨hi, hkj⟩)
  obtain ⟨c0, c1, c2, ⟨c3, z3⟩, c4, z4⟩ := h.facts
  clear h hi hkj c0 c2 c3 z3 c4 z4
  go_enter Try.func55, Try.ntmps55
  go_wp2_with fail
  refine (Take1.went _ s 0 i _ HG.out.1 (by have := HI.out; omega)).mono ?_
  rintro e' w3 ⟨rfl, g1⟩
  replace HB := Aside0.mk (HB.out.trans (below_of_grown g1.1 (by have := HG.out.1.1.lt; omega) (by omega)))
  replace HG := Aside0.mk (HG.out.went HI.out.2 g1)
  clear g1 c1
  rw [Nat.zero_add] at HG ⊢
  obtain ⟨c0, c1, c2, ⟨c3, z3⟩, c4, z4⟩ := HG.out.facts
  clear c0 c1 c3 z3 c4 z4
  go_wp2_with fail
  refine (Reader_Need.no _ _ _).mono ?_
  rintro e' w4 ⟨rfl, rfl⟩
  exact ⟨rfl, rfl, HG.out, HB.out⟩
end Go.Proofs.Ytejmipoolbodgaa.G
