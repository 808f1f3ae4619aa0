/- By hand: the wire law's example, and the laws WireInside and WireNeeds: their walks, for the answer true alone. -/
import Derived.Test.YtejmipoolbodgaaHWireR
import Derived.Test.YtejmipoolbodgaaHRead
import Derived.Test.YtejmipoolbodgaaPHeap
import Derived.WalkLawsBesides
import Derived.RegionTactic
import Derived.Deep.RegionWith
namespace Go.Proofs.Ytejmipoolbodgaa.G
open Go.RowKit Go.Proofs.YtejmipoolbodgaaW.PrintWords Go.Proofs.YtejmipoolbodgaaW.PrintLast Go.Proofs.YtejmipoolbodgaaW.PrintMore Go.Proofs.Ytejmipoolbodgaa.Pal
set_option linter.unusedVariables false
set_option linter.unusedSimpArgs false
theorem panicOut1 {P : Program} {fn : Func} {R : Ending → World → Prop} {ch : List PanicEntry} {a : Act} {w : World} (h : wpAny P .any #[] (fun _ a w => bodyPost P fn R (.panic ch) a w) 0 #[] a w) : bodyPost P fn R (.panic ch) a w := h.2
abbrev s123 : ByteArray := ⟨#[1, 2, 3]⟩
def AW (k : Nat) (w w1 : World) (n : Nat) (a b : Int) : Prop :=
  Rd w1 (k + 3) s123 n ∧ Hp w1 [(k, 3, #[.int .i64 a]), (k + 1, 3, #[.int .i64 b]), (k + 2, 38, #[.int .i64 0])] ∧ Below k w w1
theorem AW.went {k : Nat} {w w1 w2 : World} {n m : Nat} {a b : Int} (h : AW k w w1 n a b) (hw : Went w1 w2 (k + 3) s123 m) : AW k w w2 m a b :=
  ⟨hw.2, h.2.1.grown hw.1 (by simp), h.2.2.trans (below_of_grown hw.1 (by have := h.1.1.lt; omega) (by omega))⟩
theorem AW.puts {k : Nat} {w w1 : World} {n : Nat} {a b : Int} (h : AW k w w1 n a b) (a' b' : Int) : AW k w ((w1.setCell ⟨k, 0, none⟩ (.int .i64 a')).setCell ⟨k + 1, 0, none⟩ (.int .i64 b')) n a' b' := by
  have h1 := Hp.set (l1 := []) (l2 := [_, _]) (show Hp w1 ([] ++ (k, 3, #[.int .i64 a]) :: [_, _]) from h.2.1) 0 (.int .i64 a') (by simp) (by simp)
  have h2 := Hp.set (l1 := [_]) (l2 := [_]) h1 0 (.int .i64 b') (by simp) (by simp)
  exact ⟨⟨(h.1.1.other _ (by simp) _).other _ (by simp) _, h.1.2⟩, h2, (h.2.2.setCell (by simp) _).setCell (by simp) _⟩
theorem AW.drew {k : Nat} {w w1 : World} {n : Nat} {a b : Int} (h : AW k w w1 n a b) : AW k w w1.drew n a b := ⟨h.1, h.2.1, h.2.2.drew⟩
theorem AW.drewN {k : Nat} {w w1 : World} {n : Nat} {a b : Int} (h : AW k w w1 n a b) (j : Nat) : AW k w (w1.drewN j) n a b := ⟨h.1, h.2.1, pw_below_drewN h.2.2 j⟩
theorem AW.facts {k : Nat} {w w1 : World} {n : Nat} {a b : Int} (h : AW k w w1 n a b) :
    (w1.cell? ⟨k, 0, none⟩ = some (.int .i64 a) ∧ w1.frozen? ⟨k, 0, none⟩ = false) ∧ w1.cell? ⟨k + 1, 0, none⟩ = some (.int .i64 b) ∧ w1.frozen? ⟨k + 1, 0, none⟩ = false :=
  ⟨⟨h.2.1.head.cell 0 _ rfl, h.2.1.head.free 0⟩, h.2.1.tail.head.cell 0 _ rfl, h.2.1.tail.head.free 0⟩

set_option maxHeartbeats 1000000 in
set_option maxRecDepth 100000 in
theorem awake1 (k : Nat) (w w1 : World) (h : AW k w w1 0 0 0) :
    Calls Try.prog 125 #[.pointer (some ⟨k + 3, 0, none⟩), .pointer (some ⟨k, 0, none⟩), .pointer (some ⟨k + 1, 0, none⟩)] w1 fun e w2 => e = stopped 2 ∧ AW k w w2 3 1 515 := by
  have HG := Aside0.mk h
  clear h
  have v1 : ((be (bl (s123.extract 0 (0 + 1))) : Nat) : Int) = 1 := by decide +kernel
  have v2 : ((be (bl (s123.extract (0 + 1) (0 + 1 + 2))) : Nat) : Int) = 515 := by decide +kernel
  have V1 := Aside0.mk v1
  have V2 := Aside0.mk v2
  clear v1 v2
  go_enter Try.func125, Try.ntmps125
  go_wp2_with fail
  refine (Reader_U8.yes _ _ _ _ HG.out.1 (by decide)).mono ?_
  rintro e w2 ⟨rfl, g1⟩
  replace HG := Aside0.mk (HG.out.went g1)
  clear g1
  rw [V1.out]
  go_wp2_with fail
  refine (Reader_U16.yes _ _ _ _ HG.out.1 (by decide)).mono ?_
  rintro e w3 ⟨rfl, g1⟩
  replace HG := Aside0.mk (HG.out.went g1)
  clear g1
  rw [V2.out]
  obtain ⟨⟨c0, c1⟩, c2, c3⟩ := HG.out.facts
  go_wp2_with fail
  clear c0 c1 c2 c3
  replace HG := Aside0.mk (HG.out.puts 1 515)
  generalize (w3.setCell ⟨k, 0, none⟩ (.int .i64 1)).setCell ⟨k + 1, 0, none⟩ (.int .i64 515) = w4 at HG ⊢
  obtain ⟨⟨c0, c1⟩, c2, c3⟩ := HG.out.facts
  clear c0 c1
  go_region_with ((go_at_call 126; refine (Reader_U8.no _ _ 3 _ HG.out.drew.1 (by decide)).mono ?_; rintro e w5 ⟨rfl, j, rfl⟩; refine panicOut1 ?_))
  all_goals exact ⟨rfl, rfl, HG.out.drew.drewN _⟩

set_option maxRecDepth 100000 in
theorem awake_reads (w : World) :
    Calls Try.prog 46 #[.string s123, .func (.func 125) #[] #[.pointer (some ⟨w.heap.size, 0, none⟩), .pointer (some ⟨w.heap.size + 1, 0, none⟩)]] ((w.alloc (.cells #[.int .i64 0] 3)).alloc (.cells #[.int .i64 0] 3))
      fun e w' => e = .returned (.int .i64 2) ∧ (w'.cell? ⟨w.heap.size, 0, none⟩ = some (.int .i64 1) ∧ w'.cell? ⟨w.heap.size + 1, 0, none⟩ = some (.int .i64 515)) ∧ Below w.heap.size w w' := by
  obtain ⟨W, hW⟩ : ∃ W, W = (w.alloc (.cells #[.int .i64 0] 3)).alloc (.cells #[.int .i64 0] 3) := ⟨_, rfl⟩
  have hk : W.heap.size = w.heap.size + 2 := by rw [hW]; simp
  have b0 : Blk W w.heap.size 3 #[.int .i64 0] := by rw [hW]; exact (Blk.new w _ _).alloc _
  have b1 : Blk W (w.heap.size + 1) 3 #[.int .i64 0] := by
    rw [hW]
    have := Blk.new (w.alloc (.cells #[.int .i64 0] 3)) 3 #[.int .i64 0]
    rwa [World.size_alloc] at this
  have hb : Below w.heap.size w W := by rw [hW]; exact ((Below.refl _ _).alloc (Nat.le_refl _) _).alloc (by simp) _
  rw [← hW]
  clear hW
  have hrd := readW_rd W s123 (by decide)
  have hres := readW_res W s123
  have hbl := readW_below W s123
  rw [hk] at hrd hres hbl
  have hG : AW w.heap.size w (readW W s123) 0 0 0 := ⟨hrd, .cons (b0.below hbl (by omega)) (.cons (b1.below hbl (by omega)) (.cons hres (.nil _))), hb.trans (hbl.mono (by omega))⟩
  have h1 := Read_calls 125 #[.pointer (some ⟨w.heap.size, 0, none⟩), .pointer (some ⟨w.heap.size + 1, 0, none⟩)] s123 2 W (fun w2 => AW w.heap.size w w2 3 1 515) (fun _ _ => rfl)
  rw [hk] at h1
  refine (h1 ?_).mono ?_
  · refine (awake1 w.heap.size w _ hG).mono ?_
    rintro e w2 ⟨rfl, h⟩
    exact ⟨rfl, h.2.1.tail.tail.head, h⟩
  · rintro e w' ⟨rfl, w2, h, hg⟩
    exact ⟨rfl, ⟨(h.2.1.head.grown hg (by omega)).cell 0 _ rfl, (h.2.1.tail.head.grown hg (by omega)).cell 0 _ rfl⟩, h.2.2.trans (below_of_grown hg (by have := h.1.1.lt; omega) (by omega))⟩

def palanquinlaw01_awake.f : Option Bool := some true
set_option maxHeartbeats 1000000 in
set_option maxRecDepth 100000 in
theorem palanquinlaw01_awake.calls (r : Bool) (w : World) (h : palanquinlaw01_awake.f = some r) :
    Calls Try.prog 45 #[] w fun e w' => e = .returned (.bool r) ∧ Below w.heap.size w w' := by
  obtain rfl := Option.some.inj h
  clear h
  have hmf : ∀ (fn : Fn) (first cap : Array Value) (w : World), (Instr.makeFunc fn first cap).run Try.prog w = .ok (.func fn first cap) w := fun _ _ _ _ => rfl
  go_enter Try.func45, Try.ntmps45
  go_wp2_with fail
  refine (awake_reads w).mono ?_
  rintro e w2 ⟨rfl, ⟨c0, c1⟩, hb⟩
  have HB := Aside0.mk hb
  clear hb
  go_wp2
  go_ret
  exact ⟨rfl, HB.out⟩

theorem full1 (s : ByteArray) : s.extract 0 s.size = s := by
  apply ByteArray.ext
  rw [ByteArray.data_extract]
  exact Array.extract_eq_self_of_le (Nat.le_refl _)
def wantI (t : ByteArray) (n e : Int) : Int := if n < 0 ∨ (t.size : Int) < n then 2 else e

set_option maxHeartbeats 1000000 in
set_option maxRecDepth 100000 in
/-- The inner reading's closure: it takes n bytes, and stops. -/
theorem inside11 (m pn pe : Nat) (t : ByteArray) (n e : Int) (w1 : World) (hr : Rd w1 (m + 1) t 0) (hres : Blk w1 m 38 #[.int .i64 0]) (hn : pn < m) (he : pe < m) (cn : w1.cell? ⟨pn, 0, none⟩ = some (.int .i64 n)) (ce : w1.cell? ⟨pe, 0, none⟩ = some (.int .i64 e)) :
    Calls Try.prog 48 #[.pointer (some ⟨m + 1, 0, none⟩), .pointer (some ⟨pn, 0, none⟩), .pointer (some ⟨pe, 0, none⟩)] w1 fun e' w2 => e' = stopped (wantI t n e) ∧ Blk w2 m 38 #[.int .i64 0] ∧ Below m w1 w2 := by
  have HR := Aside0.mk hr
  have HE := Aside0.mk hres
  clear hr hres
  by_cases hb : n < 0 ∨ (t.size : Int) < n
  · have hw : wantI t n e = 2 := if_pos hb
    rw [hw]
    have HX := Aside0.mk hb
    clear hb hw
    go_enter Try.func48, Try.ntmps48
    go_wp2_with fail
    refine (Reader_Take.no _ t 0 n _ HR.out (by have := HX.out; omega)).mono ?_
    rintro e' w2 ⟨rfl, j, rfl⟩
    exact ⟨rfl, rfl, HE.out.drewN j, pw_below_drewN (Below.refl _ _) j⟩
  · have hw : wantI t n e = e := if_neg hb
    rw [hw]
    obtain ⟨i, rfl⟩ := Int.eq_ofNat_of_zero_le (show 0 ≤ n by omega)
    have HX := Aside0.mk (show i ≤ t.size by omega)
    clear hb hw
    go_enter Try.func48, Try.ntmps48
    go_wp2_with fail
    refine (Reader_Take.yes _ t 0 i _ HR.out (by have := HX.out; omega)).mono ?_
    rintro e' w2 ⟨rfl, j, q, rfl⟩
    have hw1 := grown_drewN (World.grownBy.trans (grown_drewN (grown_refl w1 _) j) (grown_setCell _ (m + 1) 1 (.int .i64 ((0 + i : Nat) : Int)))) q
    have HB := Aside0.mk (below_of_grown (B := m) hw1 (by have := HE.out.lt; omega) (by omega))
    replace HE := Aside0.mk (HE.out.grown hw1 (by omega))
    have ce2 := (HB.out.cell (p := ⟨pe, 0, none⟩) he).trans ce
    clear hw1 ce cn
    generalize ((w1.drewN j).setCell ⟨m + 1, 1, none⟩ (.int .i64 ((0 + i : Nat) : Int))).drewN q = w3 at HB HE ce2 ⊢
    go_wp2_with fail
    refine (Reader_Need.no _ _ _).mono ?_
    rintro e' w4 ⟨rfl, rfl⟩
    exact ⟨rfl, rfl, HE.out, HB.out⟩

/-- What the outer closure works on: t, n, e; the inner error and what is left. -/
def IN (k j : Nat) (t : ByteArray) (n e : Int) (w1 : World) (i : Int) (x : ByteArray) : Prop :=
  Hp w1 [(k, 9, #[.string t]), (k + 1, 3, #[.int .i64 n]), (k + 1 + 1, 3, #[.int .i64 e]), (j, 38, #[.int .i64 i]), (j + 1, 9, #[.string x])]
theorem IN.below {k j : Nat} {t : ByteArray} {n e : Int} {w1 w2 : World} {i : Int} {x : ByteArray} (h : IN k j t n e w1 i x) {B : Nat} (hg : Below B w1 w2) (hk : k + 2 < B) (hj : j + 1 < B) : IN k j t n e w2 i x :=
  Hp.below h hg (by simp; omega)
theorem IN.grown {k j : Nat} {t : ByteArray} {n e : Int} {w1 w2 : World} {i : Int} {x : ByteArray} (h : IN k j t n e w1 i x) {R : Nat} (hg : w1.grownBy w2 (some R)) (hk : k + 2 < R) (hj : j + 1 < R) : IN k j t n e w2 i x :=
  Hp.grown h hg (by simp; omega)
theorem IN.inner {k j : Nat} {t : ByteArray} {n e : Int} {w1 : World} {i : Int} {x : ByteArray} (h : IN k j t n e w1 i x) (hk : k + 2 < j) (i' : Int) : IN k j t n e (w1.setCell ⟨j, 0, none⟩ (.int .i64 i')) i' x :=
  Hp.set (l1 := [_, _, _]) (l2 := [_]) h 0 (.int .i64 i') (by simp; omega) (by simp)
theorem IN.rest {k j : Nat} {t : ByteArray} {n e : Int} {w1 : World} {i : Int} {x : ByteArray} (h : IN k j t n e w1 i x) (hk : k + 2 < j) (y : ByteArray) : IN k j t n e (w1.setCell ⟨j + 1, 0, none⟩ (.string y)) i y :=
  Hp.set (l1 := [_, _, _, _]) (l2 := []) h 0 (.string y) (by simp; omega) (by simp)
theorem IN.facts {k j : Nat} {t : ByteArray} {n e : Int} {w1 : World} {i : Int} {x : ByteArray} (h : IN k j t n e w1 i x) :
    w1.cell? ⟨k, 0, none⟩ = some (.string t) ∧ w1.cell? ⟨k + 1, 0, none⟩ = some (.int .i64 n) ∧ w1.cell? ⟨k + 1 + 1, 0, none⟩ = some (.int .i64 e) ∧ (w1.cell? ⟨j, 0, none⟩ = some (.int .i64 i) ∧ w1.frozen? ⟨j, 0, none⟩ = false) ∧ w1.cell? ⟨j + 1, 0, none⟩ = some (.string x) ∧ w1.frozen? ⟨j + 1, 0, none⟩ = false :=
  ⟨h.head.cell 0 _ rfl, h.tail.head.cell 0 _ rfl, h.tail.tail.head.cell 0 _ rfl, ⟨h.tail.tail.tail.head.cell 0 _ rfl, h.tail.tail.tail.head.free 0⟩, h.tail.tail.tail.tail.head.cell 0 _ rfl, h.tail.tail.tail.tail.head.free 0⟩

set_option maxHeartbeats 1000000 in
set_option maxRecDepth 100000 in
theorem inside1 (k j : Nat) (s t : ByteArray) (n e : Int) (he : e ≠ 0) (ht : t.size ≤ 140737488351232) (w1 : World) (hkj : k + 2 < j) (hr : Rd w1 (j + 3) s 0) (hres : Blk w1 (j + 2) 38 #[.int .i64 0]) (h : IN k j t n e w1 0 ⟨#[]⟩) :
    Calls Try.prog 47 #[.pointer (some ⟨j + 3, 0, none⟩), .pointer (some ⟨k, 0, none⟩), .pointer (some ⟨k + 1, 0, none⟩), .pointer (some ⟨k + 1 + 1, 0, none⟩), .pointer (some ⟨j, 0, none⟩), .pointer (some ⟨j + 1, 0, none⟩)] w1 fun e' w2 => e' = .returned (.tuple #[]) ∧ Blk w2 (j + 2) 38 #[.int .i64 0] ∧ IN k j t n e w2 (wantI t n e) s ∧ Below j w1 w2 := by
  have hmf : ∀ (fn : Fn) (first cap : Array Value) (w : World), (Instr.makeFunc fn first cap).run Try.prog w = .ok (.func fn first cap) w := fun _ _ _ _ => rfl
  obtain ⟨c0, c1, c2, ⟨c3, z3⟩, c4, z4⟩ := h.facts
  have hlt := hr.1.lt
  have hw0 : wantI t n e ≠ 0 := by unfold wantI; split <;> omega
  have HQ := Aside0.mk (show Calls Try.prog 46 #[.string t, .func (.func 48) #[] #[.pointer (some ⟨k + 1, 0, none⟩), .pointer (some ⟨k + 1 + 1, 0, none⟩)]] w1 fun e' w' => e' = .returned (.int .i64 (wantI t n e)) ∧ Below w1.heap.size w1 w' by
    refine (Read_calls 48 #[.pointer (some ⟨k + 1, 0, none⟩), .pointer (some ⟨k + 1 + 1, 0, none⟩)] t (wantI t n e) w1 (fun w2 => Below w1.heap.size w1 w2) (fun _ _ => rfl) ?_).mono ?_
    · have hb := readW_below w1 t
      refine (inside11 w1.heap.size (k + 1) (k + 1 + 1) t n e _ (readW_rd w1 t ht) (readW_res w1 t) (by omega) (by omega) ((hb.cell (p := ⟨k + 1, 0, none⟩) (by show k + 1 < _; omega)).trans c1) ((hb.cell (p := ⟨k + 1 + 1, 0, none⟩) (by show k + 1 + 1 < _; omega)).trans c2)).mono ?_
      rintro e' w2 ⟨rfl, h1, h2⟩
      exact ⟨by unfold did; rw [if_neg hw0], h1, hb.trans h2⟩
    · rintro e' w' ⟨rfl, w2, h1, hg⟩
      exact ⟨rfl, h1.trans (below_of_grown hg h1.size (Nat.le_refl _))⟩)
  have HI := Aside0.mk h
  have HR := Aside0.mk hr
  have HE := Aside0.mk hres
  have HL := Aside0.mk hlt
  clear h hr hres hlt hw0 c1 c2 c4 z4
  go_enter Try.func47, Try.ntmps47
  go_wp2_with fail
  refine HQ.out.mono ?_
  rintro e' w2 ⟨rfl, g1⟩
  replace HI := Aside0.mk (HI.out.below g1 (by have := HL.out; omega) (by have := HL.out; omega))
  replace HR := Aside0.mk (HR.out.below g1)
  replace HE := Aside0.mk (HE.out.below g1 HE.out.lt)
  have HB := Aside0.mk (g1.mono (B' := j) (by have := HL.out; omega))
  clear g1 HQ c0 c3 z3
  obtain ⟨c0, c1, c2, ⟨c3, z3⟩, c4, z4⟩ := HI.out.facts
  clear c0 c1 c2 c4 z4
  go_wp2_with fail
  clear c3 z3
  replace HI := Aside0.mk (HI.out.inner (by have := HL.out; omega) (wantI t n e))
  replace HR := Aside0.mk (show Rd (w2.setCell ⟨j, 0, none⟩ (.int .i64 (wantI t n e))) (j + 3) s 0 from ⟨HR.out.1.other _ (by simp) _, HR.out.2⟩)
  replace HE := Aside0.mk (HE.out.other ⟨j, 0, none⟩ (by simp) (.int .i64 (wantI t n e)))
  replace HB := Aside0.mk (HB.out.setCell (p := ⟨j, 0, none⟩) (Nat.le_refl _) (.int .i64 (wantI t n e)))
  generalize w2.setCell ⟨j, 0, none⟩ (.int .i64 (wantI t n e)) = w3 at HI HR HE HB ⊢
  refine (Reader_Rest.calls _ _ _ _ HR.out).mono ?_
  rintro e' w4 ⟨rfl, g1⟩
  replace HI := Aside0.mk (HI.out.grown g1.1 (by omega) (by omega))
  replace HE := Aside0.mk (HE.out.grown g1.1 (by omega))
  replace HB := Aside0.mk (HB.out.trans (below_of_grown g1.1 (by have := HR.out.1.lt; omega) (by omega)))
  clear g1
  rw [full1]
  obtain ⟨c0, c1, c2, ⟨c3, z3⟩, c4, z4⟩ := HI.out.facts
  clear c0 c1 c2 c3 z3
  go_wp2
  go_end0
  exact ⟨rfl, HE.out.other _ (by simp) _, HI.out.rest (by have := HL.out; omega) s, HB.out.setCell (p := ⟨j + 1, 0, none⟩) (by simp) _⟩

theorem IN.new {w : World} {k j : Nat} {t : ByteArray} {n e : Int} (hk : k + 2 < j) (hj : j = w.heap.size) (h : Hp w [(k, 9, #[.string t]), (k + 1, 3, #[.int .i64 n]), (k + 1 + 1, 3, #[.int .i64 e])]) :
    IN k j t n e ((w.alloc (.cells #[.int .i64 0] 38)).alloc (.cells #[.string ⟨#[]⟩] 9)) 0 ⟨#[]⟩ := by
  subst hj
  have b1 := Blk.new (w.alloc (.cells #[.int .i64 0] 38)) 9 #[.string ⟨#[]⟩]
  rw [World.size_alloc] at b1
  exact .cons ((h.head.alloc _).alloc _) (.cons ((h.tail.head.alloc _).alloc _) (.cons ((h.tail.tail.head.alloc _).alloc _) (.cons ((Blk.new w _ _).alloc _) (.cons b1 (.nil _)))))

set_option maxHeartbeats 2000000 in
set_option maxRecDepth 100000 in
theorem inside_main (s t : ByteArray) (n e : Int) (ht : t.size ≤ 140737488351232) (hs : s.size ≤ 140737488351232) (w : World) :
    Calls Try.prog 7 #[.string s, .string t, .int .i64 n, .int .i64 e] w fun e' w' => e' = .returned (.bool true) ∧ Below w.heap.size w w' := by
  have hmf : ∀ (fn : Fn) (first cap : Array Value) (w : World), (Instr.makeFunc fn first cap).run Try.prog w = .ok (.func fn first cap) w := fun _ _ _ _ => rfl
  have HT := Aside0.mk ht
  have HS := Aside0.mk hs
  clear ht hs
  have HB := Aside0.mk ((((Below.refl w.heap.size w).alloc (Nat.le_refl _) (.cells #[.string t] 9)).alloc (by simp) (.cells #[.int .i64 n] 3)).alloc (by simp; omega) (.cells #[.int .i64 e] 3))
  have b1 := Blk.new (w.alloc (.cells #[.string t] 9)) 3 #[.int .i64 n]
  rw [World.size_alloc] at b1
  have b2 := Blk.new ((w.alloc (.cells #[.string t] 9)).alloc (.cells #[.int .i64 n] 3)) 3 #[.int .i64 e]
  rw [World.size_alloc, World.size_alloc] at b2
  have HK := Aside0.mk (show Hp (((w.alloc (.cells #[.string t] 9)).alloc (.cells #[.int .i64 n] 3)).alloc (.cells #[.int .i64 e] 3)) [(w.heap.size, 9, #[.string t]), (w.heap.size + 1, 3, #[.int .i64 n]), (w.heap.size + 1 + 1, 3, #[.int .i64 e])] from
    .cons (((Blk.new w _ _).alloc _).alloc _) (.cons (b1.alloc _) (.cons b2 (.nil _))))
  clear b1 b2
  go_enter Try.func7, Try.ntmps7
  go_wp2_with fail
  refine (palanquinlaw01_awake.calls true _ rfl).mono ?_
  rintro e' w2 ⟨rfl, g1⟩
  have HZ := Aside0.mk (show w.heap.size + 3 ≤ w2.heap.size by have := g1.size; simp at this; omega)
  replace HB := Aside0.mk (HB.out.trans (g1.mono HB.out.size))
  replace HK := Aside0.mk (HK.out.below g1 (by simp; omega))
  clear g1
  have c0 := HK.out.head.cell 0 _ rfl
  have c1 := HK.out.tail.head.cell 0 _ rfl
  have c2 := HK.out.tail.tail.head.cell 0 _ rfl
  by_cases q1 : 5000 < s.size
  · have d1 : decide ((5000 : Int) < (s.size : Int)) = true := decide_eq_true (by omega)
    have d2 : decide (5000 < s.size) = true := decide_eq_true q1
    clear q1
    go_wp2
    go_ret
    exact ⟨rfl, HB.out⟩
  have d1 : decide ((5000 : Int) < (s.size : Int)) = false := decide_eq_false (by omega)
  have d2 : decide (5000 < s.size) = false := decide_eq_false q1
  by_cases q2 : 5000 < t.size
  · have d3 : decide ((5000 : Int) < (t.size : Int)) = true := decide_eq_true (by omega)
    have d4 : decide (5000 < t.size) = true := decide_eq_true q2
    clear q1 q2
    go_wp2
    go_ret
    exact ⟨rfl, HB.out⟩
  have d3 : decide ((5000 : Int) < (t.size : Int)) = false := decide_eq_false (by omega)
  have d4 : decide (5000 < t.size) = false := decide_eq_false q2
  by_cases q3 : e = 0
  · have d5 : (e == 0) = true := by rw [beq_iff_eq]; exact q3
    clear q1 q2
    go_wp2
    go_ret
    exact ⟨rfl, HB.out⟩
  have d5 : (e == 0) = false := by rw [beq_eq_false_iff_ne]; exact q3
  have HE := Aside0.mk q3
  clear q1 q2 q3
  obtain ⟨j, hj⟩ : ∃ j, j = w2.heap.size := ⟨_, rfl⟩
  have HJ := Aside0.mk hj
  clear hj
  go_wp2_with fail
  clear d1 d2 d3 d4 d5 c0 c1 c2
  have HI := Aside0.mk (IN.new (w := w2) (j := w2.heap.size) (by have := HZ.out; omega) rfl HK.out)
  replace HB := Aside0.mk ((HB.out.alloc HB.out.size (.cells #[.int .i64 0] 38)).alloc (by have := HB.out.size; simp; omega) (.cells #[.string ⟨#[]⟩] 9))
  have hsz : ((w2.alloc (.cells #[.int .i64 0] 38)).alloc (.cells #[.string ⟨#[]⟩] 9)).heap.size = w2.heap.size + 2 := by simp
  generalize (w2.alloc (.cells #[.int .i64 0] 38)).alloc (.cells #[.string ⟨#[]⟩] 9) = W at HI HB hsz ⊢
  have HQ := Aside0.mk (show Calls Try.prog 46 #[.string s, .func (.func 47) #[] #[.pointer (some ⟨w.heap.size, 0, none⟩), .pointer (some ⟨w.heap.size + 1, 0, none⟩), .pointer (some ⟨w.heap.size + 1 + 1, 0, none⟩), .pointer (some ⟨w2.heap.size, 0, none⟩), .pointer (some ⟨w2.heap.size + 1, 0, none⟩)]] W fun e' w' => e' = .returned (.int .i64 0) ∧ IN w.heap.size w2.heap.size t n e w' (wantI t n e) s ∧ Below w2.heap.size W w' by
    have h1 := Read_calls 47 #[.pointer (some ⟨w.heap.size, 0, none⟩), .pointer (some ⟨w.heap.size + 1, 0, none⟩), .pointer (some ⟨w.heap.size + 1 + 1, 0, none⟩), .pointer (some ⟨w2.heap.size, 0, none⟩), .pointer (some ⟨w2.heap.size + 1, 0, none⟩)] s 0 W (fun w3 => IN w.heap.size w2.heap.size t n e w3 (wantI t n e) s ∧ Below w2.heap.size W w3) (fun _ _ => rfl)
    have hz := HZ.out
    have hrd := readW_rd W s HS.out
    have hres := readW_res W s
    have hbl := readW_below W s
    rw [hsz] at h1 hrd hres hbl
    refine (h1 ?_).mono ?_
    · refine (inside1 w.heap.size w2.heap.size s t n e HE.out HT.out _ (by omega) hrd hres (HI.out.below hbl (by omega) (by omega))).mono ?_
      rintro e' w3 ⟨rfl, h2, h3, h4⟩
      exact ⟨rfl, h2, h3, (hbl.mono (by omega)).trans h4⟩
    · rintro e' w' ⟨rfl, w3, ⟨h2, h3⟩, hg⟩
      exact ⟨rfl, h2.grown hg (by omega) (by omega), h3.trans (below_of_grown hg (by have := h3.size; omega) (by omega))⟩)
  refine HQ.out.mono ?_
  rintro e' w4 ⟨rfl, h3, h4⟩
  replace HB := Aside0.mk (HB.out.trans (h4.mono (by have := HZ.out; omega)))
  clear HQ HI h4 hsz
  obtain ⟨c0, c1, c2, ⟨c3, z3⟩, c4, z4⟩ := h3.facts
  clear h3
  have k1 : (s.toList == s.toList) = true := beq_self_eq_true _
  by_cases q1 : n < 0
  · have d1 : decide (n < 0) = true := decide_eq_true q1
    have e1 : wantI t n e = 2 := if_pos (.inl q1)
    rw [e1] at c3
    clear q1
    go_wp2
    go_ret
    exact ⟨rfl, HB.out⟩
  have d1 : decide (n < 0) = false := decide_eq_false q1
  by_cases q2 : (t.size : Int) < n
  · have d2 : decide ((t.size : Int) < n) = true := decide_eq_true q2
    have e1 : wantI t n e = 2 := if_pos (.inr q2)
    rw [e1] at c3
    clear q1 q2
    go_wp2
    go_ret
    exact ⟨rfl, HB.out⟩
  have d2 : decide ((t.size : Int) < n) = false := decide_eq_false q2
  have e1 : wantI t n e = e := if_neg (fun h => h.elim q1 q2)
  rw [e1] at c3
  clear q1 q2
  go_wp2
  go_ret
  exact ⟨rfl, HB.out⟩

def palanquinlaw01_WireInside.f (a0 a1 : ByteArray) (a2 a3 : Int) : Option Bool := if a0.size ≤ 140737488351232 ∧ a1.size ≤ 140737488351232 then some true else none
theorem palanquinlaw01_WireInside.calls (a0 a1 : ByteArray) (a2 a3 : Int) (r : Bool) (w : World) (h : palanquinlaw01_WireInside.f a0 a1 a2 a3 = some r) :
    Calls Try.prog 7 #[.string a0, .string a1, .int .i64 a2, .int .i64 a3] w fun e w' => e = .returned (.bool r) ∧ Below w.heap.size w w' := by
  unfold palanquinlaw01_WireInside.f at h
  split at h
  case isFalse => exact absurd h (by simp)
  rename_i hs
  obtain rfl := Option.some.inj h
  exact inside_main a0 a1 a2 a3 hs.2 hs.1 w
end Go.Proofs.Ytejmipoolbodgaa.G
