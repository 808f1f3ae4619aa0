/- Texts of this session, joined: each is a section. -/
import Derived.Test.YteeljehkphfmdaaMWireBack11
import Derived.Test.YteeljehkphfmdaaMWireBack1
import Derived.Deep.Fields
import Derived.Deep.Strs
import Derived.WideShapes
import Derived.ChangeArms
import Derived.Test.YteeljehkphfmdaaMWireBack4
import Derived.Lib.SmallJoins
set_option linter.unusedVariables false
set_option linter.unusedSimpArgs false
section
namespace Go.Proofs.Yteeljehkphfmdaa.Pure
open Go.RowKit Go.Proofs.Yteeljehkphfmdaa.G
theorem WireBack (l0 : List S27) (a1 : Int) (w0 : ∀ c ∈ l0, (0 ≤ c.f2 ∧ c.f2 < 18446744073709551616) ∧ c.f3.size ≤ 140737488351232) (_ : (Lit.int .i64 a1).wf = true) : palanquinlaw01_WireBack.f l0 a1 = some true := if_pos w0
end Go.Proofs.Yteeljehkphfmdaa.Pure
end

section
namespace Go.Proofs.Yteeljehkphfmdaa.Pal
open Go.RowKit Go.ChangeShapes Go.WideShapes Go.Deep Go.Proofs.YteeljehkphfmdaaW.PrintWords
section
variable {H : Type} {enc : TypeId × Value → H} {P : Program} {w : World} {base : Nat} {spare : Nat → Bool} {held : Bool}
theorem open_fields {r : Reach} {b0 : Nat} {t : TypeId} {fs : Array Field} {v : Value} {d : DataW H} {p : List MemPlace} (hs : P.underlying t = some (.struct fs)) (hone : oneCellFields P fs = true)
    (hv : Value.okWide P w r b0 t v) (h : DataW.Trod enc P w base spare held t v d p) :
    ∃ (cs : Array Value), v = .agg cs ∧ cs.size = P.cellsOf t ∧ ∀ (j : Nat) (f : Field) (c : Value), fs[j]? = some f → cs[j]? = some c → ∃ (n : Nat) (y : DataW H × List MemPlace), DataW.trod enc P w base spare held n f.type [c] = some y := by
  obtain ⟨cs, rfl, hsz⟩ := okWide_struct hs hv
  obtain ⟨fuel, hf⟩ := h
  obtain ⟨xs, n, _, _, _, hlen, hF⟩ := DataW.trod_struct hs hf
  refine ⟨cs, rfl, hsz, fun j f c hj hc => ?_⟩
  obtain ⟨o0, k0⟩ := hone_of hone j f hj
  have hj' : j < xs.length := by rw [hlen]; exact (Array.getElem?_eq_some_iff.1 hj).1
  refine ⟨n, xs[j], ?_⟩
  have e := hF j f hj
  rw [o0, k0, List.getElem?_eq_getElem hj'] at e
  have hc' : (Value.cells (.agg cs)).toList.drop j = c :: (Value.cells (.agg cs)).toList.drop (j + 1) := by
    obtain ⟨hlt, rfl⟩ := Array.getElem?_eq_some_iff.1 hc
    show cs.toList.drop j = cs[j] :: cs.toList.drop (j + 1)
    rw [List.drop_eq_getElem_cons (by simpa using hlt), Array.getElem_toList]
  rw [hc'] at e
  simpa using e
theorem leaf_int {n : Nat} {t : TypeId} {k : IntKind} {c : Value} {y : DataW H × List MemPlace} (ht : P.underlying t = some (.int k)) (h : DataW.trod enc P w base spare held n t [c] = some y) : ∃ a, c = .int k a ∧ (Lit.int k a).wf = true := by
  obtain ⟨a, e1, _, h2⟩ := DataW.trod_int ht h
  exact ⟨a, by simpa using e1, h2⟩
theorem leaf_str {n : Nat} {t : TypeId} {c : Value} {y : DataW H × List MemPlace} (ht : P.underlying t = some .string) (h : DataW.trod enc P w base spare held n t [c] = some y) : ∃ a : ByteArray, c = .string a ∧ a.size ≤ maxLen := by
  obtain ⟨a, e1, _, h2⟩ := DataW.trod_string ht h
  exact ⟨a, by simpa using e1, h2⟩
theorem leaf_bool {n : Nat} {t : TypeId} {c : Value} {y : DataW H × List MemPlace} (ht : P.underlying t = some .bool) (h : DataW.trod enc P w base spare held n t [c] = some y) : ∃ a : Bool, c = .bool a := by
  obtain ⟨a, e1, _⟩ := DataW.trod_bool ht h
  exact ⟨a, by simpa using e1⟩
theorem mem_texts {H : Type} {P : Program} {e : TypeId} {s : ByteArray} : ∀ {l : List ByteArray}, s ∈ l → s.size ∈ DataW.weightsAll (H := H) P e (l.map fun s => .lit (.string s.data.toList))
  | x :: l, h => by
    rw [List.map_cons, DataW.weightsAll, List.mem_append]
    rcases List.mem_cons.1 h with rfl | h
    · left; simp [DataW.weights]
    · exact Or.inr (mem_texts h)
theorem open_texts {r : Reach} {b0 : Nat} {t e : TypeId} {v : Value} {d : DataW H} {p : List MemPlace} (ht : P.underlying t = some (.slice e)) (he : P.underlying e = some .string) (hc : P.cellsOf e = 1)
    (hv : Value.okWide P w r b0 t v) (h : DataW.Trod enc P w base spare held t v d p) :
    ∃ (A : Option Addr) (l : List ByteArray) (cap : Nat), v = .slice A l.length cap ∧ l.length ≤ cap ∧ Kd.C Kd.string w A l.length l ∧ (∀ s ∈ l, s.size ∈ DataW.weights P t d) := by
  obtain ⟨A, len, cap, rfl⟩ := okWide_slice ht hv
  obtain ⟨fuel, hf⟩ := h
  rcases open_strs ht he hc hf with ⟨hcs, _⟩ | ⟨a, ln, c, m, Sx, hcs, _, hl, hm, hmm, hdp, hcell⟩
  · simp [Value.cells] at hcs
    obtain ⟨rfl, rfl, rfl⟩ := hcs
    exact ⟨none, [], 0, rfl, Nat.le_refl _, ⟨rfl, by decide, fun h => absurd h (by decide)⟩, fun s hs => nomatch hs⟩
  · simp [Value.cells] at hcs
    obtain ⟨rfl, rfl, rfl⟩ := hcs
    have hlm : len ≤ m := by rw [hmm]; split <;> omega
    refine ⟨some a, (List.range len).map Sx, cap, by simp, by simpa using hl, ⟨by simp, by simp; exact Nat.le_trans hl (Nat.le_trans hm (by decide)), fun _ => ⟨a, rfl, fun j q hj => ?_⟩⟩, fun s hs => ?_⟩
    · rw [List.getElem?_map] at hj
      by_cases hjl : j < len
      · rw [List.getElem?_range hjl] at hj
        obtain rfl : Sx j = q := by simpa using hj
        refine ⟨[.string (Sx j)], rfl, rfl, fun i u hi => ?_⟩
        match i, hi with
        | 0, hi =>
          obtain rfl : Value.string (Sx j) = u := by simpa using hi
          simpa [Kd.string, Kd.scalar] using (hcell j (by omega)).1
        | i + 1, hi => simp at hi
      · rw [List.getElem?_eq_none (by simpa using hjl)] at hj
        simp at hj
    · have hd := congrArg Prod.fst hdp
      dsimp only at hd
      rw [hd, DataW.weights, ht]
      refine List.mem_cons_of_mem _ (List.mem_append.2 (Or.inl ?_))
      have e1 := mem_texts (H := H) (P := P) (e := e) hs
      rwa [List.map_map] at e1
end
end Go.Proofs.Yteeljehkphfmdaa.Pal
end

section
namespace Go.Proofs.Yteeljehkphfmdaa.Pal
open Go.RowKit Go.ChangeShapes Go.WideShapes Go.Deep Go.Proofs.YteeljehkphfmdaaW.PrintWords Go.Proofs.Yteeljehkphfmdaa.G
set_option maxRecDepth 100000
section
variable {H : Type} {enc : TypeId × Value → H} {w : World} {base : Nat} {spare : Nat → Bool} {held : Bool}
instance : Inhabited S27 := ⟨z27⟩
theorem fields27 : ∃ f0 f1 f2 f3 : Field, Try.prog.underlying 27 = some (.struct #[f0, f1, f2, f3]) ∧ (f0.offset = 0 ∧ f1.offset = 1 ∧ f2.offset = 2 ∧ f3.offset = 3) ∧ (Try.prog.cellsOf f0.type = 1 ∧ Try.prog.cellsOf f1.type = 1 ∧ Try.prog.cellsOf f2.type = 1 ∧ Try.prog.cellsOf f3.type = 1) ∧ Try.prog.underlying f0.type = some (.int .i64) ∧ Try.prog.underlying f1.type = some (.int .i64) ∧ Try.prog.underlying f2.type = some (.int .u64) ∧ Try.prog.underlying f3.type = some .string :=
  ⟨_, _, _, _, Try.underlying27, ⟨rfl, rfl, rfl, rfl⟩, ⟨by kernel_rfl, by kernel_rfl, by kernel_rfl, by kernel_rfl⟩, by kernel_rfl, by kernel_rfl, by kernel_rfl, by kernel_rfl⟩
theorem cells27 : Try.prog.cellsOf 27 = 4 := by kernel_rfl
def Call27 (cs : List Value) (d : DataW H) (x : S27) : Prop :=
  cs = [.int .i64 x.f0, .int .i64 x.f1, .int .u64 x.f2, .string x.f3] ∧ (0 ≤ x.f2 ∧ x.f2 < 18446744073709551616) ∧ x.f3.size ∈ DataW.weights Try.prog 27 d
theorem open_call {n : Nat} {cs : List Value} {d : DataW H} {p : List MemPlace} (h : DataW.trod enc Try.prog w base spare held n 27 cs = some (d, p)) : ∃ x : S27, Call27 cs d x := by
  obtain ⟨f0, f1, f2, f3, hs, ⟨o0, o1, o2, o3⟩, ⟨z0, z1, z2, z3⟩, t0, t1, t2, t3⟩ := fields27
  obtain ⟨xs, m, _, hx, hl, hlen, hF⟩ := DataW.trod_struct hs h
  rw [cells27] at hl
  have e0 := hF 0 f0 rfl
  have e1 := hF 1 f1 rfl
  have e2 := hF 2 f2 rfl
  have e3 := hF 3 f3 rfl
  rw [o0, z0] at e0
  rw [o1, z1] at e1
  rw [o2, z2] at e2
  rw [o3, z3] at e3
  match cs, hl with
  | [c0, c1, c2, c3], _ =>
    match xs, hlen with
    | [y0, y1, y2, y3], _ =>
      obtain ⟨a0, rfl, _⟩ := leaf_int t0 (y := y0) (by simpa using e0)
      obtain ⟨a1, rfl, _⟩ := leaf_int t1 (y := y1) (by simpa using e1)
      obtain ⟨a2, rfl, r2⟩ := leaf_int t2 (y := y2) (by simpa using e2)
      obtain ⟨a3, q3, q4, _⟩ := DataW.trod_string t3 (x := y3) (by simpa using e3)
      obtain rfl : c3 = .string a3 := by simpa using q3
      refine ⟨⟨a0, a1, a2, a3⟩, rfl, ?_, ?_⟩
      · simp [Lit.wf, IntKind.min, IntKind.max, IntKind.signed, IntKind.bits] at r2
        exact ⟨show 0 ≤ a2 by omega, show a2 < 18446744073709551616 by omega⟩
      · have hd := congrArg Prod.fst hx
        dsimp only at hd
        rw [hd, DataW.weights, hs, q4]
        simp [DataW.weightsEach, DataW.weights]
theorem mem_calls {s : Nat} : ∀ {l : List (DataW H)} {d : DataW H}, d ∈ l → s ∈ DataW.weights Try.prog 27 d → s ∈ DataW.weightsAll Try.prog 27 l
  | x :: l, d, h, hs => by
    rw [DataW.weightsAll, List.mem_append]
    rcases List.mem_cons.1 h with rfl | h
    · exact Or.inl hs
    · exact Or.inr (mem_calls h hs)
theorem open_calls {r : Reach} {b0 : Nat} {t : TypeId} {v : Value} {d : DataW H} {p : List MemPlace} (ht : Try.prog.underlying t = some (.slice 27))
    (hv : Value.okWide Try.prog w r b0 t v) (h : DataW.Trod enc Try.prog w base spare held t v d p) :
    ∃ (A : Option Addr) (l : List S27) (cap : Nat), v = .slice A l.length cap ∧ l.length ≤ cap ∧ Kd.C k27 w A l.length l ∧ (∀ c ∈ l, (0 ≤ c.f2 ∧ c.f2 < 18446744073709551616) ∧ c.f3.size ∈ DataW.weights Try.prog t d) := by
  obtain ⟨A, len, cap, rfl⟩ := okWide_slice ht hv
  obtain ⟨fuel, hf⟩ := h
  rcases open_slice ht hf with ⟨hcs, _⟩ | ⟨a, ln, c, m, n, D, Pl, hcs, _, hl, hm, hmm, hdp, hcell⟩
  · simp [Value.cells] at hcs
    obtain ⟨rfl, rfl, rfl⟩ := hcs
    exact ⟨none, [], 0, rfl, Nat.le_refl _, ⟨rfl, by decide, fun h => absurd h (by decide)⟩, fun s hs => nomatch hs⟩
  · simp [Value.cells] at hcs
    obtain ⟨rfl, rfl, rfl⟩ := hcs
    rw [cells27] at hcell
    have hlm : len ≤ m := by rw [hmm]; split <;> omega
    obtain ⟨X, hX⟩ := choose_lt (α := S27 × List Value) (n := m) (p := fun i x => w.cells? base (a.add (i * 4)) 4 = some x.2 ∧ Call27 x.2 (D i) x.1) (fun i hi => by
      obtain ⟨cs', h1, h2⟩ := hcell i hi
      obtain ⟨x, hx⟩ := open_call h2
      exact ⟨(x, cs'), h1, hx⟩)
    refine ⟨some a, (List.range len).map fun i => (X i).1, cap, by simp, by simpa using hl, ⟨by simp, by simp; exact Nat.le_trans hl (Nat.le_trans hm (by decide)), fun _ => ⟨a, rfl, fun j q hj => ?_⟩⟩, fun s hs => ?_⟩
    · rw [List.getElem?_map] at hj
      by_cases hjl : j < len
      · rw [List.getElem?_range hjl] at hj
        obtain rfl : (X j).1 = q := by simpa using hj
        obtain ⟨h1, h2, _⟩ := hX j (by omega)
        refine ⟨[.int .i64 (X j).1.f0, .int .i64 (X j).1.f1, .int .u64 (X j).1.f2, .string (X j).1.f3], rfl, k27_mk w _, fun i u hi => ?_⟩
        rw [h2] at h1
        obtain ⟨_, hlen, hc⟩ := World.cells?_some h1
        have hi4 : i < 4 := by
          have := (List.getElem?_eq_some_iff.1 hi).1
          simpa using this
        have := hc i hi4
        rw [hi] at this
        rw [show (X j).1.f0 = (X j).1.f0 from rfl] at *
        have e : (a.add (j * 4)).add i = a.add (j * 4 + i) := Go.Deep.add_add _ _ _
        rw [e] at this
        exact this
      · rw [List.getElem?_eq_none (by simpa using hjl)] at hj
        simp at hj
    · obtain ⟨i, hi, rfl⟩ := List.mem_map.1 hs
      have hi' : i < len := by simpa using hi
      obtain ⟨_, _, h3, h4⟩ := hX i (by omega)
      refine ⟨h3, ?_⟩
      have hd := congrArg Prod.fst hdp
      dsimp only at hd
      rw [hd, DataW.weights, ht]
      refine List.mem_cons_of_mem _ (List.mem_append.2 (Or.inl ?_))
      exact mem_calls (List.mem_map.2 ⟨i, by simpa using hi', rfl⟩) h4
end
end Go.Proofs.Yteeljehkphfmdaa.Pal
end
