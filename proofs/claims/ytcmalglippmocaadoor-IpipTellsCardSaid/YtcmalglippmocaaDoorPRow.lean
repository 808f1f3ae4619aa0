/- Plain facts for rows: arguments that are structs of one-cell fields, and slices of strings, laid open. No function of the program in it. -/
import Derived.Test.YtcmalglippmocaaDoorWWords
import Derived.Deep.Fields
import Derived.Deep.Strs
import Derived.WideShapes
import Derived.ChangeArms
namespace Go.Proofs.YtcmalglippmocaaDoor.Pal
open Go.RowKit Go.ChangeShapes Go.WideShapes Go.Deep Go.Proofs.YtcmalglippmocaaDoorW.PrintWords
section
variable {H : Type} {enc : TypeId × Value → H} {P : Program} {w : World} {base : Nat} {spare : Nat → Bool} {held : Bool}
theorem open_fields {r : Reach} {b0 : Nat} {t : TypeId} {fs : Array Field} {v : Value} {d : DataW H} {p : List MemPlace} (hs : P.underlying t = some (.struct fs)) (hone : oneCellFields P fs = true)
    (hv : Value.okWide P w r b0 t v) (h : DataW.Trod enc P w base spare held t v d p) :
    ∃ (cs : Array Value), v = .agg cs ∧ cs.size = P.cellsOf t ∧ ∀ (j : Nat) (f : Field) (c : Value), fs[j]? = some f → cs[j]? = some c → ∃ (n : Nat) (y : DataW H × List MemPlace), DataW.trod enc P w base spare held n f.type [c] = some y := by
  obtain ⟨cs, rfl, hsz⟩ := okWide_struct hs hv
  obtain ⟨fuel, hf⟩ := h
  obtain ⟨xs, n, _, _, _, hlen, hF⟩ := DataW.trod_struct hs hf
  refine ⟨cs, rfl, hsz, fun j f c hj hc => ?_⟩
  obtain ⟨o0, k0⟩ := hone_of hone j f hj
  have hj' : j < xs.length := by rw [hlen]; exact (Array.getElem?_eq_some_iff.1 hj).1
  refine ⟨n, xs[j], ?_⟩
  have e := hF j f hj
  rw [o0, k0, List.getElem?_eq_getElem hj'] at e
  have hc' : (Value.cells (.agg cs)).toList.drop j = c :: (Value.cells (.agg cs)).toList.drop (j + 1) := by
    obtain ⟨hlt, rfl⟩ := Array.getElem?_eq_some_iff.1 hc
    show cs.toList.drop j = cs[j] :: cs.toList.drop (j + 1)
    rw [List.drop_eq_getElem_cons (by simpa using hlt), Array.getElem_toList]
  rw [hc'] at e
  simpa using e
theorem leaf_int {n : Nat} {t : TypeId} {k : IntKind} {c : Value} {y : DataW H × List MemPlace} (ht : P.underlying t = some (.int k)) (h : DataW.trod enc P w base spare held n t [c] = some y) : ∃ a, c = .int k a ∧ (Lit.int k a).wf = true := by
  obtain ⟨a, e1, _, h2⟩ := DataW.trod_int ht h
  exact ⟨a, by simpa using e1, h2⟩
theorem leaf_str {n : Nat} {t : TypeId} {c : Value} {y : DataW H × List MemPlace} (ht : P.underlying t = some .string) (h : DataW.trod enc P w base spare held n t [c] = some y) : ∃ a : ByteArray, c = .string a ∧ a.size ≤ maxLen := by
  obtain ⟨a, e1, _, h2⟩ := DataW.trod_string ht h
  exact ⟨a, by simpa using e1, h2⟩
theorem leaf_bool {n : Nat} {t : TypeId} {c : Value} {y : DataW H × List MemPlace} (ht : P.underlying t = some .bool) (h : DataW.trod enc P w base spare held n t [c] = some y) : ∃ a : Bool, c = .bool a := by
  obtain ⟨a, e1, _⟩ := DataW.trod_bool ht h
  exact ⟨a, by simpa using e1⟩
theorem mem_texts {H : Type} {P : Program} {e : TypeId} {s : ByteArray} : ∀ {l : List ByteArray}, s ∈ l → s.size ∈ DataW.weightsAll (H := H) P e (l.map fun s => .lit (.string s.data.toList))
  | x :: l, h => by
    rw [List.map_cons, DataW.weightsAll, List.mem_append]
    rcases List.mem_cons.1 h with rfl | h
    · left; simp [DataW.weights]
    · exact Or.inr (mem_texts h)
theorem open_texts {r : Reach} {b0 : Nat} {t e : TypeId} {v : Value} {d : DataW H} {p : List MemPlace} (ht : P.underlying t = some (.slice e)) (he : P.underlying e = some .string) (hc : P.cellsOf e = 1)
    (hv : Value.okWide P w r b0 t v) (h : DataW.Trod enc P w base spare held t v d p) :
    ∃ (A : Option Addr) (l : List ByteArray) (cap : Nat), v = .slice A l.length cap ∧ l.length ≤ cap ∧ Kd.C Kd.string w A l.length l ∧ (∀ s ∈ l, s.size ∈ DataW.weights P t d) := by
  obtain ⟨A, len, cap, rfl⟩ := okWide_slice ht hv
  obtain ⟨fuel, hf⟩ := h
  rcases open_strs ht he hc hf with ⟨hcs, _⟩ | ⟨a, ln, c, m, Sx, hcs, _, hl, hm, hmm, hdp, hcell⟩
  · simp [Value.cells] at hcs
    obtain ⟨rfl, rfl, rfl⟩ := hcs
    exact ⟨none, [], 0, rfl, Nat.le_refl _, ⟨rfl, by decide, fun h => absurd h (by decide)⟩, fun s hs => nomatch hs⟩
  · simp [Value.cells] at hcs
    obtain ⟨rfl, rfl, rfl⟩ := hcs
    have hlm : len ≤ m := by rw [hmm]; split <;> omega
    refine ⟨some a, (List.range len).map Sx, cap, by simp, by simpa using hl, ⟨by simp, by simp; exact Nat.le_trans hl (Nat.le_trans hm (by decide)), fun _ => ⟨a, rfl, fun j q hj => ?_⟩⟩, fun s hs => ?_⟩
    · rw [List.getElem?_map] at hj
      by_cases hjl : j < len
      · rw [List.getElem?_range hjl] at hj
        obtain rfl : Sx j = q := by simpa using hj
        refine ⟨[.string (Sx j)], rfl, rfl, fun i u hi => ?_⟩
        match i, hi with
        | 0, hi =>
          obtain rfl : Value.string (Sx j) = u := by simpa using hi
          simpa [Kd.string, Kd.scalar] using (hcell j (by omega)).1
        | i + 1, hi => simp at hi
      · rw [List.getElem?_eq_none (by simpa using hjl)] at hj
        simp at hj
    · have hd := congrArg Prod.fst hdp
      dsimp only at hd
      rw [hd, DataW.weights, ht]
      refine List.mem_cons_of_mem _ (List.mem_append.2 (Or.inl ?_))
      have e1 := mem_texts (H := H) (P := P) (e := e) hs
      rwa [List.map_map] at e1
end
end Go.Proofs.YtcmalglippmocaaDoor.Pal
