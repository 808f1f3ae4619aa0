/- Plain facts for rows: a slice of calls (structs of two whole numbers, a number of 64 bits and a text) laid open. No function of the program in it. -/
import Derived.Test.YtejmipoolbodgaaPRow
import Derived.Test.YtejmipoolbodgaaG0
import Derived.Lib.SmallJoins
namespace Go.Proofs.Ytejmipoolbodgaa.Pal
open Go.RowKit Go.ChangeShapes Go.WideShapes Go.Deep Go.Proofs.YtejmipoolbodgaaW.PrintWords Go.Proofs.Ytejmipoolbodgaa.G
set_option maxRecDepth 100000
section
variable {H : Type} {enc : TypeId × Value → H} {w : World} {base : Nat} {spare : Nat → Bool} {held : Bool}
instance : Inhabited S87 := ⟨z87⟩
theorem fields87 : ∃ f0 f1 f2 f3 : Field, Try.prog.underlying 87 = some (.struct #[f0, f1, f2, f3]) ∧ (f0.offset = 0 ∧ f1.offset = 1 ∧ f2.offset = 2 ∧ f3.offset = 3) ∧ (Try.prog.cellsOf f0.type = 1 ∧ Try.prog.cellsOf f1.type = 1 ∧ Try.prog.cellsOf f2.type = 1 ∧ Try.prog.cellsOf f3.type = 1) ∧ Try.prog.underlying f0.type = some (.int .i64) ∧ Try.prog.underlying f1.type = some (.int .i64) ∧ Try.prog.underlying f2.type = some (.int .u64) ∧ Try.prog.underlying f3.type = some .string :=
  ⟨_, _, _, _, Try.underlying87, ⟨rfl, rfl, rfl, rfl⟩, ⟨by kernel_rfl, by kernel_rfl, by kernel_rfl, by kernel_rfl⟩, by kernel_rfl, by kernel_rfl, by kernel_rfl, by kernel_rfl⟩
theorem cells87 : Try.prog.cellsOf 87 = 4 := by kernel_rfl
/-- What an element of the row is, whose cells are cs and whose datum is d. -/
def Call87 (cs : List Value) (d : DataW H) (x : S87) : Prop :=
  cs = [.int .i64 x.f0, .int .i64 x.f1, .int .u64 x.f2, .string x.f3] ∧ (0 ≤ x.f2 ∧ x.f2 < 18446744073709551616) ∧ x.f3.size ∈ DataW.weights Try.prog 87 d
theorem open_call {n : Nat} {cs : List Value} {d : DataW H} {p : List MemPlace} (h : DataW.trod enc Try.prog w base spare held n 87 cs = some (d, p)) : ∃ x : S87, Call87 cs d x := by
  obtain ⟨f0, f1, f2, f3, hs, ⟨o0, o1, o2, o3⟩, ⟨z0, z1, z2, z3⟩, t0, t1, t2, t3⟩ := fields87
  obtain ⟨xs, m, _, hx, hl, hlen, hF⟩ := DataW.trod_struct hs h
  rw [cells87] at hl
  have e0 := hF 0 f0 rfl
  have e1 := hF 1 f1 rfl
  have e2 := hF 2 f2 rfl
  have e3 := hF 3 f3 rfl
  rw [o0, z0] at e0
  rw [o1, z1] at e1
  rw [o2, z2] at e2
  rw [o3, z3] at e3
  match cs, hl with
  | [c0, c1, c2, c3], _ =>
    match xs, hlen with
    | [y0, y1, y2, y3], _ =>
      obtain ⟨a0, rfl, _⟩ := leaf_int t0 (y := y0) (by simpa using e0)
      obtain ⟨a1, rfl, _⟩ := leaf_int t1 (y := y1) (by simpa using e1)
      obtain ⟨a2, rfl, r2⟩ := leaf_int t2 (y := y2) (by simpa using e2)
      obtain ⟨a3, q3, q4, _⟩ := DataW.trod_string t3 (x := y3) (by simpa using e3)
      obtain rfl : c3 = .string a3 := by simpa using q3
      refine ⟨⟨a0, a1, a2, a3⟩, rfl, ?_, ?_⟩
      · simp [Lit.wf, IntKind.min, IntKind.max, IntKind.signed, IntKind.bits] at r2
        exact ⟨show 0 ≤ a2 by omega, show a2 < 18446744073709551616 by omega⟩
      · have hd := congrArg Prod.fst hx
        dsimp only at hd
        rw [hd, DataW.weights, hs, q4]
        simp [DataW.weightsEach, DataW.weights]
theorem mem_calls {s : Nat} : ∀ {l : List (DataW H)} {d : DataW H}, d ∈ l → s ∈ DataW.weights Try.prog 87 d → s ∈ DataW.weightsAll Try.prog 87 l
  | x :: l, d, h, hs => by
    rw [DataW.weightsAll, List.mem_append]
    rcases List.mem_cons.1 h with rfl | h
    · exact Or.inl hs
    · exact Or.inr (mem_calls h hs)
theorem open_calls {r : Reach} {b0 : Nat} {t : TypeId} {v : Value} {d : DataW H} {p : List MemPlace} (ht : Try.prog.underlying t = some (.slice 87))
    (hv : Value.okWide Try.prog w r b0 t v) (h : DataW.Trod enc Try.prog w base spare held t v d p) :
    ∃ (A : Option Addr) (l : List S87) (cap : Nat), v = .slice A l.length cap ∧ l.length ≤ cap ∧ Kd.C k87 w A l.length l ∧ (∀ c ∈ l, (0 ≤ c.f2 ∧ c.f2 < 18446744073709551616) ∧ c.f3.size ∈ DataW.weights Try.prog t d) := by
  obtain ⟨A, len, cap, rfl⟩ := okWide_slice ht hv
  obtain ⟨fuel, hf⟩ := h
  rcases open_slice ht hf with ⟨hcs, _⟩ | ⟨a, ln, c, m, n, D, Pl, hcs, _, hl, hm, hmm, hdp, hcell⟩
  · simp [Value.cells] at hcs
    obtain ⟨rfl, rfl, rfl⟩ := hcs
    exact ⟨none, [], 0, rfl, Nat.le_refl _, ⟨rfl, by decide, fun h => absurd h (by decide)⟩, fun s hs => nomatch hs⟩
  · simp [Value.cells] at hcs
    obtain ⟨rfl, rfl, rfl⟩ := hcs
    rw [cells87] at hcell
    have hlm : len ≤ m := by rw [hmm]; split <;> omega
    obtain ⟨X, hX⟩ := choose_lt (α := S87 × List Value) (n := m) (p := fun i x => w.cells? base (a.add (i * 4)) 4 = some x.2 ∧ Call87 x.2 (D i) x.1) (fun i hi => by
      obtain ⟨cs', h1, h2⟩ := hcell i hi
      obtain ⟨x, hx⟩ := open_call h2
      exact ⟨(x, cs'), h1, hx⟩)
    refine ⟨some a, (List.range len).map fun i => (X i).1, cap, by simp, by simpa using hl, ⟨by simp, by simp; exact Nat.le_trans hl (Nat.le_trans hm (by decide)), fun _ => ⟨a, rfl, fun j q hj => ?_⟩⟩, fun s hs => ?_⟩
    · rw [List.getElem?_map] at hj
      by_cases hjl : j < len
      · rw [List.getElem?_range hjl] at hj
        obtain rfl : (X j).1 = q := by simpa using hj
        obtain ⟨h1, h2, _⟩ := hX j (by omega)
        refine ⟨[.int .i64 (X j).1.f0, .int .i64 (X j).1.f1, .int .u64 (X j).1.f2, .string (X j).1.f3], rfl, k87_mk w _, fun i u hi => ?_⟩
        rw [h2] at h1
        obtain ⟨_, hlen, hc⟩ := World.cells?_some h1
        have hi4 : i < 4 := by
          have := (List.getElem?_eq_some_iff.1 hi).1
          simpa using this
        have := hc i hi4
        rw [hi] at this
        rw [show (X j).1.f0 = (X j).1.f0 from rfl] at *
        have e : (a.add (j * 4)).add i = a.add (j * 4 + i) := Go.Deep.add_add _ _ _
        rw [e] at this
        exact this
      · rw [List.getElem?_eq_none (by simpa using hjl)] at hj
        simp at hj
    · obtain ⟨i, hi, rfl⟩ := List.mem_map.1 hs
      have hi' : i < len := by simpa using hi
      obtain ⟨_, _, h3, h4⟩ := hX i (by omega)
      refine ⟨h3, ?_⟩
      have hd := congrArg Prod.fst hdp
      dsimp only at hd
      rw [hd, DataW.weights, ht]
      refine List.mem_cons_of_mem _ (List.mem_append.2 (Or.inl ?_))
      exact mem_calls (List.mem_map.2 ⟨i, by simpa using hi', rfl⟩) h4
end
end Go.Proofs.Ytejmipoolbodgaa.Pal
