/- Texts of this session, joined: each is a section. -/
import Derived.Test.YtcmalglippmocaaDoorMGrbg3
import Derived.Test.YtcmalglippmocaaDoorMGreParts2
import Derived.Test.YtcmalglippmocaaDoorWWords
import Derived.Deep.Fields
import Derived.Deep.Strs
import Derived.WideShapes
import Derived.ChangeArms
import Derived.Test.YtcmalglippmocaaDoorMGrbg1
import Derived.Test.YtcmalglippmocaaDoorTie
import Derived.ProofKit
import Derived.LaidMore
import Derived.OpenShut
set_option linter.unusedVariables false
set_option linter.unusedSimpArgs false
section
/- The plain law of GreParts: a key or a sum makes a header longer by four bytes; a header without a sum tells any packet of its version. -/
namespace Go.Proofs.YtcmalglippmocaaDoor.Pure
open Go.RowKit Go.Proofs.YtcmalglippmocaaDoorW.PrintWords Go.Proofs.YtcmalglippmocaaDoorW.PrintLast Go.Proofs.YtcmalglippmocaaDoor.G Go.Proofs.YtcmalglippmocaaDoor.Pal
set_option linter.unusedVariables false
theorem u32_natP {a : Int} (h : (Lit.int .u32 a).wf = true) : ∃ v : Nat, a = (v : Int) ∧ v < 4294967296 := by
  simp [Lit.wf, IntKind.min, IntKind.max, IntKind.signed, IntKind.bits] at h
  exact ⟨a.toNat, by omega, by omega⟩
theorem ver_same {a b : ByteArray} (ha : a.size ≠ 0) (hb : b.size ≠ 0) (h : bt a 0 / 16 = bt b 0 / 16) : verOf b = verOf a := by
  unfold verOf; rw [if_neg ha, if_neg hb, h]
theorem front {y a b : ByteArray} {L : List UInt8} {n : Nat} (hy : bl y = L ++ bl a) (hn : L.length = n) : bl (y.extract 0 n ++ b) = L ++ bl b := by
  rw [bl_append, segG [] L (bl a) (i := 0) (j := n) (by rw [hy]; rfl) rfl (by omega)]
theorem wr4 (x y : Nat) (h : y = x + 4) (hx : x ≤ 10000) : wrap64 ((x : Int) + 4) = (y : Int) := by unfold wrap64; omega
theorem wr8 (x y : Nat) (h : y = x + 8) (hx : x ≤ 10000) : wrap64 ((x : Int) + 8) = (y : Int) := by unfold wrap64; omega
theorem wrs (x a : Nat) (h : x = 4 + a) (hx : x ≤ 10000) : wrap64 ((x : Int) - (a : Int)) = 4 := by unfold wrap64; omega
theorem le4 (x : Nat) (h : 4 ≤ x) : (4 : Int) ≤ (x : Int) := by omega
theorem le8 (x : Nat) (h : 8 ≤ x) : (8 : Int) ≤ (x : Int) := by omega
theorem le12 (x : Nat) (h : 12 ≤ x) : (12 : Int) ≤ (x : Int) := by omega
theorem szG (y a : ByteArray) (n : Nat) (ha : a.size ≤ 3000) (hy : n ≤ 12) : (y.extract 0 n).size + a.size ≤ 9223372036854775807 ∧ (y.extract 0 n ++ a).size ≤ 1099511627776 := by
  rw [ByteArray.size_append, ByteArray.size_extract]; omega
theorem GreParts (a0 : Int) (a1 a2 : ByteArray) (w0 : (Lit.int .u32 a0).wf = true) (w1 : a1.size ≤ 140737488351232) (w2 : a2.size ≤ 140737488351232) : ∃ k, palanquinlaw12_GreParts.f k a0 a1 a2 = some true := by
  refine ⟨4, ?_⟩
  unfold palanquinlaw12_GreParts.f
  rw [awake12, Option.bind_some, if_pos rfl]
  have end_ : ∀ k, palanquinlaw12_GreParts.j0 (k + 1) a0 a1 a2 true = some true := fun k => by rw [palanquinlaw12_GreParts.j0, if_pos rfl]
  split
  · exact end_ 3
  split
  · exact end_ 3
  rename_i h1 h2
  by_cases z1 : a1.size = 0
  · rw [if_pos ((toList_nil a1).2 z1)]; exact end_ 3
  rw [if_neg (fun h => z1 ((toList_nil a1).1 h))]
  by_cases z2 : a2.size = 0
  · rw [if_pos ((toList_nil a2).2 z2)]; exact end_ 3
  rw [if_neg (fun h => z2 ((toList_nil a2).1 h)), if_pos (by omega), if_pos (by omega)]
  by_cases hn : bt a1 0 / 16 = bt a2 0 / 16
  case neg => rw [bne_iff_ne.mpr hn]; exact end_ 3
  rw [bne_eq_false_iff_eq.mpr hn, palanquinlaw12_GreParts.j0, if_neg (by decide)]
  obtain ⟨v, rfl, hv⟩ := u32_natP w0
  have hver := ver_same z1 z2 hn
  have s1 : a1.size ≤ 3000 := by omega
  have s2 : a2.size ≤ 3000 := by omega
  clear hn h1 h2 z1 z2 w0 w1 w2 end_
  by_cases he : (verOf a1).2.2.2 = 0
  · obtain ⟨y0, k0, c0, p0, b0, e0, l0, _, _, _⟩ := put_ok (S := false) (K := false) (v := 0) (x := a1) (by decide) (Nat.le_trans s1 (by decide)) he
    obtain ⟨y1, k1, c1, p1, b1, e1, l1, _, _, _⟩ := put_ok (S := false) (K := true) hv (x := a1) (Nat.le_trans s1 (by decide)) he
    obtain ⟨y2, k2, c2, p2, b2, e2, l2, _, _, _⟩ := put_ok (S := true) (K := false) (v := 0) (x := a1) (by decide) (Nat.le_trans s1 (by decide)) he
    obtain ⟨y3, k3, c3, p3, b3, e3, l3, _, _, _⟩ := put_ok (S := true) (K := true) hv (x := a1) (Nat.le_trans s1 (by decide)) he
    obtain rfl : k1 = k0 := Int.ofNat.inj (e1.symm.trans e0)
    obtain rfl : k2 = k1 := Int.ofNat.inj (e2.symm.trans e0)
    obtain rfl : k3 = k2 := Int.ofNat.inj (e3.symm.trans e0)
    obtain ⟨q0, _⟩ := got_parts b0 l0 (by decide)
    obtain ⟨q1, _⟩ := got_parts b1 l1 hv
    obtain ⟨q2, _⟩ := got_parts b2 l2 (by decide)
    obtain ⟨q3, _⟩ := got_parts b3 l3 hv
    simp only [if_true, if_false, Bool.false_eq_true, Nat.add_zero] at q0 q1 q2 q3
    have r1 : y1.size = y0.size + 4 ∧ y2.size = y0.size + 4 ∧ y3.size = y0.size + 8 ∧ y0.size ≤ 10000 ∧ 4 ≤ y0.size ∧ 8 ≤ y1.size ∧ 12 ≤ y3.size := by clear he e0 e1 e2 e3 hver; omega
    have w1' := wr4 _ _ r1.1 r1.2.2.2.1
    have w2' := wr4 _ _ r1.2.1 r1.2.2.2.1
    have w3' := wr8 _ _ r1.2.2.1 r1.2.2.2.1
    have ws' := wrs _ _ q0 r1.2.2.2.1
    have x1 : bl (y1.extract 4 8) = nb 4 v := segG (nb 2 (greBits false true) ++ nb 2 k3) (nb 4 v) (bl a1) (by rw [b1]; simp [greTail]) (by simp [nb_length]) (by rw [nb_length])
    have x3 : bl (y3.extract 8 12) = nb 4 v := segG (nb 2 (greBits true true) ++ nb 2 k3 ++ nb 2 c3 ++ nb 2 0) (nb 4 v) (bl a1) (by rw [b3]; simp [greTail, List.append_assoc]) (by simp [nb_length]) (by rw [nb_length])
    have x13 : (y1.extract 4 8).toList = (y3.extract 8 12).toList := by rw [ByteArray.toList_eq, ByteArray.toList_eq]; exact x1.trans x3.symm
    have f0 : bl (y0.extract 0 4 ++ a2) = nb 2 (greBits false false) ++ nb 2 k3 ++ greTail false false 0 c0 ++ bl a2 := front b0 (by simp [nb_length, greTail])
    have f1 : bl (y1.extract 0 8 ++ a2) = nb 2 (greBits false true) ++ nb 2 k3 ++ greTail false true v c1 ++ bl a2 := front b1 (by simp [nb_length, greTail])
    have z0 := szG y0 a2 4 s2 (by decide)
    have z1 := szG y1 a2 8 s2 (by decide)
    have g0 := got_ok f0 l0 (by decide) z0.2 (fun h => absurd h (by decide)) (by rw [hver]; exact he) (by rw [hver]; exact e0)
    have g1 := got_ok f1 l1 hv z1.2 (fun h => absurd h (by decide)) (by rw [hver]; exact he) (by rw [hver]; exact e0)
    rw [if_neg (by decide)] at g0
    rw [if_pos rfl] at g1
    clear he e0 e1 e2 e3 hver b0 b1 b2 b3 f0 f1 x1 x3
    rw [show ((0 : Nat) : Int) = 0 from rfl] at p0 p2
    rw [p0, Option.bind_some, p1, Option.bind_some, p2, Option.bind_some, p3, Option.bind_some]
    dsimp +instances only
    rw [if_pos rfl, if_pos rfl, show ((0 : Int) != 0) = false from rfl, palanquinlaw12_GreParts.j1, if_neg (by decide), if_pos rfl]
    rw [if_pos w1'.symm, if_pos w2'.symm, if_pos w3'.symm, if_pos (by decide), if_pos (le8 _ r1.2.2.2.2.2.1), if_pos (by decide), if_pos (le12 _ r1.2.2.2.2.2.2), if_pos x13, show gre_Size.f false false 0 = some 4 from rfl, Option.bind_some]
    rw [ws', show ((4 : Int) != 4) = false from rfl, palanquinlaw12_GreParts.j2, if_neg (by decide), if_pos (by decide), if_pos (le4 _ r1.2.2.2.2.1)]
    rw [if_pos z0.1, g0, Option.bind_some, if_pos (by decide), if_pos (le8 _ r1.2.2.2.2.2.1), if_pos z1.1, g1, Option.bind_some]
    dsimp +instances only
    rw [if_pos rfl, if_pos rfl, if_pos (by decide), if_pos rfl, if_pos rfl]
    simp
  · rw [put_no he, Option.bind_some, put_no he, Option.bind_some, put_no he, Option.bind_some, put_no he, Option.bind_some]
    dsimp +instances only
    rw [if_pos rfl, if_pos rfl, bne_self_eq_false, palanquinlaw12_GreParts.j1, if_neg (by decide), if_neg he, if_pos empty11, if_pos empty11, if_pos empty11, empty11]
    rfl
end Go.Proofs.YtcmalglippmocaaDoor.Pure
end

section
/- Plain facts for rows: arguments that are structs of one-cell fields, and slices of strings, laid open. No function of the program in it. -/
namespace Go.Proofs.YtcmalglippmocaaDoor.Pal
open Go.RowKit Go.ChangeShapes Go.WideShapes Go.Deep Go.Proofs.YtcmalglippmocaaDoorW.PrintWords
section
variable {H : Type} {enc : TypeId × Value → H} {P : Program} {w : World} {base : Nat} {spare : Nat → Bool} {held : Bool}
theorem open_fields {r : Reach} {b0 : Nat} {t : TypeId} {fs : Array Field} {v : Value} {d : DataW H} {p : List MemPlace} (hs : P.underlying t = some (.struct fs)) (hone : oneCellFields P fs = true)
    (hv : Value.okWide P w r b0 t v) (h : DataW.Trod enc P w base spare held t v d p) :
    ∃ (cs : Array Value), v = .agg cs ∧ cs.size = P.cellsOf t ∧ ∀ (j : Nat) (f : Field) (c : Value), fs[j]? = some f → cs[j]? = some c → ∃ (n : Nat) (y : DataW H × List MemPlace), DataW.trod enc P w base spare held n f.type [c] = some y := by
  obtain ⟨cs, rfl, hsz⟩ := okWide_struct hs hv
  obtain ⟨fuel, hf⟩ := h
  obtain ⟨xs, n, _, _, _, hlen, hF⟩ := DataW.trod_struct hs hf
  refine ⟨cs, rfl, hsz, fun j f c hj hc => ?_⟩
  obtain ⟨o0, k0⟩ := hone_of hone j f hj
  have hj' : j < xs.length := by rw [hlen]; exact (Array.getElem?_eq_some_iff.1 hj).1
  refine ⟨n, xs[j], ?_⟩
  have e := hF j f hj
  rw [o0, k0, List.getElem?_eq_getElem hj'] at e
  have hc' : (Value.cells (.agg cs)).toList.drop j = c :: (Value.cells (.agg cs)).toList.drop (j + 1) := by
    obtain ⟨hlt, rfl⟩ := Array.getElem?_eq_some_iff.1 hc
    show cs.toList.drop j = cs[j] :: cs.toList.drop (j + 1)
    rw [List.drop_eq_getElem_cons (by simpa using hlt), Array.getElem_toList]
  rw [hc'] at e
  simpa using e
theorem leaf_int {n : Nat} {t : TypeId} {k : IntKind} {c : Value} {y : DataW H × List MemPlace} (ht : P.underlying t = some (.int k)) (h : DataW.trod enc P w base spare held n t [c] = some y) : ∃ a, c = .int k a ∧ (Lit.int k a).wf = true := by
  obtain ⟨a, e1, _, h2⟩ := DataW.trod_int ht h
  exact ⟨a, by simpa using e1, h2⟩
theorem leaf_str {n : Nat} {t : TypeId} {c : Value} {y : DataW H × List MemPlace} (ht : P.underlying t = some .string) (h : DataW.trod enc P w base spare held n t [c] = some y) : ∃ a : ByteArray, c = .string a ∧ a.size ≤ maxLen := by
  obtain ⟨a, e1, _, h2⟩ := DataW.trod_string ht h
  exact ⟨a, by simpa using e1, h2⟩
theorem leaf_bool {n : Nat} {t : TypeId} {c : Value} {y : DataW H × List MemPlace} (ht : P.underlying t = some .bool) (h : DataW.trod enc P w base spare held n t [c] = some y) : ∃ a : Bool, c = .bool a := by
  obtain ⟨a, e1, _⟩ := DataW.trod_bool ht h
  exact ⟨a, by simpa using e1⟩
theorem mem_texts {H : Type} {P : Program} {e : TypeId} {s : ByteArray} : ∀ {l : List ByteArray}, s ∈ l → s.size ∈ DataW.weightsAll (H := H) P e (l.map fun s => .lit (.string s.data.toList))
  | x :: l, h => by
    rw [List.map_cons, DataW.weightsAll, List.mem_append]
    rcases List.mem_cons.1 h with rfl | h
    · left; simp [DataW.weights]
    · exact Or.inr (mem_texts h)
theorem open_texts {r : Reach} {b0 : Nat} {t e : TypeId} {v : Value} {d : DataW H} {p : List MemPlace} (ht : P.underlying t = some (.slice e)) (he : P.underlying e = some .string) (hc : P.cellsOf e = 1)
    (hv : Value.okWide P w r b0 t v) (h : DataW.Trod enc P w base spare held t v d p) :
    ∃ (A : Option Addr) (l : List ByteArray) (cap : Nat), v = .slice A l.length cap ∧ l.length ≤ cap ∧ Kd.C Kd.string w A l.length l ∧ (∀ s ∈ l, s.size ∈ DataW.weights P t d) := by
  obtain ⟨A, len, cap, rfl⟩ := okWide_slice ht hv
  obtain ⟨fuel, hf⟩ := h
  rcases open_strs ht he hc hf with ⟨hcs, _⟩ | ⟨a, ln, c, m, Sx, hcs, _, hl, hm, hmm, hdp, hcell⟩
  · simp [Value.cells] at hcs
    obtain ⟨rfl, rfl, rfl⟩ := hcs
    exact ⟨none, [], 0, rfl, Nat.le_refl _, ⟨rfl, by decide, fun h => absurd h (by decide)⟩, fun s hs => nomatch hs⟩
  · simp [Value.cells] at hcs
    obtain ⟨rfl, rfl, rfl⟩ := hcs
    have hlm : len ≤ m := by rw [hmm]; split <;> omega
    refine ⟨some a, (List.range len).map Sx, cap, by simp, by simpa using hl, ⟨by simp, by simp; exact Nat.le_trans hl (Nat.le_trans hm (by decide)), fun _ => ⟨a, rfl, fun j q hj => ?_⟩⟩, fun s hs => ?_⟩
    · rw [List.getElem?_map] at hj
      by_cases hjl : j < len
      · rw [List.getElem?_range hjl] at hj
        obtain rfl : Sx j = q := by simpa using hj
        refine ⟨[.string (Sx j)], rfl, rfl, fun i u hi => ?_⟩
        match i, hi with
        | 0, hi =>
          obtain rfl : Value.string (Sx j) = u := by simpa using hi
          simpa [Kd.string, Kd.scalar] using (hcell j (by omega)).1
        | i + 1, hi => simp at hi
      · rw [List.getElem?_eq_none (by simpa using hjl)] at hj
        simp at hj
    · have hd := congrArg Prod.fst hdp
      dsimp only at hd
      rw [hd, DataW.weights, ht]
      refine List.mem_cons_of_mem _ (List.mem_append.2 (Or.inl ?_))
      have e1 := mem_texts (H := H) (P := P) (e := e) hs
      rwa [List.map_map] at e1
end
end Go.Proofs.YtcmalglippmocaaDoor.Pal
end

section
/- What a row's condition on the program's package-level tables gives: their cells. -/
namespace Go.Proofs.YtcmalglippmocaaDoor.Pal
open Go.ChangeShapes Go.WideShapes Go.ChangeAt Go.WideElems Go.RowKit Go.Proofs.YtcmalglippmocaaDoor.G
set_option maxRecDepth 100000
section
variable {H : Type} {enc : TypeId × Value → H} {P : Program} {w : World} {base : Nat} {spare : Nat → Bool} {held : Bool}
/-- A row of two whole numbers. -/
theorem pair_cells {n : Nat} {t e : TypeId} {cs : List Value} {a b : Int} {p : List MemPlace} (ht : P.underlying t = some (.array 2 e)) (he : P.underlying e = some (.int .i64)) (hc : P.cellsOf e = 1) (hz : P.cellsOf t = 2)
    (h : DataW.trod enc P w base spare held n t cs = some (.agg [.lit (.int .i64 a), .lit (.int .i64 b)], p)) : cs = [.int .i64 a, .int .i64 b] := by
  obtain ⟨xs, m, _, hx, hl, hlen, hel⟩ := DataW.trod_array ht h
  have h0 := hel 0 (by decide)
  have h1 := hel 1 (by decide)
  rw [hc] at h0 h1
  rw [hz] at hl
  match cs, hl with
  | [c0, c1], _ =>
    match xs, hlen with
    | [y0, y1], _ =>
      obtain ⟨k0, e0, x0, _⟩ := DataW.trod_int he (x := y0) (by simpa using h0)
      obtain ⟨k1, e1, x1, _⟩ := DataW.trod_int he (x := y1) (by simpa using h1)
      simp only [Prod.mk.injEq, x0, x1, List.map_cons, List.map_nil, DataW.agg.injEq, List.cons.injEq, DataW.lit.injEq, Lit.int.injEq, true_and, and_true] at hx
      obtain ⟨⟨rfl, rfl⟩, _⟩ := hx
      simp at e0 e1
      rw [e0, e1]
end
section
variable {H : Type} {enc : TypeId × Value → H} {w : World} {base : Nat} {spare : Nat → Bool} {held : Bool}
theorem ver_fields : ∃ f0 f1 f2 : Field, Tryd.prog.underlying 107 = some (.struct #[f0, f1, f2]) ∧ (f0.offset = 0 ∧ f1.offset = 1 ∧ f2.offset = 2) ∧ (Tryd.prog.cellsOf f0.type = 1 ∧ Tryd.prog.cellsOf f1.type = 1 ∧ Tryd.prog.cellsOf f2.type = 1) ∧ Tryd.prog.underlying f0.type = some (.int .i64) ∧ Tryd.prog.underlying f1.type = some (.int .i64) ∧ Tryd.prog.underlying f2.type = some (.int .i64) :=
  ⟨_, _, _, Tryd.underlying107, ⟨rfl, rfl, rfl⟩, ⟨by kernel_rfl, by kernel_rfl, by kernel_rfl⟩, by kernel_rfl, by kernel_rfl, by kernel_rfl⟩
theorem ver_row {n : Nat} {cs : List Value} {a b c : Int} {p : List MemPlace} (h : DataW.trod enc Tryd.prog w base spare held n 107 cs = some (.agg [.lit (.int .i64 a), .lit (.int .i64 b), .lit (.int .i64 c)], p)) : cs = [.int .i64 a, .int .i64 b, .int .i64 c] := by
  obtain ⟨f0, f1, f2, hs, ⟨o0, o1, o2⟩, ⟨z0, z1, z2⟩, t0, t1, t2⟩ := ver_fields
  obtain ⟨xs, m, _, hx, hl, hlen, hF⟩ := DataW.trod_struct hs h
  rw [show Tryd.prog.cellsOf 107 = 3 by kernel_rfl] at hl
  have e0 := hF 0 f0 rfl
  have e1 := hF 1 f1 rfl
  have e2 := hF 2 f2 rfl
  rw [o0, z0] at e0
  rw [o1, z1] at e1
  rw [o2, z2] at e2
  match cs, hl with
  | [c0, c1, c2], _ =>
    match xs, hlen with
    | [y0, y1, y2], _ =>
      obtain ⟨k0, q0, x0, _⟩ := DataW.trod_int t0 (x := y0) (by simpa using e0)
      obtain ⟨k1, q1, x1, _⟩ := DataW.trod_int t1 (x := y1) (by simpa using e1)
      obtain ⟨k2, q2, x2, _⟩ := DataW.trod_int t2 (x := y2) (by simpa using e2)
      simp only [Prod.mk.injEq, x0, x1, x2, List.map_cons, List.map_nil, DataW.agg.injEq, List.cons.injEq, DataW.lit.injEq, Lit.int.injEq, true_and, and_true] at hx
      obtain ⟨⟨rfl, rfl, rfl⟩, _⟩ := hx
      simp at q0 q1 q2
      rw [q0, q1, q2]
theorem ver_rows {n : Nat} {cs : List Value} {p : List MemPlace} (h : DataW.trod enc Tryd.prog w base spare held n 110 cs = some (Rows.laid_palanquin_ipip_versions, p)) : cs = [.int .i64 4, .int .i64 4, .int .i64 2048, .int .i64 6, .int .i64 41, .int .i64 34525] := by
  obtain ⟨xs, m, _, hx, hl, hlen, hel⟩ := DataW.trod_array Tryd.underlying110 h
  have h0 := hel 0 (by decide)
  have h1 := hel 1 (by decide)
  rw [show Tryd.prog.cellsOf 107 = 3 by kernel_rfl] at h0 h1
  rw [show Tryd.prog.cellsOf 110 = 6 by kernel_rfl] at hl
  match cs, hl with
  | [c0, c1, c2, c3, c4, c5], _ =>
    match xs, hlen with
    | [(d0, p0), (d1, p1)], _ =>
      simp only [Rows.laid_palanquin_ipip_versions, Prod.mk.injEq, List.map_cons, List.map_nil, DataW.agg.injEq, List.cons.injEq, and_true] at hx
      obtain ⟨⟨rfl, rfl⟩, _⟩ := hx
      have e0 := ver_row (p := p0) (by simpa using h0)
      have e1 := ver_row (p := p1) (by simpa using h1)
      simp at e0 e1
      obtain ⟨rfl, rfl, rfl⟩ := e0
      obtain ⟨rfl, rfl, rfl⟩ := e1
      rfl
end
theorem tab_of {W : World} {n : String} {g : Nat} {cs : Array Value} {l : List Int} (hg : Tryd.prog.globalNamed n = some g) (hv : W.var? Tryd.prog n = some cs) (hcs : cs.toList = l.map (Value.int .i64)) : TabAt W g l := fun j x hj => by
  rw [World.var?_cell hg hv j, ← Array.getElem?_toList, hcs, List.getElem?_map, hj]
  rfl
theorem gv_of {W : World} {g t : Nat} {cs : Array Value} {f : Nat} {p : List MemPlace} (hg : Tryd.prog.globalNamed "palanquin/ipip.versions" = some g) (ht : (Tryd.prog.globals[g]?).map (·.type) = some t) (hv : W.var? Tryd.prog "palanquin/ipip.versions" = some cs)
    (hd : DataW.trod (fun _ => ()) Tryd.prog W 0 (fun _ => true) false f t cs.toList = some (Rows.laid_palanquin_ipip_versions, p)) : GV W := by
  obtain rfl := Option.some.inj ((show Tryd.prog.globalNamed "palanquin/ipip.versions" = some 0 by kernel_rfl).symm.trans hg)
  obtain rfl := Option.some.inj ((show (Tryd.prog.globals[0]?).map (·.type) = some 110 by kernel_rfl).symm.trans ht)
  exact tab_of hg hv (ver_rows hd)
theorem laid_gv {W : World} (h : laidMetH Tryd.prog [("palanquin/ipip.versions", Rows.laid_palanquin_ipip_versions)] W) : GV W := by
  rw [MakeChecks.laidMetH_plain _ _ _ (by kernel_rfl)] at h
  obtain ⟨ps, ⟨g0, t0, cs0, f0, p0, q0, hg0, ht0, hv0, hd0, _, _⟩, _, _⟩ := h
  exact gv_of hg0 ht0 hv0 hd0
theorem places_rows {H : Type} {enc : TypeId × Value → H} {w : World} {base : Nat} {spare : Nat → Bool} {held : Bool} {n : Nat} {cs : List Value} {p : List MemPlace} (h : DataW.trod enc Tryd.prog w base spare held n 135 cs = some (Rows.laid_palanquin_flow_places, p)) : cs = [.int .i64 6, .int .i64 16, .int .i64 17, .int .i64 6] := by
  obtain ⟨xs, m, _, hx, hl, hlen, hel⟩ := DataW.trod_array Tryd.underlying135 h
  have h0 := hel 0 (by decide)
  have h1 := hel 1 (by decide)
  rw [show Tryd.prog.cellsOf 134 = 2 by kernel_rfl] at h0 h1
  rw [show Tryd.prog.cellsOf 135 = 4 by kernel_rfl] at hl
  match cs, hl with
  | [c0, c1, c2, c3], _ =>
    match xs, hlen with
    | [(d0, p0), (d1, p1)], _ =>
      simp only [Rows.laid_palanquin_flow_places, Prod.mk.injEq, List.map_cons, List.map_nil, DataW.agg.injEq, List.cons.injEq, and_true] at hx
      obtain ⟨⟨rfl, rfl⟩, _⟩ := hx
      have e0 := pair_cells (p := p0) Tryd.underlying134 (by kernel_rfl) (by kernel_rfl) (by kernel_rfl) (by simpa using h0)
      have e1 := pair_cells (p := p1) Tryd.underlying134 (by kernel_rfl) (by kernel_rfl) (by kernel_rfl) (by simpa using h1)
      simp at e0 e1
      obtain ⟨rfl, rfl⟩ := e0
      obtain ⟨rfl, rfl⟩ := e1
      rfl
theorem laid_gp {W : World} (h : laidMetH Tryd.prog [("palanquin/ipip.versions", Rows.laid_palanquin_ipip_versions), ("palanquin/flow.places", Rows.laid_palanquin_flow_places), ("palanquin/flow.least", Rows.laid_palanquin_flow_least)] W) : GV W ∧ GP W := by
  rw [MakeChecks.laidMetH_plain _ _ _ (by kernel_rfl)] at h
  obtain ⟨ps, ⟨g0, t0, cs0, f0, p0, q0, hg0, ht0, hv0, hd0, ⟨g1, t1, cs1, f1, p1, q1, hg1, ht1, hv1, hd1, ⟨g2, t2, cs2, f2, p2, q2, hg2, ht2, hv2, hd2, _, _⟩, _⟩, _⟩, _, _⟩ := h
  refine ⟨gv_of hg0 ht0 hv0 hd0, ?_, ?_⟩
  · obtain rfl := Option.some.inj ((show Tryd.prog.globalNamed "palanquin/flow.places" = some 1 by kernel_rfl).symm.trans hg1)
    obtain rfl := Option.some.inj ((show (Tryd.prog.globals[1]?).map (·.type) = some 135 by kernel_rfl).symm.trans ht1)
    exact tab_of hg1 hv1 (places_rows hd1)
  · obtain rfl := Option.some.inj ((show Tryd.prog.globalNamed "palanquin/flow.least" = some 2 by kernel_rfl).symm.trans hg2)
    obtain rfl := Option.some.inj ((show (Tryd.prog.globals[2]?).map (·.type) = some 134 by kernel_rfl).symm.trans ht2)
    exact tab_of hg2 hv2 (pair_cells Tryd.underlying134 (by kernel_rfl) (by kernel_rfl) (by kernel_rfl) hd2)
end Go.Proofs.YtcmalglippmocaaDoor.Pal
end
