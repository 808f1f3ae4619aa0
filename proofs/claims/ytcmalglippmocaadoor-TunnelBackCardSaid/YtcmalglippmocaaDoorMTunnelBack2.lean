/- Texts of this session, joined: each is a section. -/
import Derived.Test.YtcmalglippmocaaDoorMTunnelBack1
import Derived.Test.YtcmalglippmocaaDoorMFtun2
import Derived.Test.YtcmalglippmocaaDoorTie
import Derived.ProofKit
import Derived.LaidMore
import Derived.OpenShut
set_option linter.unusedVariables false
set_option linter.unusedSimpArgs false
section
namespace Go.Proofs.YtcmalglippmocaaDoor.Pal
open Go.ChangeShapes Go.WideShapes Go.ChangeAt Go.WideElems Go.RowKit Go.Proofs.YtcmalglippmocaaDoor.G
set_option maxRecDepth 100000
section
variable {H : Type} {enc : TypeId × Value → H} {P : Program} {w : World} {base : Nat} {spare : Nat → Bool} {held : Bool}
theorem pair_cells {n : Nat} {t e : TypeId} {cs : List Value} {a b : Int} {p : List MemPlace} (ht : P.underlying t = some (.array 2 e)) (he : P.underlying e = some (.int .i64)) (hc : P.cellsOf e = 1) (hz : P.cellsOf t = 2)
    (h : DataW.trod enc P w base spare held n t cs = some (.agg [.lit (.int .i64 a), .lit (.int .i64 b)], p)) : cs = [.int .i64 a, .int .i64 b] := by
  obtain ⟨xs, m, _, hx, hl, hlen, hel⟩ := DataW.trod_array ht h
  have h0 := hel 0 (by decide)
  have h1 := hel 1 (by decide)
  rw [hc] at h0 h1
  rw [hz] at hl
  match cs, hl with
  | [c0, c1], _ =>
    match xs, hlen with
    | [y0, y1], _ =>
      obtain ⟨k0, e0, x0, _⟩ := DataW.trod_int he (x := y0) (by simpa using h0)
      obtain ⟨k1, e1, x1, _⟩ := DataW.trod_int he (x := y1) (by simpa using h1)
      simp only [Prod.mk.injEq, x0, x1, List.map_cons, List.map_nil, DataW.agg.injEq, List.cons.injEq, DataW.lit.injEq, Lit.int.injEq, true_and, and_true] at hx
      obtain ⟨⟨rfl, rfl⟩, _⟩ := hx
      simp at e0 e1
      rw [e0, e1]
end
section
variable {H : Type} {enc : TypeId × Value → H} {w : World} {base : Nat} {spare : Nat → Bool} {held : Bool}
theorem ver_fields : ∃ f0 f1 f2 : Field, Tryd.prog.underlying 107 = some (.struct #[f0, f1, f2]) ∧ (f0.offset = 0 ∧ f1.offset = 1 ∧ f2.offset = 2) ∧ (Tryd.prog.cellsOf f0.type = 1 ∧ Tryd.prog.cellsOf f1.type = 1 ∧ Tryd.prog.cellsOf f2.type = 1) ∧ Tryd.prog.underlying f0.type = some (.int .i64) ∧ Tryd.prog.underlying f1.type = some (.int .i64) ∧ Tryd.prog.underlying f2.type = some (.int .i64) :=
  ⟨_, _, _, Tryd.underlying107, ⟨rfl, rfl, rfl⟩, ⟨by kernel_rfl, by kernel_rfl, by kernel_rfl⟩, by kernel_rfl, by kernel_rfl, by kernel_rfl⟩
theorem ver_row {n : Nat} {cs : List Value} {a b c : Int} {p : List MemPlace} (h : DataW.trod enc Tryd.prog w base spare held n 107 cs = some (.agg [.lit (.int .i64 a), .lit (.int .i64 b), .lit (.int .i64 c)], p)) : cs = [.int .i64 a, .int .i64 b, .int .i64 c] := by
  obtain ⟨f0, f1, f2, hs, ⟨o0, o1, o2⟩, ⟨z0, z1, z2⟩, t0, t1, t2⟩ := ver_fields
  obtain ⟨xs, m, _, hx, hl, hlen, hF⟩ := DataW.trod_struct hs h
  rw [show Tryd.prog.cellsOf 107 = 3 by kernel_rfl] at hl
  have e0 := hF 0 f0 rfl
  have e1 := hF 1 f1 rfl
  have e2 := hF 2 f2 rfl
  rw [o0, z0] at e0
  rw [o1, z1] at e1
  rw [o2, z2] at e2
  match cs, hl with
  | [c0, c1, c2], _ =>
    match xs, hlen with
    | [y0, y1, y2], _ =>
      obtain ⟨k0, q0, x0, _⟩ := DataW.trod_int t0 (x := y0) (by simpa using e0)
      obtain ⟨k1, q1, x1, _⟩ := DataW.trod_int t1 (x := y1) (by simpa using e1)
      obtain ⟨k2, q2, x2, _⟩ := DataW.trod_int t2 (x := y2) (by simpa using e2)
      simp only [Prod.mk.injEq, x0, x1, x2, List.map_cons, List.map_nil, DataW.agg.injEq, List.cons.injEq, DataW.lit.injEq, Lit.int.injEq, true_and, and_true] at hx
      obtain ⟨⟨rfl, rfl, rfl⟩, _⟩ := hx
      simp at q0 q1 q2
      rw [q0, q1, q2]
theorem ver_rows {n : Nat} {cs : List Value} {p : List MemPlace} (h : DataW.trod enc Tryd.prog w base spare held n 110 cs = some (Rows.laid_palanquin_ipip_versions, p)) : cs = [.int .i64 4, .int .i64 4, .int .i64 2048, .int .i64 6, .int .i64 41, .int .i64 34525] := by
  obtain ⟨xs, m, _, hx, hl, hlen, hel⟩ := DataW.trod_array Tryd.underlying110 h
  have h0 := hel 0 (by decide)
  have h1 := hel 1 (by decide)
  rw [show Tryd.prog.cellsOf 107 = 3 by kernel_rfl] at h0 h1
  rw [show Tryd.prog.cellsOf 110 = 6 by kernel_rfl] at hl
  match cs, hl with
  | [c0, c1, c2, c3, c4, c5], _ =>
    match xs, hlen with
    | [(d0, p0), (d1, p1)], _ =>
      simp only [Rows.laid_palanquin_ipip_versions, Prod.mk.injEq, List.map_cons, List.map_nil, DataW.agg.injEq, List.cons.injEq, and_true] at hx
      obtain ⟨⟨rfl, rfl⟩, _⟩ := hx
      have e0 := ver_row (p := p0) (by simpa using h0)
      have e1 := ver_row (p := p1) (by simpa using h1)
      simp at e0 e1
      obtain ⟨rfl, rfl, rfl⟩ := e0
      obtain ⟨rfl, rfl, rfl⟩ := e1
      rfl
end
theorem tab_of {W : World} {n : String} {g : Nat} {cs : Array Value} {l : List Int} (hg : Tryd.prog.globalNamed n = some g) (hv : W.var? Tryd.prog n = some cs) (hcs : cs.toList = l.map (Value.int .i64)) : TabAt W g l := fun j x hj => by
  rw [World.var?_cell hg hv j, ← Array.getElem?_toList, hcs, List.getElem?_map, hj]
  rfl
theorem gv_of {W : World} {g t : Nat} {cs : Array Value} {f : Nat} {p : List MemPlace} (hg : Tryd.prog.globalNamed "palanquin/ipip.versions" = some g) (ht : (Tryd.prog.globals[g]?).map (·.type) = some t) (hv : W.var? Tryd.prog "palanquin/ipip.versions" = some cs)
    (hd : DataW.trod (fun _ => ()) Tryd.prog W 0 (fun _ => true) false f t cs.toList = some (Rows.laid_palanquin_ipip_versions, p)) : GV W := by
  obtain rfl := Option.some.inj ((show Tryd.prog.globalNamed "palanquin/ipip.versions" = some 0 by kernel_rfl).symm.trans hg)
  obtain rfl := Option.some.inj ((show (Tryd.prog.globals[0]?).map (·.type) = some 110 by kernel_rfl).symm.trans ht)
  exact tab_of hg hv (ver_rows hd)
theorem places_rows {H : Type} {enc : TypeId × Value → H} {w : World} {base : Nat} {spare : Nat → Bool} {held : Bool} {n : Nat} {cs : List Value} {p : List MemPlace} (h : DataW.trod enc Tryd.prog w base spare held n 135 cs = some (Rows.laid_palanquin_flow_places, p)) : cs = [.int .i64 6, .int .i64 16, .int .i64 17, .int .i64 6] := by
  obtain ⟨xs, m, _, hx, hl, hlen, hel⟩ := DataW.trod_array Tryd.underlying135 h
  have h0 := hel 0 (by decide)
  have h1 := hel 1 (by decide)
  rw [show Tryd.prog.cellsOf 134 = 2 by kernel_rfl] at h0 h1
  rw [show Tryd.prog.cellsOf 135 = 4 by kernel_rfl] at hl
  match cs, hl with
  | [c0, c1, c2, c3], _ =>
    match xs, hlen with
    | [(d0, p0), (d1, p1)], _ =>
      simp only [Rows.laid_palanquin_flow_places, Prod.mk.injEq, List.map_cons, List.map_nil, DataW.agg.injEq, List.cons.injEq, and_true] at hx
      obtain ⟨⟨rfl, rfl⟩, _⟩ := hx
      have e0 := pair_cells (p := p0) Tryd.underlying134 (by kernel_rfl) (by kernel_rfl) (by kernel_rfl) (by simpa using h0)
      have e1 := pair_cells (p := p1) Tryd.underlying134 (by kernel_rfl) (by kernel_rfl) (by kernel_rfl) (by simpa using h1)
      simp at e0 e1
      obtain ⟨rfl, rfl⟩ := e0
      obtain ⟨rfl, rfl⟩ := e1
      rfl
theorem laid_gp {W : World} (h : laidMetH Tryd.prog [("palanquin/ipip.versions", Rows.laid_palanquin_ipip_versions), ("palanquin/flow.places", Rows.laid_palanquin_flow_places), ("palanquin/flow.least", Rows.laid_palanquin_flow_least)] W) : GV W ∧ GP W := by
  rw [MakeChecks.laidMetH_plain _ _ _ (by kernel_rfl)] at h
  obtain ⟨ps, ⟨g0, t0, cs0, f0, p0, q0, hg0, ht0, hv0, hd0, ⟨g1, t1, cs1, f1, p1, q1, hg1, ht1, hv1, hd1, ⟨g2, t2, cs2, f2, p2, q2, hg2, ht2, hv2, hd2, _, _⟩, _⟩, _⟩, _, _⟩ := h
  refine ⟨gv_of hg0 ht0 hv0 hd0, ?_, ?_⟩
  · obtain rfl := Option.some.inj ((show Tryd.prog.globalNamed "palanquin/flow.places" = some 1 by kernel_rfl).symm.trans hg1)
    obtain rfl := Option.some.inj ((show (Tryd.prog.globals[1]?).map (·.type) = some 135 by kernel_rfl).symm.trans ht1)
    exact tab_of hg1 hv1 (places_rows hd1)
  · obtain rfl := Option.some.inj ((show Tryd.prog.globalNamed "palanquin/flow.least" = some 2 by kernel_rfl).symm.trans hg2)
    obtain rfl := Option.some.inj ((show (Tryd.prog.globals[2]?).map (·.type) = some 134 by kernel_rfl).symm.trans ht2)
    exact tab_of hg2 hv2 (pair_cells Tryd.underlying134 (by kernel_rfl) (by kernel_rfl) (by kernel_rfl) hd2)
end Go.Proofs.YtcmalglippmocaaDoor.Pal
end
