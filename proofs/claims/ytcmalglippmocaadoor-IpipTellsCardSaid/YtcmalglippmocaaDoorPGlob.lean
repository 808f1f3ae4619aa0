/- Plain: the program's package-level tables as a world holds them, and that what lies above them leaves them so. -/
import Derived.Test.YtcmalglippmocaaDoorPHeap
import Derived.Laws.Rows
namespace Go.Proofs.YtcmalglippmocaaDoor.G
open Go.RowKit Go.Proofs.YtcmalglippmocaaDoor.Pal
/-- Block b holds the whole numbers l, cell by cell. -/
def TabAt (w : World) (b : Nat) (l : List Int) : Prop := ∀ j x, l[j]? = some x → w.cell? ⟨b, j, none⟩ = some (.int .i64 x)
theorem TabAt.lt {w : World} {b : Nat} {l : List Int} {x : Int} (h : TabAt w b (x :: l)) : b < w.heap.size := by
  have := h 0 x rfl
  by_cases hb : b < w.heap.size
  · exact hb
  · rw [World.cell?] at this
    simp [Array.getElem?_eq_none (Nat.le_of_not_lt hb)] at this
theorem TabAt.below {w w' : World} {b : Nat} {x : Int} {l : List Int} (h : TabAt w b (x :: l)) (hb : Below w.heap.size w w') : TabAt w' b (x :: l) := fun j y hy =>
  (hb.cell (p := ⟨b, j, none⟩) h.lt).trans (h j y hy)
theorem isEmpty_of {s : ByteArray} (h : s.size = 0) : s.toList.isEmpty = true := by
  have e : s = ⟨#[]⟩ := by apply ByteArray.ext; exact Array.eq_empty_of_size_eq_zero h
  rw [e]; decide +kernel
theorem isEmpty_not {s : ByteArray} (h : ¬ s.size = 0) : s.toList.isEmpty = false := by
  have e : s.toList = s.data.toList := ByteArray.toList_eq s
  rw [e]
  cases hb : s.data.toList with
  | nil => exact absurd (show s.data.size = 0 by rw [← Array.length_toList, hb]; rfl) h
  | cons a l => rfl
/-- A result that lies in a variable of its own, whole, and one beside it. -/
theorem results_cell_tmp {P : Program} {fn : Func} {p t : Tmp} {ty : TypeId} (h : fn.results = #[.cell p ty, .tmp t]) (tmps : Array Value) (w : World) (k : Nat) (cs : Array Value) (d : TypeDesc)
    (hp : tmps.getD p undef = .pointer (some ⟨k, 0, none⟩)) (hb : Blk w k ty cs) (hu : P.underlying ty = some d) (hd : (match d with | .struct _ | .array _ _ => true | _ => false) = true) (hi : (P.info? ty).map (·.size) = some cs.size) :
    (results fn tmps).run P w = .ok (.tuple #[.agg cs, tmps.getD t undef]) w := by
  have hp' : tmps[p]?.getD undef = .pointer (some ⟨k, 0, none⟩) := by simpa using hp
  simp [results, h, hp', asAddr, run_loadVar_row w k ty ty cs (0, 0) d hb hu hd hi]
/-- ipip's versions. -/
def GV (w : World) : Prop := TabAt w 0 [4, 4, 2048, 6, 41, 34525]
theorem GV.below {w w' : World} (h : GV w) (hb : Below w.heap.size w w') : GV w' := TabAt.below h hb
theorem GV.cells {w : World} (h : GV w) : w.cell? ⟨0, 0, none⟩ = some (.int .i64 4) ∧ w.cell? ⟨0, 1, none⟩ = some (.int .i64 4) ∧ w.cell? ⟨0, 2, none⟩ = some (.int .i64 2048) ∧ w.cell? ⟨0, 3, none⟩ = some (.int .i64 6) ∧ w.cell? ⟨0, 4, none⟩ = some (.int .i64 41) ∧ w.cell? ⟨0, 5, none⟩ = some (.int .i64 34525) :=
  ⟨h 0 _ rfl, h 1 _ rfl, h 2 _ rfl, h 3 _ rfl, h 4 _ rfl, h 5 _ rfl⟩
/-- flow's places and least. -/
def GP (w : World) : Prop := TabAt w 1 [6, 16, 17, 6] ∧ TabAt w 2 [20, 8]
theorem GP.below {w w' : World} (h : GP w) (hb : Below w.heap.size w w') : GP w' := ⟨TabAt.below h.1 hb, TabAt.below h.2 hb⟩
theorem GP.cells {w : World} (h : GP w) : (w.cell? ⟨1, 0, none⟩ = some (.int .i64 6) ∧ w.cell? ⟨1, 1, none⟩ = some (.int .i64 16) ∧ w.cell? ⟨1, 2, none⟩ = some (.int .i64 17) ∧ w.cell? ⟨1, 3, none⟩ = some (.int .i64 6)) ∧ w.cell? ⟨2, 0, none⟩ = some (.int .i64 20) ∧ w.cell? ⟨2, 1, none⟩ = some (.int .i64 8) :=
  ⟨⟨h.1 0 _ rfl, h.1 1 _ rfl, h.1 2 _ rfl, h.1 3 _ rfl⟩, h.2 0 _ rfl, h.2 1 _ rfl⟩
end Go.Proofs.YtcmalglippmocaaDoor.G
