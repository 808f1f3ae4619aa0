/- Texts of this session, joined: each is a section. -/
import Derived.Test.YtcmalglippmocaaDoorMFlowValid1
import Derived.Test.YtcmalglippmocaaDoorProg
import Derived.Below
import Derived.Deep.Draws
import Derived.Deep.AppendLies
import Derived.Maps.AppendAt
import Derived.OwnWalk
import Derived.Laws.BytesArg
import Derived.Laws.MakeOwn
import Derived.Laws.OwnMore
import Derived.Deep.OwnRows
import Derived.Tactics
import Derived.Lib.ConvBytes
import Derived.Laws.Slices
import Derived.WalkKit
import Derived.KernelRfl
import Derived.RowKit3
import Derived.Deep.LoopGhost
import Derived.Deep.QuietTactic
import Derived.BigQuiet
import Derived.WideLaws
import Derived.Deep.DeepCutAuto
import Derived.Deep.CutBlock
import Derived.Deep.RegionHeld3
import Derived.Laws.Rows
import Derived.Lib.AppendStr
import Derived.ArgAppend
import Derived.Laws.IdiomCopy
import Derived.OrdersHeld
import Derived.Laws.BitsLemmas
import Derived.RowKit
import Derived.OneCell
import Derived.Laws.Bits64
import Derived.Laws.BitsAllLaws
import Derived.Lib.Builder
import Derived.Lib.FrozenHead2
import Derived.Lib.UnsafeStr
import Derived.Laws.Externs
import Derived.Lib.Hide
import Derived.RegionTactic
import Derived.StillTailTactics
import Derived.Shelf.Strings.BuilderX
set_option linter.unusedVariables false
set_option linter.unusedSimpArgs false
section
namespace Go.Proofs.YtcmalglippmocaaDoorW.PrintWords
open Go.RowKit
end Go.Proofs.YtcmalglippmocaaDoorW.PrintWords
namespace Go.Proofs.YtcmalglippmocaaDoorW.PrintLast
section
variable {ops : Array Oper} {a : Act} {o og : Oper} {g : Nat} {t : Tmp} {u : Bool}
end
end Go.Proofs.YtcmalglippmocaaDoorW.PrintLast
end

section
/-! ### 58. A guarded operation whose guard is known to want it: the same goal without the guard -/
namespace Go.Proofs.YtcmalglippmocaaDoorW.PrintWords
open Go.RowKit
section
variable {P : Program} {ops : Array Oper} {rest : List Oper} {o : Oper} {a : Act} {Q : Exit → Act → World → Prop} {W : World}
theorem gate_guard (hw : Region.wanted o (yielded ops a.tmps) = true) (h : wpList P ops Q ({ o with guard := none } :: rest) a W) : wpList P ops Q (o :: rest) a W := by
  have h1 : Region.wanted { o with guard := none } (yielded ops a.tmps) = true := rfl
  unfold wpList at h ⊢
  rw [if_pos h1] at h
  rw [if_pos hw]
  exact h
end
end Go.Proofs.YtcmalglippmocaaDoorW.PrintWords
end

section
/-! ### 48. N's events: append, a whole row appended, zeros appended, literals, make, stores, cuts, an element taken out -/
namespace Go.Proofs.YtcmalglippmocaaDoorW.PrintWords
open Go.RowKit
namespace Kd
section
variable {α : Type} {d : Kd α} {e base n cap g : Nat} {ok ok' okp : Nat → Prop} {w w1 W : World} {v v1 : Value} {xs ys : List α}
end
section
variable {P : Program} {ops : Array Oper} {rest : List Oper} {o : Oper} {a : Act} {Q : Exit → Act → World → Prop} {Kc : Act → World → Prop} {α : Type}
end
end Kd
end Go.Proofs.YtcmalglippmocaaDoorW.PrintWords
end

section
-- PRINTED WORDS (module Derived/Print/More.lean): go-gate-2's additions: an AI agent of Go's test side, Tue Nov 17 2026; no person has read it. Lean checks it.
namespace Go.Proofs.YtcmalglippmocaaDoorW.PrintMore
open Go.RowKit Go.Proofs.YtcmalglippmocaaDoorW.PrintWords
namespace Kd
open Go.Proofs.YtcmalglippmocaaDoorW.PrintWords.Kd
end Kd

namespace Kd
open Go.Proofs.YtcmalglippmocaaDoorW.PrintWords.Kd
section
variable {α : Type} {d : Kd α} {e base g N : Nat} {ok : Nat → Prop} {W w1 : World} {u v : Value} {xs : List α}
end
end Kd
theorem max2_int (k k' : IntKind) (x y : Int) : Builtin.max2 (.int k x) (.int k' y) = pure (.int k (if x < y then y else x)) := by simp only [Builtin.max2, gt_iff_lt]
theorem min2_int (k k' : IntKind) (x y : Int) : Builtin.min2 (.int k x) (.int k' y) = pure (.int k (if y < x then y else x)) := by simp only [Builtin.min2]
theorem max_two (ats : Array TypeId) (ty : TypeId) (a b : Value) : Builtin.max_ ats ty #[a, b] = (Builtin.max2 a b >>= fun s => pure s) := by simp only [Builtin.max_, List.foldlM_cons, List.foldlM_nil]
theorem min_two (ats : Array TypeId) (ty : TypeId) (a b : Value) : Builtin.min_ ats ty #[a, b] = (Builtin.min2 a b >>= fun s => pure s) := by simp only [Builtin.min_, List.foldlM_cons, List.foldlM_nil]
theorem max_three (ats : Array TypeId) (ty : TypeId) (a b c : Value) : Builtin.max_ ats ty #[a, b, c] = (Builtin.max2 a b >>= fun s => Builtin.max2 s c >>= fun s => pure s) := by simp only [Builtin.max_, List.foldlM_cons, List.foldlM_nil]
theorem min_three (ats : Array TypeId) (ty : TypeId) (a b c : Value) : Builtin.min_ ats ty #[a, b, c] = (Builtin.min2 a b >>= fun s => Builtin.min2 s c >>= fun s => pure s) := by simp only [Builtin.min_, List.foldlM_cons, List.foldlM_nil]
theorem max_four (ats : Array TypeId) (ty : TypeId) (a b c d : Value) : Builtin.max_ ats ty #[a, b, c, d] = (Builtin.max2 a b >>= fun s => Builtin.max2 s c >>= fun s => Builtin.max2 s d >>= fun s => pure s) := by simp only [Builtin.max_, List.foldlM_cons, List.foldlM_nil]
theorem min_four (ats : Array TypeId) (ty : TypeId) (a b c d : Value) : Builtin.min_ ats ty #[a, b, c, d] = (Builtin.min2 a b >>= fun s => Builtin.min2 s c >>= fun s => Builtin.min2 s d >>= fun s => pure s) := by simp only [Builtin.min_, List.foldlM_cons, List.foldlM_nil]
end Go.Proofs.YtcmalglippmocaaDoorW.PrintMore
namespace Go.Proofs.YtcmalglippmocaaDoorW.PrintWords
open Go.RowKit
section
variable {P : Program} {ops : Array Oper} {rest : List Oper} {o : Oper} {a : Act} {Q : Exit → Act → World → Prop} {W : World}
theorem gate_callee {f : FuncId} {ag : Array Operand} {ts : Array TypeId} (_ho : o.op = .call { callee := .value (.func f), args := ag, argTypes := ts }) (h : wpList P ops Q (o :: rest) a W) : wpList P ops Q (o :: rest) a W := h
theorem gate_builtin {b : Builtin} {xs : Array Operand} {ts : Array TypeId} (_ho : o.op = .call { callee := .builtin b, args := xs, argTypes := ts }) (h : wpList P ops Q (o :: rest) a W) : wpList P ops Q (o :: rest) a W := h
end
theorem drewN_self (w : World) (n : Nat) : w.drewN n = w.drewN n := rfl
namespace Kd
section
variable {α : Type} {d : Kd α} {e base : Nat} {ok : Nat → Prop} {W w1 : World} {v : Value} {xs : List α}
end
section
variable {α : Type} {d : Kd α} {e base g n cap : Nat} {ok oki okp : Nat → Prop} {W : World} {xs : List α} {i : Int} {c : List Value}
end
section
variable {α : Type} {d : Kd α} {e base b b' g N : Nat} {ok ok1 : Nat → Prop} {W W2 w1 : World} {u v : Value} {xs ys : List α} {S : Nat → Prop}
end
end Kd
end Go.Proofs.YtcmalglippmocaaDoorW.PrintWords
namespace Go.Proofs.YtcmalglippmocaaDoorW.PrintWords
open Go.RowKit
namespace Kd
def V {α : Type} (d : Kd α) (_e : Nat) (W : World) (_base : Nat) (ok : Nat → Prop) (v : Value) (xs : List α) : Prop := ∃ A c, v = .slice A xs.length c ∧ xs.length ≤ c ∧ F d W ok A xs.length xs
section
variable {α β : Type} {d : Kd α} {e base base' n m c g N' lo hi : Nat} {ok ok' S : Nat → Prop} {w W w1 : World} {A : Option Addr} {ad : Addr} {u v v1 : Value} {xs : List α}
theorem V_nil (d : Kd α) (e : Nat) (W : World) (base : Nat) (ok : Nat → Prop) : V d e W base ok (.slice none 0 0) [] := ⟨none, 0, rfl, Nat.le_refl _, F_nil d W ok⟩
end
end Kd
end Go.Proofs.YtcmalglippmocaaDoorW.PrintWords
end

section
namespace Go.Proofs.YtcmalglippmocaaDoor.G
open Go.RowKit Go.Proofs.YtcmalglippmocaaDoorW.PrintWords Go.Proofs.YtcmalglippmocaaDoorW.PrintLast Go.Proofs.YtcmalglippmocaaDoorW.PrintMore
attribute [local go_sem] max2_int min2_int max_two min_two max_three min_three max_four min_four



def errW : Option Int → Value
  | none => .nilIface
  | some c => .iface 0 (.int .i64 c)
theorem errW_none : errW none = .nilIface := rfl
theorem errW_some (c : Int) : errW (some c) = .iface 0 (.int .i64 c) := rfl

theorem info3 : (Tryd.prog.info? 3).map (fun i => (i.zero, i.size, i.bytes)) = some (some (.int .i64 0), 1, 8) := by kernel_rfl
theorem info5 : (Tryd.prog.info? 5).map (fun i => (i.zero, i.size, i.bytes)) = some (some (.int .u8 0), 1, 1) := by kernel_rfl
/-! #### struct type 107 -/
structure S107 where
  f0 : Int
  f1 : Int
  f2 : Int
/-! #### struct type 40 -/
structure S40 where
  f0 : Bool
  f1 : Bool
  f2 : Int
/-! #### struct type 81 -/
structure S81 where
  f0 : Int
  f1 : Int
  f2 : ByteArray
/-! #### struct type 55 -/
structure S55 where
  f0 : Int
  f1 : Bool
/-! #### struct type 69 -/
structure S69 where
  f0 : Int
  f1 : Int
  f2 : Int
  f3 : Int
  f4 : Int
  f5 : Bool
  f6 : Bool
  f7 : ByteArray
  f8 : ByteArray
  f9 : ByteArray
/-! #### struct type 71 -/
structure S71 where
  f0 : Int
  f1 : Int
  f2 : Int
  f3 : Int
  f4 : ByteArray
  f5 : ByteArray
/-! #### struct type 79 -/
structure S79 where
  f0 : Int
  f1 : Int
  f2 : Int
  f3 : Int
  f4 : Int
  f5 : Int
  f6 : Int
  f7 : ByteArray
  f8 : ByteArray
/-! #### struct type 88 -/
structure S88 where
  f0 : Int
  f1 : ByteArray
  f2 : ByteArray
  f3 : Int
  f4 : Int
/-! #### struct type 93 -/
structure S93 where
  f0 : Int
  f1 : Bool
  f2 : Bool
  f3 : Int
  f4 : Bool
  f5 : Int
  f6 : Int
/-! #### struct type 98 -/
structure S98 where
  f0 : ByteArray
  f1 : ByteArray
  f2 : Int
  f3 : Int
end Go.Proofs.YtcmalglippmocaaDoor.G
end

section
namespace Go.Proofs.YtcmalglippmocaaDoor.G
open Go.RowKit Go.Proofs.YtcmalglippmocaaDoorW.PrintWords Go.Proofs.YtcmalglippmocaaDoorW.PrintLast Go.Proofs.YtcmalglippmocaaDoorW.PrintMore
theorem kN {w : World} {g : Nat} {o : Obj} (h : w.heap[g]? = some o) (n : Nat) : (w.drewN n).heap[g]? = some o := blk_drewN h n
theorem kD {w : World} {g : Nat} {o : Obj} (h : w.heap[g]? = some o) : w.drew.heap[g]? = some o := blk_drew h
theorem kA {w : World} {g : Nat} {o : Obj} (h : w.heap[g]? = some o) (o' : Obj) : (w.alloc o').heap[g]? = some o := blk_alloc h o'
theorem bN {B : Nat} {w W : World} (h : Below B w W) (n : Nat) : Below B w (W.drewN n) := pw_below_drewN h n
theorem bA {w W : World} (h : Below w.heap.size w W) (o : Obj) : Below w.heap.size w (W.alloc o) := below_alloc h o
theorem bD {base : Nat} {w W : World} (h : Below base w W) : Below base w W.drew := below_drew1 h
theorem bS {w W : World} {g j : Nat} {v : Value} (h : Below w.heap.size w W) (hg : w.heap.size ≤ g) : Below w.heap.size w (W.setCell ⟨g, j, none⟩ v) := below_set h hg
theorem bP {w W w2 : World} (h : Below w.heap.size w W) (k : Below W.heap.size W w2) : Below w.heap.size w w2 := below_step h k
theorem zF {w : World} {g : Nat} {t : TypeId} {cs : Array Value} (h : w.heap[g]? = some (.cells cs t)) (i : Nat) : w.frozen? ⟨g, i, none⟩ = false := blk_frozen h i
theorem zC {w : World} {g : Nat} {t : TypeId} {cs : Array Value} (h : w.heap[g]? = some (.cells cs t)) (i : Nat) : w.cell? ⟨g, i, none⟩ = cs[i]? := blk_cell h i
theorem mA {p : Prop} (h : p) : Aside0 p := ⟨h⟩
theorem bpr {w W w2 : World} (h : Below w.heap.size w W) (k : Below W.heap.size W w2) : Aside0 (Below w.heap.size w w2) ∧ w.heap.size ≤ W.heap.size := ⟨⟨below_step h k⟩, h.size⟩
theorem bt3 {W w2 : World} {g : Nat} {o : Obj} (h : W.heap[g]? = some o) (k : Below W.heap.size W w2) : Aside0 (w2.heap[g]? = some o) ∧ g < W.heap.size := ⟨⟨blk_below h k⟩, blk_lt h⟩
theorem bc2 {w : World} {g : Nat} {t : TypeId} {c0 c1 : Value} (h : w.heap[g]? = some (.cells #[c0, c1] t)) : w.cell? ⟨g, 0, none⟩ = some c0 ∧ w.cell? ⟨g, 1, none⟩ = some c1 := ⟨(blk_cell h 0).trans rfl, (blk_cell h 1).trans rfl⟩
theorem bc3 {w : World} {g : Nat} {t : TypeId} {c0 c1 c2 : Value} (h : w.heap[g]? = some (.cells #[c0, c1, c2] t)) : w.cell? ⟨g, 0, none⟩ = some c0 ∧ w.cell? ⟨g, 1, none⟩ = some c1 ∧ w.cell? ⟨g, 2, none⟩ = some c2 := ⟨(blk_cell h 0).trans rfl, (blk_cell h 1).trans rfl, (blk_cell h 2).trans rfl⟩
theorem bc4 {w : World} {g : Nat} {t : TypeId} {c0 c1 c2 c3 : Value} (h : w.heap[g]? = some (.cells #[c0, c1, c2, c3] t)) : w.cell? ⟨g, 0, none⟩ = some c0 ∧ w.cell? ⟨g, 1, none⟩ = some c1 ∧ w.cell? ⟨g, 2, none⟩ = some c2 ∧ w.cell? ⟨g, 3, none⟩ = some c3 := ⟨(blk_cell h 0).trans rfl, (blk_cell h 1).trans rfl, (blk_cell h 2).trans rfl, (blk_cell h 3).trans rfl⟩
theorem bc5 {w : World} {g : Nat} {t : TypeId} {c0 c1 c2 c3 c4 : Value} (h : w.heap[g]? = some (.cells #[c0, c1, c2, c3, c4] t)) : w.cell? ⟨g, 0, none⟩ = some c0 ∧ w.cell? ⟨g, 1, none⟩ = some c1 ∧ w.cell? ⟨g, 2, none⟩ = some c2 ∧ w.cell? ⟨g, 3, none⟩ = some c3 ∧ w.cell? ⟨g, 4, none⟩ = some c4 := ⟨(blk_cell h 0).trans rfl, (blk_cell h 1).trans rfl, (blk_cell h 2).trans rfl, (blk_cell h 3).trans rfl, (blk_cell h 4).trans rfl⟩
theorem bc6 {w : World} {g : Nat} {t : TypeId} {c0 c1 c2 c3 c4 c5 : Value} (h : w.heap[g]? = some (.cells #[c0, c1, c2, c3, c4, c5] t)) : w.cell? ⟨g, 0, none⟩ = some c0 ∧ w.cell? ⟨g, 1, none⟩ = some c1 ∧ w.cell? ⟨g, 2, none⟩ = some c2 ∧ w.cell? ⟨g, 3, none⟩ = some c3 ∧ w.cell? ⟨g, 4, none⟩ = some c4 ∧ w.cell? ⟨g, 5, none⟩ = some c5 := ⟨(blk_cell h 0).trans rfl, (blk_cell h 1).trans rfl, (blk_cell h 2).trans rfl, (blk_cell h 3).trans rfl, (blk_cell h 4).trans rfl, (blk_cell h 5).trans rfl⟩
theorem bc7 {w : World} {g : Nat} {t : TypeId} {c0 c1 c2 c3 c4 c5 c6 : Value} (h : w.heap[g]? = some (.cells #[c0, c1, c2, c3, c4, c5, c6] t)) : w.cell? ⟨g, 0, none⟩ = some c0 ∧ w.cell? ⟨g, 1, none⟩ = some c1 ∧ w.cell? ⟨g, 2, none⟩ = some c2 ∧ w.cell? ⟨g, 3, none⟩ = some c3 ∧ w.cell? ⟨g, 4, none⟩ = some c4 ∧ w.cell? ⟨g, 5, none⟩ = some c5 ∧ w.cell? ⟨g, 6, none⟩ = some c6 := ⟨(blk_cell h 0).trans rfl, (blk_cell h 1).trans rfl, (blk_cell h 2).trans rfl, (blk_cell h 3).trans rfl, (blk_cell h 4).trans rfl, (blk_cell h 5).trans rfl, (blk_cell h 6).trans rfl⟩
theorem bc9 {w : World} {g : Nat} {t : TypeId} {c0 c1 c2 c3 c4 c5 c6 c7 c8 : Value} (h : w.heap[g]? = some (.cells #[c0, c1, c2, c3, c4, c5, c6, c7, c8] t)) : w.cell? ⟨g, 0, none⟩ = some c0 ∧ w.cell? ⟨g, 1, none⟩ = some c1 ∧ w.cell? ⟨g, 2, none⟩ = some c2 ∧ w.cell? ⟨g, 3, none⟩ = some c3 ∧ w.cell? ⟨g, 4, none⟩ = some c4 ∧ w.cell? ⟨g, 5, none⟩ = some c5 ∧ w.cell? ⟨g, 6, none⟩ = some c6 ∧ w.cell? ⟨g, 7, none⟩ = some c7 ∧ w.cell? ⟨g, 8, none⟩ = some c8 := ⟨(blk_cell h 0).trans rfl, (blk_cell h 1).trans rfl, (blk_cell h 2).trans rfl, (blk_cell h 3).trans rfl, (blk_cell h 4).trans rfl, (blk_cell h 5).trans rfl, (blk_cell h 6).trans rfl, (blk_cell h 7).trans rfl, (blk_cell h 8).trans rfl⟩
theorem bc10 {w : World} {g : Nat} {t : TypeId} {c0 c1 c2 c3 c4 c5 c6 c7 c8 c9 : Value} (h : w.heap[g]? = some (.cells #[c0, c1, c2, c3, c4, c5, c6, c7, c8, c9] t)) : w.cell? ⟨g, 0, none⟩ = some c0 ∧ w.cell? ⟨g, 1, none⟩ = some c1 ∧ w.cell? ⟨g, 2, none⟩ = some c2 ∧ w.cell? ⟨g, 3, none⟩ = some c3 ∧ w.cell? ⟨g, 4, none⟩ = some c4 ∧ w.cell? ⟨g, 5, none⟩ = some c5 ∧ w.cell? ⟨g, 6, none⟩ = some c6 ∧ w.cell? ⟨g, 7, none⟩ = some c7 ∧ w.cell? ⟨g, 8, none⟩ = some c8 ∧ w.cell? ⟨g, 9, none⟩ = some c9 := ⟨(blk_cell h 0).trans rfl, (blk_cell h 1).trans rfl, (blk_cell h 2).trans rfl, (blk_cell h 3).trans rfl, (blk_cell h 4).trans rfl, (blk_cell h 5).trans rfl, (blk_cell h 6).trans rfl, (blk_cell h 7).trans rfl, (blk_cell h 8).trans rfl, (blk_cell h 9).trans rfl⟩
def bv (n m : Nat) : Array Bool := ((List.range n).map fun j => m.testBit j).toArray
theorem bf2 {w : World} {g : Nat} {t : TypeId} {cs : Array Value} (h : w.heap[g]? = some (.cells cs t)) : w.frozen? ⟨g, 0, none⟩ = false ∧ w.frozen? ⟨g, 1, none⟩ = false := ⟨zF h 0, zF h 1⟩
theorem bf3 {w : World} {g : Nat} {t : TypeId} {cs : Array Value} (h : w.heap[g]? = some (.cells cs t)) : w.frozen? ⟨g, 0, none⟩ = false ∧ w.frozen? ⟨g, 1, none⟩ = false ∧ w.frozen? ⟨g, 2, none⟩ = false := ⟨zF h 0, zF h 1, zF h 2⟩
theorem bf4 {w : World} {g : Nat} {t : TypeId} {cs : Array Value} (h : w.heap[g]? = some (.cells cs t)) : w.frozen? ⟨g, 0, none⟩ = false ∧ w.frozen? ⟨g, 1, none⟩ = false ∧ w.frozen? ⟨g, 2, none⟩ = false ∧ w.frozen? ⟨g, 3, none⟩ = false := ⟨zF h 0, zF h 1, zF h 2, zF h 3⟩
theorem bf5 {w : World} {g : Nat} {t : TypeId} {cs : Array Value} (h : w.heap[g]? = some (.cells cs t)) : w.frozen? ⟨g, 0, none⟩ = false ∧ w.frozen? ⟨g, 1, none⟩ = false ∧ w.frozen? ⟨g, 2, none⟩ = false ∧ w.frozen? ⟨g, 3, none⟩ = false ∧ w.frozen? ⟨g, 4, none⟩ = false := ⟨zF h 0, zF h 1, zF h 2, zF h 3, zF h 4⟩
theorem bf6 {w : World} {g : Nat} {t : TypeId} {cs : Array Value} (h : w.heap[g]? = some (.cells cs t)) : w.frozen? ⟨g, 0, none⟩ = false ∧ w.frozen? ⟨g, 1, none⟩ = false ∧ w.frozen? ⟨g, 2, none⟩ = false ∧ w.frozen? ⟨g, 3, none⟩ = false ∧ w.frozen? ⟨g, 4, none⟩ = false ∧ w.frozen? ⟨g, 5, none⟩ = false := ⟨zF h 0, zF h 1, zF h 2, zF h 3, zF h 4, zF h 5⟩
theorem bf7 {w : World} {g : Nat} {t : TypeId} {cs : Array Value} (h : w.heap[g]? = some (.cells cs t)) : w.frozen? ⟨g, 0, none⟩ = false ∧ w.frozen? ⟨g, 1, none⟩ = false ∧ w.frozen? ⟨g, 2, none⟩ = false ∧ w.frozen? ⟨g, 3, none⟩ = false ∧ w.frozen? ⟨g, 4, none⟩ = false ∧ w.frozen? ⟨g, 5, none⟩ = false ∧ w.frozen? ⟨g, 6, none⟩ = false := ⟨zF h 0, zF h 1, zF h 2, zF h 3, zF h 4, zF h 5, zF h 6⟩
theorem bf9 {w : World} {g : Nat} {t : TypeId} {cs : Array Value} (h : w.heap[g]? = some (.cells cs t)) : w.frozen? ⟨g, 0, none⟩ = false ∧ w.frozen? ⟨g, 1, none⟩ = false ∧ w.frozen? ⟨g, 2, none⟩ = false ∧ w.frozen? ⟨g, 3, none⟩ = false ∧ w.frozen? ⟨g, 4, none⟩ = false ∧ w.frozen? ⟨g, 5, none⟩ = false ∧ w.frozen? ⟨g, 6, none⟩ = false ∧ w.frozen? ⟨g, 7, none⟩ = false ∧ w.frozen? ⟨g, 8, none⟩ = false := ⟨zF h 0, zF h 1, zF h 2, zF h 3, zF h 4, zF h 5, zF h 6, zF h 7, zF h 8⟩
theorem bf10 {w : World} {g : Nat} {t : TypeId} {cs : Array Value} (h : w.heap[g]? = some (.cells cs t)) : w.frozen? ⟨g, 0, none⟩ = false ∧ w.frozen? ⟨g, 1, none⟩ = false ∧ w.frozen? ⟨g, 2, none⟩ = false ∧ w.frozen? ⟨g, 3, none⟩ = false ∧ w.frozen? ⟨g, 4, none⟩ = false ∧ w.frozen? ⟨g, 5, none⟩ = false ∧ w.frozen? ⟨g, 6, none⟩ = false ∧ w.frozen? ⟨g, 7, none⟩ = false ∧ w.frozen? ⟨g, 8, none⟩ = false ∧ w.frozen? ⟨g, 9, none⟩ = false := ⟨zF h 0, zF h 1, zF h 2, zF h 3, zF h 4, zF h 5, zF h 6, zF h 7, zF h 8, zF h 9⟩

end Go.Proofs.YtcmalglippmocaaDoor.G
end

section
namespace Go.Proofs.YtcmalglippmocaaDoor.G
open Go.RowKit Go.Proofs.YtcmalglippmocaaDoorW.PrintWords Go.Proofs.YtcmalglippmocaaDoorW.PrintLast Go.Proofs.YtcmalglippmocaaDoorW.PrintMore
attribute [local go_sem] max2_int min2_int max_two min_two max_three min_three max_four min_four

theorem eqA88 (d : Nat) (w : World) (x0 y0 : Int) (x1 y1 : ByteArray) (x2 y2 : ByteArray) (x3 y3 : Int) (x4 y4 : Int) :
  (Op.equalIn (d + 2) 88 (.agg #[.int .i64 x0, .string x1, .string x2, .int .i64 x3, .int .i64 x4]) (.agg #[.int .i64 y0, .string y1, .string y2, .int .i64 y3, .int .i64 y4])).run Tryd.prog w = .ok (x0 == y0 && (x1.toList == y1.toList && (x2.toList == y2.toList && (x3 == y3 && (x4 == y4))))) w := by
 refine eqA_of Tryd.underlying88 (by kernel_rfl) ?_
 refine eqf_cons (by rfl) (by go_simp; rfl) (by go_simp; rfl) (by go_simp) ?_
 refine eqf_cons (by rfl) (by go_simp; rfl) (by go_simp; rfl) (by go_simp) ?_
 refine eqf_cons (by rfl) (by go_simp; rfl) (by go_simp; rfl) (by go_simp) ?_
 refine eqf_cons (by rfl) (by go_simp; rfl) (by go_simp; rfl) (by go_simp) ?_
 exact eqf_last (by rfl) (by go_simp; rfl) (by go_simp; rfl) (by go_simp)
end Go.Proofs.YtcmalglippmocaaDoor.G
end

section
namespace Go.Proofs.YtcmalglippmocaaDoor.G
open Go.RowKit Go.Proofs.YtcmalglippmocaaDoorW.PrintWords Go.Proofs.YtcmalglippmocaaDoorW.PrintLast Go.Proofs.YtcmalglippmocaaDoorW.PrintMore
attribute [local go_sem] max2_int min2_int max_two min_two max_three min_three max_four min_four

def palanquinref01_Bytes.l0 : Nat → Int → Int → ByteArray → Int → Option (ByteArray)
 | 0, _, _, _, _ => none
 | k + 1, x0, x1, x5, x6 => if x6 < x1 then ((some (([(Int.tmod x0 256) % 256] : List Int) : List Int)).bind fun y172 => (if (strOfNums y172).size + x5.size ≤ 9223372036854775807 then (palanquinref01_Bytes.l0 k (IntKind.u64.wrap (Int.tdiv x0 256)) x1 ((strOfNums y172) ++ x5) (wrap64 (x6 + 1))) else (none))) else (some x5)
def palanquinref01_Bytes.f (k : Nat) (a0 : Int) (a1 : Int) : Option (ByteArray) := palanquinref01_Bytes.l0 k a0 a1 (⟨#[]⟩ : ByteArray) 0
set_option maxHeartbeats 8000000 in
set_option maxRecDepth 100000 in
theorem palanquinref01_Bytes.calls (k : Nat) (a0 : Int) (a1 : Int) (r : ByteArray) (w : World) (h : palanquinref01_Bytes.f k a0 a1 = some r) :
  Calls Tryd.prog 61 #[.int .u64 a0, .int .i64 a1] w fun e w' => e = .returned (.string r) ∧ Below w.heap.size w w' := by
 have HB := mA (Below.refl w.heap.size w)
 have H : (palanquinref01_Bytes.l0 k a0 a1 (⟨#[]⟩ : ByteArray) 0) = some r := h
 clear h
 have H' := mA H
 clear H
 go_enter Tryd.func61, Tryd.ntmps61
 go_wp2
 go_loopg [0, 5, 6] k (fun kq v0 v5 v6 w' => ∃ (x0_1 : Int) (x5_1 : ByteArray) (x6_1 : Int), v0 = .int .u64 x0_1 ∧ v5 = .string x5_1 ∧ v6 = .int .i64 x6_1 ∧ Aside0 (palanquinref01_Bytes.l0 kq x0_1 a1 x5_1 x6_1 = some r) ∧ Aside0 (kq ≤ k) ∧ Aside0 (Below w.heap.size w w'))
 case atStart => exact ⟨(a0), ((⟨#[]⟩ : ByteArray)), (0), (by first | rfl | (simp; done) | (simp [*]; done)), (by first | rfl | (simp; done) | (simp [*]; done)), (by first | rfl | (simp; done) | (simp [*]; done)), H', ⟨Nat.le_refl _⟩, ⟨by repeat (first | (with_reducible first | exact HB.out | apply bA | apply bN | apply bD) | exact HB.out)⟩⟩
 case round =>
  clear H'
  try clear p2
  obtain ⟨x0_1, x5_1, x6_1, rfl, rfl, rfl, HA, HK1, HB⟩ := hrel
  cases gk with
  | zero => exact absurd HA.out (by simp [palanquinref01_Bytes.l0])
  | succ k1 =>
   have H := HA.out
   clear HA
   simp only [palanquinref01_Bytes.l0] at H
   by_cases c3 : x6_1 < a1
   ·rw [if_pos c3] at H
    have c3b0 : decide (x6_1 < a1) = true := decide_eq_true c3
    clear c3
    obtain ⟨y172, hy172⟩ : ∃ y_ : List Int, y_ = (([(Int.tmod x0_1 256) % 256] : List Int)) := ⟨_, rfl⟩
    replace H : (if (strOfNums y172).size + x5_1.size ≤ 9223372036854775807 then (palanquinref01_Bytes.l0 k1 (IntKind.u64.wrap (Int.tdiv x0_1 256)) a1 ((strOfNums y172) ++ x5_1) (wrap64 (x6_1 + 1))) else (none)) = some r := by first | (rw [hy172]; with_reducible exact H) | (have H2_ := (Option.bind_some _ _).symm.trans H; rw [hy172]; with_reducible exact H2_) | (have H2_ := (Option.bind_some _ _).symm.trans H; with_reducible exact H2_) | with_reducible exact H | (rw [hy172]; exact H) | exact H
    have Ny172 := mA hy172
    clear hy172
    by_cases c4 : (strOfNums y172).size + x5_1.size ≤ 9223372036854775807
    ·rw [if_pos c4] at H
     have c4b0 := eq_true c4
     have c4b1 : decide ((strOfNums y172).size + x5_1.size ≤ 9223372036854775807) = true := decide_eq_true c4
     try have c4b2 : (9223372036854775807 < (strOfNums y172).size + x5_1.size) = False := eq_false (Nat.not_lt.2 c4)
     have H' := mA H
     clear H
     go_wp2_with (first | ((with_reducible refine gate_dst (N := 15) rfl ?_); refine Kd.R_lit (Kd.int .u8) _ 5 ?hg (N := 15) ?hd (xs := ([(Int.tmod x0_1 256) % 256] : List Int)) (inner := [.int .u8 ((Int.tmod x0_1 256) % 256)]) (ok := fun _ => True) (okp := fun _ => True) ?hr ?hp (fun _ hk => hk) trivial (Below.refl _ _) (Nat.le_refl _) (by simp) ?_; (case hd => rfl); (case hg => rfl); (case hr => first | (go_simp; done) | (go_simp; rfl)); (case hp => exact (Reps.one (show Kd.M (Kd.int .u8) _ _ _ ((Int.tmod x0_1 256) % 256) [.int .u8 ((Int.tmod x0_1 256) % 256)] from rfl) (Reps.none _ _))); intro v173 w5 ho6 hb hg_ hnew_; clear hg_ hnew_; (first | rw [← Ny172.out] at ho6 | (simp only [Int.reduceToNat] at ho6; rw [← Ny172.out] at ho6)); have n0_ := mA (Kd.R_lower ho6 (below_size (by repeat (first | (with_reducible first | exact HB.out | apply bA | apply bN | apply bD) | exact HB.out)))); have n1_ := mA (bP (by repeat (first | (with_reducible first | exact HB.out | apply bA | apply bN | apply bD) | exact HB.out)) hb); clear HB; have HO174 := n0_; have HB := n1_; clear n0_ n1_; clear hb ho6; have hcv7 := own_string (P := Tryd.prog) Tryd.underlying23 Tryd.underlying5 Tryd.underlying9 (Kd.own_of_R HO174.out)))
     go_roundg k1
     case measure => have := HK1.out; omega
     case rel => exact ⟨(IntKind.u64.wrap (Int.tdiv x0_1 256)), ((strOfNums y172) ++ x5_1), (wrap64 (x6_1 + 1)), (by first | rfl | (simp; done) | (simp [*]; done)), (by first | rfl | (simp; done) | (simp [*]; done)), (by first | rfl | (simp; done) | (simp [*]; done)), H', ⟨by have := HK1.out; omega⟩, ⟨by repeat (first | (with_reducible first | exact HB.out | apply bA | apply bN | apply bD) | exact HB.out)⟩⟩
    ·rw [if_neg c4] at H
     exact absurd H (by simp)
   ·rw [if_neg c3] at H
    have c3b0 : decide (x6_1 < a1) = false := decide_eq_false c3
    clear c3
    obtain rfl := Option.some.inj H
    go_wp2
    go_ret
    exact ⟨by first | rfl | (simp [errW_none, errW_some] <;> rfl) | (simp [*, errW_none, errW_some] <;> rfl), by repeat (first | (with_reducible first | exact HB.out | apply bA | apply bN | apply bD) | exact HB.out)⟩

end Go.Proofs.YtcmalglippmocaaDoor.G
end

section
namespace Go.Proofs.YtcmalglippmocaaDoor.G
open Go.RowKit Go.Proofs.YtcmalglippmocaaDoorW.PrintWords Go.Proofs.YtcmalglippmocaaDoorW.PrintLast Go.Proofs.YtcmalglippmocaaDoorW.PrintMore
attribute [local go_sem] max2_int min2_int max_two min_two max_three min_three max_four min_four

def palanquinref08_in.f (a0 : Int) : Option (Bool) := if a0 ≥ 0 then (some (decide (a0 ≤ 65535))) else (some false)
set_option maxHeartbeats 8000000 in
set_option maxRecDepth 100000 in
theorem palanquinref08_in.calls (a0 : Int) (r : Bool) (w : World) (h : palanquinref08_in.f a0 = some r) :
  Calls Tryd.prog 93 #[.int .i64 a0] w fun e w' => e = .returned (.bool r) ∧ Drawn0 w w' := by
 have H : (if a0 ≥ 0 then (some (decide (a0 ≤ 65535))) else (some false)) = some r := h
 clear h
 by_cases c2 : a0 ≥ 0
 ·rw [if_pos c2] at H
  have c2b0 : decide (0 ≤ a0) = true := decide_eq_true c2
  clear c2
  obtain rfl := Option.some.inj H
  go_enter Tryd.func93, Tryd.ntmps93
  go_wp2
  go_ret
  exact ⟨by first | rfl | (simp; done) | (simp [*]; done), by repeat (first | exact Drawn0.refl _ | apply Drawn0.step)⟩
 ·rw [if_neg c2] at H
  have c2b0 : decide (0 ≤ a0) = false := decide_eq_false c2
  clear c2
  obtain rfl := Option.some.inj H
  go_enter Tryd.func93, Tryd.ntmps93
  go_wp2
  go_ret
  exact ⟨by first | rfl | (simp; done) | (simp [*]; done), by repeat (first | exact Drawn0.refl _ | apply Drawn0.step)⟩

def palanquinref08_Check.j0 : Nat → Bool → Int → Int → ByteArray → Option (Int)
 | 0, _, _, _, _ => none
 | k + 1, x12, x284000, x284001, x284002 => if x12 = true then (some 1) else (if (x284002.size : Int) > 65527 then (some 4) else (some 0))
def palanquinref08_Check.f (k : Nat) (a0_0 : Int) (a0_1 : Int) (a0_2 : ByteArray) : Option (Int) := (palanquinref08_in.f a0_0).bind fun t284 => (if t284 = true then ((palanquinref08_in.f a0_1).bind fun t285 => (palanquinref08_Check.j0 k (!t285) a0_0 a0_1 a0_2)) else (palanquinref08_Check.j0 k true a0_0 a0_1 a0_2))
set_option maxHeartbeats 8000000 in
set_option maxRecDepth 100000 in
theorem palanquinref08_Check.calls (k : Nat) (a0_0 : Int) (a0_1 : Int) (a0_2 : ByteArray) (r : Int) (w : World) (h : palanquinref08_Check.f k a0_0 a0_1 a0_2 = some r) :
  Calls Tryd.prog 92 #[.agg #[.int .i64 a0_0, .int .i64 a0_1, .string a0_2]] w fun e w' => e = .returned (.int .i64 r) ∧ Below w.heap.size w w' := by
 have hu81 := Tryd.underlying81
 have HB := mA (Below.refl w.heap.size w)
 have H : ((palanquinref08_in.f a0_0).bind fun t284 => (if t284 = true then ((palanquinref08_in.f a0_1).bind fun t285 => (palanquinref08_Check.j0 k (!t285) a0_0 a0_1 a0_2)) else (palanquinref08_Check.j0 k true a0_0 a0_1 a0_2))) = some r := h
 clear h
 have HC2 := mA H
 clear H
 go_enter Tryd.func92, Tryd.ntmps92
 go_upto_region 1 with (first | ((with_reducible refine gate_dst (N := 1) rfl ?_); refine box_event ?hg (N := 1) ?hd (cs := #[.int .i64 a0_0, .int .i64 a0_1, .string a0_2]) (t := 81) ?hr ?_; (case hd => rfl); (case hg => rfl); (case hr => first | (go_simp; done) | (go_simp; rfl)); intro gb283 hg w3 hbox hb; obtain ⟨n0_, nq_⟩ := bpr (by repeat (first | (with_reducible first | exact HB.out | apply bA | apply bN | apply bD) | exact HB.out)) hb; have n1_ := mA (hbox); have n2_ := mA ((by rw [hg]; exact nq_ : w.heap.size ≤ gb283)); have n3_ := mA ((by rw [hg]; exact nq_ : w.heap.size ≤ gb283)); clear HB; have HB := n0_; have BK283 := n1_; have GW283 := n2_; have GE283 := n3_; clear nq_; clear n0_ n1_ n2_ n3_; clear hb hbox hg))
 (try simp only [Act.put, List.setIfInBounds_toArray, List.set_cons_zero, List.set_cons_succ])
 go_cut [12] (fun v12 wc => ∃ (kq : Nat) (x12_1 : Bool), v12 = .bool x12_1 ∧ Aside0 (palanquinref08_Check.j0 kq x12_1 a0_0 a0_1 a0_2 = some r) ∧ Aside0 (kq ≤ k) ∧ Aside0 (wc.heap[gb283]? = some (.cells #[.int .i64 a0_0, .int .i64 a0_1, .string a0_2] 81 (0, 0))) ∧ Aside0 (Below w.heap.size w wc))
 case first =>
  have H := HC2.out
  clear HC2
  replace H := Option.bind_eq_some_iff.mp H
  obtain ⟨t284, A40, H⟩ := H
  try dsimp +instances only at H
  have A4 := mA A40
  clear A40
  by_cases c5 : t284 = true
  ·subst c5
   rw [if_pos rfl] at H
   replace H := Option.bind_eq_some_iff.mp H
   obtain ⟨t285, A60, H⟩ := H
   try dsimp +instances only at H
   have A6 := mA A60
   clear A60
   have H' := mA H
   clear H
   obtain ⟨hcz7_0, hcz7_1, hcz7_2⟩ := bc3 BK283.out
   obtain ⟨hfz7_0, hfz7_1, hfz7_2⟩ := bf3 BK283.out
   go_wp2_with (first | ((with_reducible refine gate_callee (f := 93) rfl ?_); refine goesL_ (some 5) rfl rfl Tryd.func93 (by kernel_rfl) rfl #[.int .i64 a0_0] rfl (by (try simp only [List.map_toArray, List.map_cons, List.map_nil]); first | done | rfl | (simp only [List.length_drop, List.length_take]; rfl)) ?_; (with_reducible refine (palanquinref08_in.calls a0_0 true _ A4.out).mono ?_); rintro e w' ⟨rfl, ⟨nd, rfl⟩⟩; refine ⟨_, rfl, ?_⟩) | (go_at_call 93; (with_reducible refine (palanquinref08_in.calls a0_1 t285 _ A6.out).mono ?_); rintro e w' ⟨rfl, ⟨nd, rfl⟩⟩))
   go_meet
   case rel => exact ⟨_, (!t285), (by first | rfl | (simp; done) | (simp [*]; done)), H', ⟨by first | omega | exact Nat.le_refl _⟩, ⟨by (with_reducible repeat (first | apply kN | apply kD | apply kA)); exact BK283.out⟩, ⟨by repeat (first | (with_reducible first | exact HB.out | apply bA | apply bN | apply bD | refine bS ?_ GE283.out) | exact HB.out)⟩⟩
  ·replace c5 := Bool.eq_false_iff.mpr c5
   subst c5
   rw [if_neg (show ¬ (false = true) by decide)] at H
   have H' := mA H
   clear H
   obtain ⟨hcz8_0, hcz8_1, hcz8_2⟩ := bc3 BK283.out
   obtain ⟨hfz8_0, hfz8_1, hfz8_2⟩ := bf3 BK283.out
   go_wp2_with (first | ((with_reducible refine gate_callee (f := 93) rfl ?_); refine goesL_ (some 5) rfl rfl Tryd.func93 (by kernel_rfl) rfl #[.int .i64 a0_0] rfl (by (try simp only [List.map_toArray, List.map_cons, List.map_nil]); first | done | rfl | (simp only [List.length_drop, List.length_take]; rfl)) ?_; (with_reducible refine (palanquinref08_in.calls a0_0 false _ A4.out).mono ?_); rintro e w' ⟨rfl, ⟨nd, rfl⟩⟩; refine ⟨_, rfl, ?_⟩))
   go_meet
   case rel => exact ⟨_, (true), (by first | rfl | (simp; done) | (simp [*]; done)), H', ⟨by first | omega | exact Nat.le_refl _⟩, ⟨by (with_reducible repeat (first | apply kN | apply kD | apply kA)); exact BK283.out⟩, ⟨by repeat (first | (with_reducible first | exact HB.out | apply bA | apply bN | apply bD | refine bS ?_ GE283.out) | exact HB.out)⟩⟩
 case rest =>
  clear HC2
  try clear p2
  try clear c5
  try clear hcz7_0 hcz7_1 hcz7_2
  try clear hcz8_0 hcz8_1 hcz8_2
  try clear hfz7_0 hfz7_1 hfz7_2
  try clear hfz8_0 hfz8_1 hfz8_2
  obtain ⟨kq, x12_1, rfl, HA, HJ1, BK283, HB⟩ := hcut
  cases kq with
  | zero => exact absurd HA.out (by simp [palanquinref08_Check.j0])
  | succ kj1 =>
   have H := HA.out
   clear HA
   simp only [palanquinref08_Check.j0] at H
   by_cases c9 : x12_1 = true
   ·subst c9
    rw [if_pos rfl] at H
    obtain rfl := Option.some.inj H
    go_wp2
    go_ret
    exact ⟨by first | rfl | (simp [errW_none, errW_some] <;> rfl) | (simp [*, errW_none, errW_some] <;> rfl), by repeat (first | (with_reducible first | exact HB.out | apply bA | apply bN | apply bD | refine bS ?_ GE283.out) | exact HB.out)⟩
   ·replace c9 := Bool.eq_false_iff.mpr c9
    subst c9
    rw [if_neg (show ¬ (false = true) by decide)] at H
    by_cases c10 : (a0_2.size : Int) > 65527
    ·rw [if_pos c10] at H
     have c10b0 : decide (65527 < (a0_2.size : Int)) = true := decide_eq_true c10
     have c10b1 : decide (65527 < a0_2.size) = true := decide_eq_true (by omega)
     clear c10
     obtain rfl := Option.some.inj H
     obtain ⟨hcz11_0, hcz11_1, hcz11_2⟩ := bc3 BK283.out
     obtain ⟨hfz11_0, hfz11_1, hfz11_2⟩ := bf3 BK283.out
     go_wp2
     go_ret
     exact ⟨by first | rfl | (simp [errW_none, errW_some] <;> rfl) | (simp [*, errW_none, errW_some] <;> rfl), by repeat (first | (with_reducible first | exact HB.out | apply bA | apply bN | apply bD | refine bS ?_ GE283.out) | exact HB.out)⟩
    ·rw [if_neg c10] at H
     have c10b0 : decide (65527 < (a0_2.size : Int)) = false := decide_eq_false c10
     have c10b1 : decide (65527 < a0_2.size) = false := decide_eq_false (by omega)
     clear c10
     obtain rfl := Option.some.inj H
     obtain ⟨hcz12_0, hcz12_1, hcz12_2⟩ := bc3 BK283.out
     obtain ⟨hfz12_0, hfz12_1, hfz12_2⟩ := bf3 BK283.out
     go_wp2
     go_ret
     exact ⟨by first | rfl | (simp [errW_none, errW_some] <;> rfl) | (simp [*, errW_none, errW_some] <;> rfl), by repeat (first | (with_reducible first | exact HB.out | apply bA | apply bN | apply bD | refine bS ?_ GE283.out) | exact HB.out)⟩

def palanquinref08_two.f (k : Nat) (a0 : Int) : Option (ByteArray) := (palanquinref01_Bytes.f k (IntKind.u64.wrap (a0)) 2).bind fun t286 => (some t286)
set_option maxHeartbeats 8000000 in
set_option maxRecDepth 100000 in
theorem palanquinref08_two.calls (k : Nat) (a0 : Int) (r : ByteArray) (w : World) (h : palanquinref08_two.f k a0 = some r) :
  Calls Tryd.prog 94 #[.int .i64 a0] w fun e w' => e = .returned (.string r) ∧ Below w.heap.size w w' := by
 have HB := mA (Below.refl w.heap.size w)
 have H : ((palanquinref01_Bytes.f k (IntKind.u64.wrap (a0)) 2).bind fun t286 => (some t286)) = some r := h
 clear h
 replace H := Option.bind_eq_some_iff.mp H
 obtain ⟨t286, A20, H⟩ := H
 try dsimp +instances only at H
 have A2 := mA A20
 clear A20
 obtain rfl := Option.some.inj H
 go_enter Tryd.func94, Tryd.ntmps94
 go_wp2_with (first | ((with_reducible refine gate_callee (f := 61) rfl ?_); refine goesL_ (some 5) rfl rfl Tryd.func61 (by kernel_rfl) rfl #[.int .u64 (IntKind.u64.wrap (a0)), .int .i64 2] rfl (by (try simp only [List.map_toArray, List.map_cons, List.map_nil]); first | done | rfl | (simp only [List.length_drop, List.length_take]; rfl)) ?_; (with_reducible refine (palanquinref01_Bytes.calls k (IntKind.u64.wrap (a0)) 2 t286 _ A2.out).mono ?_); rintro e w3 ⟨rfl, hb⟩; refine ⟨_, rfl, ?_⟩; have n0_ := mA (bP (by repeat (first | (with_reducible first | exact HB.out | apply bA | apply bN | apply bD) | exact HB.out)) hb); clear HB; have HB := n0_; clear n0_; (try clear hb); (try clear hb2); (try clear hk); (try clear hi)))
 go_ret
 exact ⟨by first | rfl | (simp [errW_none, errW_some] <;> rfl) | (simp [*, errW_none, errW_some] <;> rfl), by repeat (first | (with_reducible first | exact HB.out | apply bA | apply bN | apply bD) | exact HB.out)⟩

def palanquinref08_Put.f (k : Nat) (a0_0 : Int) (a0_1 : Int) (a0_2 : ByteArray) (a1 : Int) : Option (ByteArray × Int) := (palanquinref08_Check.f k a0_0 a0_1 a0_2).bind fun t288 => (if t288 = 0 then ((palanquinref08_in.f a1).bind fun t289 => (if t289 = true then ((palanquinref08_two.f k a0_0).bind fun t290 => ((palanquinref08_two.f k a0_1).bind fun t291 => (if t290.size + t291.size ≤ 9223372036854775807 then ((palanquinref08_two.f k (wrap64 (8 + (a0_2.size : Int)))).bind fun t292 => (if (t290 ++ t291).size + t292.size ≤ 9223372036854775807 then ((palanquinref08_two.f k a1).bind fun t293 => (if ((t290 ++ t291) ++ t292).size + t293.size ≤ 9223372036854775807 then (if (((t290 ++ t291) ++ t292) ++ t293).size + a0_2.size ≤ 9223372036854775807 then (some ((((t290 ++ t291) ++ t292) ++ t293) ++ a0_2, 0)) else (none)) else (none))) else (none))) else (none)))) else (some ((⟨#[]⟩ : ByteArray), 1)))) else (some ((⟨#[]⟩ : ByteArray), t288)))
def palanquinref08_Put.T6 : Bool × List (List Nat × List Nat) := (true, [([], []), ([0], [0]), ([1], [1]), ([], []), ([3], [3]), ([4, 2], [4]), ([2, 5], [2, 5]), ([], []), ([7], [7]), ([8], [8]), ([9], [9]), ([10, 5], [10]), ([6, 11], [6, 11]), ([], []), ([13, 11], [13]), ([12, 14], [12, 14]), ([], []), ([16], [16]), ([15, 17], [15, 17]), ([18, 14, 0, 1, 2, 3, 4, 5, 6, 7, 8, 9, 10, 11, 12, 13, 14, 15, 16, 17, 18], [18]), ([19, 0, 1, 2, 3, 4, 5, 6, 7, 8, 9, 10, 11, 12, 13, 14, 15, 16, 17, 18, 19], [])])
def palanquinref08_Put.B6 : List Nat := [0, 1, 3, 0, 8, 31, 63, 0, 128, 384, 896, 1983, 4095, 0, 12223, 32767, 0, 65536, 262143, 524287, 1048575]
theorem palanquinref08_Put.tab6 : rtab .any (opsOf Tryd.f49 6) = palanquinref08_Put.T6 := by kernel_rfl
theorem palanquinref08_Put.bits6 : waitsOk palanquinref08_Put.T6.2 palanquinref08_Put.B6 = true := by kernel_rfl
set_option maxHeartbeats 8000000 in
set_option maxRecDepth 100000 in
theorem palanquinref08_Put.calls (k : Nat) (a0_0 : Int) (a0_1 : Int) (a0_2 : ByteArray) (a1 : Int) (r1 : ByteArray) (r2 : Int) (w : World) (h : palanquinref08_Put.f k a0_0 a0_1 a0_2 a1 = some (r1, r2)) :
  Calls Tryd.prog 49 #[.agg #[.int .i64 a0_0, .int .i64 a0_1, .string a0_2], .int .i64 a1] w fun e w' => e = .returned (.tuple #[.string r1, .int .i64 r2]) ∧ Below w.heap.size w w' := by
 have hu81 := Tryd.underlying81
 have HB := mA (Below.refl w.heap.size w)
 have H : ((palanquinref08_Check.f k a0_0 a0_1 a0_2).bind fun t288 => (if t288 = 0 then ((palanquinref08_in.f a1).bind fun t289 => (if t289 = true then ((palanquinref08_two.f k a0_0).bind fun t290 => ((palanquinref08_two.f k a0_1).bind fun t291 => (if t290.size + t291.size ≤ 9223372036854775807 then ((palanquinref08_two.f k (wrap64 (8 + (a0_2.size : Int)))).bind fun t292 => (if (t290 ++ t291).size + t292.size ≤ 9223372036854775807 then ((palanquinref08_two.f k a1).bind fun t293 => (if ((t290 ++ t291) ++ t292).size + t293.size ≤ 9223372036854775807 then (if (((t290 ++ t291) ++ t292) ++ t293).size + a0_2.size ≤ 9223372036854775807 then (some ((((t290 ++ t291) ++ t292) ++ t293) ++ a0_2, 0)) else (none)) else (none))) else (none))) else (none)))) else (some ((⟨#[]⟩ : ByteArray), 1)))) else (some ((⟨#[]⟩ : ByteArray), t288)))) = some (r1, r2) := h
 clear h
 replace H := Option.bind_eq_some_iff.mp H
 obtain ⟨t288, A30, H⟩ := H
 try dsimp +instances only at H
 have A3 := mA A30
 clear A30
 by_cases c4 : t288 = 0
 ·rw [if_pos c4] at H
  have c4b0 : (t288 == 0) = true := beq_iff_eq.mpr c4
  have c4b1 : (t288 != 0) = false := bne_eq_false_iff_eq.mpr c4
  clear c4
  replace H := Option.bind_eq_some_iff.mp H
  obtain ⟨t289, A50, H⟩ := H
  try dsimp +instances only at H
  have A5 := mA A50
  clear A50
  by_cases c6 : t289 = true
  ·subst c6
   rw [if_pos rfl] at H
   replace H := Option.bind_eq_some_iff.mp H
   obtain ⟨t290, A70, H⟩ := H
   try dsimp +instances only at H
   have A7 := mA A70
   clear A70
   replace H := Option.bind_eq_some_iff.mp H
   obtain ⟨t291, A80, H⟩ := H
   try dsimp +instances only at H
   have A8 := mA A80
   clear A80
   by_cases c9 : t290.size + t291.size ≤ 9223372036854775807
   ·rw [if_pos c9] at H
    have c9b0 := eq_true c9
    have c9b1 : decide (t290.size + t291.size ≤ 9223372036854775807) = true := decide_eq_true c9
    try have c9b2 : (9223372036854775807 < t290.size + t291.size) = False := eq_false (Nat.not_lt.2 c9)
    replace H := Option.bind_eq_some_iff.mp H
    obtain ⟨t292, A100, H⟩ := H
    try dsimp +instances only at H
    have A10 := mA A100
    clear A100
    by_cases c11 : (t290 ++ t291).size + t292.size ≤ 9223372036854775807
    ·rw [if_pos c11] at H
     have c11b0 := eq_true c11
     have c11b1 : decide ((t290 ++ t291).size + t292.size ≤ 9223372036854775807) = true := decide_eq_true c11
     try have c11b2 : (9223372036854775807 < (t290 ++ t291).size + t292.size) = False := eq_false (Nat.not_lt.2 c11)
     try have c11b3 : (9223372036854775807 < (t290.size) + (t291.size) + t292.size) = False := eq_false (by have h_ := c11; simp only [ByteArray.size_append] at h_; omega)
     try have c11b4 : ((t290.size) + (t291.size) + t292.size ≤ 9223372036854775807) = True := eq_true (by have h_ := c11; simp only [ByteArray.size_append] at h_; omega)
     replace H := Option.bind_eq_some_iff.mp H
     obtain ⟨t293, A120, H⟩ := H
     try dsimp +instances only at H
     have A12 := mA A120
     clear A120
     by_cases c13 : ((t290 ++ t291) ++ t292).size + t293.size ≤ 9223372036854775807
     ·rw [if_pos c13] at H
      have c13b0 := eq_true c13
      have c13b1 : decide (((t290 ++ t291) ++ t292).size + t293.size ≤ 9223372036854775807) = true := decide_eq_true c13
      try have c13b2 : (9223372036854775807 < ((t290 ++ t291) ++ t292).size + t293.size) = False := eq_false (Nat.not_lt.2 c13)
      try have c13b3 : (9223372036854775807 < (t290.size) + (t291.size) + (t292.size) + t293.size) = False := eq_false (by have h_ := c13; simp only [ByteArray.size_append] at h_; omega)
      try have c13b4 : ((t290.size) + (t291.size) + (t292.size) + t293.size ≤ 9223372036854775807) = True := eq_true (by have h_ := c13; simp only [ByteArray.size_append] at h_; omega)
      by_cases c14 : (((t290 ++ t291) ++ t292) ++ t293).size + a0_2.size ≤ 9223372036854775807
      ·rw [if_pos c14] at H
       have c14b0 := eq_true c14
       have c14b1 : decide ((((t290 ++ t291) ++ t292) ++ t293).size + a0_2.size ≤ 9223372036854775807) = true := decide_eq_true c14
       try have c14b2 : (9223372036854775807 < (((t290 ++ t291) ++ t292) ++ t293).size + a0_2.size) = False := eq_false (Nat.not_lt.2 c14)
       try have c14b3 : (9223372036854775807 < (t290.size) + (t291.size) + (t292.size) + (t293.size) + a0_2.size) = False := eq_false (by have h_ := c14; simp only [ByteArray.size_append] at h_; omega)
       try have c14b4 : ((t290.size) + (t291.size) + (t292.size) + (t293.size) + a0_2.size ≤ 9223372036854775807) = True := eq_true (by have h_ := c14; simp only [ByteArray.size_append] at h_; omega)
       simp only [Option.some.injEq, Prod.mk.injEq] at H
       obtain ⟨rfl, rfl⟩ := H
       go_enter Tryd.func49, Tryd.ntmps49
       try go_wp2_with (first | ((with_reducible refine gate_dst (N := 2) rfl ?_); refine box_event ?hg (N := 2) ?hd (cs := #[.int .i64 a0_0, .int .i64 a0_1, .string a0_2]) (t := 81) ?hr ?_; (case hd => rfl); (case hg => rfl); (case hr => first | (go_simp; done) | (go_simp; rfl)); intro gb287 hg w15 hbox hb; obtain ⟨n0_, nq_⟩ := bpr (by repeat (first | (with_reducible first | exact HB.out | apply bA | apply bN | apply bD) | exact HB.out)) hb; have n1_ := mA (hbox); have n2_ := mA ((by rw [hg]; exact nq_ : w.heap.size ≤ gb287)); have n3_ := mA ((by rw [hg]; exact nq_ : w.heap.size ≤ gb287)); clear HB; have HB := n0_; have BK287 := n1_; have GW287 := n2_; have GE287 := n3_; clear nq_; clear n0_ n1_ n2_ n3_; clear hb hbox hg; obtain ⟨hcz16_0, hcz16_1, hcz16_2⟩ := bc3 BK287.out; obtain ⟨hfz16_0, hfz16_1, hfz16_2⟩ := bf3 BK287.out) | ((with_reducible refine gate_callee (f := 92) rfl ?_); refine goesL_ (some 8) rfl rfl Tryd.func92 (by kernel_rfl) rfl #[.agg #[.int .i64 a0_0, .int .i64 a0_1, .string a0_2]] rfl (by (try simp only [List.map_toArray, List.map_cons, List.map_nil]); first | done | rfl | (simp only [List.length_drop, List.length_take]; rfl)) ?_; (with_reducible refine (palanquinref08_Check.calls k a0_0 a0_1 a0_2 t288 _ A3.out).mono ?_); rintro e w17 ⟨rfl, hb⟩; refine ⟨_, rfl, ?_⟩; have n0_ := mA (blk_below (g := gb287) (o := .cells #[.int .i64 a0_0, .int .i64 a0_1, .string a0_2] 81 (0, 0)) (by (with_reducible repeat (first | apply kN | apply kD | apply kA)); exact BK287.out) hb); have n1_ := mA (bP (by repeat (first | (with_reducible first | exact HB.out | apply bA | apply bN | apply bD | refine bS ?_ GE287.out) | exact HB.out)) hb); clear BK287; clear HB; have BK287 := n0_; have HB := n1_; clear n0_ n1_; (try clear hb); (try clear hb2); (try clear hk); (try clear hi)) | ((with_reducible refine gate_callee (f := 93) rfl ?_); refine goesL_ (some 13) rfl rfl Tryd.func93 (by kernel_rfl) rfl #[.int .i64 a1] rfl (by (try simp only [List.map_toArray, List.map_cons, List.map_nil]); first | done | rfl | (simp only [List.length_drop, List.length_take]; rfl)) ?_; (with_reducible refine (palanquinref08_in.calls a1 true _ A5.out).mono ?_); rintro e w' ⟨rfl, ⟨nd, rfl⟩⟩; refine ⟨_, rfl, ?_⟩))
       (try (rw [drewN_self w17]; generalize hq_ : World.drewN w17 _ = w17; have n0_ : Aside0 (w17.heap[gb287]? = some (.cells #[.int .i64 a0_0, .int .i64 a0_1, .string a0_2] 81 (0, 0))) := ⟨by rw [← hq_]; exact (by (with_reducible repeat (first | apply kN | apply kD | apply kA)); exact BK287.out)⟩; have n1_ : Aside0 (Below w.heap.size w w17) := ⟨by rw [← hq_]; exact (by repeat (first | (with_reducible first | exact HB.out | apply bA | apply bN | apply bD | refine bS ?_ GE287.out) | exact HB.out))⟩; clear BK287 HB hq_; have BK287 := n0_; have HB := n1_; clear n0_ n1_))
       have n0_ := mA (kD BK287.out)
       have n1_ := mA (bD HB.out)
       clear BK287
       clear HB
       have BK287 := n0_
       have HB := n1_
       clear n0_ n1_
       refine start_ (n := 21) (S := fun w' => w'.cell? ⟨gb287, 0, none⟩ = some (.int .i64 a0_0) ∧ w'.cell? ⟨gb287, 1, none⟩ = some (.int .i64 a0_1) ∧ w'.cell? ⟨gb287, 2, none⟩ = some (.string a0_2)) (ds := []) (bv 21 0) (by kernel_rfl) rfl rfl ⟨(zC BK287.out 0).trans rfl, (zC BK287.out 1).trans rfl, (zC BK287.out 2).trans rfl⟩ (fun hHeld => ?_); refine with_tabW palanquinref08_Put.tab6 palanquinref08_Put.bits6 (fun HT_ HW_ => ?_)
       generalize w17.drew = w18 at BK287 HB hHeld ⊢
       refine pure_ (i := 0) (N := some 15) (v := ?_) (a' := ?_) (bv 21 1) rfl rfl (any_of HT_.out (by kernel_rfl)) (fun _ _ _ h => h) (Or.inl ⟨by rfl, ?_⟩) ?_ ?_; rotate_left; (intro w'; go_simp; with_reducible rfl); rotate_left; (simp only [Act.put, List.setIfInBounds_toArray, List.set_cons_zero, List.set_cons_succ, i64_w, i32_w]; rfl)
       refine pure_ (i := 3) (N := some 18) (v := ?_) (a' := ?_) (bv 21 9) rfl rfl (any_of HT_.out (by kernel_rfl)) (fun _ _ _ h => h) (Or.inl ⟨by rfl, ?_⟩) ?_ ?_; rotate_left; (intro w'; go_simp; with_reducible rfl); rotate_left; (simp only [Act.put, List.setIfInBounds_toArray, List.set_cons_zero, List.set_cons_succ, i64_w, i32_w]; rfl)
       refine pure_ (i := 7) (N := some 22) (v := ?_) (a' := ?_) (bv 21 137) rfl rfl (any_of HT_.out (by kernel_rfl)) (fun _ _ _ h => h) (Or.inl ⟨by rfl, ?_⟩) ?_ ?_; rotate_left; (intro w'; go_simp; with_reducible rfl); rotate_left; (simp only [Act.put, List.setIfInBounds_toArray, List.set_cons_zero, List.set_cons_succ, i64_w, i32_w]; rfl)
       refine pure_ (i := 13) (N := some 28) (v := ?_) (a' := ?_) (bv 21 8329) rfl rfl (any_of HT_.out (by kernel_rfl)) (fun _ _ _ h => h) (Or.inl ⟨by rfl, ?_⟩) ?_ ?_; rotate_left; (intro w'; go_simp; with_reducible rfl); rotate_left; (simp only [Act.put, List.setIfInBounds_toArray, List.set_cons_zero, List.set_cons_succ, i64_w, i32_w]; rfl)
       refine pure_ (i := 16) (N := some 31) (v := ?_) (a' := ?_) (bv 21 73865) rfl rfl (any_of HT_.out (by kernel_rfl)) (fun _ _ _ h => h) (Or.inl ⟨by rfl, ?_⟩) ?_ ?_; rotate_left; (intro w'; go_simp; with_reducible rfl); rotate_left; (simp only [Act.put, List.setIfInBounds_toArray, List.set_cons_zero, List.set_cons_succ, i64_w, i32_w]; rfl)
       refine take_ (i := 1) (N := some 16) (v := ?_) (a' := ?_) (bv 21 73867) rfl rfl (take_ofW HT_.out HW_.out (by kernel_rfl)) (fun _ _ _ h => h) (Or.inl ⟨by rfl, ?_⟩) hHeld ?_ ?_; rotate_left; (rintro w' ⟨s0, s1, s2⟩; go_simp; with_reducible rfl); rotate_left; (simp only [Act.put, List.setIfInBounds_toArray, List.set_cons_zero, List.set_cons_succ, i64_w, i32_w]; rfl)
       refine take_ (i := 4) (N := some 19) (v := ?_) (a' := ?_) (bv 21 73883) rfl rfl (take_ofW HT_.out HW_.out (by kernel_rfl)) (fun _ _ _ h => h) (Or.inl ⟨by rfl, ?_⟩) hHeld ?_ ?_; rotate_left; (rintro w' ⟨s0, s1, s2⟩; go_simp; with_reducible rfl); rotate_left; (simp only [Act.put, List.setIfInBounds_toArray, List.set_cons_zero, List.set_cons_succ, i64_w, i32_w]; rfl)
       refine take_ (i := 8) (N := some 23) (v := ?_) (a' := ?_) (bv 21 74139) rfl rfl (take_ofW HT_.out HW_.out (by kernel_rfl)) (fun _ _ _ h => h) (Or.inl ⟨by rfl, ?_⟩) hHeld ?_ ?_; rotate_left; (rintro w' ⟨s0, s1, s2⟩; go_simp; with_reducible rfl); rotate_left; (simp only [Act.put, List.setIfInBounds_toArray, List.set_cons_zero, List.set_cons_succ, i64_w, i32_w]; rfl)
       refine pure_ (i := 9) (N := some 24) (v := ?_) (a' := ?_) (bv 21 74651) rfl rfl (any_of HT_.out (by kernel_rfl)) (fun _ _ _ h => h) (Or.inl ⟨by rfl, ?_⟩) ?_ ?_; rotate_left; (intro w'; go_simp; with_reducible rfl); rotate_left; (simp only [Act.put, List.setIfInBounds_toArray, List.set_cons_zero, List.set_cons_succ, i64_w, i32_w]; rfl)
       refine pure_ (i := 10) (N := some 25) (v := ?_) (a' := ?_) (bv 21 75675) rfl rfl (any_of HT_.out (by kernel_rfl)) (fun _ _ _ h => h) (Or.inl ⟨by rfl, ?_⟩) ?_ ?_; rotate_left; (intro w'; go_simp; with_reducible rfl); rotate_left; (simp only [Act.put, List.setIfInBounds_toArray, List.set_cons_zero, List.set_cons_succ, i64_w, i32_w]; rfl)
       refine take_ (i := 17) (N := some 32) (v := ?_) (a' := ?_) (bv 21 206747) rfl rfl (take_ofW HT_.out HW_.out (by kernel_rfl)) (fun _ _ _ h => h) (Or.inl ⟨by rfl, ?_⟩) hHeld ?_ ?_; rotate_left; (rintro w' ⟨s0, s1, s2⟩; go_simp; with_reducible rfl); rotate_left; (simp only [Act.put, List.setIfInBounds_toArray, List.set_cons_zero, List.set_cons_succ, i64_w, i32_w]; rfl)
       refine one_ (i := 2) (N := some 17) (bv 21 206751) rfl rfl (one_of HT_.out (by kernel_rfl)) (by decide) (fun K hK => ?_)
       refine goes_ Tryd.func94 (by kernel_rfl) rfl #[.int .i64 a0_0] (by rfl) rfl rfl (by (try simp only [List.map_toArray, List.map_cons, List.map_nil]); first | done | rfl | (simp only [List.length_drop, List.length_take]; rfl)) ?_
       with_reducible refine (palanquinref08_two.calls k a0_0 t290 _ A7.out).mono ?_
       rintro e w19 ⟨rfl, hb⟩
       refine ⟨_, rfl, ?_⟩
       have n0_ := mA (blk_below (g := gb287) (o := .cells #[.int .i64 a0_0, .int .i64 a0_1, .string a0_2] 81 (0, 0)) (by (with_reducible repeat (first | apply kN | apply kD | apply kA)); exact BK287.out) hb)
       have n1_ := mA (bP (by repeat (first | (with_reducible first | exact HB.out | apply bA | apply bN | apply bD | refine bS ?_ GE287.out) | exact HB.out)) hb)
       clear BK287
       clear HB
       have BK287 := n0_
       have HB := n1_
       clear n0_ n1_
       (try clear hb)
       (try clear hb2)
       (try clear hk)
       (try clear hi)
       refine hK.out _ _ ⟨(zC BK287.out 0).trans rfl, (zC BK287.out 1).trans rfl, (zC BK287.out 2).trans rfl⟩ (fun hHeld => ?_)
       clear hK K
       refine norm_ (a' := ?_) ?_ ?_
       rotate_left
       ·show Act.put _ (some 17) _ = _
        simp only [Act.put, List.setIfInBounds_toArray, List.set_cons_zero, List.set_cons_succ, i64_w, i32_w]
        rfl
       refine one_ (i := 5) (N := some 20) (bv 21 206783) rfl rfl (one_of HT_.out (by kernel_rfl)) (by decide) (fun K hK => ?_)
       refine goes_ Tryd.func94 (by kernel_rfl) rfl #[.int .i64 a0_1] (by rfl) rfl rfl (by (try simp only [List.map_toArray, List.map_cons, List.map_nil]); first | done | rfl | (simp only [List.length_drop, List.length_take]; rfl)) ?_
       with_reducible refine (palanquinref08_two.calls k a0_1 t291 _ A8.out).mono ?_
       rintro e w20 ⟨rfl, hb⟩
       refine ⟨_, rfl, ?_⟩
       have n0_ := mA (blk_below (g := gb287) (o := .cells #[.int .i64 a0_0, .int .i64 a0_1, .string a0_2] 81 (0, 0)) (by (with_reducible repeat (first | apply kN | apply kD | apply kA)); exact BK287.out) hb)
       have n1_ := mA (bP (by repeat (first | (with_reducible first | exact HB.out | apply bA | apply bN | apply bD | refine bS ?_ GE287.out) | exact HB.out)) hb)
       clear BK287
       clear HB
       have BK287 := n0_
       have HB := n1_
       clear n0_ n1_
       (try clear hb)
       (try clear hb2)
       (try clear hk)
       (try clear hi)
       refine hK.out _ _ ⟨(zC BK287.out 0).trans rfl, (zC BK287.out 1).trans rfl, (zC BK287.out 2).trans rfl⟩ (fun hHeld => ?_)
       clear hK K
       refine norm_ (a' := ?_) ?_ ?_
       rotate_left
       ·show Act.put _ (some 20) _ = _
        simp only [Act.put, List.setIfInBounds_toArray, List.set_cons_zero, List.set_cons_succ, i64_w, i32_w]
        rfl
       refine pure_ (i := 6) (N := some 21) (v := ?_) (a' := ?_) (bv 21 206847) rfl rfl (any_of HT_.out (by kernel_rfl)) (fun _ _ _ h => h) (Or.inl ⟨by rfl, ?_⟩) ?_ ?_; rotate_left; (intro w'; go_simp; with_reducible rfl); rotate_left; (simp only [Act.put, List.setIfInBounds_toArray, List.set_cons_zero, List.set_cons_succ, i64_w, i32_w]; rfl)
       refine one_ (i := 11) (N := some 26) (bv 21 208895) rfl rfl (one_of HT_.out (by kernel_rfl)) (by decide) (fun K hK => ?_)
       refine goes_ Tryd.func94 (by kernel_rfl) rfl #[.int .i64 (wrap64 (8 + (a0_2.size : Int)))] (by rfl) rfl rfl (by (try simp only [List.map_toArray, List.map_cons, List.map_nil]); first | done | rfl | (simp only [List.length_drop, List.length_take]; rfl)) ?_
       with_reducible refine (palanquinref08_two.calls k (wrap64 (8 + (a0_2.size : Int))) t292 _ A10.out).mono ?_
       rintro e w21 ⟨rfl, hb⟩
       refine ⟨_, rfl, ?_⟩
       have n0_ := mA (blk_below (g := gb287) (o := .cells #[.int .i64 a0_0, .int .i64 a0_1, .string a0_2] 81 (0, 0)) (by (with_reducible repeat (first | apply kN | apply kD | apply kA)); exact BK287.out) hb)
       have n1_ := mA (bP (by repeat (first | (with_reducible first | exact HB.out | apply bA | apply bN | apply bD | refine bS ?_ GE287.out) | exact HB.out)) hb)
       clear BK287
       clear HB
       have BK287 := n0_
       have HB := n1_
       clear n0_ n1_
       (try clear hb)
       (try clear hb2)
       (try clear hk)
       (try clear hi)
       refine hK.out _ _ ⟨(zC BK287.out 0).trans rfl, (zC BK287.out 1).trans rfl, (zC BK287.out 2).trans rfl⟩ (fun hHeld => ?_)
       clear hK K
       refine norm_ (a' := ?_) ?_ ?_
       rotate_left
       ·show Act.put _ (some 26) _ = _
        simp only [Act.put, List.setIfInBounds_toArray, List.set_cons_zero, List.set_cons_succ, i64_w, i32_w]
        rfl
       refine pure_ (i := 12) (N := some 27) (v := ?_) (a' := ?_) (bv 21 212991) rfl rfl (any_of HT_.out (by kernel_rfl)) (fun _ _ _ h => h) (Or.inl ⟨by rfl, ?_⟩) ?_ ?_; rotate_left; (intro w'; go_simp; with_reducible rfl); rotate_left; (simp only [Act.put, List.setIfInBounds_toArray, List.set_cons_zero, List.set_cons_succ, i64_w, i32_w]; rfl)
       refine one_ (i := 14) (N := some 29) (bv 21 229375) rfl rfl (one_of HT_.out (by kernel_rfl)) (by decide) (fun K hK => ?_)
       refine goes_ Tryd.func94 (by kernel_rfl) rfl #[.int .i64 a1] (by rfl) rfl rfl (by (try simp only [List.map_toArray, List.map_cons, List.map_nil]); first | done | rfl | (simp only [List.length_drop, List.length_take]; rfl)) ?_
       with_reducible refine (palanquinref08_two.calls k a1 t293 _ A12.out).mono ?_
       rintro e w22 ⟨rfl, hb⟩
       refine ⟨_, rfl, ?_⟩
       have n0_ := mA (blk_below (g := gb287) (o := .cells #[.int .i64 a0_0, .int .i64 a0_1, .string a0_2] 81 (0, 0)) (by (with_reducible repeat (first | apply kN | apply kD | apply kA)); exact BK287.out) hb)
       have n1_ := mA (bP (by repeat (first | (with_reducible first | exact HB.out | apply bA | apply bN | apply bD | refine bS ?_ GE287.out) | exact HB.out)) hb)
       clear BK287
       clear HB
       have BK287 := n0_
       have HB := n1_
       clear n0_ n1_
       (try clear hb)
       (try clear hb2)
       (try clear hk)
       (try clear hi)
       refine hK.out _ _ ⟨(zC BK287.out 0).trans rfl, (zC BK287.out 1).trans rfl, (zC BK287.out 2).trans rfl⟩ (fun hHeld => ?_)
       clear hK K
       refine norm_ (a' := ?_) ?_ ?_
       rotate_left
       ·show Act.put _ (some 29) _ = _
        simp only [Act.put, List.setIfInBounds_toArray, List.set_cons_zero, List.set_cons_succ, i64_w, i32_w]
        rfl
       refine pure_ (i := 15) (N := some 30) (v := ?_) (a' := ?_) (bv 21 262143) rfl rfl (any_of HT_.out (by kernel_rfl)) (fun _ _ _ h => h) (Or.inl ⟨by rfl, ?_⟩) ?_ ?_; rotate_left; (intro w'; go_simp; with_reducible rfl); rotate_left; (simp only [Act.put, List.setIfInBounds_toArray, List.set_cons_zero, List.set_cons_succ, i64_w, i32_w]; rfl)
       refine pure_ (i := 18) (N := some 33) (v := ?_) (a' := ?_) (bv 21 524287) rfl rfl (any_of HT_.out (by kernel_rfl)) (fun _ _ _ h => h) (Or.inl ⟨by rfl, ?_⟩) ?_ ?_; rotate_left; (intro w'; go_simp; with_reducible rfl); rotate_left; (simp only [Act.put, List.setIfInBounds_toArray, List.set_cons_zero, List.set_cons_succ, i64_w, i32_w]; rfl)
       refine pure_ (i := 19) (N := some 4) (v := ?_) (a' := ?_) (bv 21 1048575) rfl rfl (any_of HT_.out (by kernel_rfl)) (fun _ _ _ h => h) (Or.inl ⟨by rfl, ?_⟩) ?_ ?_; rotate_left; (intro w'; go_simp; with_reducible rfl); rotate_left; (simp only [Act.put, List.setIfInBounds_toArray, List.set_cons_zero, List.set_cons_succ, i64_w, i32_w]; rfl)
       refine pure_ (i := 20) (N := some 5) (v := ?_) (a' := ?_) (bv 21 2097151) rfl rfl (any_of HT_.out (by kernel_rfl)) (fun _ _ _ h => h) (Or.inl ⟨by rfl, ?_⟩) ?_ ?_; rotate_left; (intro w'; go_simp; with_reducible rfl); rotate_left; (simp only [Act.put, List.setIfInBounds_toArray, List.set_cons_zero, List.set_cons_succ, i64_w, i32_w]; rfl)
       refine done_ (done_of HT_.out (by kernel_rfl)) ?_
       try go_wp2
       go_ret2
       exact ⟨by first | rfl | (simp [errW_none, errW_some] <;> rfl) | (simp [*, errW_none, errW_some] <;> rfl), by repeat (first | (with_reducible first | exact HB.out | apply bA | apply bN | apply bD | refine bS ?_ GE287.out) | exact HB.out)⟩
      ·rw [if_neg c14] at H
       exact absurd H (by simp)
     ·rw [if_neg c13] at H
      exact absurd H (by simp)
    ·rw [if_neg c11] at H
     exact absurd H (by simp)
   ·rw [if_neg c9] at H
    exact absurd H (by simp)
  ·replace c6 := Bool.eq_false_iff.mpr c6
   subst c6
   rw [if_neg (show ¬ (false = true) by decide)] at H
   simp only [Option.some.injEq, Prod.mk.injEq] at H
   obtain ⟨rfl, rfl⟩ := H
   go_enter Tryd.func49, Tryd.ntmps49
   go_wp2_with (first | ((with_reducible refine gate_dst (N := 2) rfl ?_); refine box_event ?hg (N := 2) ?hd (cs := #[.int .i64 a0_0, .int .i64 a0_1, .string a0_2]) (t := 81) ?hr ?_; (case hd => rfl); (case hg => rfl); (case hr => first | (go_simp; done) | (go_simp; rfl)); intro gb287 hg w23 hbox hb; obtain ⟨n0_, nq_⟩ := bpr (by repeat (first | (with_reducible first | exact HB.out | apply bA | apply bN | apply bD) | exact HB.out)) hb; have n1_ := mA (hbox); have n2_ := mA ((by rw [hg]; exact nq_ : w.heap.size ≤ gb287)); have n3_ := mA ((by rw [hg]; exact nq_ : w.heap.size ≤ gb287)); clear HB; have HB := n0_; have BK287 := n1_; have GW287 := n2_; have GE287 := n3_; clear nq_; clear n0_ n1_ n2_ n3_; clear hb hbox hg; obtain ⟨hcz24_0, hcz24_1, hcz24_2⟩ := bc3 BK287.out; obtain ⟨hfz24_0, hfz24_1, hfz24_2⟩ := bf3 BK287.out) | ((with_reducible refine gate_callee (f := 92) rfl ?_); refine goesL_ (some 8) rfl rfl Tryd.func92 (by kernel_rfl) rfl #[.agg #[.int .i64 a0_0, .int .i64 a0_1, .string a0_2]] rfl (by (try simp only [List.map_toArray, List.map_cons, List.map_nil]); first | done | rfl | (simp only [List.length_drop, List.length_take]; rfl)) ?_; (with_reducible refine (palanquinref08_Check.calls k a0_0 a0_1 a0_2 t288 _ A3.out).mono ?_); rintro e w25 ⟨rfl, hb⟩; refine ⟨_, rfl, ?_⟩; have n0_ := mA (blk_below (g := gb287) (o := .cells #[.int .i64 a0_0, .int .i64 a0_1, .string a0_2] 81 (0, 0)) (by (with_reducible repeat (first | apply kN | apply kD | apply kA)); exact BK287.out) hb); have n1_ := mA (bP (by repeat (first | (with_reducible first | exact HB.out | apply bA | apply bN | apply bD | refine bS ?_ GE287.out) | exact HB.out)) hb); clear BK287; clear HB; have BK287 := n0_; have HB := n1_; clear n0_ n1_; (try clear hb); (try clear hb2); (try clear hk); (try clear hi)) | ((with_reducible refine gate_callee (f := 93) rfl ?_); refine goesL_ (some 13) rfl rfl Tryd.func93 (by kernel_rfl) rfl #[.int .i64 a1] rfl (by (try simp only [List.map_toArray, List.map_cons, List.map_nil]); first | done | rfl | (simp only [List.length_drop, List.length_take]; rfl)) ?_; (with_reducible refine (palanquinref08_in.calls a1 false _ A5.out).mono ?_); rintro e w' ⟨rfl, ⟨nd, rfl⟩⟩; refine ⟨_, rfl, ?_⟩))
   go_ret2
   exact ⟨by first | rfl | (simp [errW_none, errW_some] <;> rfl) | (simp [*, errW_none, errW_some] <;> rfl), by repeat (first | (with_reducible first | exact HB.out | apply bA | apply bN | apply bD | refine bS ?_ GE287.out) | exact HB.out)⟩
 ·rw [if_neg c4] at H
  have c4b0 : (t288 == 0) = false := beq_eq_false_iff_ne.mpr c4
  have c4b1 : (t288 != 0) = true := bne_iff_ne.mpr c4
  simp only [Option.some.injEq, Prod.mk.injEq] at H
  obtain ⟨rfl, rfl⟩ := H
  go_enter Tryd.func49, Tryd.ntmps49
  go_wp2_with (first | ((with_reducible refine gate_dst (N := 2) rfl ?_); refine box_event ?hg (N := 2) ?hd (cs := #[.int .i64 a0_0, .int .i64 a0_1, .string a0_2]) (t := 81) ?hr ?_; (case hd => rfl); (case hg => rfl); (case hr => first | (go_simp; done) | (go_simp; rfl)); intro gb287 hg w26 hbox hb; obtain ⟨n0_, nq_⟩ := bpr (by repeat (first | (with_reducible first | exact HB.out | apply bA | apply bN | apply bD) | exact HB.out)) hb; have n1_ := mA (hbox); have n2_ := mA ((by rw [hg]; exact nq_ : w.heap.size ≤ gb287)); have n3_ := mA ((by rw [hg]; exact nq_ : w.heap.size ≤ gb287)); clear HB; have HB := n0_; have BK287 := n1_; have GW287 := n2_; have GE287 := n3_; clear nq_; clear n0_ n1_ n2_ n3_; clear hb hbox hg; obtain ⟨hcz27_0, hcz27_1, hcz27_2⟩ := bc3 BK287.out; obtain ⟨hfz27_0, hfz27_1, hfz27_2⟩ := bf3 BK287.out) | ((with_reducible refine gate_callee (f := 92) rfl ?_); refine goesL_ (some 8) rfl rfl Tryd.func92 (by kernel_rfl) rfl #[.agg #[.int .i64 a0_0, .int .i64 a0_1, .string a0_2]] rfl (by (try simp only [List.map_toArray, List.map_cons, List.map_nil]); first | done | rfl | (simp only [List.length_drop, List.length_take]; rfl)) ?_; (with_reducible refine (palanquinref08_Check.calls k a0_0 a0_1 a0_2 t288 _ A3.out).mono ?_); rintro e w28 ⟨rfl, hb⟩; refine ⟨_, rfl, ?_⟩; have n0_ := mA (blk_below (g := gb287) (o := .cells #[.int .i64 a0_0, .int .i64 a0_1, .string a0_2] 81 (0, 0)) (by (with_reducible repeat (first | apply kN | apply kD | apply kA)); exact BK287.out) hb); have n1_ := mA (bP (by repeat (first | (with_reducible first | exact HB.out | apply bA | apply bN | apply bD | refine bS ?_ GE287.out) | exact HB.out)) hb); clear BK287; clear HB; have BK287 := n0_; have HB := n1_; clear n0_ n1_; (try clear hb); (try clear hb2); (try clear hk); (try clear hi)))
  go_ret2
  exact ⟨by first | rfl | (simp [errW_none, errW_some] <;> rfl) | (simp [*, errW_none, errW_some] <;> rfl), by repeat (first | (with_reducible first | exact HB.out | apply bA | apply bN | apply bD | refine bS ?_ GE287.out) | exact HB.out)⟩

end Go.Proofs.YtcmalglippmocaaDoor.G
end

section
namespace Go.Proofs.YtcmalglippmocaaDoor.Pal
open Go.RowKit
def Blk (w : World) (b : Nat) (T : TypeId) (cs : Array Value) : Prop := w.heap[b]? = some (.cells cs T (0, 0))
theorem Blk.cell {w : World} {b : Nat} {T : TypeId} {cs : Array Value} (h : Blk w b T cs) (j : Nat) (v : Value) (hv : cs[j]? = some v) : w.cell? ⟨b, j, none⟩ = some v := by
  unfold Blk at h
  simp [World.cell?, h, hv]
theorem Blk.free {w : World} {b : Nat} {T : TypeId} {cs : Array Value} (h : Blk w b T cs) (j : Nat) : w.frozen? ⟨b, j, none⟩ = false := by
  unfold Blk at h
  simp [World.frozen?, h]
theorem Blk.lt {w : World} {b : Nat} {T : TypeId} {cs : Array Value} (h : Blk w b T cs) : b < w.heap.size := lt_of_block h
theorem Blk.set {w : World} {b : Nat} {T : TypeId} {cs : Array Value} (h : Blk w b T cs) (j : Nat) (v : Value) : Blk (w.setCell ⟨b, j, none⟩ v) b T (cs.setIfInBounds j v) := by
  have hlt := h.lt
  unfold Blk at h ⊢
  have h' : w.heap[b] = .cells cs T (0, 0) := by simpa [Array.getElem?_eq_getElem hlt] using h
  show (w.heap.modify b _)[b]? = _
  rw [Array.getElem?_eq_getElem (by simpa using hlt), Array.getElem_modify_self, h']
  rfl
theorem Blk.other {w : World} {b : Nat} {T : TypeId} {cs : Array Value} (h : Blk w b T cs) (p : Addr) (hp : b ≠ p.block) (v : Value) : Blk (w.setCell p v) b T cs := by
  unfold Blk at h ⊢
  rw [Below.heap_setCell _ _ _ _ hp]; exact h
theorem Blk.alloc {w : World} {b : Nat} {T : TypeId} {cs : Array Value} (h : Blk w b T cs) (o : Obj) : Blk (w.alloc o) b T cs := by
  have hlt := h.lt
  unfold Blk at h ⊢
  rw [Below.heap_alloc _ _ _ hlt]; exact h
theorem Blk.drew {w : World} {b : Nat} {T : TypeId} {cs : Array Value} (h : Blk w b T cs) : Blk w.drew b T cs := h
theorem Blk.drewN {w : World} {b : Nat} {T : TypeId} {cs : Array Value} (h : Blk w b T cs) (n : Nat) : Blk (w.drewN n) b T cs := h
theorem Blk.new (w : World) (T : TypeId) (cs : Array Value) : Blk (w.alloc (.cells cs T)) w.heap.size T cs := heap_alloc_new w _
theorem Blk.grown {w w' : World} {b : Nat} {T : TypeId} {cs : Array Value} (h : Blk w b T cs) {R : Nat} (hg : w.grownBy w' (some R)) (hb : b ≠ R) : Blk w' b T cs := by
  have hlt := h.lt
  unfold Blk at h ⊢
  rw [hg.block b hlt (by simpa using hb)]; exact h
theorem Blk.below {w w' : World} {b : Nat} {T : TypeId} {cs : Array Value} (h : Blk w b T cs) {B : Nat} (hg : Below B w w') (hb : b < B) : Blk w' b T cs := by
  unfold Blk at h ⊢
  rw [hg.block b hb]; exact h
theorem below_of_grown {w w' : World} {R B : Nat} (hg : w.grownBy w' (some R)) (hB : B ≤ w.heap.size) (hR : B ≤ R) : Below B w w' :=
  ⟨hg.os, hg.tape, hg.output, hg.size, fun k hk => hg.block k (by omega) (by simp; omega)⟩
theorem grown_setCell (w : World) (b j : Nat) (v : Value) : w.grownBy (w.setCell ⟨b, j, none⟩ v) (some b) :=
  ⟨rfl, rfl, rfl, by simp [World.setCell], fun k _ hk => Below.heap_setCell _ _ _ _ (by simpa using hk)⟩
theorem grown_refl (w : World) (r : Option Nat) : w.grownBy w r := ⟨rfl, rfl, rfl, Nat.le_refl _, fun _ _ _ => rfl⟩
theorem grown_alloc {a w : World} {r : Option Nat} (h : a.grownBy w r) (o : Obj) : a.grownBy (w.alloc o) r := World.grownBy.trans h (World.grownBy_alloc w o r)
theorem grown_drewN {a w : World} {r : Option Nat} (h : a.grownBy w r) (n : Nat) : a.grownBy (w.drewN n) r := ⟨h.os, h.tape, h.output, h.size, h.block⟩
theorem grown_of_below' {a w w' : World} {r : Option Nat} (h : a.grownBy w r) (k : Below w.heap.size w w') : a.grownBy w' r := World.grownBy.trans h ⟨k.os, k.tape, k.output, k.size, fun i hi _ => k.block i hi⟩
theorem Blk.cells {w : World} {b : Nat} {T : TypeId} {cs : Array Value} (h : Blk w b T cs) : ∀ j, w.cell? ⟨b, j, none⟩ = cs[j]? := fun j => by
  unfold Blk at h
  simp [World.cell?, h]
theorem Blk.frees {w : World} {b : Nat} {T : TypeId} {cs : Array Value} (h : Blk w b T cs) : ∀ j, w.frozen? ⟨b, j, none⟩ = false := fun j => h.free j
def Hp (w : World) (bs : List (Nat × TypeId × Array Value)) : Prop := ∀ x ∈ bs, Blk w x.1 x.2.1 x.2.2
theorem Hp.nil (w : World) : Hp w [] := fun _ h => nomatch h
theorem Hp.cons {w : World} {b : Nat} {T : TypeId} {cs : Array Value} {bs : List (Nat × TypeId × Array Value)} (h : Blk w b T cs) (k : Hp w bs) : Hp w ((b, T, cs) :: bs) := fun x hx => by
  rcases List.mem_cons.1 hx with rfl | hx
  · exact h
  · exact k x hx
theorem Hp.head {w : World} {b : Nat} {T : TypeId} {cs : Array Value} {bs : List (Nat × TypeId × Array Value)} (h : Hp w ((b, T, cs) :: bs)) : Blk w b T cs := h _ List.mem_cons_self
theorem Hp.tail {w : World} {x : Nat × TypeId × Array Value} {bs : List (Nat × TypeId × Array Value)} (h : Hp w (x :: bs)) : Hp w bs := fun y hy => h y (List.mem_cons_of_mem _ hy)
theorem Hp.grown {w w' : World} {bs : List (Nat × TypeId × Array Value)} (h : Hp w bs) {R : Nat} (hg : w.grownBy w' (some R)) (hR : ∀ x ∈ bs, x.1 ≠ R) : Hp w' bs := fun x hx => (h x hx).grown hg (hR x hx)
theorem Hp.below {w w' : World} {bs : List (Nat × TypeId × Array Value)} (h : Hp w bs) {B : Nat} (hg : Below B w w') (hB : ∀ x ∈ bs, x.1 < B) : Hp w' bs := fun x hx => (h x hx).below hg (hB x hx)
theorem Hp.alloc {w : World} {bs : List (Nat × TypeId × Array Value)} (h : Hp w bs) (o : Obj) : Hp (w.alloc o) bs := fun x hx => (h x hx).alloc o
theorem Hp.drew {w : World} {bs : List (Nat × TypeId × Array Value)} (h : Hp w bs) : Hp w.drew bs := h
theorem Hp.drewN {w : World} {bs : List (Nat × TypeId × Array Value)} (h : Hp w bs) (n : Nat) : Hp (w.drewN n) bs := h
theorem Hp.other {w : World} {bs : List (Nat × TypeId × Array Value)} (h : Hp w bs) (p : Addr) (hp : ∀ x ∈ bs, x.1 ≠ p.block) (v : Value) : Hp (w.setCell p v) bs := fun x hx => (h x hx).other p (hp x hx) v
theorem Hp.set {w : World} {b : Nat} {T : TypeId} {cs : Array Value} {l1 l2 : List (Nat × TypeId × Array Value)} (h : Hp w (l1 ++ (b, T, cs) :: l2)) (j : Nat) (v : Value) (h1 : ∀ x ∈ l1, x.1 ≠ b) (h2 : ∀ x ∈ l2, x.1 ≠ b) :
    Hp (w.setCell ⟨b, j, none⟩ v) (l1 ++ (b, T, cs.setIfInBounds j v) :: l2) := fun x hx => by
  rcases List.mem_append.1 hx with hx | hx
  · exact (h x (List.mem_append.2 (.inl hx))).other _ (h1 x hx) v
  · rcases List.mem_cons.1 hx with rfl | hx
    · exact (h (b, T, cs) (List.mem_append.2 (.inr List.mem_cons_self))).set j v
    · exact (h x (List.mem_append.2 (.inr (List.mem_cons_of_mem _ hx)))).other _ (h2 x hx) v
theorem C_cells {w : World} {b : Nat} (xs : List ByteArray) (hn : xs.length ≤ 9223372036854775807) (h : ∀ j p, xs[j]? = some p → w.cell? ⟨b, j, none⟩ = some (.string p)) : Go.Proofs.YtcmalglippmocaaDoorW.PrintWords.Kd.C Go.Proofs.YtcmalglippmocaaDoorW.PrintWords.Kd.string w (some ⟨b, 0, none⟩) xs.length xs :=
  ⟨rfl, hn, fun _ => ⟨⟨b, 0, none⟩, rfl, fun j p hp => ⟨[.string p], rfl, rfl, fun i u hi => by
    match i, hi with
    | 0, hi =>
      obtain rfl := Option.some.inj hi
      have e : Addr.add ⟨b, 0, none⟩ (j * 1 + 0) = ⟨b, j, none⟩ := by rw [Nat.mul_one, Nat.add_zero]; cases j <;> simp [Addr.add]
      exact (congrArg w.cell? e).trans (h j p hp)
    | i + 1, hi => simp at hi⟩⟩⟩
theorem C_one (w : World) (T : TypeId) (x : ByteArray) : Go.Proofs.YtcmalglippmocaaDoorW.PrintWords.Kd.C Go.Proofs.YtcmalglippmocaaDoorW.PrintWords.Kd.string (w.alloc (.cells #[.string x] T)) (some ⟨w.heap.size, 0, none⟩) 1 [x] :=
  C_cells [x] (by simp) fun j p hp => by
    match j, hp with
    | 0, hp => obtain rfl := Option.some.inj hp; exact (Blk.new w T #[.string x]).cell 0 _ rfl
    | j + 1, hp => simp at hp
theorem C_two (w : World) (T : TypeId) (x y : ByteArray) : Go.Proofs.YtcmalglippmocaaDoorW.PrintWords.Kd.C Go.Proofs.YtcmalglippmocaaDoorW.PrintWords.Kd.string (w.alloc (.cells #[.string x, .string y] T)) (some ⟨w.heap.size, 0, none⟩) 2 [x, y] :=
  C_cells [x, y] (by simp) fun j p hp => by
    match j, hp with
    | 0, hp => obtain rfl := Option.some.inj hp; exact (Blk.new w T #[.string x, .string y]).cell 0 _ rfl
    | 1, hp => obtain rfl := Option.some.inj hp; exact (Blk.new w T #[.string x, .string y]).cell 1 _ rfl
    | j + 2, hp => simp at hp
end Go.Proofs.YtcmalglippmocaaDoor.Pal
end

section
namespace Go.Proofs.YtcmalglippmocaaDoor.Pal
theorem wraps_i64 (n : Int) (h₀ : 0 ≤ n) (h₁ : n < 2 ^ 63) : IntKind.i64.wrap n = n := by rw [IntKind.wrap_i64]; omega
theorem wraps_u64 (n : Int) (h₀ : 0 ≤ n) (h₁ : n < 2 ^ 64) : IntKind.u64.wrap n = n := by rw [IntKind.wrap_u64]; omega
theorem wraps_u32 (n : Int) (h₀ : 0 ≤ n) (h₁ : n < 2 ^ 32) : IntKind.u32.wrap n = n := by rw [IntKind.wrap_u32]; omega
theorem i64_and (a b : Nat) (ha : a < 2 ^ 63) (hb : b < 2 ^ 63) : Go.bits .and .i64 (a : Int) (b : Int) = ((a &&& b : Nat) : Int) := (bits_nat .i64 63 (by decide) wraps_i64 a b ha hb).1
theorem i64_or (a b : Nat) (ha : a < 2 ^ 63) (hb : b < 2 ^ 63) : Go.bits .or .i64 (a : Int) (b : Int) = ((a ||| b : Nat) : Int) := (bits_nat .i64 63 (by decide) wraps_i64 a b ha hb).2
theorem i64_xor (a b : Nat) (ha : a < 2 ^ 63) (hb : b < 2 ^ 63) : Go.bits .xor .i64 (a : Int) (b : Int) = ((a ^^^ b : Nat) : Int) := by
  have ha' : a % 2 ^ IntKind.i64.bits = a := Nat.mod_eq_of_lt (Nat.lt_of_lt_of_le ha (by decide))
  have hb' : b % 2 ^ IntKind.i64.bits = b := Nat.mod_eq_of_lt (Nat.lt_of_lt_of_le hb (by decide))
  have hx := Nat.xor_lt_two_pow ha hb
  simp only [Go.bits, BitVec.ofInt_natCast, BitVec.toNat_xor, BitVec.toNat_ofNat, ha', hb']
  exact wraps_i64 _ (Int.natCast_nonneg _) (by exact_mod_cast hx)
theorem u64_and' (a b : Nat) (ha : a < 2 ^ 64) (hb : b < 2 ^ 64) : Go.bits .and .u64 (a : Int) (b : Int) = ((a &&& b : Nat) : Int) := (bits_nat .u64 64 (by decide) wraps_u64 a b ha hb).1
theorem xor_ones (n : Nat) (h : n < 65536) : n ^^^ 65535 = 65535 - n := by
  have e := BitVec.toNat_not (x := BitVec.ofNat 16 n)
  rw [← BitVec.xor_allOnes, BitVec.toNat_xor, BitVec.toNat_ofNat, BitVec.toNat_allOnes] at e
  rw [Nat.mod_eq_of_lt (show n < 2 ^ 16 from h)] at e
  have h2 : (2 : Nat) ^ 16 - 1 = 65535 := by decide
  rw [h2] at e
  rw [e]
theorem i64_xor_ones (n : Nat) (h : n < 65536) : Go.bits .xor .i64 (n : Int) 65535 = ((65535 - n : Nat) : Int) := by
  have e := i64_xor n 65535 (by omega) (by decide)
  rw [xor_ones n h] at e
  exact e
end Go.Proofs.YtcmalglippmocaaDoor.Pal
end

section
namespace Go.Proofs.YtcmalglippmocaaDoor.Pal
def bl (s : ByteArray) : List UInt8 := s.data.toList
def tot : Bool → List UInt8 → Nat
  | _, [] => 0
  | false, b :: r => b.toNat * 256 + tot true r
  | true, b :: r => b.toNat + tot false r
def fold16 (n : Nat) : Nat := if n = 0 then 0 else (n - 1) % 65535 + 1
def csum (l : List UInt8) : Nat := 65535 - fold16 (tot false l)
def odd (l : List UInt8) : Bool := l.length % 2 == 1
theorem bl_length (s : ByteArray) : (bl s).length = s.size := by simp [bl]
theorem bl_append (a b : ByteArray) : bl (a ++ b) = bl a ++ bl b := by simp [bl]
theorem fold16_le (n : Nat) : fold16 n ≤ 65535 := by unfold fold16; split <;> omega
theorem fold16_id (n : Nat) (h : n ≤ 65535) : fold16 n = n := by unfold fold16; split <;> omega
theorem fold16_step (n : Nat) : fold16 (n % 65536 + n / 65536) = fold16 n := by unfold fold16; split <;> split <;> omega
theorem tot_append (a b : List UInt8) : ∀ o, tot o (a ++ b) = tot o a + tot (o != odd a) b := by
  induction a with
  | nil => intro o; cases o <;> simp [tot, odd]
  | cons x a ih =>
    intro o
    have hp : odd (x :: a) = !odd a := by
      unfold odd
      rw [List.length_cons]
      rcases Nat.mod_two_eq_zero_or_one a.length with h | h
      · have : (a.length + 1) % 2 = 1 := by omega
        rw [h, this]; rfl
      · have : (a.length + 1) % 2 = 0 := by omega
        rw [h, this]; rfl
    cases o
    · simp only [List.cons_append, tot, ih, hp]; cases odd a <;> simp <;> omega
    · simp only [List.cons_append, tot, ih, hp]; cases odd a <;> simp <;> omega
theorem tot_snoc (a : List UInt8) (x : UInt8) : tot false (a ++ [x]) = tot false a + (if odd a then x.toNat else x.toNat * 256) := by
  rw [tot_append]; cases odd a <;> simp [tot]
theorem odd_snoc (a : List UInt8) (x : UInt8) : odd (a ++ [x]) = !odd a := by
  unfold odd
  rw [List.length_append, List.length_singleton]
  rcases Nat.mod_two_eq_zero_or_one a.length with h | h
  · have : (a.length + 1) % 2 = 1 := by omega
    rw [h, this]; rfl
  · have : (a.length + 1) % 2 = 0 := by omega
    rw [h, this]; rfl
theorem tot_le (a : List UInt8) : ∀ o, tot o a ≤ 65280 * a.length := by
  induction a with
  | nil => intro o; cases o <;> simp [tot]
  | cons x a ih =>
    intro o
    have hx := x.toNat_lt
    have h1 := ih true
    have h2 := ih false
    cases o <;> simp only [tot, List.length_cons] <;> omega
def cat (l : List ByteArray) : List UInt8 := (l.map bl).flatten
theorem cat_nil : cat [] = [] := rfl
theorem cat_cons (s : ByteArray) (l : List ByteArray) : cat (s :: l) = bl s ++ cat l := rfl
end Go.Proofs.YtcmalglippmocaaDoor.Pal
end

section
namespace Go.Proofs.YtcmalglippmocaaDoor.Pal
def be (l : List UInt8) : Nat := l.foldl (fun a b => a * 256 + b.toNat) 0
theorem be_snoc (l : List UInt8) (b : UInt8) : be (l ++ [b]) = be l * 256 + b.toNat := by simp [be]
theorem be_foldl (l : List UInt8) : ∀ a, l.foldl (fun a b => a * 256 + b.toNat) a = a * 256 ^ l.length + be l := by
  induction l with
  | nil => intro a; simp [be]
  | cons x l ih =>
    intro a
    rw [List.foldl_cons, ih]
    have e : be (x :: l) = x.toNat * 256 ^ l.length + be l := by
      unfold be
      rw [List.foldl_cons, ih]
      simp [be]
    rw [e, List.length_cons, Nat.pow_succ, Nat.add_mul, Nat.mul_assoc, Nat.mul_comm 256, Nat.add_assoc]
theorem be_cons (x : UInt8) (l : List UInt8) : be (x :: l) = x.toNat * 256 ^ l.length + be l := by
  unfold be
  rw [List.foldl_cons, be_foldl]
  simp [be]
theorem be_lt (l : List UInt8) : be l < 256 ^ l.length := by
  induction l with
  | nil => simp [be]
  | cons x l ih =>
    rw [be_cons, List.length_cons, Nat.pow_succ]
    have hx := x.toNat_lt
    have : x.toNat * 256 ^ l.length ≤ 255 * 256 ^ l.length := Nat.mul_le_mul_right _ (by omega)
    omega
theorem be_lt_of (l : List UInt8) (n : Nat) (h : l.length ≤ n) : be l < 256 ^ n := Nat.lt_of_lt_of_le (be_lt l) (Nat.pow_le_pow_right (by decide) h)
def nb : Nat → Nat → List UInt8
  | 0, _ => []
  | n + 1, x => nb n (x / 256) ++ [UInt8.ofNat x]
theorem nb_length (n : Nat) : ∀ x, (nb n x).length = n := by
  induction n with
  | zero => intro x; rfl
  | succ n ih => intro x; simp [nb, ih]
theorem be_nb (n : Nat) : ∀ x, be (nb n x) = x % 256 ^ n := by
  induction n with
  | zero => intro x; simp [nb, be, Nat.mod_one]
  | succ n ih =>
    intro x
    rw [nb, be_snoc, ih, Nat.pow_succ]
    have h1 : (UInt8.ofNat x).toNat = x % 256 := by simp
    rw [h1, Nat.mul_comm (256 ^ n) 256, Nat.mod_mul]
    omega
theorem nb_front (n : Nat) : ∀ x, nb (n + 1) x = UInt8.ofNat (x / 256 ^ n) :: nb n x := by
  induction n with
  | zero => intro x; simp [nb]
  | succ n ih =>
    intro x
    have e : x / 256 ^ (n + 1) = x / 256 / 256 ^ n := by rw [Nat.pow_succ, Nat.mul_comm, Nat.div_div_eq_div_mul]
    rw [nb, ih, e]
    rfl
theorem nb_drop (n : Nat) : ∀ j, j ≤ n → ∀ x, (nb n x).drop j = nb (n - j) x := by
  induction n with
  | zero => intro j hj x; obtain rfl : j = 0 := by omega
            simp
  | succ n ih =>
    intro j hj x
    cases j with
    | zero => simp
    | succ j => rw [nb_front, List.drop_succ_cons, ih j (by omega), Nat.add_sub_add_right]
theorem nb_take_succ (n j x : Nat) (h : j < n) : (nb n x).take (j + 1) = (nb n x).take j ++ [UInt8.ofNat (x / 256 ^ (n - 1 - j))] := by
  rw [List.take_succ_eq_append_getElem (by rw [nb_length]; exact h)]
  congr 2
  have e := nb_drop n j (by omega) x
  rw [List.drop_eq_getElem_cons (by rw [nb_length]; exact h), show n - j = (n - 1 - j) + 1 from by omega, nb_front] at e
  exact (List.cons.inj e).1
end Go.Proofs.YtcmalglippmocaaDoor.Pal
end

section
namespace Go.Proofs.YtcmalglippmocaaDoor.G
open Go.RowKit Go.Proofs.YtcmalglippmocaaDoorW.PrintWords Go.Proofs.YtcmalglippmocaaDoorW.PrintLast Go.Proofs.YtcmalglippmocaaDoorW.PrintMore Go.Proofs.YtcmalglippmocaaDoor.Pal

theorem infoU8 : (Tryd.prog.info? 5).map (fun i => (i.zero, i.size, i.bytes)) = some (some (.int .u8 0), 1, 1) := by kernel_rfl
theorem sizeBuilder : (Tryd.prog.info? 138).map (·.size) = some 2 := by kernel_rfl
theorem liesWriter : liesAt Tryd.prog Tryd.prog.depth 140 (2 / Tryd.prog.cellsOf 140) 0 138 1 = true := by kernel_rfl

def WP (b : Nat) (p v : Value) (l : List UInt8) (w : World) : Prop :=
  w.heap[b]? = some (.cells #[p, v] 140 (0, 0)) ∧ w.ownsRowF b 5 1 v l.length (Lib.byteCells l) ∧ v.ownBlock ≠ some b ∧ (l = [] → v = .slice none 0 0)
def self (b : Nat) : Value := .pointer (some ⟨b, 0, none⟩)
def WAt (b : Nat) (l : List UInt8) (w : World) : Prop := ∃ v, WP b (.pointer none) v l w ∨ WP b (self b) v l w

theorem WP.shape {b : Nat} {p v : Value} {l : List UInt8} {w : World} (h : WP b p v l w) : w.shape? b = some (140, 2) := by
  have hb := h.1
  simp [World.shape?, hb]
theorem WP.lt {b : Nat} {p v : Value} {l : List UInt8} {w : World} (h : WP b p v l w) : b < w.heap.size := lt_of_block h.1
theorem WP.used {b : Nat} {p v : Value} {l : List UInt8} {w : World} (h : WP b p v l w) (q : Value) : WP b q v l (w.setCell ⟨b, 0, none⟩ q) := by
  obtain ⟨hb, hown, hne, hn⟩ := h
  refine ⟨?_, ?_, hne, hn⟩
  · simp [World.setCell, Array.getElem?_modify, hb]
  · exact hown.kept (row := some b) ⟨rfl, rfl, rfl, by simp [World.setCell], fun k _ hk => Below.heap_setCell _ _ _ _ (fun e => hk (by simp [e]))⟩ (Or.inr hne)
theorem WP.put {b : Nat} {p v v' : Value} {l : List UInt8} {w : World} (hb : w.heap[b]? = some (.cells #[p, v] 140 (0, 0))) (hown : w.ownsRowF b 5 1 v' l.length (Lib.byteCells l)) (hn : l = [] → v' = .slice none 0 0) :
    WP b p v' l (w.setCell ⟨b, 1, none⟩ v') := by
  have hne := Lib.ownBlock_neF hown hb (by decide)
  refine ⟨?_, ?_, hne, hn⟩
  · simp [World.setCell, Array.getElem?_modify, hb]
  · exact hown.kept (row := some b) ⟨rfl, rfl, rfl, by simp [World.setCell], fun k _ hk => Below.heap_setCell _ _ _ _ (fun e => hk (by simp [e]))⟩ (Or.inr hne)

set_option maxHeartbeats 1000000 in
set_option maxRecDepth 100000 in
theorem copyCheck_used (b : Nat) (w : World) (h0 : w.cell? ⟨b, 0, none⟩ = some (self b)) :
    Calls Tryd.prog 137 #[self b] w fun e w' => e = .returned (.tuple #[]) ∧ w' = w := by
  obtain ⟨j, hj, _⟩ := Option.map_eq_some_iff.1 sizeBuilder
  unfold self at h0 ⊢
  go_enter Tryd.func137, Tryd.ntmps137
  go_wp2
  rw [Lib.run_neq_ptr_same w _ Tryd.underlying136 hj]
  go_wp2
  go_end0
  exact ⟨rfl, rfl⟩

set_option maxHeartbeats 1000000 in
set_option maxRecDepth 100000 in
theorem copyCheck_fresh (b : Nat) (w : World) (h0 : w.cell? ⟨b, 0, none⟩ = some (.pointer none)) (hsh : w.shape? b = some (140, 2)) (hfz : w.frozen? ⟨b, 0, none⟩ = false) :
    Calls Tryd.prog 137 #[self b] w fun e w' => e = .returned (.tuple #[]) ∧ w' = w.setCell ⟨b, 0, none⟩ (self b) := by
  obtain ⟨j, hj, hjs⟩ := Option.map_eq_some_iff.1 sizeBuilder
  unfold self
  go_enter Tryd.func137, Tryd.ntmps137
  go_wp2
  rw [Lib.run_to_unsafe w ⟨b, 0, none⟩ Tryd.underlying136 Tryd.underlying209 hj (by rw [hjs]; decide) hsh (Nat.zero_lt_succ 1)]
  simp only [Result.andThen]
  rw [Oper.upon_value]
  go_wp2
  rw [run_callFunc_extern Tryd.func145 (by kernel_rfl) (by kernel_rfl) (by kernel_rfl) (e := Extern.AbiNoEscape.same) (by kernel_rfl)]
  rw [Lib.run_noEscape]
  simp only [Result.andThen]
  rw [Oper.upon_value]
  go_wp2
  rw [Lib.run_from_unsafe w ⟨b, 0, none⟩ Tryd.underlying209 Tryd.underlying136 hj hsh liesWriter]
  simp only [Result.andThen]
  rw [Oper.upon_value]
  go_wp2
  go_end0
  exact ⟨rfl, rfl⟩

theorem copyCheck_any (b : Nat) (l : List UInt8) (w : World) (h : WAt b l w) :
    Calls Tryd.prog 137 #[self b] w fun e w' => e = .returned (.tuple #[]) ∧ (∃ v, WP b (self b) v l w') ∧ Below b w w' := by
  obtain ⟨v, h | h⟩ := h
  · refine (copyCheck_fresh b w (by rw [Lib.cell_of_heap h.1]; rfl) h.shape (Lib.frozen_of_heap h.1 0)).mono ?_
    rintro e w' ⟨rfl, rfl⟩
    exact ⟨rfl, ⟨v, h.used _⟩, (Below.refl b w).setCell (p := ⟨b, 0, none⟩) (Nat.le_refl _) _⟩
  · refine (copyCheck_used b w (by rw [Lib.cell_of_heap h.1]; rfl)).mono ?_
    rintro e w' ⟨rfl, rfl⟩
    exact ⟨rfl, ⟨v, h⟩, Below.refl b _⟩

set_option maxHeartbeats 2000000 in
set_option maxRecDepth 100000 in
theorem WriteByte_calls (b : Nat) (l : List UInt8) (c : UInt8) (w : World) (h : WAt b l w) (hlen : l.length + 1 ≤ 140737488355328) :
    Calls Tryd.prog 138 #[self b, .int .u8 (c.toNat : Int)] w fun e w' => e = .returned .nilIface ∧ WAt b (l ++ [c]) w' ∧ Below b w w' := by
  obtain ⟨i0, hi, hz0, hz1, hz2⟩ := info_parts infoU8
  unfold self
  go_enter Tryd.func138, Tryd.ntmps138
  go_wp2_with fail
  refine (copyCheck_any b l _ h).mono ?_
  rintro e w1 ⟨rfl, ⟨v, h1⟩, hb1⟩
  obtain ⟨hbk, hown, hne, hnil⟩ := h1
  have c0 : w1.cell? ⟨b, 0, none⟩ = some (.pointer (some ⟨b, 0, none⟩)) := by rw [Lib.cell_of_heap hbk]; rfl
  have c1 : w1.cell? ⟨b, 1, none⟩ = some v := by rw [Lib.cell_of_heap hbk]; rfl
  have HN := Aside0.mk hnil
  have hlt := lt_of_block hbk
  have hsz := hb1.size
  clear hnil h
  go_wp2_with (at_builtin; refine wpList_append_ownF _ rfl _ _ 23 rfl b 5 i0 (.int .u8 0) 1 1 Tryd.underlying23 hi hz0 hz1 hz2 rfl (by decide) _ _ _ rfl (hown.alloc _) ⟨w1.heap.size, 0, none⟩ 1 1 [.int .u8 (c.toNat : Int)] rfl rfl ?c1 ?c2 ?c3 ?c4 ?c5 ?_)
  case c1 =>
    intro j u hj
    match j, hj with
    | 0, hj => simp at hj; subst hj; simp [Addr.add]
  case c2 => intro u hu; simp at hu; subst hu; rfl
  case c3 => unfold maxLen; omega
  case c4 => omega
  case c5 => simp; omega
  intro v' w2 hown' hgrow _
  have hb2 : w2.heap[b]? = some (.cells #[.pointer (some ⟨b, 0, none⟩), v] 140 (0, 0)) := by
    rw [hgrow.block b (by simp; omega) (fun e => hne e.symm), Lib.alloc_old w1 _ b hlt]
    exact hbk
  have d0 : w2.cell? ⟨b, 0, none⟩ = some (.pointer (some ⟨b, 0, none⟩)) := by rw [Lib.cell_of_heap hb2]; rfl
  have d1 : w2.cell? ⟨b, 1, none⟩ = some v := by rw [Lib.cell_of_heap hb2]; rfl
  have f1 : w2.frozen? ⟨b, 1, none⟩ = false := Lib.frozen_of_heap hb2 1
  obtain ⟨g, cap, rfl⟩ : ∃ g cap, v' = .slice (some ⟨g, 0, none⟩) (l.length + 1) cap := by
    rcases hown'.2 with ⟨_, h0⟩ | ⟨g, cap, cur, fz, hv, _⟩
    · omega
    · exact ⟨g, cap, hv⟩
  go_wp2
  go_ret
  refine ⟨rfl, ⟨_, .inr (WP.put (l := l ++ [c]) hb2 (by simpa [Lib.byteCells] using hown') (fun h => by simp at h))⟩, ?_⟩
  exact ((hb1.alloc (by omega) _).grown hgrow (by simp; omega) (fun k hk => (hown.lt k hk).1)).setCell (p := ⟨b, 1, none⟩) (Nat.le_refl _) _

set_option maxHeartbeats 2000000 in
set_option maxRecDepth 100000 in
theorem WriteString_calls (b : Nat) (l : List UInt8) (s : ByteArray) (w : World) (h : WAt b l w) (hlen : l.length + s.size ≤ 140737488355328) :
    Calls Tryd.prog 113 #[self b, .string s] w fun e w' => e = .returned (.tuple #[.int .i64 s.size, .nilIface]) ∧ WAt b (l ++ bl s) w' ∧ Below b w w' := by
  obtain ⟨i0, hi, hz0, hz1, hz2⟩ := info_parts infoU8
  unfold self
  go_enter Tryd.func113, Tryd.ntmps113
  go_wp2_with fail
  refine (copyCheck_any b l _ h).mono ?_
  rintro e w1 ⟨rfl, ⟨v, h1⟩, hb1⟩
  obtain ⟨hbk, hown, hne, hnil⟩ := h1
  have c0 : w1.cell? ⟨b, 0, none⟩ = some (.pointer (some ⟨b, 0, none⟩)) := by rw [Lib.cell_of_heap hbk]; rfl
  have c1 : w1.cell? ⟨b, 1, none⟩ = some v := by rw [Lib.cell_of_heap hbk]; rfl
  have HN := Aside0.mk hnil
  have hlt := lt_of_block hbk
  have hsz := hb1.size
  clear hnil h
  go_wp2_with (at_builtin; refine Lib.wpList_append_own_stringF _ rfl _ _ 23 9 rfl b 5 i0 Tryd.underlying23 Tryd.underlying9 hi hz0 hz1 hz2 _ _ _ rfl hown s rfl ?c3 ?c4 ?c5 ?_)
  case c3 => unfold maxLen; omega
  case c4 => omega
  case c5 => omega
  intro v' w2 hown' hgrow hvn
  have HV := Aside0.mk hvn
  clear hvn
  have hb2 : w2.heap[b]? = some (.cells #[.pointer (some ⟨b, 0, none⟩), v] 140 (0, 0)) := by
    rw [hgrow.block b hlt (fun e => hne e.symm)]
    exact hbk
  have d0 : w2.cell? ⟨b, 0, none⟩ = some (.pointer (some ⟨b, 0, none⟩)) := by rw [Lib.cell_of_heap hb2]; rfl
  have d1 : w2.cell? ⟨b, 1, none⟩ = some v := by rw [Lib.cell_of_heap hb2]; rfl
  have f1 : w2.frozen? ⟨b, 1, none⟩ = false := Lib.frozen_of_heap hb2 1
  obtain ⟨ao, n', cap, rfl⟩ : ∃ ao n' cap, v' = .slice ao n' cap := by
    rcases hown'.2 with ⟨hv, _⟩ | ⟨g, cap, cur, fz, hv, _⟩
    · exact ⟨_, _, _, hv⟩
    · exact ⟨_, _, _, hv⟩
  go_wp2
  go_ret2
  refine ⟨rfl, ⟨_, .inr (WP.put (l := l ++ bl s) hb2 (by rw [List.length_append, bl_length]; simpa [Lib.byteCells, Lib.strCells, bl] using hown') (fun h => ?_))⟩, ?_⟩
  · obtain ⟨h1, h2⟩ := List.append_eq_nil_iff.1 h
    exact HV.out.2 ⟨HN.out h1, ByteArray.ext (by simpa [bl] using h2)⟩
  exact (hb1.grown hgrow (by omega) (fun k hk => (hown.lt k hk).1)).setCell (p := ⟨b, 1, none⟩) (Nat.le_refl _) _

set_option maxHeartbeats 1000000 in
set_option maxRecDepth 100000 in
theorem BString_some (b : Nat) (l : List UInt8) (w : World) (h : WAt b l w) (h0 : l ≠ []) :
    Calls Tryd.prog 115 #[self b] w fun e w' => e = .returned (.string ⟨l.toArray⟩) ∧ WAt b l w' ∧ Below b w w' := by
  obtain ⟨p, v, hp, hbk, hown, hne, hnil⟩ : ∃ p v, (p = .pointer none ∨ p = self b) ∧ WP b p v l w := by
    obtain ⟨v, h | h⟩ := h
    · exact ⟨_, v, .inl rfl, h⟩
    · exact ⟨_, v, .inr rfl, h⟩
  have hl0 : l.length ≠ 0 := by simpa using h0
  obtain ⟨g, cap, cur, fz, rfl, hbg, hg, hfz, hnc, hcm, hcs, htake⟩ : ∃ g cap cur fz, v = .slice (some ⟨g, 0, none⟩) l.length cap ∧ b ≤ g ∧ w.heap[g]? = some (.cells cur 5 fz) ∧ fz.2 ≤ l.length * 1 ∧ l.length ≤ cap ∧ cap ≤ maxLen ∧ cur.size = cap * 1 ∧ cur.toList.take (l.length * 1) = Lib.byteCells l := by
    rcases hown.2 with ⟨_, hz⟩ | ⟨g, cap, cur, fz, hv, r⟩
    · exact absurd hz hl0
    · exact ⟨g, cap, cur, fz, hv, r⟩
  have c1 : w.drew.cell? ⟨b, 1, none⟩ = some (.slice (some ⟨g, 0, none⟩) l.length cap) := by
    have : w.drew.heap[b]? = some (.cells #[p, .slice (some ⟨g, 0, none⟩) l.length cap] 140 (0, 0)) := hbk
    rw [Lib.cell_of_heap this]; rfl
  have hSD : (Builtin.unsafeSliceData_ #[23] 202 #[.slice (some ⟨g, 0, none⟩) l.length cap]).run Tryd.prog w.drew = .ok (.pointer (some ⟨g, 0, none⟩)) w.drew :=
    Lib.run_unsafeSliceData_row _ _ _ _ _ _ (by omega)
  have hUS : (Builtin.unsafeString_ #[202, 3] 9 #[.pointer (some ⟨g, 0, none⟩), .int .i64 l.length]).run Tryd.prog w.drew = .ok (.string ⟨l.toArray⟩) (w.drew.freeze ⟨g, 0, none⟩ l.length) := by
    refine Lib.run_unsafeString_row w.drew 202 3 9 5 Tryd.underlying202 (by kernel_rfl) g cur.size (by have hg' : w.drew.heap[g]? = some (.cells cur 5 fz) := hg; simp [World.shape?, hg']) l h0 (by omega) (by unfold maxLen at hcm; omega) ?_
    intro j x hx
    have := hown.cells (g := g) rfl j (.int .u8 x.toNat) (by simp [Lib.byteCells, hx])
    exact this
  have hkeep : WAt b l (w.drew.freeze ⟨g, 0, none⟩ l.length) := by
    have hA : Lib.BuilderAtF 140 5 b b p (Lib.byteCells l) w.drew := ⟨Nat.le_refl _, _, hbk, by rw [Lib.byteCells_length]; exact hown, hne⟩
    have hF := hA.froze (g := g) (cap := cap) (by rw [Lib.byteCells_length]; exact c1)
    rw [Lib.byteCells_length] at hF
    obtain ⟨_, v2, f1, f2, f3⟩ := hF
    rw [Lib.byteCells_length] at f2
    rcases hp with rfl | rfl
    · exact ⟨v2, .inl ⟨f1, f2, f3, fun e => absurd e h0⟩⟩
    · exact ⟨v2, .inr ⟨f1, f2, f3, fun e => absurd e h0⟩⟩
  have HK := Lib.hid hkeep
  have hkB : Below b w (w.drew.freeze ⟨g, 0, none⟩ l.length) := Lib.below_freeze (Below.drew (Below.refl b w)) (p := ⟨g, 0, none⟩) hbg _
  have HKB := Lib.hid hkB
  clear hkeep hkB hown hnil hne hp hfz hnc hcm hcs htake hbk hg h
  unfold self
  go_enter Tryd.func115, Tryd.ntmps115
  go_wp2
  go_region
  all_goals (go_wp2; go_ret; exact ⟨rfl, HK.out, HKB.out⟩)

set_option maxHeartbeats 1000000 in
set_option maxRecDepth 100000 in
theorem BString_none (b : Nat) (w : World) (h : WAt b [] w) :
    Calls Tryd.prog 115 #[self b] w fun e w' => e = .returned (.string ⟨#[]⟩) ∧ WAt b [] w' ∧ Below b w w' := by
  obtain ⟨p, v, hp, hbk, hown, hne, hnil⟩ : ∃ p v, (p = .pointer none ∨ p = self b) ∧ WP b p v [] w := by
    obtain ⟨v, h | h⟩ := h
    · exact ⟨_, v, .inl rfl, h⟩
    · exact ⟨_, v, .inr rfl, h⟩
  obtain rfl := hnil rfl
  have c1 : w.drew.cell? ⟨b, 1, none⟩ = some (.slice none 0 0) := by
    have : w.drew.heap[b]? = some (.cells #[p, .slice none 0 0] 140 (0, 0)) := hbk
    rw [Lib.cell_of_heap this]; rfl
  have hSD : (Builtin.unsafeSliceData_ #[23] 202 #[.slice none 0 0]).run Tryd.prog w.drew = .ok (.pointer none) w.drew := rfl
  have hUS : (Builtin.unsafeString_ #[202, 3] 9 #[.pointer none, .int .i64 0]).run Tryd.prog w.drew = .ok (.string ⟨#[]⟩) w.drew := Lib.run_unsafeString_none w.drew _ _ _ none
  have HK := Lib.hid h
  clear hown hnil hne hp hbk h
  unfold self
  go_enter Tryd.func115, Tryd.ntmps115
  go_wp2
  go_region
  all_goals (go_wp2; go_ret; exact ⟨rfl, HK.out, (Below.refl b w).drew⟩)

theorem BString_calls (b : Nat) (l : List UInt8) (w : World) (h : WAt b l w) :
    Calls Tryd.prog 115 #[self b] w fun e w' => e = .returned (.string ⟨l.toArray⟩) ∧ WAt b l w' ∧ Below b w w' := by
  cases l with
  | nil => exact BString_none b w h
  | cons x r => exact BString_some b (x :: r) w h (by simp)


set_option maxHeartbeats 400000 in
theorem Writer_Text.calls (b : Nat) (l : List UInt8) (s : ByteArray) (w : World) (h : WAt b l w) (hlen : l.length + s.size ≤ 140737488355328) :
    Calls Tryd.prog 84 #[self b, .string s] w fun e w' => e = .returned (.tuple #[]) ∧ WAt b (l ++ bl s) w' ∧ Below b w w' := by
  unfold self
  go_enter Tryd.func84, Tryd.ntmps84
  go_wp2_with fail
  refine (WriteString_calls b l s w h hlen).mono ?_
  rintro e w1 ⟨rfl, h1, h2⟩
  have H1 := Lib.hid h1
  have H2 := Lib.hid h2
  clear h1 h2 h
  go_wp2
  go_end0
  exact ⟨rfl, H1.out, H2.out⟩

set_option maxHeartbeats 400000 in
theorem Writer_String.calls (b : Nat) (l : List UInt8) (w : World) (h : WAt b l w) :
    Calls Tryd.prog 86 #[self b] w fun e w' => e = .returned (.string ⟨l.toArray⟩) ∧ WAt b l w' ∧ Below b w w' := by
  unfold self
  go_enter Tryd.func86, Tryd.ntmps86
  go_wp2_with fail
  refine (BString_calls b l w h).mono ?_
  rintro e w1 ⟨rfl, h1, h2⟩
  have H1 := Lib.hid h1
  have H2 := Lib.hid h2
  clear h1 h2 h
  go_wp2
  go_ret
  exact ⟨rfl, H1.out, H2.out⟩


theorem byte_at (n k : Nat) : IntKind.u8.wrap ((n : Int) / 2 ^ (8 * (k : Int)).toNat) = ((UInt8.ofNat (n / 256 ^ k)).toNat : Int) := by
  have e1 : (8 * (k : Int)).toNat = 8 * k := by omega
  rw [e1, show ((2 : Int) ^ (8 * k)) = ((2 ^ (8 * k) : Nat) : Int) from by simp, Nat.pow_mul, IntKind.wrap_u8]
  simp
set_option maxHeartbeats 800000 in
set_option maxRecDepth 100000 in
theorem Writer_number.calls (b : Nat) (l : List UInt8) (n m : Nat) (w : World) (h : WAt b l w) (hn : n < 18446744073709551616) (hm : m ≤ 8) (hlen : l.length + m ≤ 140737488355328) :
    Calls Tryd.prog 114 #[self b, .int .u64 (n : Int), .int .i64 (m : Int)] w fun e w' => e = .returned (.tuple #[]) ∧ WAt b (l ++ nb m n) w' ∧ Below b w w' := by
  have H := Lib.hid h
  clear h
  unfold self
  go_enter Tryd.func114, Tryd.ntmps114
  go_wp2
  go_loopg [6] m (fun kq v6 wr => ∃ j : Nat, v6 = .int .i64 ((m : Int) - 1 - j) ∧ Aside0 (j + kq = m) ∧ Hid (WAt b (l ++ (nb m n).take j) wr) ∧ Hid (Below b w wr))
  case atStart => exact ⟨0, by simp, ⟨by omega⟩, by rw [List.take_zero, List.append_nil]; exact H, Lib.hid (Below.refl _ _)⟩
  case round =>
    obtain ⟨j, rfl, HK, HW, HB⟩ := hrel
    by_cases hlt : j < m
    · rw [show ((m : Int) - 1 - j) = ((m - 1 - j : Nat) : Int) from by omega]
      have HT : Aside0 ((nb m n).take (j + 1) = (nb m n).take j ++ [UInt8.ofNat (n / 256 ^ (m - 1 - j))]) := ⟨nb_take_succ m j n hlt⟩
      have HKK : Aside0 (m - 1 - j + j + 1 = m) := ⟨by omega⟩
      have hk7 : m - 1 - j ≤ 7 := by omega
      generalize m - 1 - j = k at HT HKK hk7 ⊢
      have hw8 : IntKind.i64.wrap (8 * (k : Int)) = 8 * (k : Int) := wraps_i64 _ (by omega) (by omega)
      go_wp2_with fail
      go_still_tail 8, (by kernel_rfl)
      change wpList _ _ _ _ _ wr.drew
      rw [byte_at n k]
      generalize UInt8.ofNat (n / 256 ^ k) = c at HT ⊢
      have hW1 : WAt b (l ++ (nb m n).take j) wr.drew := HW.out
      have hlen1 : (l ++ (nb m n).take j).length + 1 ≤ 140737488355328 := by rw [List.length_append, List.length_take, nb_length]; omega
      go_wp2_with fail
      refine (WriteByte_calls b _ c _ hW1 hlen1).mono ?_
      rintro e w1 ⟨rfl, h1, h2⟩
      have H1 := Lib.hid h1
      have H2 := Lib.hid h2
      clear h1 h2 hW1 hlen1 hw8
      go_wp2
      go_roundg k
      case measure => have := HK.out; have := HKK.out; omega
      case rel => exact ⟨j + 1, by rw [show ((m : Int) - 1 - ((j + 1 : Nat) : Int)) = (k : Int) - 1 from by have := HKK.out; omega], ⟨by have := HKK.out; omega⟩, by rw [HT.out, ← List.append_assoc]; exact H1, Lib.hid ((HB.out.drew).trans H2.out)⟩
    · have HT : Aside0 ((nb m n).take j = nb m n) := ⟨List.take_of_length_le (by rw [nb_length]; omega)⟩
      rw [HT.out] at HW
      go_wp2
      go_end0
      exact ⟨rfl, HW.out, HB.out⟩

set_option maxHeartbeats 400000 in
theorem Writer_U8.calls (b : Nat) (l : List UInt8) (x : Int) (w : World) (h : WAt b l w) (hlen : l.length + 1 ≤ 140737488355328) :
    Calls Tryd.prog 108 #[self b, .int .i64 x] w fun e w' => e = .returned (.tuple #[]) ∧ WAt b (l ++ nb 1 (IntKind.u64.wrap x).toNat) w' ∧ Below b w w' := by
  obtain ⟨n, hn, e1⟩ : ∃ n : Nat, n < 18446744073709551616 ∧ IntKind.u64.wrap x = (n : Int) := ⟨(IntKind.u64.wrap x).toNat, by rw [IntKind.wrap_u64]; omega, by rw [IntKind.wrap_u64]; omega⟩
  unfold self
  rw [e1, Int.toNat_natCast]
  go_enter Tryd.func108, Tryd.ntmps108
  go_wp2_with fail
  refine (Writer_number.calls b l n 1 _ h hn (by decide) hlen).mono ?_
  rintro e w1 ⟨rfl, h1, h2⟩
  have H1 := Lib.hid h1
  have H2 := Lib.hid h2
  clear h1 h2 h
  go_wp2
  go_end0
  exact ⟨rfl, H1.out, H2.out⟩
set_option maxHeartbeats 400000 in
theorem Writer_U16.calls (b : Nat) (l : List UInt8) (x : Int) (w : World) (h : WAt b l w) (hlen : l.length + 2 ≤ 140737488355328) :
    Calls Tryd.prog 85 #[self b, .int .i64 x] w fun e w' => e = .returned (.tuple #[]) ∧ WAt b (l ++ nb 2 (IntKind.u64.wrap x).toNat) w' ∧ Below b w w' := by
  obtain ⟨n, hn, e1⟩ : ∃ n : Nat, n < 18446744073709551616 ∧ IntKind.u64.wrap x = (n : Int) := ⟨(IntKind.u64.wrap x).toNat, by rw [IntKind.wrap_u64]; omega, by rw [IntKind.wrap_u64]; omega⟩
  unfold self
  rw [e1, Int.toNat_natCast]
  go_enter Tryd.func85, Tryd.ntmps85
  go_wp2_with fail
  refine (Writer_number.calls b l n 2 _ h hn (by decide) hlen).mono ?_
  rintro e w1 ⟨rfl, h1, h2⟩
  have H1 := Lib.hid h1
  have H2 := Lib.hid h2
  clear h1 h2 h
  go_wp2
  go_end0
  exact ⟨rfl, H1.out, H2.out⟩
set_option maxHeartbeats 400000 in
theorem Writer_U32.calls (b : Nat) (l : List UInt8) (x : Int) (w : World) (h : WAt b l w) (h0 : 0 ≤ x) (hx : x < 4294967296) (hlen : l.length + 4 ≤ 140737488355328) :
    Calls Tryd.prog 100 #[self b, .int .u32 x] w fun e w' => e = .returned (.tuple #[]) ∧ WAt b (l ++ nb 4 (IntKind.u64.wrap x).toNat) w' ∧ Below b w w' := by
  obtain ⟨n, hn, e1⟩ : ∃ n : Nat, n < 18446744073709551616 ∧ IntKind.u64.wrap x = (n : Int) := ⟨(IntKind.u64.wrap x).toNat, by rw [IntKind.wrap_u64]; omega, by rw [IntKind.wrap_u64]; omega⟩
  have e2 : x = (n : Int) := by rw [← e1, IntKind.wrap_u64]; omega
  unfold self
  rw [e1, Int.toNat_natCast]
  go_enter Tryd.func100, Tryd.ntmps100
  go_wp2_with fail
  rw [e2]
  refine (Writer_number.calls b l n 4 _ h hn (by decide) hlen).mono ?_
  rintro e w1 ⟨rfl, h1, h2⟩
  have H1 := Lib.hid h1
  have H2 := Lib.hid h2
  clear h1 h2 h
  go_wp2
  go_end0
  exact ⟨rfl, H1.out, H2.out⟩

def u64n (x : Int) : Nat := (IntKind.u64.wrap x).toNat
theorem WAt.new (w : World) : WAt w.heap.size [] (w.alloc (.cells #[.pointer none, .slice none 0 0] 140)) :=
  ⟨.slice none 0 0, .inl ⟨heap_alloc_new w _, ⟨by simp [Lib.byteCells], .inl ⟨rfl, rfl⟩⟩, by simp [Value.ownBlock], fun _ => rfl⟩⟩
theorem WAt.drew {b : Nat} {l : List UInt8} {w : World} (h : WAt b l w) : WAt b l w.drew := h
theorem WAt.drewN {b : Nat} {l : List UInt8} {w : World} (h : WAt b l w) (n : Nat) : WAt b l (w.drewN n) := h
def WS (B a b : Nat) (w w1 : World) (T : TypeId) (cs : Array Value) (l : List UInt8) : Prop := (WAt b l w1 ∧ Blk w1 a T cs ∧ Below B w w1) ∧ a < b ∧ B ≤ b
theorem WS.next {B a b : Nat} {w w1 w2 : World} {T : TypeId} {cs : Array Value} {l l' : List UInt8} (h : WS B a b w w1 T cs l) (h1 : WAt b l' w2) (h2 : Below b w1 w2) : WS B a b w w2 T cs l' :=
  ⟨⟨h1, h.1.2.1.below h2 h.2.1, h.1.2.2.trans (h2.mono h.2.2)⟩, h.2⟩
theorem WS.startAt {B a : Nat} {w w1 : World} {T : TypeId} {cs : Array Value} (h : Blk w1 a T cs) (hB : Below B w w1) (hs : B ≤ w1.heap.size) : WS B a w1.heap.size w (w1.alloc (.cells #[.pointer none, .slice none 0 0] 140)) T cs [] :=
  ⟨⟨WAt.new w1, h.alloc _, hB.alloc hs _⟩, h.lt, hs⟩
theorem WS.start (w : World) (T : TypeId) (cs : Array Value) : WS w.heap.size w.heap.size (w.heap.size + 1) w ((w.alloc (.cells cs T)).alloc (.cells #[.pointer none, .slice none 0 0] 140)) T cs [] := by
  have h := WS.startAt (Blk.new w T cs) ((Below.refl _ _).alloc (Nat.le_refl _) _) (by simp)
  rwa [World.size_alloc] at h
end Go.Proofs.YtcmalglippmocaaDoor.G
end
