/- The signs of the dump's head, and what a row's form asks of them. Laid by headgen.py of this session. -/
import Derived.Test.YteeljehkphfmdaaRows
import Derived.WalkKit
import Derived.ProofKit
namespace Go.Proofs.Yteeljehkphfmdaa.Head
open Go
def signs : List Char := List.map Char.ofNat [104, 97, 114, 110, 101, 115, 115, 32, 99, 54, 56, 54, 50, 53, 55, 52, 53, 102, 57, 102, 99, 50, 55, 97, 98, 48, 50, 50, 54, 55, 49, 98, 97, 52, 48, 51, 50, 49, 57, 57, 101, 100, 97, 56, 53, 100, 53, 57, 55, 101, 52, 57, 101, 56, 51, 56, 48, 98, 57, 100, 51, 54, 48, 52, 53, 51, 97, 102, 55, 49, 48, 49, 32, 99, 117, 116, 32, 97, 116, 32, 112, 97, 108, 97, 110, 113, 117, 105, 110, 47, 112, 97, 108, 97, 110, 113, 117, 105, 110, 108, 97, 119, 48, 49, 46, 87, 105, 114, 101, 66, 97, 99, 107]
theorem isList : Try.prog.initOrder = String.ofList signs := by kernel_rfl
theorem toList : Try.prog.initOrder.toList = signs := by rw [isList, String.toList_ofList]
theorem words0 : behindMainWord (wordsSigns signs) = "cut".toList :: (behindMainWord (wordsSigns signs)).tail := by kernel_rfl
theorem words : ∃ rest, behindMainWord (wordsSigns Try.prog.initOrder.toList) = "cut".toList :: rest := ⟨_, by rw [toList]; exact words0⟩
theorem none_cut (rest : List (List Char)) : stripLifts liftWords ("cut".toList :: rest) = ([], "cut".toList :: rest) := by kernel_rfl
theorem not_gc : ("cut".toList == "gc".toList) = false := by kernel_rfl
theorem not_spec : ("cut".toList == "spec".toList) = false := by kernel_rfl
theorem not_carried : ("cut".toList == "carried".toList) = false := by kernel_rfl
theorem is_cut : ("cut".toList == "cut".toList) = true := by kernel_rfl
theorem lifts_of (P : Program) (rest : List (List Char)) (h : behindMainWord (wordsSigns P.initOrder.toList) = "cut".toList :: rest) : P.headLifts = [] := by
  unfold Program.headLifts; rw [h, none_cut]; exact ite_self _
theorem make_of (P : Program) (rest : List (List Char)) (h : behindMainWord (wordsSigns P.initOrder.toList) = "cut".toList :: rest) : P.make = some .cut := by
  unfold Program.make; rw [h]; dsimp only; rw [not_gc, not_spec, is_cut]; rfl
theorem liftsFinal_of (P : Program) (rest : List (List Char)) (h : behindMainWord (wordsSigns P.initOrder.toList) = "cut".toList :: rest) : P.liftsFinal = false := by
  unfold Program.liftsFinal; rw [h, lifts_of P rest h]; dsimp only [List.head?_cons]
  rw [show (some "cut".toList == some "carried".toList) = false from not_carried]; rfl
theorem mayEnter_of (P : Program) (rest : List (List Char)) (h : behindMainWord (wordsSigns P.initOrder.toList) = "cut".toList :: rest) (hl : P.laysLater = false) (hb : P.bearsReflect = false) (hd : P.doorFits [] = true) : P.mayEnter = true := by
  unfold Program.mayEnter; rw [h]; dsimp only; rw [not_gc, not_spec, not_carried, none_cut, hl, hb, hd]; dsimp only [List.head?_cons]
  rw [show (some "cut".toList == some "cut".toList) = true from is_cut]; rfl
theorem lifts : Try.prog.headLifts = [] := words.elim fun rest h => lifts_of _ rest h
theorem make : Try.prog.make = some .cut := words.elim fun rest h => make_of _ rest h
theorem liftsFinal : Try.prog.liftsFinal = false := words.elim fun rest h => liftsFinal_of _ rest h
theorem mayEnter : Try.prog.mayEnter = true := words.elim fun rest h => mayEnter_of _ rest h (by kernel_rfl) (by kernel_rfl) (by kernel_rfl)
end Go.Proofs.Yteeljehkphfmdaa.Head
