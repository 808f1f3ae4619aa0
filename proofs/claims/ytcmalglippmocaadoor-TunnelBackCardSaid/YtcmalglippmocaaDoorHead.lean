/- The signs of the dump's head, and what a row's form asks of them. Laid by headgen.py of this session. -/
import Derived.Test.YtcmalglippmocaaDoorRows
import Derived.WalkKit
import Derived.ProofKit
namespace Go.Proofs.YtcmalglippmocaaDoor.Head
open Go
def signs : List Char := List.map Char.ofNat [104, 97, 114, 110, 101, 115, 115, 32, 99, 54, 52, 101, 99, 100, 49, 51, 55, 100, 99, 50, 51, 53, 56, 101, 97, 101, 98, 98, 49, 48, 57, 98, 97, 54, 50, 57, 97, 98, 99, 101, 98, 57, 57, 98, 53, 48, 99, 102, 99, 101, 55, 48, 56, 57, 54, 52, 97, 50, 50, 54, 99, 99, 57, 102, 49, 48, 50, 99, 56, 98, 48, 54, 32, 99, 117, 116, 32, 97, 116, 32, 112, 97, 108, 97, 110, 113, 117, 105, 110, 47, 112, 97, 108, 97, 110, 113, 117, 105, 110, 108, 97, 119, 49, 49, 46, 73, 112, 105, 112, 70, 105, 114, 115, 116, 32, 112, 97, 108, 97, 110, 113, 117, 105, 110, 47, 112, 97, 108, 97, 110, 113, 117, 105, 110, 108, 97, 119, 49, 49, 46, 73, 112, 105, 112, 66, 97, 99, 107, 32, 112, 97, 108, 97, 110, 113, 117, 105, 110, 47, 112, 97, 108, 97, 110, 113, 117, 105, 110, 108, 97, 119, 49, 49, 46, 73, 112, 105, 112, 84, 101, 108, 108, 115, 32, 112, 97, 108, 97, 110, 113, 117, 105, 110, 47, 112, 97, 108, 97, 110, 113, 117, 105, 110, 108, 97, 119, 49, 50, 46, 71, 114, 101, 84, 101, 108, 108, 115, 32, 112, 97, 108, 97, 110, 113, 117, 105, 110, 47, 112, 97, 108, 97, 110, 113, 117, 105, 110, 108, 97, 119, 49, 50, 46, 71, 114, 101, 66, 97, 99, 107, 32, 112, 97, 108, 97, 110, 113, 117, 105, 110, 47, 112, 97, 108, 97, 110, 113, 117, 105, 110, 108, 97, 119, 49, 50, 46, 71, 114, 101, 83, 117, 109, 115, 32, 112, 97, 108, 97, 110, 113, 117, 105, 110, 47, 112, 97, 108, 97, 110, 113, 117, 105, 110, 108, 97, 119, 49, 50, 46, 71, 114, 101, 80, 97, 114, 116, 115, 32, 112, 97, 108, 97, 110, 113, 117, 105, 110, 47, 112, 97, 108, 97, 110, 113, 117, 105, 110, 108, 97, 119, 49, 51, 46, 71, 117, 101, 84, 101, 108, 108, 115, 32, 112, 97, 108, 97, 110, 113, 117, 105, 110, 47, 112, 97, 108, 97, 110, 113, 117, 105, 110, 108, 97, 119, 49, 51, 46, 71, 117, 101, 66, 97, 99, 107, 32, 112, 97, 108, 97, 110, 113, 117, 105, 110, 47, 112, 97, 108, 97, 110, 113, 117, 105, 110, 108, 97, 119, 49, 51, 46, 71, 117, 101, 83, 117, 109, 115, 32, 112, 97, 108, 97, 110, 113, 117, 105, 110, 47, 112, 97, 108, 97, 110, 113, 117, 105, 110, 108, 97, 119, 49, 51, 46, 71, 117, 101, 80, 111, 114, 116, 115, 32, 112, 97, 108, 97, 110, 113, 117, 105, 110, 47, 112, 97, 108, 97, 110, 113, 117, 105, 110, 108, 97, 119, 48, 57, 46, 70, 108, 111, 119, 83, 101, 97, 108, 115, 32, 112, 97, 108, 97, 110, 113, 117, 105, 110, 47, 112, 97, 108, 97, 110, 113, 117, 105, 110, 108, 97, 119, 48, 57, 46, 70, 108, 111, 119, 66, 117, 105, 108, 100, 115, 32, 112, 97, 108, 97, 110, 113, 117, 105, 110, 47, 112, 97, 108, 97, 110, 113, 117, 105, 110, 108, 97, 119, 48, 57, 46, 70, 108, 111, 119, 86, 97, 108, 105, 100, 32, 112, 97, 108, 97, 110, 113, 117, 105, 110, 47, 112, 97, 108, 97, 110, 113, 117, 105, 110, 108, 97, 119, 49, 52, 46, 84, 117, 110, 110, 101, 108, 66, 97, 99, 107, 32, 112, 97, 108, 97, 110, 113, 117, 105, 110, 47, 112, 97, 108, 97, 110, 113, 117, 105, 110, 108, 97, 119, 49, 52, 46, 84, 117, 110, 110, 101, 108, 70, 105, 101, 108, 100, 115, 32, 112, 97, 108, 97, 110, 113, 117, 105, 110, 47, 112, 97, 108, 97, 110, 113, 117, 105, 110, 108, 97, 119, 49, 52, 46, 84, 117, 110, 110, 101, 108, 66, 105, 116, 115]
theorem isList : Tryd.prog.initOrder = String.ofList signs := by kernel_rfl
theorem toList : Tryd.prog.initOrder.toList = signs := by rw [isList, String.toList_ofList]
theorem words0 : behindMainWord (wordsSigns signs) = "cut".toList :: (behindMainWord (wordsSigns signs)).tail := by kernel_rfl
theorem words : ∃ rest, behindMainWord (wordsSigns Tryd.prog.initOrder.toList) = "cut".toList :: rest := ⟨_, by rw [toList]; exact words0⟩
theorem none_cut (rest : List (List Char)) : stripLifts liftWords ("cut".toList :: rest) = ([], "cut".toList :: rest) := by kernel_rfl
theorem not_gc : ("cut".toList == "gc".toList) = false := by kernel_rfl
theorem not_spec : ("cut".toList == "spec".toList) = false := by kernel_rfl
theorem not_carried : ("cut".toList == "carried".toList) = false := by kernel_rfl
theorem is_cut : ("cut".toList == "cut".toList) = true := by kernel_rfl
theorem lifts_of (P : Program) (rest : List (List Char)) (h : behindMainWord (wordsSigns P.initOrder.toList) = "cut".toList :: rest) : P.headLifts = [] := by
  unfold Program.headLifts; rw [h, none_cut]; exact ite_self _
theorem make_of (P : Program) (rest : List (List Char)) (h : behindMainWord (wordsSigns P.initOrder.toList) = "cut".toList :: rest) : P.make = some .cut := by
  unfold Program.make; rw [h]; dsimp only; rw [not_gc, not_spec, is_cut]; rfl
theorem liftsFinal_of (P : Program) (rest : List (List Char)) (h : behindMainWord (wordsSigns P.initOrder.toList) = "cut".toList :: rest) : P.liftsFinal = false := by
  unfold Program.liftsFinal; rw [h, lifts_of P rest h]; dsimp only [List.head?_cons]
  rw [show (some "cut".toList == some "carried".toList) = false from not_carried]; rfl
theorem mayEnter_of (P : Program) (rest : List (List Char)) (h : behindMainWord (wordsSigns P.initOrder.toList) = "cut".toList :: rest) (hl : P.laysLater = false) (hb : P.bearsReflect = false) (hd : P.doorFits [] = true) : P.mayEnter = true := by
  unfold Program.mayEnter; rw [h]; dsimp only; rw [not_gc, not_spec, not_carried, none_cut, hl, hb, hd]; dsimp only [List.head?_cons]
  rw [show (some "cut".toList == some "cut".toList) = true from is_cut]; rfl
theorem lifts : Tryd.prog.headLifts = [] := words.elim fun rest h => lifts_of _ rest h
theorem make : Tryd.prog.make = some .cut := words.elim fun rest h => make_of _ rest h
theorem liftsFinal : Tryd.prog.liftsFinal = false := words.elim fun rest h => liftsFinal_of _ rest h
theorem mayEnter : Tryd.prog.mayEnter = true := words.elim fun rest h => mayEnter_of _ rest h (by kernel_rfl) (by kernel_rfl) (by kernel_rfl)
end Go.Proofs.YtcmalglippmocaaDoor.Head
