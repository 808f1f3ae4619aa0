/-
  No cell of these rows narrows 'for every input' (looked for: loops, veiled, ifaces, maps, wideKeys, modest, calm, conditions, laid).
  DERIVED. THE GIVEN ROWS OF THIS SEAT. 7 by the template 'for every input the law returns true; each argument reads behind the call as it read before'; 0 by the template 'total and deterministic' (their statements: YtcmalglippmocaaTotals.lean).
  GIVEN WITH THE SEED: the statements are not yours to turn. If you find one false, say at which input.
  Laid BY PROGRAM, IN A SANDBOX (cutbox-rows.mjs): the forced cells as the released guide's own fill.sh prints them over the translation af51141042a802b7… (all of the seat's roots in one cut). By AI agents, Wed Nov 11 2026. No macro, syntax, notation, axiom, sorry.
-/
import Derived.Test.YtcmalglippmocaaChecked
import GoSem.Claim
import GoSem.ClaimJoined
import GoSem.ClaimMapViews
import Derived.JoinedTies
import Derived.KernelRfl
namespace Go.Proofs.Ytcmalglippmocaa
/- THE CELL 'sum', in the pinned program and in every row, IS THE sha256 OF THE DUMP (.gsa) THAT YtcmalglippmocaaProg.lean LOADS. Nothing in Lean hashes anything: it is a label: what it is worth is what the hold of that sum in a sandbox is worth. -/
noncomputable def Try.pinned : Pinned := { name := "ytcmalglippmocaa", sum := "af51141042a802b7ab2c4fb8e1aabdebaaebbff96b18d73d60a6e35709cd2b1a", checked := Try.checked }
namespace Rows
def none {H : Type} : Left H := { results := [], args := [] }

/-- 'palanquinlaw09.FlowGets': WHATEVER THE INPUT: true; the input reads as it did. -/
def flowGetsSpec : ChangeSpec := { name := "flowGets", fn := fun _ => fun
  | [d] => { results := [.lit (.bool true)], args := [d] }
  | _ => none }
def flowGetsRow : OpenClaim := { program := "ytcmalglippmocaa", sum := "af51141042a802b7ab2c4fb8e1aabdebaaebbff96b18d73d60a6e35709cd2b1a", func := "palanquin/palanquinlaw09.FlowGets", spec := "flowGets", unfollowed := true, recurses := true, apart := false }
def FlowGetsSaid : Prop := flowGetsRow.holds Try.pinned (OpenSpec.ofChange flowGetsSpec)

/-- ITS FALSE NEIGHBOUR: 'it returns false'. Refute it at one input. -/
def flowGetsWrong : ChangeSpec := { name := "flowGets", fn := fun _ => fun
  | [d] => { results := [.lit (.bool false)], args := [d] }
  | _ => none }
def FlowGetsWrongFalsely : Prop := flowGetsRow.holds Try.pinned (OpenSpec.ofChange flowGetsWrong)

/-- 'palanquinlaw09.FlowSums': WHATEVER THE INPUT: true; the input reads as it did. -/
def flowSumsSpec : ChangeSpec := { name := "flowSums", fn := fun _ => fun
  | [d1, d2] => { results := [.lit (.bool true)], args := [d1, d2] }
  | _ => none }
def flowSumsRow : OpenClaim := { program := "ytcmalglippmocaa", sum := "af51141042a802b7ab2c4fb8e1aabdebaaebbff96b18d73d60a6e35709cd2b1a", func := "palanquin/palanquinlaw09.FlowSums", spec := "flowSums", unfollowed := true, recurses := true, apart := false }
def FlowSumsSaid : Prop := flowSumsRow.holds Try.pinned (OpenSpec.ofChange flowSumsSpec)

/-- ITS FALSE NEIGHBOUR: 'it returns false'. Refute it at one input. -/
def flowSumsWrong : ChangeSpec := { name := "flowSums", fn := fun _ => fun
  | [d1, d2] => { results := [.lit (.bool false)], args := [d1, d2] }
  | _ => none }
def FlowSumsWrongFalsely : Prop := flowSumsRow.holds Try.pinned (OpenSpec.ofChange flowSumsWrong)

/-- 'palanquinlaw10.ClampKeeps': WHATEVER THE INPUT: true; the input reads as it did. -/
def clampKeepsSpec : ChangeSpec := { name := "clampKeeps", fn := fun _ => fun
  | [d1, d2, d3] => { results := [.lit (.bool true)], args := [d1, d2, d3] }
  | _ => none }
def clampKeepsRow : OpenClaim := { program := "ytcmalglippmocaa", sum := "af51141042a802b7ab2c4fb8e1aabdebaaebbff96b18d73d60a6e35709cd2b1a", func := "palanquin/palanquinlaw10.ClampKeeps", spec := "clampKeeps", inPlace := ["internal/abi.NoEscape"], unfollowed := true, recurses := true, apart := false }
def ClampKeepsSaid : Prop := clampKeepsRow.holds Try.pinned (OpenSpec.ofChange clampKeepsSpec)

/-- ITS FALSE NEIGHBOUR: 'it returns false'. Refute it at one input. -/
def clampKeepsWrong : ChangeSpec := { name := "clampKeeps", fn := fun _ => fun
  | [d1, d2, d3] => { results := [.lit (.bool false)], args := [d1, d2, d3] }
  | _ => none }
def ClampKeepsWrongFalsely : Prop := clampKeepsRow.holds Try.pinned (OpenSpec.ofChange clampKeepsWrong)

/-- 'palanquinlaw10.ClampOthers': WHATEVER THE INPUT: true; the input reads as it did. -/
def clampOthersSpec : ChangeSpec := { name := "clampOthers", fn := fun _ => fun
  | [d1, d2] => { results := [.lit (.bool true)], args := [d1, d2] }
  | _ => none }
def clampOthersRow : OpenClaim := { program := "ytcmalglippmocaa", sum := "af51141042a802b7ab2c4fb8e1aabdebaaebbff96b18d73d60a6e35709cd2b1a", func := "palanquin/palanquinlaw10.ClampOthers", spec := "clampOthers", inPlace := ["internal/abi.NoEscape"], unfollowed := true, recurses := true, apart := false }
def ClampOthersSaid : Prop := clampOthersRow.holds Try.pinned (OpenSpec.ofChange clampOthersSpec)

/-- ITS FALSE NEIGHBOUR: 'it returns false'. Refute it at one input. -/
def clampOthersWrong : ChangeSpec := { name := "clampOthers", fn := fun _ => fun
  | [d1, d2] => { results := [.lit (.bool false)], args := [d1, d2] }
  | _ => none }
def ClampOthersWrongFalsely : Prop := clampOthersRow.holds Try.pinned (OpenSpec.ofChange clampOthersWrong)

/-- 'palanquinlaw10.ClampUpdates': WHATEVER THE INPUT: true; the input reads as it did. -/
def clampUpdatesSpec : ChangeSpec := { name := "clampUpdates", fn := fun _ => fun
  | [d1, d2] => { results := [.lit (.bool true)], args := [d1, d2] }
  | _ => none }
def clampUpdatesRow : OpenClaim := { program := "ytcmalglippmocaa", sum := "af51141042a802b7ab2c4fb8e1aabdebaaebbff96b18d73d60a6e35709cd2b1a", func := "palanquin/palanquinlaw10.ClampUpdates", spec := "clampUpdates", inPlace := ["internal/abi.NoEscape"], unfollowed := true, recurses := true, apart := false }
def ClampUpdatesSaid : Prop := clampUpdatesRow.holds Try.pinned (OpenSpec.ofChange clampUpdatesSpec)

/-- ITS FALSE NEIGHBOUR: 'it returns false'. Refute it at one input. -/
def clampUpdatesWrong : ChangeSpec := { name := "clampUpdates", fn := fun _ => fun
  | [d1, d2] => { results := [.lit (.bool false)], args := [d1, d2] }
  | _ => none }
def ClampUpdatesWrongFalsely : Prop := clampUpdatesRow.holds Try.pinned (OpenSpec.ofChange clampUpdatesWrong)

/-- 'palanquinlaw10.ClampTells': WHATEVER THE INPUT: true; the input reads as it did. -/
def clampTellsSpec : ChangeSpec := { name := "clampTells", fn := fun _ => fun
  | [d1, d2, d3, d4, d5] => { results := [.lit (.bool true)], args := [d1, d2, d3, d4, d5] }
  | _ => none }
def clampTellsRow : OpenClaim := { program := "ytcmalglippmocaa", sum := "af51141042a802b7ab2c4fb8e1aabdebaaebbff96b18d73d60a6e35709cd2b1a", func := "palanquin/palanquinlaw10.ClampTells", spec := "clampTells", inPlace := ["internal/abi.NoEscape"], unfollowed := true, recurses := true, apart := false }
def ClampTellsSaid : Prop := clampTellsRow.holds Try.pinned (OpenSpec.ofChange clampTellsSpec)

/-- ITS FALSE NEIGHBOUR: 'it returns false'. Refute it at one input. -/
def clampTellsWrong : ChangeSpec := { name := "clampTells", fn := fun _ => fun
  | [d1, d2, d3, d4, d5] => { results := [.lit (.bool false)], args := [d1, d2, d3, d4, d5] }
  | _ => none }
def ClampTellsWrongFalsely : Prop := clampTellsRow.holds Try.pinned (OpenSpec.ofChange clampTellsWrong)

/-- 'palanquinlaw10.ClampLimits': WHATEVER THE INPUT: true; the input reads as it did. -/
def clampLimitsSpec : ChangeSpec := { name := "clampLimits", fn := fun _ => fun
  | [d1, d2, d3, d4, d5] => { results := [.lit (.bool true)], args := [d1, d2, d3, d4, d5] }
  | _ => none }
def clampLimitsRow : OpenClaim := { program := "ytcmalglippmocaa", sum := "af51141042a802b7ab2c4fb8e1aabdebaaebbff96b18d73d60a6e35709cd2b1a", func := "palanquin/palanquinlaw10.ClampLimits", spec := "clampLimits", inPlace := ["internal/abi.NoEscape"], unfollowed := true, recurses := true, apart := false }
def ClampLimitsSaid : Prop := clampLimitsRow.holds Try.pinned (OpenSpec.ofChange clampLimitsSpec)

/-- ITS FALSE NEIGHBOUR: 'it returns false'. Refute it at one input. -/
def clampLimitsWrong : ChangeSpec := { name := "clampLimits", fn := fun _ => fun
  | [d1, d2, d3, d4, d5] => { results := [.lit (.bool false)], args := [d1, d2, d3, d4, d5] }
  | _ => none }
def ClampLimitsWrongFalsely : Prop := clampLimitsRow.holds Try.pinned (OpenSpec.ofChange clampLimitsWrong)

/- THE SECOND FORM. 'bulk': how many values and letters a reading holds, each counted each time it is reached (what is shared counts as often as it is met; a slice's spare places count too). A statement '..UptoSaid' is the law's where the arguments, and the package variables that the reading takes, are together of bulk at most 1048576: NARROWER than '..Said'. Prove '..Said' where nothing that the law and all that it calls make is longer than what came in: it says more and counts as full. Else prove '..UptoSaid'. A law counts once. -/
mutual
def uptoBulk {H : Type} : DataW H → Nat
  | .lit (.string bytes) => bytes.length + 1
  | .lit _ => 1
  | .nil => 1
  | .ptr d => uptoBulk d + 1
  | .slice elems spare => uptoBulkAll elems + uptoBulkAll spare + 1
  | .agg parts => uptoBulkAll parts + 1
  | .iface _ d => uptoBulk d + 1
  | .map entries => uptoBulkEntries entries + 1
  | .held _ => 1
def uptoBulkAll {H : Type} : List (DataW H) → Nat
  | [] => 0
  | d :: r => uptoBulk d + uptoBulkAll r
def uptoBulkEntries {H : Type} : List (Lit × DataW H) → Nat
  | [] => 0
  | x :: r => uptoBulkEntry x + uptoBulkEntries r
def uptoBulkEntry {H : Type} : Lit × DataW H → Nat
  | (.string bytes, d) => bytes.length + uptoBulk d + 1
  | (_, d) => uptoBulk d + 1
 end
def uptoSmall : (H : Type) → List (DataW H) → Bool := fun _ ds => decide (uptoBulkAll ds ≤ 1048576)
def OpenSpec.upto (s : _root_.Go.ChangeSpec) : _root_.Go.OpenSpec := { _root_.Go.OpenSpec.ofChange s with cond := some uptoSmall }

/-- 'palanquinlaw09.FlowGets', WHERE WHAT IT READS IS OF BULK AT MOST 1048576: true; the input reads as it did. -/
def flowGetsUptoRow : OpenClaim := { program := "ytcmalglippmocaa", sum := "af51141042a802b7ab2c4fb8e1aabdebaaebbff96b18d73d60a6e35709cd2b1a", func := "palanquin/palanquinlaw09.FlowGets", spec := "flowGets", unfollowed := true, recurses := true, apart := false, narrowed := true }
def FlowGetsUptoSaid : Prop := flowGetsUptoRow.holds Try.pinned (OpenSpec.upto flowGetsSpec)

/-- 'palanquinlaw09.FlowSums', WHERE WHAT IT READS IS OF BULK AT MOST 1048576: true; the input reads as it did. -/
def flowSumsUptoRow : OpenClaim := { program := "ytcmalglippmocaa", sum := "af51141042a802b7ab2c4fb8e1aabdebaaebbff96b18d73d60a6e35709cd2b1a", func := "palanquin/palanquinlaw09.FlowSums", spec := "flowSums", unfollowed := true, recurses := true, apart := false, narrowed := true }
def FlowSumsUptoSaid : Prop := flowSumsUptoRow.holds Try.pinned (OpenSpec.upto flowSumsSpec)

/-- 'palanquinlaw10.ClampKeeps', WHERE WHAT IT READS IS OF BULK AT MOST 1048576: true; the input reads as it did. -/
def clampKeepsUptoRow : OpenClaim := { program := "ytcmalglippmocaa", sum := "af51141042a802b7ab2c4fb8e1aabdebaaebbff96b18d73d60a6e35709cd2b1a", func := "palanquin/palanquinlaw10.ClampKeeps", spec := "clampKeeps", inPlace := ["internal/abi.NoEscape"], unfollowed := true, recurses := true, apart := false, narrowed := true }
def ClampKeepsUptoSaid : Prop := clampKeepsUptoRow.holds Try.pinned (OpenSpec.upto clampKeepsSpec)

/-- 'palanquinlaw10.ClampOthers', WHERE WHAT IT READS IS OF BULK AT MOST 1048576: true; the input reads as it did. -/
def clampOthersUptoRow : OpenClaim := { program := "ytcmalglippmocaa", sum := "af51141042a802b7ab2c4fb8e1aabdebaaebbff96b18d73d60a6e35709cd2b1a", func := "palanquin/palanquinlaw10.ClampOthers", spec := "clampOthers", inPlace := ["internal/abi.NoEscape"], unfollowed := true, recurses := true, apart := false, narrowed := true }
def ClampOthersUptoSaid : Prop := clampOthersUptoRow.holds Try.pinned (OpenSpec.upto clampOthersSpec)

/-- 'palanquinlaw10.ClampUpdates', WHERE WHAT IT READS IS OF BULK AT MOST 1048576: true; the input reads as it did. -/
def clampUpdatesUptoRow : OpenClaim := { program := "ytcmalglippmocaa", sum := "af51141042a802b7ab2c4fb8e1aabdebaaebbff96b18d73d60a6e35709cd2b1a", func := "palanquin/palanquinlaw10.ClampUpdates", spec := "clampUpdates", inPlace := ["internal/abi.NoEscape"], unfollowed := true, recurses := true, apart := false, narrowed := true }
def ClampUpdatesUptoSaid : Prop := clampUpdatesUptoRow.holds Try.pinned (OpenSpec.upto clampUpdatesSpec)

/-- 'palanquinlaw10.ClampTells', WHERE WHAT IT READS IS OF BULK AT MOST 1048576: true; the input reads as it did. -/
def clampTellsUptoRow : OpenClaim := { program := "ytcmalglippmocaa", sum := "af51141042a802b7ab2c4fb8e1aabdebaaebbff96b18d73d60a6e35709cd2b1a", func := "palanquin/palanquinlaw10.ClampTells", spec := "clampTells", inPlace := ["internal/abi.NoEscape"], unfollowed := true, recurses := true, apart := false, narrowed := true }
def ClampTellsUptoSaid : Prop := clampTellsUptoRow.holds Try.pinned (OpenSpec.upto clampTellsSpec)

/-- 'palanquinlaw10.ClampLimits', WHERE WHAT IT READS IS OF BULK AT MOST 1048576: true; the input reads as it did. -/
def clampLimitsUptoRow : OpenClaim := { program := "ytcmalglippmocaa", sum := "af51141042a802b7ab2c4fb8e1aabdebaaebbff96b18d73d60a6e35709cd2b1a", func := "palanquin/palanquinlaw10.ClampLimits", spec := "clampLimits", inPlace := ["internal/abi.NoEscape"], unfollowed := true, recurses := true, apart := false, narrowed := true }
def ClampLimitsUptoSaid : Prop := clampLimitsUptoRow.holds Try.pinned (OpenSpec.upto clampLimitsSpec)

end Rows
end Go.Proofs.Ytcmalglippmocaa
