/-
  NARROWER THAN 'FOR EVERY INPUT', by the rows' own cells (each row's printed sentence says how): IpipFirst: laid · IpipBack: laid · IpipTells: laid · GreTells: laid · GreBack: laid · GreSums: laid · GreParts: laid · GueTells: laid · GueBack: laid · GueSums: laid · GuePorts: laid · FlowSeals: laid · FlowBuilds: laid · FlowValid: laid · TunnelBack: laid · TunnelFields: laid · TunnelBits: laid.
  DERIVED. THE GIVEN ROWS OF THIS SEAT. 17 by the template 'for every input the law returns true; each argument reads behind the call as it read before'; 0 by the template 'total and deterministic' (their statements: YtcmalglippmocaaDoorTotals.lean).
  GIVEN WITH THE SEED: the statements are not yours to turn. If you find one false, say at which input.
  Laid BY PROGRAM, IN A SANDBOX (cutbox-rows.mjs): the forced cells as the released guide's own fill.sh prints them over the translation 9c09ec45efb76415… (all of the seat's roots in one cut). By AI agents, Wed Nov 11 2026. No macro, syntax, notation, axiom, sorry.
-/
import Derived.Test.YtcmalglippmocaaDoorChecked
import GoSem.Claim
import GoSem.ClaimJoined
import GoSem.ClaimMapViews
import Derived.JoinedTies
import Derived.KernelRfl
namespace Go.Proofs.YtcmalglippmocaaDoor
/- THE CELL 'sum', in the pinned program and in every row, IS THE sha256 OF THE DUMP (.gsa) THAT YtcmalglippmocaaDoorProg.lean LOADS. Nothing in Lean hashes anything: it is a label: what it is worth is what the hold of that sum in a sandbox is worth. -/
noncomputable def Tryd.pinned : Pinned := { name := "ytcmalglippmocaadoor", sum := "9c09ec45efb76415b36dfe48245d506d38b856dea396f73991384925f89b7261", checked := Tryd.checked }
namespace Rows
def none {H : Type} : Left H := { results := [], args := [] }

/- WHAT THE LISTED PACKAGE-LEVEL VARIABLES READ AS WHEN THE CALL BEGINS. Each datum BY PROGRAM (the guide's laid-datum.mjs) off the statement by which the dump's own 'gosem.cut.vars' lays the variable. In a bare row this is a premise. The card (YtcmalglippmocaaDoorCards.lean) ties it to the program's text. -/
def laid_palanquin_ipip_versions {H : Type} : DataW H := .agg [.agg [.lit (.int .i64 4), .lit (.int .i64 4), .lit (.int .i64 2048)], .agg [.lit (.int .i64 6), .lit (.int .i64 41), .lit (.int .i64 34525)]]
def laid_palanquin_flow_places {H : Type} : DataW H := .agg [.agg [.lit (.int .i64 6), .lit (.int .i64 16)], .agg [.lit (.int .i64 17), .lit (.int .i64 6)]]
def laid_palanquin_flow_least {H : Type} : DataW H := .agg [.lit (.int .i64 20), .lit (.int .i64 8)]

/-- 'palanquinlaw11.IpipFirst': WHATEVER THE INPUT: true; the input reads as it did. -/
def ipipFirstSpec : ChangeSpec := { name := "ipipFirst", fn := fun _ => fun
  | [d1, d2] => { results := [.lit (.bool true)], args := [d1, d2] }
  | _ => none }
def ipipFirstRow : OpenClaim := { program := "ytcmalglippmocaadoor", sum := "9c09ec45efb76415b36dfe48245d506d38b856dea396f73991384925f89b7261", func := "palanquin/palanquinlaw11.IpipFirst", spec := "ipipFirst", named := ["palanquin/ipip.versions"], apart := false, laid := [("palanquin/ipip.versions", laid_palanquin_ipip_versions)] }
def IpipFirstSaid : Prop := ipipFirstRow.holds Tryd.pinned (OpenSpec.ofChange ipipFirstSpec)

/-- ITS FALSE NEIGHBOUR: 'it returns false'. Refute it at one input. -/
def ipipFirstWrong : ChangeSpec := { name := "ipipFirst", fn := fun _ => fun
  | [d1, d2] => { results := [.lit (.bool false)], args := [d1, d2] }
  | _ => none }
def IpipFirstWrongFalsely : Prop := ipipFirstRow.holds Tryd.pinned (OpenSpec.ofChange ipipFirstWrong)

/-- 'palanquinlaw11.IpipBack': WHATEVER THE INPUT: true; the input reads as it did. -/
def ipipBackSpec : ChangeSpec := { name := "ipipBack", fn := fun _ => fun
  | [d1, d2] => { results := [.lit (.bool true)], args := [d1, d2] }
  | _ => none }
def ipipBackRow : OpenClaim := { program := "ytcmalglippmocaadoor", sum := "9c09ec45efb76415b36dfe48245d506d38b856dea396f73991384925f89b7261", func := "palanquin/palanquinlaw11.IpipBack", spec := "ipipBack", named := ["palanquin/ipip.versions"], apart := false, laid := [("palanquin/ipip.versions", laid_palanquin_ipip_versions)] }
def IpipBackSaid : Prop := ipipBackRow.holds Tryd.pinned (OpenSpec.ofChange ipipBackSpec)

/-- ITS FALSE NEIGHBOUR: 'it returns false'. Refute it at one input. -/
def ipipBackWrong : ChangeSpec := { name := "ipipBack", fn := fun _ => fun
  | [d1, d2] => { results := [.lit (.bool false)], args := [d1, d2] }
  | _ => none }
def IpipBackWrongFalsely : Prop := ipipBackRow.holds Tryd.pinned (OpenSpec.ofChange ipipBackWrong)

/-- 'palanquinlaw11.IpipTells': WHATEVER THE INPUT: true; the input reads as it did. -/
def ipipTellsSpec : ChangeSpec := { name := "ipipTells", fn := fun _ => fun
  | [d1, d2] => { results := [.lit (.bool true)], args := [d1, d2] }
  | _ => none }
def ipipTellsRow : OpenClaim := { program := "ytcmalglippmocaadoor", sum := "9c09ec45efb76415b36dfe48245d506d38b856dea396f73991384925f89b7261", func := "palanquin/palanquinlaw11.IpipTells", spec := "ipipTells", named := ["palanquin/ipip.versions"], apart := false, laid := [("palanquin/ipip.versions", laid_palanquin_ipip_versions)] }
def IpipTellsSaid : Prop := ipipTellsRow.holds Tryd.pinned (OpenSpec.ofChange ipipTellsSpec)

/-- ITS FALSE NEIGHBOUR: 'it returns false'. Refute it at one input. -/
def ipipTellsWrong : ChangeSpec := { name := "ipipTells", fn := fun _ => fun
  | [d1, d2] => { results := [.lit (.bool false)], args := [d1, d2] }
  | _ => none }
def IpipTellsWrongFalsely : Prop := ipipTellsRow.holds Tryd.pinned (OpenSpec.ofChange ipipTellsWrong)

/-- 'palanquinlaw12.GreTells': WHATEVER THE INPUT: true; the input reads as it did. -/
def greTellsSpec : ChangeSpec := { name := "greTells", fn := fun _ => fun
  | [d1, d2, d3, d4, d5] => { results := [.lit (.bool true)], args := [d1, d2, d3, d4, d5] }
  | _ => none }
def greTellsRow : OpenClaim := { program := "ytcmalglippmocaadoor", sum := "9c09ec45efb76415b36dfe48245d506d38b856dea396f73991384925f89b7261", func := "palanquin/palanquinlaw12.GreTells", spec := "greTells", inPlace := ["internal/abi.NoEscape"], unfollowed := true, recurses := true, named := ["palanquin/ipip.versions"], apart := false, laid := [("palanquin/ipip.versions", laid_palanquin_ipip_versions)] }
def GreTellsSaid : Prop := greTellsRow.holds Tryd.pinned (OpenSpec.ofChange greTellsSpec)

/-- ITS FALSE NEIGHBOUR: 'it returns false'. Refute it at one input. -/
def greTellsWrong : ChangeSpec := { name := "greTells", fn := fun _ => fun
  | [d1, d2, d3, d4, d5] => { results := [.lit (.bool false)], args := [d1, d2, d3, d4, d5] }
  | _ => none }
def GreTellsWrongFalsely : Prop := greTellsRow.holds Tryd.pinned (OpenSpec.ofChange greTellsWrong)

/-- 'palanquinlaw12.GreBack': WHATEVER THE INPUT: true; the input reads as it did. -/
def greBackSpec : ChangeSpec := { name := "greBack", fn := fun _ => fun
  | [d1, d2, d3, d4, d5] => { results := [.lit (.bool true)], args := [d1, d2, d3, d4, d5] }
  | _ => none }
def greBackRow : OpenClaim := { program := "ytcmalglippmocaadoor", sum := "9c09ec45efb76415b36dfe48245d506d38b856dea396f73991384925f89b7261", func := "palanquin/palanquinlaw12.GreBack", spec := "greBack", inPlace := ["internal/abi.NoEscape"], unfollowed := true, recurses := true, named := ["palanquin/ipip.versions"], apart := false, laid := [("palanquin/ipip.versions", laid_palanquin_ipip_versions)] }
def GreBackSaid : Prop := greBackRow.holds Tryd.pinned (OpenSpec.ofChange greBackSpec)

/-- ITS FALSE NEIGHBOUR: 'it returns false'. Refute it at one input. -/
def greBackWrong : ChangeSpec := { name := "greBack", fn := fun _ => fun
  | [d1, d2, d3, d4, d5] => { results := [.lit (.bool false)], args := [d1, d2, d3, d4, d5] }
  | _ => none }
def GreBackWrongFalsely : Prop := greBackRow.holds Tryd.pinned (OpenSpec.ofChange greBackWrong)

/-- 'palanquinlaw12.GreSums': WHATEVER THE INPUT: true; the input reads as it did. -/
def greSumsSpec : ChangeSpec := { name := "greSums", fn := fun _ => fun
  | [d1, d2, d3, d4] => { results := [.lit (.bool true)], args := [d1, d2, d3, d4] }
  | _ => none }
def greSumsRow : OpenClaim := { program := "ytcmalglippmocaadoor", sum := "9c09ec45efb76415b36dfe48245d506d38b856dea396f73991384925f89b7261", func := "palanquin/palanquinlaw12.GreSums", spec := "greSums", inPlace := ["internal/abi.NoEscape"], unfollowed := true, recurses := true, named := ["palanquin/ipip.versions"], apart := false, laid := [("palanquin/ipip.versions", laid_palanquin_ipip_versions)] }
def GreSumsSaid : Prop := greSumsRow.holds Tryd.pinned (OpenSpec.ofChange greSumsSpec)

/-- ITS FALSE NEIGHBOUR: 'it returns false'. Refute it at one input. -/
def greSumsWrong : ChangeSpec := { name := "greSums", fn := fun _ => fun
  | [d1, d2, d3, d4] => { results := [.lit (.bool false)], args := [d1, d2, d3, d4] }
  | _ => none }
def GreSumsWrongFalsely : Prop := greSumsRow.holds Tryd.pinned (OpenSpec.ofChange greSumsWrong)

/-- 'palanquinlaw12.GreParts': WHATEVER THE INPUT: true; the input reads as it did. -/
def grePartsSpec : ChangeSpec := { name := "greParts", fn := fun _ => fun
  | [d1, d2, d3] => { results := [.lit (.bool true)], args := [d1, d2, d3] }
  | _ => none }
def grePartsRow : OpenClaim := { program := "ytcmalglippmocaadoor", sum := "9c09ec45efb76415b36dfe48245d506d38b856dea396f73991384925f89b7261", func := "palanquin/palanquinlaw12.GreParts", spec := "greParts", inPlace := ["internal/abi.NoEscape"], unfollowed := true, recurses := true, named := ["palanquin/ipip.versions"], apart := false, laid := [("palanquin/ipip.versions", laid_palanquin_ipip_versions)] }
def GrePartsSaid : Prop := grePartsRow.holds Tryd.pinned (OpenSpec.ofChange grePartsSpec)

/-- ITS FALSE NEIGHBOUR: 'it returns false'. Refute it at one input. -/
def grePartsWrong : ChangeSpec := { name := "greParts", fn := fun _ => fun
  | [d1, d2, d3] => { results := [.lit (.bool false)], args := [d1, d2, d3] }
  | _ => none }
def GrePartsWrongFalsely : Prop := grePartsRow.holds Tryd.pinned (OpenSpec.ofChange grePartsWrong)

/-- 'palanquinlaw13.GueTells': WHATEVER THE INPUT: true; the input reads as it did. -/
def gueTellsSpec : ChangeSpec := { name := "gueTells", fn := fun _ => fun
  | [d1, d2, d3, d4, d5, d6] => { results := [.lit (.bool true)], args := [d1, d2, d3, d4, d5, d6] }
  | _ => none }
def gueTellsRow : OpenClaim := { program := "ytcmalglippmocaadoor", sum := "9c09ec45efb76415b36dfe48245d506d38b856dea396f73991384925f89b7261", func := "palanquin/palanquinlaw13.GueTells", spec := "gueTells", inPlace := ["internal/abi.NoEscape"], unfollowed := true, recurses := true, named := ["palanquin/ipip.versions", "palanquin/flow.places", "palanquin/flow.least"], apart := false, laid := [("palanquin/ipip.versions", laid_palanquin_ipip_versions), ("palanquin/flow.places", laid_palanquin_flow_places), ("palanquin/flow.least", laid_palanquin_flow_least)] }
def GueTellsSaid : Prop := gueTellsRow.holds Tryd.pinned (OpenSpec.ofChange gueTellsSpec)

/-- ITS FALSE NEIGHBOUR: 'it returns false'. Refute it at one input. -/
def gueTellsWrong : ChangeSpec := { name := "gueTells", fn := fun _ => fun
  | [d1, d2, d3, d4, d5, d6] => { results := [.lit (.bool false)], args := [d1, d2, d3, d4, d5, d6] }
  | _ => none }
def GueTellsWrongFalsely : Prop := gueTellsRow.holds Tryd.pinned (OpenSpec.ofChange gueTellsWrong)

/-- 'palanquinlaw13.GueBack': WHATEVER THE INPUT: true; the input reads as it did. -/
def gueBackSpec : ChangeSpec := { name := "gueBack", fn := fun _ => fun
  | [d1, d2, d3, d4, d5, d6] => { results := [.lit (.bool true)], args := [d1, d2, d3, d4, d5, d6] }
  | _ => none }
def gueBackRow : OpenClaim := { program := "ytcmalglippmocaadoor", sum := "9c09ec45efb76415b36dfe48245d506d38b856dea396f73991384925f89b7261", func := "palanquin/palanquinlaw13.GueBack", spec := "gueBack", inPlace := ["internal/abi.NoEscape"], unfollowed := true, recurses := true, named := ["palanquin/ipip.versions", "palanquin/flow.places", "palanquin/flow.least"], apart := false, laid := [("palanquin/ipip.versions", laid_palanquin_ipip_versions), ("palanquin/flow.places", laid_palanquin_flow_places), ("palanquin/flow.least", laid_palanquin_flow_least)] }
def GueBackSaid : Prop := gueBackRow.holds Tryd.pinned (OpenSpec.ofChange gueBackSpec)

/-- ITS FALSE NEIGHBOUR: 'it returns false'. Refute it at one input. -/
def gueBackWrong : ChangeSpec := { name := "gueBack", fn := fun _ => fun
  | [d1, d2, d3, d4, d5, d6] => { results := [.lit (.bool false)], args := [d1, d2, d3, d4, d5, d6] }
  | _ => none }
def GueBackWrongFalsely : Prop := gueBackRow.holds Tryd.pinned (OpenSpec.ofChange gueBackWrong)

/-- 'palanquinlaw13.GueSums': WHATEVER THE INPUT: true; the input reads as it did. -/
def gueSumsSpec : ChangeSpec := { name := "gueSums", fn := fun _ => fun
  | [d1, d2, d3] => { results := [.lit (.bool true)], args := [d1, d2, d3] }
  | _ => none }
def gueSumsRow : OpenClaim := { program := "ytcmalglippmocaadoor", sum := "9c09ec45efb76415b36dfe48245d506d38b856dea396f73991384925f89b7261", func := "palanquin/palanquinlaw13.GueSums", spec := "gueSums", inPlace := ["internal/abi.NoEscape"], unfollowed := true, recurses := true, named := ["palanquin/ipip.versions", "palanquin/flow.places", "palanquin/flow.least"], apart := false, laid := [("palanquin/ipip.versions", laid_palanquin_ipip_versions), ("palanquin/flow.places", laid_palanquin_flow_places), ("palanquin/flow.least", laid_palanquin_flow_least)] }
def GueSumsSaid : Prop := gueSumsRow.holds Tryd.pinned (OpenSpec.ofChange gueSumsSpec)

/-- ITS FALSE NEIGHBOUR: 'it returns false'. Refute it at one input. -/
def gueSumsWrong : ChangeSpec := { name := "gueSums", fn := fun _ => fun
  | [d1, d2, d3] => { results := [.lit (.bool false)], args := [d1, d2, d3] }
  | _ => none }
def GueSumsWrongFalsely : Prop := gueSumsRow.holds Tryd.pinned (OpenSpec.ofChange gueSumsWrong)

/-- 'palanquinlaw13.GuePorts': WHATEVER THE INPUT: true; the input reads as it did. -/
def guePortsSpec : ChangeSpec := { name := "guePorts", fn := fun _ => fun
  | [d1, d2, d3, d4, d5, d6] => { results := [.lit (.bool true)], args := [d1, d2, d3, d4, d5, d6] }
  | _ => none }
def guePortsRow : OpenClaim := { program := "ytcmalglippmocaadoor", sum := "9c09ec45efb76415b36dfe48245d506d38b856dea396f73991384925f89b7261", func := "palanquin/palanquinlaw13.GuePorts", spec := "guePorts", inPlace := ["internal/abi.NoEscape"], unfollowed := true, recurses := true, named := ["palanquin/ipip.versions", "palanquin/flow.places", "palanquin/flow.least"], apart := false, laid := [("palanquin/ipip.versions", laid_palanquin_ipip_versions), ("palanquin/flow.places", laid_palanquin_flow_places), ("palanquin/flow.least", laid_palanquin_flow_least)] }
def GuePortsSaid : Prop := guePortsRow.holds Tryd.pinned (OpenSpec.ofChange guePortsSpec)

/-- ITS FALSE NEIGHBOUR: 'it returns false'. Refute it at one input. -/
def guePortsWrong : ChangeSpec := { name := "guePorts", fn := fun _ => fun
  | [d1, d2, d3, d4, d5, d6] => { results := [.lit (.bool false)], args := [d1, d2, d3, d4, d5, d6] }
  | _ => none }
def GuePortsWrongFalsely : Prop := guePortsRow.holds Tryd.pinned (OpenSpec.ofChange guePortsWrong)

/-- 'palanquinlaw09.FlowSeals': WHATEVER THE INPUT: true; the input reads as it did. -/
def flowSealsSpec : ChangeSpec := { name := "flowSeals", fn := fun _ => fun
  | [d1, d2, d3, d4] => { results := [.lit (.bool true)], args := [d1, d2, d3, d4] }
  | _ => none }
def flowSealsRow : OpenClaim := { program := "ytcmalglippmocaadoor", sum := "9c09ec45efb76415b36dfe48245d506d38b856dea396f73991384925f89b7261", func := "palanquin/palanquinlaw09.FlowSeals", spec := "flowSeals", inPlace := ["internal/abi.NoEscape"], unfollowed := true, recurses := true, named := ["palanquin/flow.places", "palanquin/flow.least"], apart := false, laid := [("palanquin/flow.places", laid_palanquin_flow_places), ("palanquin/flow.least", laid_palanquin_flow_least)] }
def FlowSealsSaid : Prop := flowSealsRow.holds Tryd.pinned (OpenSpec.ofChange flowSealsSpec)

/-- ITS FALSE NEIGHBOUR: 'it returns false'. Refute it at one input. -/
def flowSealsWrong : ChangeSpec := { name := "flowSeals", fn := fun _ => fun
  | [d1, d2, d3, d4] => { results := [.lit (.bool false)], args := [d1, d2, d3, d4] }
  | _ => none }
def FlowSealsWrongFalsely : Prop := flowSealsRow.holds Tryd.pinned (OpenSpec.ofChange flowSealsWrong)

/-- 'palanquinlaw09.FlowBuilds': WHATEVER THE INPUT: true; the input reads as it did. -/
def flowBuildsSpec : ChangeSpec := { name := "flowBuilds", fn := fun _ => fun
  | [d1, d2, d3, d4] => { results := [.lit (.bool true)], args := [d1, d2, d3, d4] }
  | _ => none }
def flowBuildsRow : OpenClaim := { program := "ytcmalglippmocaadoor", sum := "9c09ec45efb76415b36dfe48245d506d38b856dea396f73991384925f89b7261", func := "palanquin/palanquinlaw09.FlowBuilds", spec := "flowBuilds", inPlace := ["internal/abi.NoEscape"], unfollowed := true, recurses := true, named := ["palanquin/flow.places", "palanquin/flow.least"], apart := false, laid := [("palanquin/flow.places", laid_palanquin_flow_places), ("palanquin/flow.least", laid_palanquin_flow_least)] }
def FlowBuildsSaid : Prop := flowBuildsRow.holds Tryd.pinned (OpenSpec.ofChange flowBuildsSpec)

/-- ITS FALSE NEIGHBOUR: 'it returns false'. Refute it at one input. -/
def flowBuildsWrong : ChangeSpec := { name := "flowBuilds", fn := fun _ => fun
  | [d1, d2, d3, d4] => { results := [.lit (.bool false)], args := [d1, d2, d3, d4] }
  | _ => none }
def FlowBuildsWrongFalsely : Prop := flowBuildsRow.holds Tryd.pinned (OpenSpec.ofChange flowBuildsWrong)

/-- 'palanquinlaw09.FlowValid': WHATEVER THE INPUT: true; the input reads as it did. -/
def flowValidSpec : ChangeSpec := { name := "flowValid", fn := fun _ => fun
  | [d1, d2, d3, d4, d5] => { results := [.lit (.bool true)], args := [d1, d2, d3, d4, d5] }
  | _ => none }
def flowValidRow : OpenClaim := { program := "ytcmalglippmocaadoor", sum := "9c09ec45efb76415b36dfe48245d506d38b856dea396f73991384925f89b7261", func := "palanquin/palanquinlaw09.FlowValid", spec := "flowValid", inPlace := ["internal/abi.NoEscape"], unfollowed := true, recurses := true, named := ["palanquin/flow.places", "palanquin/flow.least"], apart := false, laid := [("palanquin/flow.places", laid_palanquin_flow_places), ("palanquin/flow.least", laid_palanquin_flow_least)] }
def FlowValidSaid : Prop := flowValidRow.holds Tryd.pinned (OpenSpec.ofChange flowValidSpec)

/-- ITS FALSE NEIGHBOUR: 'it returns false'. Refute it at one input. -/
def flowValidWrong : ChangeSpec := { name := "flowValid", fn := fun _ => fun
  | [d1, d2, d3, d4, d5] => { results := [.lit (.bool false)], args := [d1, d2, d3, d4, d5] }
  | _ => none }
def FlowValidWrongFalsely : Prop := flowValidRow.holds Tryd.pinned (OpenSpec.ofChange flowValidWrong)

/-- 'palanquinlaw14.TunnelBack': WHATEVER THE INPUT: true; the input reads as it did. -/
def tunnelBackSpec : ChangeSpec := { name := "tunnelBack", fn := fun _ => fun
  | [d1, d2, d3] => { results := [.lit (.bool true)], args := [d1, d2, d3] }
  | _ => none }
def tunnelBackRow : OpenClaim := { program := "ytcmalglippmocaadoor", sum := "9c09ec45efb76415b36dfe48245d506d38b856dea396f73991384925f89b7261", func := "palanquin/palanquinlaw14.TunnelBack", spec := "tunnelBack", inPlace := ["internal/abi.NoEscape"], unfollowed := true, recurses := true, named := ["palanquin/ipip.versions", "palanquin/flow.places", "palanquin/flow.least"], apart := false, laid := [("palanquin/ipip.versions", laid_palanquin_ipip_versions), ("palanquin/flow.places", laid_palanquin_flow_places), ("palanquin/flow.least", laid_palanquin_flow_least)] }
def TunnelBackSaid : Prop := tunnelBackRow.holds Tryd.pinned (OpenSpec.ofChange tunnelBackSpec)

/-- ITS FALSE NEIGHBOUR: 'it returns false'. Refute it at one input. -/
def tunnelBackWrong : ChangeSpec := { name := "tunnelBack", fn := fun _ => fun
  | [d1, d2, d3] => { results := [.lit (.bool false)], args := [d1, d2, d3] }
  | _ => none }
def TunnelBackWrongFalsely : Prop := tunnelBackRow.holds Tryd.pinned (OpenSpec.ofChange tunnelBackWrong)

/-- 'palanquinlaw14.TunnelFields': WHATEVER THE INPUT: true; the input reads as it did. -/
def tunnelFieldsSpec : ChangeSpec := { name := "tunnelFields", fn := fun _ => fun
  | [d1, d2, d3, d4, d5, d6] => { results := [.lit (.bool true)], args := [d1, d2, d3, d4, d5, d6] }
  | _ => none }
def tunnelFieldsRow : OpenClaim := { program := "ytcmalglippmocaadoor", sum := "9c09ec45efb76415b36dfe48245d506d38b856dea396f73991384925f89b7261", func := "palanquin/palanquinlaw14.TunnelFields", spec := "tunnelFields", inPlace := ["internal/abi.NoEscape"], unfollowed := true, recurses := true, named := ["palanquin/ipip.versions", "palanquin/flow.places", "palanquin/flow.least"], apart := false, laid := [("palanquin/ipip.versions", laid_palanquin_ipip_versions), ("palanquin/flow.places", laid_palanquin_flow_places), ("palanquin/flow.least", laid_palanquin_flow_least)] }
def TunnelFieldsSaid : Prop := tunnelFieldsRow.holds Tryd.pinned (OpenSpec.ofChange tunnelFieldsSpec)

/-- ITS FALSE NEIGHBOUR: 'it returns false'. Refute it at one input. -/
def tunnelFieldsWrong : ChangeSpec := { name := "tunnelFields", fn := fun _ => fun
  | [d1, d2, d3, d4, d5, d6] => { results := [.lit (.bool false)], args := [d1, d2, d3, d4, d5, d6] }
  | _ => none }
def TunnelFieldsWrongFalsely : Prop := tunnelFieldsRow.holds Tryd.pinned (OpenSpec.ofChange tunnelFieldsWrong)

/-- 'palanquinlaw14.TunnelBits': WHATEVER THE INPUT: true; the input reads as it did. -/
def tunnelBitsSpec : ChangeSpec := { name := "tunnelBits", fn := fun _ => fun
  | [d1, d2, d3] => { results := [.lit (.bool true)], args := [d1, d2, d3] }
  | _ => none }
def tunnelBitsRow : OpenClaim := { program := "ytcmalglippmocaadoor", sum := "9c09ec45efb76415b36dfe48245d506d38b856dea396f73991384925f89b7261", func := "palanquin/palanquinlaw14.TunnelBits", spec := "tunnelBits", inPlace := ["internal/abi.NoEscape"], unfollowed := true, recurses := true, named := ["palanquin/ipip.versions", "palanquin/flow.places", "palanquin/flow.least"], apart := false, laid := [("palanquin/ipip.versions", laid_palanquin_ipip_versions), ("palanquin/flow.places", laid_palanquin_flow_places), ("palanquin/flow.least", laid_palanquin_flow_least)] }
def TunnelBitsSaid : Prop := tunnelBitsRow.holds Tryd.pinned (OpenSpec.ofChange tunnelBitsSpec)

/-- ITS FALSE NEIGHBOUR: 'it returns false'. Refute it at one input. -/
def tunnelBitsWrong : ChangeSpec := { name := "tunnelBits", fn := fun _ => fun
  | [d1, d2, d3] => { results := [.lit (.bool false)], args := [d1, d2, d3] }
  | _ => none }
def TunnelBitsWrongFalsely : Prop := tunnelBitsRow.holds Tryd.pinned (OpenSpec.ofChange tunnelBitsWrong)

/- THE SECOND FORM. 'bulk': how many values and letters a reading holds, each counted each time it is reached (what is shared counts as often as it is met; a slice's spare places count too). A statement '..UptoSaid' is the law's where the arguments, and the package variables that the reading takes, are together of bulk at most 1048576: NARROWER than '..Said'. Prove '..Said' where nothing that the law and all that it calls make is longer than what came in: it says more and counts as full. Else prove '..UptoSaid'. A law counts once. -/
mutual
def uptoBulk {H : Type} : DataW H → Nat
  | .lit (.string bytes) => bytes.length + 1
  | .lit _ => 1
  | .nil => 1
  | .ptr d => uptoBulk d + 1
  | .slice elems spare => uptoBulkAll elems + uptoBulkAll spare + 1
  | .agg parts => uptoBulkAll parts + 1
  | .iface _ d => uptoBulk d + 1
  | .map entries => uptoBulkEntries entries + 1
  | .held _ => 1
def uptoBulkAll {H : Type} : List (DataW H) → Nat
  | [] => 0
  | d :: r => uptoBulk d + uptoBulkAll r
def uptoBulkEntries {H : Type} : List (Lit × DataW H) → Nat
  | [] => 0
  | x :: r => uptoBulkEntry x + uptoBulkEntries r
def uptoBulkEntry {H : Type} : Lit × DataW H → Nat
  | (.string bytes, d) => bytes.length + uptoBulk d + 1
  | (_, d) => uptoBulk d + 1
 end
def uptoSmall : (H : Type) → List (DataW H) → Bool := fun _ ds => decide (uptoBulkAll ds ≤ 1048576)
def OpenSpec.upto (s : _root_.Go.ChangeSpec) : _root_.Go.OpenSpec := { _root_.Go.OpenSpec.ofChange s with cond := some uptoSmall }

/-- 'palanquinlaw11.IpipFirst', WHERE WHAT IT READS IS OF BULK AT MOST 1048576: true; the input reads as it did. -/
def ipipFirstUptoRow : OpenClaim := { program := "ytcmalglippmocaadoor", sum := "9c09ec45efb76415b36dfe48245d506d38b856dea396f73991384925f89b7261", func := "palanquin/palanquinlaw11.IpipFirst", spec := "ipipFirst", named := ["palanquin/ipip.versions"], apart := false, laid := [("palanquin/ipip.versions", laid_palanquin_ipip_versions)], narrowed := true }
def IpipFirstUptoSaid : Prop := ipipFirstUptoRow.holds Tryd.pinned (OpenSpec.upto ipipFirstSpec)

/-- 'palanquinlaw11.IpipBack', WHERE WHAT IT READS IS OF BULK AT MOST 1048576: true; the input reads as it did. -/
def ipipBackUptoRow : OpenClaim := { program := "ytcmalglippmocaadoor", sum := "9c09ec45efb76415b36dfe48245d506d38b856dea396f73991384925f89b7261", func := "palanquin/palanquinlaw11.IpipBack", spec := "ipipBack", named := ["palanquin/ipip.versions"], apart := false, laid := [("palanquin/ipip.versions", laid_palanquin_ipip_versions)], narrowed := true }
def IpipBackUptoSaid : Prop := ipipBackUptoRow.holds Tryd.pinned (OpenSpec.upto ipipBackSpec)

/-- 'palanquinlaw11.IpipTells', WHERE WHAT IT READS IS OF BULK AT MOST 1048576: true; the input reads as it did. -/
def ipipTellsUptoRow : OpenClaim := { program := "ytcmalglippmocaadoor", sum := "9c09ec45efb76415b36dfe48245d506d38b856dea396f73991384925f89b7261", func := "palanquin/palanquinlaw11.IpipTells", spec := "ipipTells", named := ["palanquin/ipip.versions"], apart := false, laid := [("palanquin/ipip.versions", laid_palanquin_ipip_versions)], narrowed := true }
def IpipTellsUptoSaid : Prop := ipipTellsUptoRow.holds Tryd.pinned (OpenSpec.upto ipipTellsSpec)

/-- 'palanquinlaw12.GreTells', WHERE WHAT IT READS IS OF BULK AT MOST 1048576: true; the input reads as it did. -/
def greTellsUptoRow : OpenClaim := { program := "ytcmalglippmocaadoor", sum := "9c09ec45efb76415b36dfe48245d506d38b856dea396f73991384925f89b7261", func := "palanquin/palanquinlaw12.GreTells", spec := "greTells", inPlace := ["internal/abi.NoEscape"], unfollowed := true, recurses := true, named := ["palanquin/ipip.versions"], apart := false, laid := [("palanquin/ipip.versions", laid_palanquin_ipip_versions)], narrowed := true }
def GreTellsUptoSaid : Prop := greTellsUptoRow.holds Tryd.pinned (OpenSpec.upto greTellsSpec)

/-- 'palanquinlaw12.GreBack', WHERE WHAT IT READS IS OF BULK AT MOST 1048576: true; the input reads as it did. -/
def greBackUptoRow : OpenClaim := { program := "ytcmalglippmocaadoor", sum := "9c09ec45efb76415b36dfe48245d506d38b856dea396f73991384925f89b7261", func := "palanquin/palanquinlaw12.GreBack", spec := "greBack", inPlace := ["internal/abi.NoEscape"], unfollowed := true, recurses := true, named := ["palanquin/ipip.versions"], apart := false, laid := [("palanquin/ipip.versions", laid_palanquin_ipip_versions)], narrowed := true }
def GreBackUptoSaid : Prop := greBackUptoRow.holds Tryd.pinned (OpenSpec.upto greBackSpec)

/-- 'palanquinlaw12.GreSums', WHERE WHAT IT READS IS OF BULK AT MOST 1048576: true; the input reads as it did. -/
def greSumsUptoRow : OpenClaim := { program := "ytcmalglippmocaadoor", sum := "9c09ec45efb76415b36dfe48245d506d38b856dea396f73991384925f89b7261", func := "palanquin/palanquinlaw12.GreSums", spec := "greSums", inPlace := ["internal/abi.NoEscape"], unfollowed := true, recurses := true, named := ["palanquin/ipip.versions"], apart := false, laid := [("palanquin/ipip.versions", laid_palanquin_ipip_versions)], narrowed := true }
def GreSumsUptoSaid : Prop := greSumsUptoRow.holds Tryd.pinned (OpenSpec.upto greSumsSpec)

/-- 'palanquinlaw12.GreParts', WHERE WHAT IT READS IS OF BULK AT MOST 1048576: true; the input reads as it did. -/
def grePartsUptoRow : OpenClaim := { program := "ytcmalglippmocaadoor", sum := "9c09ec45efb76415b36dfe48245d506d38b856dea396f73991384925f89b7261", func := "palanquin/palanquinlaw12.GreParts", spec := "greParts", inPlace := ["internal/abi.NoEscape"], unfollowed := true, recurses := true, named := ["palanquin/ipip.versions"], apart := false, laid := [("palanquin/ipip.versions", laid_palanquin_ipip_versions)], narrowed := true }
def GrePartsUptoSaid : Prop := grePartsUptoRow.holds Tryd.pinned (OpenSpec.upto grePartsSpec)

/-- 'palanquinlaw13.GueTells', WHERE WHAT IT READS IS OF BULK AT MOST 1048576: true; the input reads as it did. -/
def gueTellsUptoRow : OpenClaim := { program := "ytcmalglippmocaadoor", sum := "9c09ec45efb76415b36dfe48245d506d38b856dea396f73991384925f89b7261", func := "palanquin/palanquinlaw13.GueTells", spec := "gueTells", inPlace := ["internal/abi.NoEscape"], unfollowed := true, recurses := true, named := ["palanquin/ipip.versions", "palanquin/flow.places", "palanquin/flow.least"], apart := false, laid := [("palanquin/ipip.versions", laid_palanquin_ipip_versions), ("palanquin/flow.places", laid_palanquin_flow_places), ("palanquin/flow.least", laid_palanquin_flow_least)], narrowed := true }
def GueTellsUptoSaid : Prop := gueTellsUptoRow.holds Tryd.pinned (OpenSpec.upto gueTellsSpec)

/-- 'palanquinlaw13.GueBack', WHERE WHAT IT READS IS OF BULK AT MOST 1048576: true; the input reads as it did. -/
def gueBackUptoRow : OpenClaim := { program := "ytcmalglippmocaadoor", sum := "9c09ec45efb76415b36dfe48245d506d38b856dea396f73991384925f89b7261", func := "palanquin/palanquinlaw13.GueBack", spec := "gueBack", inPlace := ["internal/abi.NoEscape"], unfollowed := true, recurses := true, named := ["palanquin/ipip.versions", "palanquin/flow.places", "palanquin/flow.least"], apart := false, laid := [("palanquin/ipip.versions", laid_palanquin_ipip_versions), ("palanquin/flow.places", laid_palanquin_flow_places), ("palanquin/flow.least", laid_palanquin_flow_least)], narrowed := true }
def GueBackUptoSaid : Prop := gueBackUptoRow.holds Tryd.pinned (OpenSpec.upto gueBackSpec)

/-- 'palanquinlaw13.GueSums', WHERE WHAT IT READS IS OF BULK AT MOST 1048576: true; the input reads as it did. -/
def gueSumsUptoRow : OpenClaim := { program := "ytcmalglippmocaadoor", sum := "9c09ec45efb76415b36dfe48245d506d38b856dea396f73991384925f89b7261", func := "palanquin/palanquinlaw13.GueSums", spec := "gueSums", inPlace := ["internal/abi.NoEscape"], unfollowed := true, recurses := true, named := ["palanquin/ipip.versions", "palanquin/flow.places", "palanquin/flow.least"], apart := false, laid := [("palanquin/ipip.versions", laid_palanquin_ipip_versions), ("palanquin/flow.places", laid_palanquin_flow_places), ("palanquin/flow.least", laid_palanquin_flow_least)], narrowed := true }
def GueSumsUptoSaid : Prop := gueSumsUptoRow.holds Tryd.pinned (OpenSpec.upto gueSumsSpec)

/-- 'palanquinlaw13.GuePorts', WHERE WHAT IT READS IS OF BULK AT MOST 1048576: true; the input reads as it did. -/
def guePortsUptoRow : OpenClaim := { program := "ytcmalglippmocaadoor", sum := "9c09ec45efb76415b36dfe48245d506d38b856dea396f73991384925f89b7261", func := "palanquin/palanquinlaw13.GuePorts", spec := "guePorts", inPlace := ["internal/abi.NoEscape"], unfollowed := true, recurses := true, named := ["palanquin/ipip.versions", "palanquin/flow.places", "palanquin/flow.least"], apart := false, laid := [("palanquin/ipip.versions", laid_palanquin_ipip_versions), ("palanquin/flow.places", laid_palanquin_flow_places), ("palanquin/flow.least", laid_palanquin_flow_least)], narrowed := true }
def GuePortsUptoSaid : Prop := guePortsUptoRow.holds Tryd.pinned (OpenSpec.upto guePortsSpec)

/-- 'palanquinlaw09.FlowSeals', WHERE WHAT IT READS IS OF BULK AT MOST 1048576: true; the input reads as it did. -/
def flowSealsUptoRow : OpenClaim := { program := "ytcmalglippmocaadoor", sum := "9c09ec45efb76415b36dfe48245d506d38b856dea396f73991384925f89b7261", func := "palanquin/palanquinlaw09.FlowSeals", spec := "flowSeals", inPlace := ["internal/abi.NoEscape"], unfollowed := true, recurses := true, named := ["palanquin/flow.places", "palanquin/flow.least"], apart := false, laid := [("palanquin/flow.places", laid_palanquin_flow_places), ("palanquin/flow.least", laid_palanquin_flow_least)], narrowed := true }
def FlowSealsUptoSaid : Prop := flowSealsUptoRow.holds Tryd.pinned (OpenSpec.upto flowSealsSpec)

/-- 'palanquinlaw09.FlowBuilds', WHERE WHAT IT READS IS OF BULK AT MOST 1048576: true; the input reads as it did. -/
def flowBuildsUptoRow : OpenClaim := { program := "ytcmalglippmocaadoor", sum := "9c09ec45efb76415b36dfe48245d506d38b856dea396f73991384925f89b7261", func := "palanquin/palanquinlaw09.FlowBuilds", spec := "flowBuilds", inPlace := ["internal/abi.NoEscape"], unfollowed := true, recurses := true, named := ["palanquin/flow.places", "palanquin/flow.least"], apart := false, laid := [("palanquin/flow.places", laid_palanquin_flow_places), ("palanquin/flow.least", laid_palanquin_flow_least)], narrowed := true }
def FlowBuildsUptoSaid : Prop := flowBuildsUptoRow.holds Tryd.pinned (OpenSpec.upto flowBuildsSpec)

/-- 'palanquinlaw09.FlowValid', WHERE WHAT IT READS IS OF BULK AT MOST 1048576: true; the input reads as it did. -/
def flowValidUptoRow : OpenClaim := { program := "ytcmalglippmocaadoor", sum := "9c09ec45efb76415b36dfe48245d506d38b856dea396f73991384925f89b7261", func := "palanquin/palanquinlaw09.FlowValid", spec := "flowValid", inPlace := ["internal/abi.NoEscape"], unfollowed := true, recurses := true, named := ["palanquin/flow.places", "palanquin/flow.least"], apart := false, laid := [("palanquin/flow.places", laid_palanquin_flow_places), ("palanquin/flow.least", laid_palanquin_flow_least)], narrowed := true }
def FlowValidUptoSaid : Prop := flowValidUptoRow.holds Tryd.pinned (OpenSpec.upto flowValidSpec)

/-- 'palanquinlaw14.TunnelBack', WHERE WHAT IT READS IS OF BULK AT MOST 1048576: true; the input reads as it did. -/
def tunnelBackUptoRow : OpenClaim := { program := "ytcmalglippmocaadoor", sum := "9c09ec45efb76415b36dfe48245d506d38b856dea396f73991384925f89b7261", func := "palanquin/palanquinlaw14.TunnelBack", spec := "tunnelBack", inPlace := ["internal/abi.NoEscape"], unfollowed := true, recurses := true, named := ["palanquin/ipip.versions", "palanquin/flow.places", "palanquin/flow.least"], apart := false, laid := [("palanquin/ipip.versions", laid_palanquin_ipip_versions), ("palanquin/flow.places", laid_palanquin_flow_places), ("palanquin/flow.least", laid_palanquin_flow_least)], narrowed := true }
def TunnelBackUptoSaid : Prop := tunnelBackUptoRow.holds Tryd.pinned (OpenSpec.upto tunnelBackSpec)

/-- 'palanquinlaw14.TunnelFields', WHERE WHAT IT READS IS OF BULK AT MOST 1048576: true; the input reads as it did. -/
def tunnelFieldsUptoRow : OpenClaim := { program := "ytcmalglippmocaadoor", sum := "9c09ec45efb76415b36dfe48245d506d38b856dea396f73991384925f89b7261", func := "palanquin/palanquinlaw14.TunnelFields", spec := "tunnelFields", inPlace := ["internal/abi.NoEscape"], unfollowed := true, recurses := true, named := ["palanquin/ipip.versions", "palanquin/flow.places", "palanquin/flow.least"], apart := false, laid := [("palanquin/ipip.versions", laid_palanquin_ipip_versions), ("palanquin/flow.places", laid_palanquin_flow_places), ("palanquin/flow.least", laid_palanquin_flow_least)], narrowed := true }
def TunnelFieldsUptoSaid : Prop := tunnelFieldsUptoRow.holds Tryd.pinned (OpenSpec.upto tunnelFieldsSpec)

/-- 'palanquinlaw14.TunnelBits', WHERE WHAT IT READS IS OF BULK AT MOST 1048576: true; the input reads as it did. -/
def tunnelBitsUptoRow : OpenClaim := { program := "ytcmalglippmocaadoor", sum := "9c09ec45efb76415b36dfe48245d506d38b856dea396f73991384925f89b7261", func := "palanquin/palanquinlaw14.TunnelBits", spec := "tunnelBits", inPlace := ["internal/abi.NoEscape"], unfollowed := true, recurses := true, named := ["palanquin/ipip.versions", "palanquin/flow.places", "palanquin/flow.least"], apart := false, laid := [("palanquin/ipip.versions", laid_palanquin_ipip_versions), ("palanquin/flow.places", laid_palanquin_flow_places), ("palanquin/flow.least", laid_palanquin_flow_least)], narrowed := true }
def TunnelBitsUptoSaid : Prop := tunnelBitsUptoRow.holds Tryd.pinned (OpenSpec.upto tunnelBitsSpec)

end Rows
end Go.Proofs.YtcmalglippmocaaDoor
