/-
  DERIVED. GIVEN WITH THE SEED: THE CARDS: each row of YtcmalglippmocaaDoorRows.lean that lists a variable, with what it lists TIED to the program's text (the seventh form; the later family's looks); each row that meets fmt, with fmt's text TOLD by the authors' own Lean function (tested against real Go, not proved from fmt's source: count such statements apart). THE CARD IS WHAT COUNTS. Prove the row's statement (the work); the ties are given (YtcmalglippmocaaDoorTie.lean); close each card by the builder's one call (the guide's Derived/Test/ToyasCard.lean, 'card_holds'). Laid BY PROGRAM, IN A SANDBOX (cutbox-door.mjs). By AI agents, Wed Nov 11 2026. No macro, syntax, notation, axiom, sorry.
-/
import Derived.Test.YtcmalglippmocaaDoorRows
import GoSem.ClaimSeven
namespace Go.Proofs.YtcmalglippmocaaDoor
namespace Rows

/-- THE TIED CARD OF 'palanquinlaw11.IpipFirst'. -/
def ipipFirstCard : Claim7 := { stood := { row := ipipFirstRow, standIns := [], harness := (true, "c64ecd137dc2358eaebb109ba629abceb99b50cfce708964a226cc9f102c8b06"), looks := true }, kinds := [], alts := [], laidByText := true, laidKinds := [.data], laidTests := true, laidLooks := .later }
def IpipFirstCardSaid : Prop := Claim7.holds Tryd.pinned (.plain (OpenSpec.ofChange ipipFirstSpec)) ipipFirstCard

/-- THE TIED CARD OF 'palanquinlaw11.IpipBack'. -/
def ipipBackCard : Claim7 := { stood := { row := ipipBackRow, standIns := [], harness := (true, "c64ecd137dc2358eaebb109ba629abceb99b50cfce708964a226cc9f102c8b06"), looks := true }, kinds := [], alts := [], laidByText := true, laidKinds := [.data], laidTests := true, laidLooks := .later }
def IpipBackCardSaid : Prop := Claim7.holds Tryd.pinned (.plain (OpenSpec.ofChange ipipBackSpec)) ipipBackCard

/-- THE TIED CARD OF 'palanquinlaw11.IpipTells'. -/
def ipipTellsCard : Claim7 := { stood := { row := ipipTellsRow, standIns := [], harness := (true, "c64ecd137dc2358eaebb109ba629abceb99b50cfce708964a226cc9f102c8b06"), looks := true }, kinds := [], alts := [], laidByText := true, laidKinds := [.data], laidTests := true, laidLooks := .later }
def IpipTellsCardSaid : Prop := Claim7.holds Tryd.pinned (.plain (OpenSpec.ofChange ipipTellsSpec)) ipipTellsCard

/-- THE TIED CARD OF 'palanquinlaw12.GreTells'. -/
def greTellsCard : Claim7 := { stood := { row := greTellsRow, standIns := [], harness := (true, "c64ecd137dc2358eaebb109ba629abceb99b50cfce708964a226cc9f102c8b06"), looks := true }, kinds := [], alts := [], laidByText := true, laidKinds := [.data], laidTests := true, laidLooks := .later }
def GreTellsCardSaid : Prop := Claim7.holds Tryd.pinned (.plain (OpenSpec.ofChange greTellsSpec)) greTellsCard

/-- THE TIED CARD OF 'palanquinlaw12.GreBack'. -/
def greBackCard : Claim7 := { stood := { row := greBackRow, standIns := [], harness := (true, "c64ecd137dc2358eaebb109ba629abceb99b50cfce708964a226cc9f102c8b06"), looks := true }, kinds := [], alts := [], laidByText := true, laidKinds := [.data], laidTests := true, laidLooks := .later }
def GreBackCardSaid : Prop := Claim7.holds Tryd.pinned (.plain (OpenSpec.ofChange greBackSpec)) greBackCard

/-- THE TIED CARD OF 'palanquinlaw12.GreSums'. -/
def greSumsCard : Claim7 := { stood := { row := greSumsRow, standIns := [], harness := (true, "c64ecd137dc2358eaebb109ba629abceb99b50cfce708964a226cc9f102c8b06"), looks := true }, kinds := [], alts := [], laidByText := true, laidKinds := [.data], laidTests := true, laidLooks := .later }
def GreSumsCardSaid : Prop := Claim7.holds Tryd.pinned (.plain (OpenSpec.ofChange greSumsSpec)) greSumsCard

/-- THE TIED CARD OF 'palanquinlaw12.GreParts'. -/
def grePartsCard : Claim7 := { stood := { row := grePartsRow, standIns := [], harness := (true, "c64ecd137dc2358eaebb109ba629abceb99b50cfce708964a226cc9f102c8b06"), looks := true }, kinds := [], alts := [], laidByText := true, laidKinds := [.data], laidTests := true, laidLooks := .later }
def GrePartsCardSaid : Prop := Claim7.holds Tryd.pinned (.plain (OpenSpec.ofChange grePartsSpec)) grePartsCard

/-- THE TIED CARD OF 'palanquinlaw13.GueTells'. -/
def gueTellsCard : Claim7 := { stood := { row := gueTellsRow, standIns := [], harness := (true, "c64ecd137dc2358eaebb109ba629abceb99b50cfce708964a226cc9f102c8b06"), looks := true }, kinds := [], alts := [], laidByText := true, laidKinds := [.data, .data, .data], laidTests := true, laidLooks := .later }
def GueTellsCardSaid : Prop := Claim7.holds Tryd.pinned (.plain (OpenSpec.ofChange gueTellsSpec)) gueTellsCard

/-- THE TIED CARD OF 'palanquinlaw13.GueBack'. -/
def gueBackCard : Claim7 := { stood := { row := gueBackRow, standIns := [], harness := (true, "c64ecd137dc2358eaebb109ba629abceb99b50cfce708964a226cc9f102c8b06"), looks := true }, kinds := [], alts := [], laidByText := true, laidKinds := [.data, .data, .data], laidTests := true, laidLooks := .later }
def GueBackCardSaid : Prop := Claim7.holds Tryd.pinned (.plain (OpenSpec.ofChange gueBackSpec)) gueBackCard

/-- THE TIED CARD OF 'palanquinlaw13.GueSums'. -/
def gueSumsCard : Claim7 := { stood := { row := gueSumsRow, standIns := [], harness := (true, "c64ecd137dc2358eaebb109ba629abceb99b50cfce708964a226cc9f102c8b06"), looks := true }, kinds := [], alts := [], laidByText := true, laidKinds := [.data, .data, .data], laidTests := true, laidLooks := .later }
def GueSumsCardSaid : Prop := Claim7.holds Tryd.pinned (.plain (OpenSpec.ofChange gueSumsSpec)) gueSumsCard

/-- THE TIED CARD OF 'palanquinlaw13.GuePorts'. -/
def guePortsCard : Claim7 := { stood := { row := guePortsRow, standIns := [], harness := (true, "c64ecd137dc2358eaebb109ba629abceb99b50cfce708964a226cc9f102c8b06"), looks := true }, kinds := [], alts := [], laidByText := true, laidKinds := [.data, .data, .data], laidTests := true, laidLooks := .later }
def GuePortsCardSaid : Prop := Claim7.holds Tryd.pinned (.plain (OpenSpec.ofChange guePortsSpec)) guePortsCard

/-- THE TIED CARD OF 'palanquinlaw09.FlowSeals'. -/
def flowSealsCard : Claim7 := { stood := { row := flowSealsRow, standIns := [], harness := (true, "c64ecd137dc2358eaebb109ba629abceb99b50cfce708964a226cc9f102c8b06"), looks := true }, kinds := [], alts := [], laidByText := true, laidKinds := [.data, .data], laidTests := true, laidLooks := .later }
def FlowSealsCardSaid : Prop := Claim7.holds Tryd.pinned (.plain (OpenSpec.ofChange flowSealsSpec)) flowSealsCard

/-- THE TIED CARD OF 'palanquinlaw09.FlowBuilds'. -/
def flowBuildsCard : Claim7 := { stood := { row := flowBuildsRow, standIns := [], harness := (true, "c64ecd137dc2358eaebb109ba629abceb99b50cfce708964a226cc9f102c8b06"), looks := true }, kinds := [], alts := [], laidByText := true, laidKinds := [.data, .data], laidTests := true, laidLooks := .later }
def FlowBuildsCardSaid : Prop := Claim7.holds Tryd.pinned (.plain (OpenSpec.ofChange flowBuildsSpec)) flowBuildsCard

/-- THE TIED CARD OF 'palanquinlaw09.FlowValid'. -/
def flowValidCard : Claim7 := { stood := { row := flowValidRow, standIns := [], harness := (true, "c64ecd137dc2358eaebb109ba629abceb99b50cfce708964a226cc9f102c8b06"), looks := true }, kinds := [], alts := [], laidByText := true, laidKinds := [.data, .data], laidTests := true, laidLooks := .later }
def FlowValidCardSaid : Prop := Claim7.holds Tryd.pinned (.plain (OpenSpec.ofChange flowValidSpec)) flowValidCard

/-- THE TIED CARD OF 'palanquinlaw14.TunnelBack'. -/
def tunnelBackCard : Claim7 := { stood := { row := tunnelBackRow, standIns := [], harness := (true, "c64ecd137dc2358eaebb109ba629abceb99b50cfce708964a226cc9f102c8b06"), looks := true }, kinds := [], alts := [], laidByText := true, laidKinds := [.data, .data, .data], laidTests := true, laidLooks := .later }
def TunnelBackCardSaid : Prop := Claim7.holds Tryd.pinned (.plain (OpenSpec.ofChange tunnelBackSpec)) tunnelBackCard

/-- THE TIED CARD OF 'palanquinlaw14.TunnelFields'. -/
def tunnelFieldsCard : Claim7 := { stood := { row := tunnelFieldsRow, standIns := [], harness := (true, "c64ecd137dc2358eaebb109ba629abceb99b50cfce708964a226cc9f102c8b06"), looks := true }, kinds := [], alts := [], laidByText := true, laidKinds := [.data, .data, .data], laidTests := true, laidLooks := .later }
def TunnelFieldsCardSaid : Prop := Claim7.holds Tryd.pinned (.plain (OpenSpec.ofChange tunnelFieldsSpec)) tunnelFieldsCard

/-- THE TIED CARD OF 'palanquinlaw14.TunnelBits'. -/
def tunnelBitsCard : Claim7 := { stood := { row := tunnelBitsRow, standIns := [], harness := (true, "c64ecd137dc2358eaebb109ba629abceb99b50cfce708964a226cc9f102c8b06"), looks := true }, kinds := [], alts := [], laidByText := true, laidKinds := [.data, .data, .data], laidTests := true, laidLooks := .later }
def TunnelBitsCardSaid : Prop := Claim7.holds Tryd.pinned (.plain (OpenSpec.ofChange tunnelBitsSpec)) tunnelBitsCard

/-- THE SECOND FORM's CARD OF 'palanquinlaw11.IpipFirst'. -/
def ipipFirstUptoCard : Claim7 := { stood := { row := ipipFirstUptoRow, standIns := [], harness := (true, "c64ecd137dc2358eaebb109ba629abceb99b50cfce708964a226cc9f102c8b06"), looks := true }, kinds := [], alts := [], laidByText := true, laidKinds := [.data], laidTests := true, laidLooks := .later }
def IpipFirstUptoCardSaid : Prop := Claim7.holds Tryd.pinned (.plain (OpenSpec.upto ipipFirstSpec)) ipipFirstUptoCard

/-- THE SECOND FORM's CARD OF 'palanquinlaw11.IpipBack'. -/
def ipipBackUptoCard : Claim7 := { stood := { row := ipipBackUptoRow, standIns := [], harness := (true, "c64ecd137dc2358eaebb109ba629abceb99b50cfce708964a226cc9f102c8b06"), looks := true }, kinds := [], alts := [], laidByText := true, laidKinds := [.data], laidTests := true, laidLooks := .later }
def IpipBackUptoCardSaid : Prop := Claim7.holds Tryd.pinned (.plain (OpenSpec.upto ipipBackSpec)) ipipBackUptoCard

/-- THE SECOND FORM's CARD OF 'palanquinlaw11.IpipTells'. -/
def ipipTellsUptoCard : Claim7 := { stood := { row := ipipTellsUptoRow, standIns := [], harness := (true, "c64ecd137dc2358eaebb109ba629abceb99b50cfce708964a226cc9f102c8b06"), looks := true }, kinds := [], alts := [], laidByText := true, laidKinds := [.data], laidTests := true, laidLooks := .later }
def IpipTellsUptoCardSaid : Prop := Claim7.holds Tryd.pinned (.plain (OpenSpec.upto ipipTellsSpec)) ipipTellsUptoCard

/-- THE SECOND FORM's CARD OF 'palanquinlaw12.GreTells'. -/
def greTellsUptoCard : Claim7 := { stood := { row := greTellsUptoRow, standIns := [], harness := (true, "c64ecd137dc2358eaebb109ba629abceb99b50cfce708964a226cc9f102c8b06"), looks := true }, kinds := [], alts := [], laidByText := true, laidKinds := [.data], laidTests := true, laidLooks := .later }
def GreTellsUptoCardSaid : Prop := Claim7.holds Tryd.pinned (.plain (OpenSpec.upto greTellsSpec)) greTellsUptoCard

/-- THE SECOND FORM's CARD OF 'palanquinlaw12.GreBack'. -/
def greBackUptoCard : Claim7 := { stood := { row := greBackUptoRow, standIns := [], harness := (true, "c64ecd137dc2358eaebb109ba629abceb99b50cfce708964a226cc9f102c8b06"), looks := true }, kinds := [], alts := [], laidByText := true, laidKinds := [.data], laidTests := true, laidLooks := .later }
def GreBackUptoCardSaid : Prop := Claim7.holds Tryd.pinned (.plain (OpenSpec.upto greBackSpec)) greBackUptoCard

/-- THE SECOND FORM's CARD OF 'palanquinlaw12.GreSums'. -/
def greSumsUptoCard : Claim7 := { stood := { row := greSumsUptoRow, standIns := [], harness := (true, "c64ecd137dc2358eaebb109ba629abceb99b50cfce708964a226cc9f102c8b06"), looks := true }, kinds := [], alts := [], laidByText := true, laidKinds := [.data], laidTests := true, laidLooks := .later }
def GreSumsUptoCardSaid : Prop := Claim7.holds Tryd.pinned (.plain (OpenSpec.upto greSumsSpec)) greSumsUptoCard

/-- THE SECOND FORM's CARD OF 'palanquinlaw12.GreParts'. -/
def grePartsUptoCard : Claim7 := { stood := { row := grePartsUptoRow, standIns := [], harness := (true, "c64ecd137dc2358eaebb109ba629abceb99b50cfce708964a226cc9f102c8b06"), looks := true }, kinds := [], alts := [], laidByText := true, laidKinds := [.data], laidTests := true, laidLooks := .later }
def GrePartsUptoCardSaid : Prop := Claim7.holds Tryd.pinned (.plain (OpenSpec.upto grePartsSpec)) grePartsUptoCard

/-- THE SECOND FORM's CARD OF 'palanquinlaw13.GueTells'. -/
def gueTellsUptoCard : Claim7 := { stood := { row := gueTellsUptoRow, standIns := [], harness := (true, "c64ecd137dc2358eaebb109ba629abceb99b50cfce708964a226cc9f102c8b06"), looks := true }, kinds := [], alts := [], laidByText := true, laidKinds := [.data, .data, .data], laidTests := true, laidLooks := .later }
def GueTellsUptoCardSaid : Prop := Claim7.holds Tryd.pinned (.plain (OpenSpec.upto gueTellsSpec)) gueTellsUptoCard

/-- THE SECOND FORM's CARD OF 'palanquinlaw13.GueBack'. -/
def gueBackUptoCard : Claim7 := { stood := { row := gueBackUptoRow, standIns := [], harness := (true, "c64ecd137dc2358eaebb109ba629abceb99b50cfce708964a226cc9f102c8b06"), looks := true }, kinds := [], alts := [], laidByText := true, laidKinds := [.data, .data, .data], laidTests := true, laidLooks := .later }
def GueBackUptoCardSaid : Prop := Claim7.holds Tryd.pinned (.plain (OpenSpec.upto gueBackSpec)) gueBackUptoCard

/-- THE SECOND FORM's CARD OF 'palanquinlaw13.GueSums'. -/
def gueSumsUptoCard : Claim7 := { stood := { row := gueSumsUptoRow, standIns := [], harness := (true, "c64ecd137dc2358eaebb109ba629abceb99b50cfce708964a226cc9f102c8b06"), looks := true }, kinds := [], alts := [], laidByText := true, laidKinds := [.data, .data, .data], laidTests := true, laidLooks := .later }
def GueSumsUptoCardSaid : Prop := Claim7.holds Tryd.pinned (.plain (OpenSpec.upto gueSumsSpec)) gueSumsUptoCard

/-- THE SECOND FORM's CARD OF 'palanquinlaw13.GuePorts'. -/
def guePortsUptoCard : Claim7 := { stood := { row := guePortsUptoRow, standIns := [], harness := (true, "c64ecd137dc2358eaebb109ba629abceb99b50cfce708964a226cc9f102c8b06"), looks := true }, kinds := [], alts := [], laidByText := true, laidKinds := [.data, .data, .data], laidTests := true, laidLooks := .later }
def GuePortsUptoCardSaid : Prop := Claim7.holds Tryd.pinned (.plain (OpenSpec.upto guePortsSpec)) guePortsUptoCard

/-- THE SECOND FORM's CARD OF 'palanquinlaw09.FlowSeals'. -/
def flowSealsUptoCard : Claim7 := { stood := { row := flowSealsUptoRow, standIns := [], harness := (true, "c64ecd137dc2358eaebb109ba629abceb99b50cfce708964a226cc9f102c8b06"), looks := true }, kinds := [], alts := [], laidByText := true, laidKinds := [.data, .data], laidTests := true, laidLooks := .later }
def FlowSealsUptoCardSaid : Prop := Claim7.holds Tryd.pinned (.plain (OpenSpec.upto flowSealsSpec)) flowSealsUptoCard

/-- THE SECOND FORM's CARD OF 'palanquinlaw09.FlowBuilds'. -/
def flowBuildsUptoCard : Claim7 := { stood := { row := flowBuildsUptoRow, standIns := [], harness := (true, "c64ecd137dc2358eaebb109ba629abceb99b50cfce708964a226cc9f102c8b06"), looks := true }, kinds := [], alts := [], laidByText := true, laidKinds := [.data, .data], laidTests := true, laidLooks := .later }
def FlowBuildsUptoCardSaid : Prop := Claim7.holds Tryd.pinned (.plain (OpenSpec.upto flowBuildsSpec)) flowBuildsUptoCard

/-- THE SECOND FORM's CARD OF 'palanquinlaw09.FlowValid'. -/
def flowValidUptoCard : Claim7 := { stood := { row := flowValidUptoRow, standIns := [], harness := (true, "c64ecd137dc2358eaebb109ba629abceb99b50cfce708964a226cc9f102c8b06"), looks := true }, kinds := [], alts := [], laidByText := true, laidKinds := [.data, .data], laidTests := true, laidLooks := .later }
def FlowValidUptoCardSaid : Prop := Claim7.holds Tryd.pinned (.plain (OpenSpec.upto flowValidSpec)) flowValidUptoCard

/-- THE SECOND FORM's CARD OF 'palanquinlaw14.TunnelBack'. -/
def tunnelBackUptoCard : Claim7 := { stood := { row := tunnelBackUptoRow, standIns := [], harness := (true, "c64ecd137dc2358eaebb109ba629abceb99b50cfce708964a226cc9f102c8b06"), looks := true }, kinds := [], alts := [], laidByText := true, laidKinds := [.data, .data, .data], laidTests := true, laidLooks := .later }
def TunnelBackUptoCardSaid : Prop := Claim7.holds Tryd.pinned (.plain (OpenSpec.upto tunnelBackSpec)) tunnelBackUptoCard

/-- THE SECOND FORM's CARD OF 'palanquinlaw14.TunnelFields'. -/
def tunnelFieldsUptoCard : Claim7 := { stood := { row := tunnelFieldsUptoRow, standIns := [], harness := (true, "c64ecd137dc2358eaebb109ba629abceb99b50cfce708964a226cc9f102c8b06"), looks := true }, kinds := [], alts := [], laidByText := true, laidKinds := [.data, .data, .data], laidTests := true, laidLooks := .later }
def TunnelFieldsUptoCardSaid : Prop := Claim7.holds Tryd.pinned (.plain (OpenSpec.upto tunnelFieldsSpec)) tunnelFieldsUptoCard

/-- THE SECOND FORM's CARD OF 'palanquinlaw14.TunnelBits'. -/
def tunnelBitsUptoCard : Claim7 := { stood := { row := tunnelBitsUptoRow, standIns := [], harness := (true, "c64ecd137dc2358eaebb109ba629abceb99b50cfce708964a226cc9f102c8b06"), looks := true }, kinds := [], alts := [], laidByText := true, laidKinds := [.data, .data, .data], laidTests := true, laidLooks := .later }
def TunnelBitsUptoCardSaid : Prop := Claim7.holds Tryd.pinned (.plain (OpenSpec.upto tunnelBitsSpec)) tunnelBitsUptoCard
end Rows
end Go.Proofs.YtcmalglippmocaaDoor
