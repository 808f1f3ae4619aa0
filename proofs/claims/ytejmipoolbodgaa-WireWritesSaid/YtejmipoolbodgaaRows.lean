/-
  No cell of these rows narrows 'for every input' (looked for: loops, veiled, ifaces, maps, wideKeys, modest, calm, conditions, laid).
  DERIVED. THE GIVEN ROWS OF THIS SEAT. 33 by the template 'for every input the law returns true; each argument reads behind the call as it read before'; 0 by the template 'total and deterministic' (their statements: YtejmipoolbodgaaTotals.lean).
  GIVEN WITH THE SEED: the statements are not yours to turn. If you find one false, say at which input.
  Laid BY PROGRAM, IN A SANDBOX (cutbox-rows.mjs): the forced cells as the released guide's own fill.sh prints them over the translation 228b2188803e9ce6… (all of the seat's roots in one cut). By AI agents, Wed Nov 11 2026. No macro, syntax, notation, axiom, sorry.
-/
import Derived.Test.YtejmipoolbodgaaChecked
import GoSem.Claim
import GoSem.ClaimJoined
import GoSem.ClaimMapViews
import Derived.JoinedTies
import Derived.KernelRfl
namespace Go.Proofs.Ytejmipoolbodgaa
/- THE CELL 'sum', in the pinned program and in every row, IS THE sha256 OF THE DUMP (.gsa) THAT YtejmipoolbodgaaProg.lean LOADS. Nothing in Lean hashes anything: it is a label: what it is worth is what the hold of that sum in a sandbox is worth. -/
noncomputable def Try.pinned : Pinned := { name := "ytejmipoolbodgaa", sum := "228b2188803e9ce65cc2202746917007b9bfc3d15d03e7175e28af884d4534d7", checked := Try.checked }
namespace Rows
def none {H : Type} : Left H := { results := [], args := [] }

/-- 'palanquinlaw02.SumSeals': WHATEVER THE INPUT: true; the input reads as it did. -/
def sumSealsSpec : ChangeSpec := { name := "sumSeals", fn := fun _ => fun
  | [d1, d2] => { results := [.lit (.bool true)], args := [d1, d2] }
  | _ => none }
def sumSealsRow : OpenClaim := { program := "ytejmipoolbodgaa", sum := "228b2188803e9ce65cc2202746917007b9bfc3d15d03e7175e28af884d4534d7", func := "palanquin/palanquinlaw02.SumSeals", spec := "sumSeals", unfollowed := true, recurses := true, apart := false }
def SumSealsSaid : Prop := sumSealsRow.holds Try.pinned (OpenSpec.ofChange sumSealsSpec)

/-- ITS FALSE NEIGHBOUR: 'it returns false'. Refute it at one input. -/
def sumSealsWrong : ChangeSpec := { name := "sumSeals", fn := fun _ => fun
  | [d1, d2] => { results := [.lit (.bool false)], args := [d1, d2] }
  | _ => none }
def SumSealsWrongFalsely : Prop := sumSealsRow.holds Try.pinned (OpenSpec.ofChange sumSealsWrong)

/-- 'palanquinlaw02.SumOrder': WHATEVER THE INPUT: true; the input reads as it did. -/
def sumOrderSpec : ChangeSpec := { name := "sumOrder", fn := fun _ => fun
  | [d1, d2, d3] => { results := [.lit (.bool true)], args := [d1, d2, d3] }
  | _ => none }
def sumOrderRow : OpenClaim := { program := "ytejmipoolbodgaa", sum := "228b2188803e9ce65cc2202746917007b9bfc3d15d03e7175e28af884d4534d7", func := "palanquin/palanquinlaw02.SumOrder", spec := "sumOrder", unfollowed := true, recurses := true, apart := false }
def SumOrderSaid : Prop := sumOrderRow.holds Try.pinned (OpenSpec.ofChange sumOrderSpec)

/-- ITS FALSE NEIGHBOUR: 'it returns false'. Refute it at one input. -/
def sumOrderWrong : ChangeSpec := { name := "sumOrder", fn := fun _ => fun
  | [d1, d2, d3] => { results := [.lit (.bool false)], args := [d1, d2, d3] }
  | _ => none }
def SumOrderWrongFalsely : Prop := sumOrderRow.holds Try.pinned (OpenSpec.ofChange sumOrderWrong)

/-- 'palanquinlaw02.SumUpdates': WHATEVER THE INPUT: true; the input reads as it did. -/
def sumUpdatesSpec : ChangeSpec := { name := "sumUpdates", fn := fun _ => fun
  | [d1, d2, d3] => { results := [.lit (.bool true)], args := [d1, d2, d3] }
  | _ => none }
def sumUpdatesRow : OpenClaim := { program := "ytejmipoolbodgaa", sum := "228b2188803e9ce65cc2202746917007b9bfc3d15d03e7175e28af884d4534d7", func := "palanquin/palanquinlaw02.SumUpdates", spec := "sumUpdates", unfollowed := true, recurses := true, apart := false }
def SumUpdatesSaid : Prop := sumUpdatesRow.holds Try.pinned (OpenSpec.ofChange sumUpdatesSpec)

/-- ITS FALSE NEIGHBOUR: 'it returns false'. Refute it at one input. -/
def sumUpdatesWrong : ChangeSpec := { name := "sumUpdates", fn := fun _ => fun
  | [d1, d2, d3] => { results := [.lit (.bool false)], args := [d1, d2, d3] }
  | _ => none }
def SumUpdatesWrongFalsely : Prop := sumUpdatesRow.holds Try.pinned (OpenSpec.ofChange sumUpdatesWrong)

/-- 'palanquinlaw02.SumTells': WHATEVER THE INPUT: true; the input reads as it did. -/
def sumTellsSpec : ChangeSpec := { name := "sumTells", fn := fun _ => fun
  | [d1, d2, d3, d4, d5, d6] => { results := [.lit (.bool true)], args := [d1, d2, d3, d4, d5, d6] }
  | _ => none }
def sumTellsRow : OpenClaim := { program := "ytejmipoolbodgaa", sum := "228b2188803e9ce65cc2202746917007b9bfc3d15d03e7175e28af884d4534d7", func := "palanquin/palanquinlaw02.SumTells", spec := "sumTells", unfollowed := true, recurses := true, apart := false }
def SumTellsSaid : Prop := sumTellsRow.holds Try.pinned (OpenSpec.ofChange sumTellsSpec)

/-- ITS FALSE NEIGHBOUR: 'it returns false'. Refute it at one input. -/
def sumTellsWrong : ChangeSpec := { name := "sumTells", fn := fun _ => fun
  | [d1, d2, d3, d4, d5, d6] => { results := [.lit (.bool false)], args := [d1, d2, d3, d4, d5, d6] }
  | _ => none }
def SumTellsWrongFalsely : Prop := sumTellsRow.holds Try.pinned (OpenSpec.ofChange sumTellsWrong)

/-- 'palanquinlaw01.WireInside': WHATEVER THE INPUT: true; the input reads as it did. -/
def wireInsideSpec : ChangeSpec := { name := "wireInside", fn := fun _ => fun
  | [d1, d2, d3, d4] => { results := [.lit (.bool true)], args := [d1, d2, d3, d4] }
  | _ => none }
def wireInsideRow : OpenClaim := { program := "ytejmipoolbodgaa", sum := "228b2188803e9ce65cc2202746917007b9bfc3d15d03e7175e28af884d4534d7", func := "palanquin/palanquinlaw01.WireInside", spec := "wireInside", unfollowed := true, recurses := true, apart := false }
def WireInsideSaid : Prop := wireInsideRow.holds Try.pinned (OpenSpec.ofChange wireInsideSpec)

/-- ITS FALSE NEIGHBOUR: 'it returns false'. Refute it at one input. -/
def wireInsideWrong : ChangeSpec := { name := "wireInside", fn := fun _ => fun
  | [d1, d2, d3, d4] => { results := [.lit (.bool false)], args := [d1, d2, d3, d4] }
  | _ => none }
def WireInsideWrongFalsely : Prop := wireInsideRow.holds Try.pinned (OpenSpec.ofChange wireInsideWrong)

/-- 'palanquinlaw01.WireNeeds': WHATEVER THE INPUT: true; the input reads as it did. -/
def wireNeedsSpec : ChangeSpec := { name := "wireNeeds", fn := fun _ => fun
  | [d1, d2, d3] => { results := [.lit (.bool true)], args := [d1, d2, d3] }
  | _ => none }
def wireNeedsRow : OpenClaim := { program := "ytejmipoolbodgaa", sum := "228b2188803e9ce65cc2202746917007b9bfc3d15d03e7175e28af884d4534d7", func := "palanquin/palanquinlaw01.WireNeeds", spec := "wireNeeds", unfollowed := true, recurses := true, apart := false }
def WireNeedsSaid : Prop := wireNeedsRow.holds Try.pinned (OpenSpec.ofChange wireNeedsSpec)

/-- ITS FALSE NEIGHBOUR: 'it returns false'. Refute it at one input. -/
def wireNeedsWrong : ChangeSpec := { name := "wireNeeds", fn := fun _ => fun
  | [d1, d2, d3] => { results := [.lit (.bool false)], args := [d1, d2, d3] }
  | _ => none }
def WireNeedsWrongFalsely : Prop := wireNeedsRow.holds Try.pinned (OpenSpec.ofChange wireNeedsWrong)

/-- 'palanquinlaw01.WireReads': WHATEVER THE INPUT: true; the input reads as it did. -/
def wireReadsSpec : ChangeSpec := { name := "wireReads", fn := fun _ => fun
  | [d1, d2] => { results := [.lit (.bool true)], args := [d1, d2] }
  | _ => none }
def wireReadsRow : OpenClaim := { program := "ytejmipoolbodgaa", sum := "228b2188803e9ce65cc2202746917007b9bfc3d15d03e7175e28af884d4534d7", func := "palanquin/palanquinlaw01.WireReads", spec := "wireReads", unfollowed := true, recurses := true, apart := false }
def WireReadsSaid : Prop := wireReadsRow.holds Try.pinned (OpenSpec.ofChange wireReadsSpec)

/-- ITS FALSE NEIGHBOUR: 'it returns false'. Refute it at one input. -/
def wireReadsWrong : ChangeSpec := { name := "wireReads", fn := fun _ => fun
  | [d1, d2] => { results := [.lit (.bool false)], args := [d1, d2] }
  | _ => none }
def WireReadsWrongFalsely : Prop := wireReadsRow.holds Try.pinned (OpenSpec.ofChange wireReadsWrong)

/-- 'palanquinlaw07.TcpOptions': WHATEVER THE INPUT: true; the input reads as it did. -/
def tcpOptionsSpec : ChangeSpec := { name := "tcpOptions", fn := fun _ => fun
  | [d] => { results := [.lit (.bool true)], args := [d] }
  | _ => none }
def tcpOptionsRow : OpenClaim := { program := "ytejmipoolbodgaa", sum := "228b2188803e9ce65cc2202746917007b9bfc3d15d03e7175e28af884d4534d7", func := "palanquin/palanquinlaw07.TcpOptions", spec := "tcpOptions", unfollowed := true, recurses := true, apart := false }
def TcpOptionsSaid : Prop := tcpOptionsRow.holds Try.pinned (OpenSpec.ofChange tcpOptionsSpec)

/-- ITS FALSE NEIGHBOUR: 'it returns false'. Refute it at one input. -/
def tcpOptionsWrong : ChangeSpec := { name := "tcpOptions", fn := fun _ => fun
  | [d] => { results := [.lit (.bool false)], args := [d] }
  | _ => none }
def TcpOptionsWrongFalsely : Prop := tcpOptionsRow.holds Try.pinned (OpenSpec.ofChange tcpOptionsWrong)

/-- 'palanquinlaw07.TcpMSS': WHATEVER THE INPUT: true; the input reads as it did. -/
def tcpMSSSpec : ChangeSpec := { name := "tcpMSS", fn := fun _ => fun
  | [d1, d2] => { results := [.lit (.bool true)], args := [d1, d2] }
  | _ => none }
def tcpMSSRow : OpenClaim := { program := "ytejmipoolbodgaa", sum := "228b2188803e9ce65cc2202746917007b9bfc3d15d03e7175e28af884d4534d7", func := "palanquin/palanquinlaw07.TcpMSS", spec := "tcpMSS", unfollowed := true, recurses := true, apart := false }
def TcpMSSSaid : Prop := tcpMSSRow.holds Try.pinned (OpenSpec.ofChange tcpMSSSpec)

/-- ITS FALSE NEIGHBOUR: 'it returns false'. Refute it at one input. -/
def tcpMSSWrong : ChangeSpec := { name := "tcpMSS", fn := fun _ => fun
  | [d1, d2] => { results := [.lit (.bool false)], args := [d1, d2] }
  | _ => none }
def TcpMSSWrongFalsely : Prop := tcpMSSRow.holds Try.pinned (OpenSpec.ofChange tcpMSSWrong)

/-- 'palanquinlaw07.TcpWalks': WHATEVER THE INPUT: true; the input reads as it did. -/
def tcpWalksSpec : ChangeSpec := { name := "tcpWalks", fn := fun _ => fun
  | [d1, d2, d3] => { results := [.lit (.bool true)], args := [d1, d2, d3] }
  | _ => none }
def tcpWalksRow : OpenClaim := { program := "ytejmipoolbodgaa", sum := "228b2188803e9ce65cc2202746917007b9bfc3d15d03e7175e28af884d4534d7", func := "palanquin/palanquinlaw07.TcpWalks", spec := "tcpWalks", unfollowed := true, recurses := true, apart := false }
def TcpWalksSaid : Prop := tcpWalksRow.holds Try.pinned (OpenSpec.ofChange tcpWalksSpec)

/-- ITS FALSE NEIGHBOUR: 'it returns false'. Refute it at one input. -/
def tcpWalksWrong : ChangeSpec := { name := "tcpWalks", fn := fun _ => fun
  | [d1, d2, d3] => { results := [.lit (.bool false)], args := [d1, d2, d3] }
  | _ => none }
def TcpWalksWrongFalsely : Prop := tcpWalksRow.holds Try.pinned (OpenSpec.ofChange tcpWalksWrong)

/-- 'palanquinlaw20.HashBytes': WHATEVER THE INPUT: true; the input reads as it did. -/
def hashBytesSpec : ChangeSpec := { name := "hashBytes", fn := fun _ => fun
  | [d1, d2, d3, d4, d5] => { results := [.lit (.bool true)], args := [d1, d2, d3, d4, d5] }
  | _ => none }
def hashBytesRow : OpenClaim := { program := "ytejmipoolbodgaa", sum := "228b2188803e9ce65cc2202746917007b9bfc3d15d03e7175e28af884d4534d7", func := "palanquin/palanquinlaw20.HashBytes", spec := "hashBytes", inPlace := ["internal/abi.NoEscape"], apart := false }
def HashBytesSaid : Prop := hashBytesRow.holds Try.pinned (OpenSpec.ofChange hashBytesSpec)

/-- ITS FALSE NEIGHBOUR: 'it returns false'. Refute it at one input. -/
def hashBytesWrong : ChangeSpec := { name := "hashBytes", fn := fun _ => fun
  | [d1, d2, d3, d4, d5] => { results := [.lit (.bool false)], args := [d1, d2, d3, d4, d5] }
  | _ => none }
def HashBytesWrongFalsely : Prop := hashBytesRow.holds Try.pinned (OpenSpec.ofChange hashBytesWrong)

/-- 'palanquinlaw20.HashParts': WHATEVER THE INPUT: true; the input reads as it did. -/
def hashPartsSpec : ChangeSpec := { name := "hashParts", fn := fun _ => fun
  | [d1, d2, d3, d4] => { results := [.lit (.bool true)], args := [d1, d2, d3, d4] }
  | _ => none }
def hashPartsRow : OpenClaim := { program := "ytejmipoolbodgaa", sum := "228b2188803e9ce65cc2202746917007b9bfc3d15d03e7175e28af884d4534d7", func := "palanquin/palanquinlaw20.HashParts", spec := "hashParts", inPlace := ["internal/abi.NoEscape"], apart := false }
def HashPartsSaid : Prop := hashPartsRow.holds Try.pinned (OpenSpec.ofChange hashPartsSpec)

/-- ITS FALSE NEIGHBOUR: 'it returns false'. Refute it at one input. -/
def hashPartsWrong : ChangeSpec := { name := "hashParts", fn := fun _ => fun
  | [d1, d2, d3, d4] => { results := [.lit (.bool false)], args := [d1, d2, d3, d4] }
  | _ => none }
def HashPartsWrongFalsely : Prop := hashPartsRow.holds Try.pinned (OpenSpec.ofChange hashPartsWrong)

/-- 'palanquinlaw20.HashApart': WHATEVER THE INPUT: true; the input reads as it did. -/
def hashApartSpec : ChangeSpec := { name := "hashApart", fn := fun _ => fun
  | [d1, d2] => { results := [.lit (.bool true)], args := [d1, d2] }
  | _ => none }
def hashApartRow : OpenClaim := { program := "ytejmipoolbodgaa", sum := "228b2188803e9ce65cc2202746917007b9bfc3d15d03e7175e28af884d4534d7", func := "palanquin/palanquinlaw20.HashApart", spec := "hashApart", inPlace := ["internal/abi.NoEscape"], apart := false }
def HashApartSaid : Prop := hashApartRow.holds Try.pinned (OpenSpec.ofChange hashApartSpec)

/-- ITS FALSE NEIGHBOUR: 'it returns false'. Refute it at one input. -/
def hashApartWrong : ChangeSpec := { name := "hashApart", fn := fun _ => fun
  | [d1, d2] => { results := [.lit (.bool false)], args := [d1, d2] }
  | _ => none }
def HashApartWrongFalsely : Prop := hashApartRow.holds Try.pinned (OpenSpec.ofChange hashApartWrong)

/-- 'palanquinlaw20.HashTells': WHATEVER THE INPUT: true; the input reads as it did. -/
def hashTellsSpec : ChangeSpec := { name := "hashTells", fn := fun _ => fun
  | [d1, d2, d3, d4] => { results := [.lit (.bool true)], args := [d1, d2, d3, d4] }
  | _ => none }
def hashTellsRow : OpenClaim := { program := "ytejmipoolbodgaa", sum := "228b2188803e9ce65cc2202746917007b9bfc3d15d03e7175e28af884d4534d7", func := "palanquin/palanquinlaw20.HashTells", spec := "hashTells", inPlace := ["internal/abi.NoEscape"], apart := false }
def HashTellsSaid : Prop := hashTellsRow.holds Try.pinned (OpenSpec.ofChange hashTellsSpec)

/-- ITS FALSE NEIGHBOUR: 'it returns false'. Refute it at one input. -/
def hashTellsWrong : ChangeSpec := { name := "hashTells", fn := fun _ => fun
  | [d1, d2, d3, d4] => { results := [.lit (.bool false)], args := [d1, d2, d3, d4] }
  | _ => none }
def HashTellsWrongFalsely : Prop := hashTellsRow.holds Try.pinned (OpenSpec.ofChange hashTellsWrong)

/-- 'palanquinlaw01.WireWrites': WHATEVER THE INPUT: true; the input reads as it did. -/
def wireWritesSpec : ChangeSpec := { name := "wireWrites", fn := fun _ => fun
  | [d] => { results := [.lit (.bool true)], args := [d] }
  | _ => none }
def wireWritesRow : OpenClaim := { program := "ytejmipoolbodgaa", sum := "228b2188803e9ce65cc2202746917007b9bfc3d15d03e7175e28af884d4534d7", func := "palanquin/palanquinlaw01.WireWrites", spec := "wireWrites", inPlace := ["internal/abi.NoEscape"], unfollowed := true, recurses := true, apart := false }
def WireWritesSaid : Prop := wireWritesRow.holds Try.pinned (OpenSpec.ofChange wireWritesSpec)

/-- ITS FALSE NEIGHBOUR: 'it returns false'. Refute it at one input. -/
def wireWritesWrong : ChangeSpec := { name := "wireWrites", fn := fun _ => fun
  | [d] => { results := [.lit (.bool false)], args := [d] }
  | _ => none }
def WireWritesWrongFalsely : Prop := wireWritesRow.holds Try.pinned (OpenSpec.ofChange wireWritesWrong)

/-- 'palanquinlaw01.WireBack': WHATEVER THE INPUT: true; the input reads as it did. -/
def wireBackSpec : ChangeSpec := { name := "wireBack", fn := fun _ => fun
  | [d1, d2] => { results := [.lit (.bool true)], args := [d1, d2] }
  | _ => none }
def wireBackRow : OpenClaim := { program := "ytejmipoolbodgaa", sum := "228b2188803e9ce65cc2202746917007b9bfc3d15d03e7175e28af884d4534d7", func := "palanquin/palanquinlaw01.WireBack", spec := "wireBack", inPlace := ["internal/abi.NoEscape"], unfollowed := true, recurses := true, apart := false }
def WireBackSaid : Prop := wireBackRow.holds Try.pinned (OpenSpec.ofChange wireBackSpec)

/-- ITS FALSE NEIGHBOUR: 'it returns false'. Refute it at one input. -/
def wireBackWrong : ChangeSpec := { name := "wireBack", fn := fun _ => fun
  | [d1, d2] => { results := [.lit (.bool false)], args := [d1, d2] }
  | _ => none }
def WireBackWrongFalsely : Prop := wireBackRow.holds Try.pinned (OpenSpec.ofChange wireBackWrong)

/-- 'palanquinlaw05.Ip4Puts': WHATEVER THE INPUT: true; the input reads as it did. -/
def ip4PutsSpec : ChangeSpec := { name := "ip4Puts", fn := fun _ => fun
  | [d1, d2] => { results := [.lit (.bool true)], args := [d1, d2] }
  | _ => none }
def ip4PutsRow : OpenClaim := { program := "ytejmipoolbodgaa", sum := "228b2188803e9ce65cc2202746917007b9bfc3d15d03e7175e28af884d4534d7", func := "palanquin/palanquinlaw05.Ip4Puts", spec := "ip4Puts", inPlace := ["internal/abi.NoEscape"], unfollowed := true, recurses := true, apart := false }
def Ip4PutsSaid : Prop := ip4PutsRow.holds Try.pinned (OpenSpec.ofChange ip4PutsSpec)

/-- ITS FALSE NEIGHBOUR: 'it returns false'. Refute it at one input. -/
def ip4PutsWrong : ChangeSpec := { name := "ip4Puts", fn := fun _ => fun
  | [d1, d2] => { results := [.lit (.bool false)], args := [d1, d2] }
  | _ => none }
def Ip4PutsWrongFalsely : Prop := ip4PutsRow.holds Try.pinned (OpenSpec.ofChange ip4PutsWrong)

/-- 'palanquinlaw08.UdpTells': WHATEVER THE INPUT: true; the input reads as it did. -/
def udpTellsSpec : ChangeSpec := { name := "udpTells", fn := fun _ => fun
  | [d1, d2, d3] => { results := [.lit (.bool true)], args := [d1, d2, d3] }
  | _ => none }
def udpTellsRow : OpenClaim := { program := "ytejmipoolbodgaa", sum := "228b2188803e9ce65cc2202746917007b9bfc3d15d03e7175e28af884d4534d7", func := "palanquin/palanquinlaw08.UdpTells", spec := "udpTells", inPlace := ["internal/abi.NoEscape"], unfollowed := true, recurses := true, apart := false }
def UdpTellsSaid : Prop := udpTellsRow.holds Try.pinned (OpenSpec.ofChange udpTellsSpec)

/-- ITS FALSE NEIGHBOUR: 'it returns false'. Refute it at one input. -/
def udpTellsWrong : ChangeSpec := { name := "udpTells", fn := fun _ => fun
  | [d1, d2, d3] => { results := [.lit (.bool false)], args := [d1, d2, d3] }
  | _ => none }
def UdpTellsWrongFalsely : Prop := udpTellsRow.holds Try.pinned (OpenSpec.ofChange udpTellsWrong)

/-- 'palanquinlaw08.UdpBack': WHATEVER THE INPUT: true; the input reads as it did. -/
def udpBackSpec : ChangeSpec := { name := "udpBack", fn := fun _ => fun
  | [d1, d2, d3] => { results := [.lit (.bool true)], args := [d1, d2, d3] }
  | _ => none }
def udpBackRow : OpenClaim := { program := "ytejmipoolbodgaa", sum := "228b2188803e9ce65cc2202746917007b9bfc3d15d03e7175e28af884d4534d7", func := "palanquin/palanquinlaw08.UdpBack", spec := "udpBack", inPlace := ["internal/abi.NoEscape"], unfollowed := true, recurses := true, apart := false }
def UdpBackSaid : Prop := udpBackRow.holds Try.pinned (OpenSpec.ofChange udpBackSpec)

/-- ITS FALSE NEIGHBOUR: 'it returns false'. Refute it at one input. -/
def udpBackWrong : ChangeSpec := { name := "udpBack", fn := fun _ => fun
  | [d1, d2, d3] => { results := [.lit (.bool false)], args := [d1, d2, d3] }
  | _ => none }
def UdpBackWrongFalsely : Prop := udpBackRow.holds Try.pinned (OpenSpec.ofChange udpBackWrong)

/-- 'palanquinlaw08.UdpParts': WHATEVER THE INPUT: true; the input reads as it did. -/
def udpPartsSpec : ChangeSpec := { name := "udpParts", fn := fun _ => fun
  | [d1, d2, d3] => { results := [.lit (.bool true)], args := [d1, d2, d3] }
  | _ => none }
def udpPartsRow : OpenClaim := { program := "ytejmipoolbodgaa", sum := "228b2188803e9ce65cc2202746917007b9bfc3d15d03e7175e28af884d4534d7", func := "palanquin/palanquinlaw08.UdpParts", spec := "udpParts", inPlace := ["internal/abi.NoEscape"], unfollowed := true, recurses := true, apart := false }
def UdpPartsSaid : Prop := udpPartsRow.holds Try.pinned (OpenSpec.ofChange udpPartsSpec)

/-- ITS FALSE NEIGHBOUR: 'it returns false'. Refute it at one input. -/
def udpPartsWrong : ChangeSpec := { name := "udpParts", fn := fun _ => fun
  | [d1, d2, d3] => { results := [.lit (.bool false)], args := [d1, d2, d3] }
  | _ => none }
def UdpPartsWrongFalsely : Prop := udpPartsRow.holds Try.pinned (OpenSpec.ofChange udpPartsWrong)

/-- 'palanquinlaw06.Ip6Tells': WHATEVER THE INPUT: true; the input reads as it did. -/
def ip6TellsSpec : ChangeSpec := { name := "ip6Tells", fn := fun _ => fun
  | [d1, d2, d3] => { results := [.lit (.bool true)], args := [d1, d2, d3] }
  | _ => none }
def ip6TellsRow : OpenClaim := { program := "ytejmipoolbodgaa", sum := "228b2188803e9ce65cc2202746917007b9bfc3d15d03e7175e28af884d4534d7", func := "palanquin/palanquinlaw06.Ip6Tells", spec := "ip6Tells", inPlace := ["internal/abi.NoEscape"], unfollowed := true, recurses := true, apart := false }
def Ip6TellsSaid : Prop := ip6TellsRow.holds Try.pinned (OpenSpec.ofChange ip6TellsSpec)

/-- ITS FALSE NEIGHBOUR: 'it returns false'. Refute it at one input. -/
def ip6TellsWrong : ChangeSpec := { name := "ip6Tells", fn := fun _ => fun
  | [d1, d2, d3] => { results := [.lit (.bool false)], args := [d1, d2, d3] }
  | _ => none }
def Ip6TellsWrongFalsely : Prop := ip6TellsRow.holds Try.pinned (OpenSpec.ofChange ip6TellsWrong)

/-- 'palanquinlaw06.Ip6Back': WHATEVER THE INPUT: true; the input reads as it did. -/
def ip6BackSpec : ChangeSpec := { name := "ip6Back", fn := fun _ => fun
  | [d1, d2, d3] => { results := [.lit (.bool true)], args := [d1, d2, d3] }
  | _ => none }
def ip6BackRow : OpenClaim := { program := "ytejmipoolbodgaa", sum := "228b2188803e9ce65cc2202746917007b9bfc3d15d03e7175e28af884d4534d7", func := "palanquin/palanquinlaw06.Ip6Back", spec := "ip6Back", inPlace := ["internal/abi.NoEscape"], unfollowed := true, recurses := true, apart := false }
def Ip6BackSaid : Prop := ip6BackRow.holds Try.pinned (OpenSpec.ofChange ip6BackSpec)

/-- ITS FALSE NEIGHBOUR: 'it returns false'. Refute it at one input. -/
def ip6BackWrong : ChangeSpec := { name := "ip6Back", fn := fun _ => fun
  | [d1, d2, d3] => { results := [.lit (.bool false)], args := [d1, d2, d3] }
  | _ => none }
def Ip6BackWrongFalsely : Prop := ip6BackRow.holds Try.pinned (OpenSpec.ofChange ip6BackWrong)

/-- 'palanquinlaw06.Ip6Cuts': WHATEVER THE INPUT: true; the input reads as it did. -/
def ip6CutsSpec : ChangeSpec := { name := "ip6Cuts", fn := fun _ => fun
  | [d1, d2, d3] => { results := [.lit (.bool true)], args := [d1, d2, d3] }
  | _ => none }
def ip6CutsRow : OpenClaim := { program := "ytejmipoolbodgaa", sum := "228b2188803e9ce65cc2202746917007b9bfc3d15d03e7175e28af884d4534d7", func := "palanquin/palanquinlaw06.Ip6Cuts", spec := "ip6Cuts", inPlace := ["internal/abi.NoEscape"], unfollowed := true, recurses := true, apart := false }
def Ip6CutsSaid : Prop := ip6CutsRow.holds Try.pinned (OpenSpec.ofChange ip6CutsSpec)

/-- ITS FALSE NEIGHBOUR: 'it returns false'. Refute it at one input. -/
def ip6CutsWrong : ChangeSpec := { name := "ip6Cuts", fn := fun _ => fun
  | [d1, d2, d3] => { results := [.lit (.bool false)], args := [d1, d2, d3] }
  | _ => none }
def Ip6CutsWrongFalsely : Prop := ip6CutsRow.holds Try.pinned (OpenSpec.ofChange ip6CutsWrong)

/-- 'palanquinlaw07.TcpTells': WHATEVER THE INPUT: true; the input reads as it did. -/
def tcpTellsSpec : ChangeSpec := { name := "tcpTells", fn := fun _ => fun
  | [d1, d2, d3] => { results := [.lit (.bool true)], args := [d1, d2, d3] }
  | _ => none }
def tcpTellsRow : OpenClaim := { program := "ytejmipoolbodgaa", sum := "228b2188803e9ce65cc2202746917007b9bfc3d15d03e7175e28af884d4534d7", func := "palanquin/palanquinlaw07.TcpTells", spec := "tcpTells", inPlace := ["internal/abi.NoEscape"], unfollowed := true, recurses := true, apart := false }
def TcpTellsSaid : Prop := tcpTellsRow.holds Try.pinned (OpenSpec.ofChange tcpTellsSpec)

/-- ITS FALSE NEIGHBOUR: 'it returns false'. Refute it at one input. -/
def tcpTellsWrong : ChangeSpec := { name := "tcpTells", fn := fun _ => fun
  | [d1, d2, d3] => { results := [.lit (.bool false)], args := [d1, d2, d3] }
  | _ => none }
def TcpTellsWrongFalsely : Prop := tcpTellsRow.holds Try.pinned (OpenSpec.ofChange tcpTellsWrong)

/-- 'palanquinlaw07.TcpBack': WHATEVER THE INPUT: true; the input reads as it did. -/
def tcpBackSpec : ChangeSpec := { name := "tcpBack", fn := fun _ => fun
  | [d1, d2, d3] => { results := [.lit (.bool true)], args := [d1, d2, d3] }
  | _ => none }
def tcpBackRow : OpenClaim := { program := "ytejmipoolbodgaa", sum := "228b2188803e9ce65cc2202746917007b9bfc3d15d03e7175e28af884d4534d7", func := "palanquin/palanquinlaw07.TcpBack", spec := "tcpBack", inPlace := ["internal/abi.NoEscape"], unfollowed := true, recurses := true, apart := false }
def TcpBackSaid : Prop := tcpBackRow.holds Try.pinned (OpenSpec.ofChange tcpBackSpec)

/-- ITS FALSE NEIGHBOUR: 'it returns false'. Refute it at one input. -/
def tcpBackWrong : ChangeSpec := { name := "tcpBack", fn := fun _ => fun
  | [d1, d2, d3] => { results := [.lit (.bool false)], args := [d1, d2, d3] }
  | _ => none }
def TcpBackWrongFalsely : Prop := tcpBackRow.holds Try.pinned (OpenSpec.ofChange tcpBackWrong)

/-- 'palanquinlaw05.Ip4Gets': WHATEVER THE INPUT: true; the input reads as it did. -/
def ip4GetsSpec : ChangeSpec := { name := "ip4Gets", fn := fun _ => fun
  | [d] => { results := [.lit (.bool true)], args := [d] }
  | _ => none }
def ip4GetsRow : OpenClaim := { program := "ytejmipoolbodgaa", sum := "228b2188803e9ce65cc2202746917007b9bfc3d15d03e7175e28af884d4534d7", func := "palanquin/palanquinlaw05.Ip4Gets", spec := "ip4Gets", inPlace := ["internal/abi.NoEscape"], unfollowed := true, recurses := true, apart := false }
def Ip4GetsSaid : Prop := ip4GetsRow.holds Try.pinned (OpenSpec.ofChange ip4GetsSpec)

/-- ITS FALSE NEIGHBOUR: 'it returns false'. Refute it at one input. -/
def ip4GetsWrong : ChangeSpec := { name := "ip4Gets", fn := fun _ => fun
  | [d] => { results := [.lit (.bool false)], args := [d] }
  | _ => none }
def Ip4GetsWrongFalsely : Prop := ip4GetsRow.holds Try.pinned (OpenSpec.ofChange ip4GetsWrong)

/-- 'palanquinlaw05.Ip4Back': WHATEVER THE INPUT: true; the input reads as it did. -/
def ip4BackSpec : ChangeSpec := { name := "ip4Back", fn := fun _ => fun
  | [d1, d2, d3] => { results := [.lit (.bool true)], args := [d1, d2, d3] }
  | _ => none }
def ip4BackRow : OpenClaim := { program := "ytejmipoolbodgaa", sum := "228b2188803e9ce65cc2202746917007b9bfc3d15d03e7175e28af884d4534d7", func := "palanquin/palanquinlaw05.Ip4Back", spec := "ip4Back", inPlace := ["internal/abi.NoEscape"], unfollowed := true, recurses := true, apart := false }
def Ip4BackSaid : Prop := ip4BackRow.holds Try.pinned (OpenSpec.ofChange ip4BackSpec)

/-- ITS FALSE NEIGHBOUR: 'it returns false'. Refute it at one input. -/
def ip4BackWrong : ChangeSpec := { name := "ip4Back", fn := fun _ => fun
  | [d1, d2, d3] => { results := [.lit (.bool false)], args := [d1, d2, d3] }
  | _ => none }
def Ip4BackWrongFalsely : Prop := ip4BackRow.holds Try.pinned (OpenSpec.ofChange ip4BackWrong)

/-- 'palanquinlaw05.Ip4Sums': WHATEVER THE INPUT: true; the input reads as it did. -/
def ip4SumsSpec : ChangeSpec := { name := "ip4Sums", fn := fun _ => fun
  | [d1, d2, d3] => { results := [.lit (.bool true)], args := [d1, d2, d3] }
  | _ => none }
def ip4SumsRow : OpenClaim := { program := "ytejmipoolbodgaa", sum := "228b2188803e9ce65cc2202746917007b9bfc3d15d03e7175e28af884d4534d7", func := "palanquin/palanquinlaw05.Ip4Sums", spec := "ip4Sums", inPlace := ["internal/abi.NoEscape"], unfollowed := true, recurses := true, apart := false }
def Ip4SumsSaid : Prop := ip4SumsRow.holds Try.pinned (OpenSpec.ofChange ip4SumsSpec)

/-- ITS FALSE NEIGHBOUR: 'it returns false'. Refute it at one input. -/
def ip4SumsWrong : ChangeSpec := { name := "ip4Sums", fn := fun _ => fun
  | [d1, d2, d3] => { results := [.lit (.bool false)], args := [d1, d2, d3] }
  | _ => none }
def Ip4SumsWrongFalsely : Prop := ip4SumsRow.holds Try.pinned (OpenSpec.ofChange ip4SumsWrong)

/-- 'palanquinlaw05.Ip4Fields': WHATEVER THE INPUT: true; the input reads as it did. -/
def ip4FieldsSpec : ChangeSpec := { name := "ip4Fields", fn := fun _ => fun
  | [d1, d2, d3, d4, d5, d6] => { results := [.lit (.bool true)], args := [d1, d2, d3, d4, d5, d6] }
  | _ => none }
def ip4FieldsRow : OpenClaim := { program := "ytejmipoolbodgaa", sum := "228b2188803e9ce65cc2202746917007b9bfc3d15d03e7175e28af884d4534d7", func := "palanquin/palanquinlaw05.Ip4Fields", spec := "ip4Fields", inPlace := ["internal/abi.NoEscape"], unfollowed := true, recurses := true, apart := false }
def Ip4FieldsSaid : Prop := ip4FieldsRow.holds Try.pinned (OpenSpec.ofChange ip4FieldsSpec)

/-- ITS FALSE NEIGHBOUR: 'it returns false'. Refute it at one input. -/
def ip4FieldsWrong : ChangeSpec := { name := "ip4Fields", fn := fun _ => fun
  | [d1, d2, d3, d4, d5, d6] => { results := [.lit (.bool false)], args := [d1, d2, d3, d4, d5, d6] }
  | _ => none }
def Ip4FieldsWrongFalsely : Prop := ip4FieldsRow.holds Try.pinned (OpenSpec.ofChange ip4FieldsWrong)

/-- 'palanquinlaw15.FragWhole': WHATEVER THE INPUT: true; the input reads as it did. -/
def fragWholeSpec : ChangeSpec := { name := "fragWhole", fn := fun _ => fun
  | [d1, d2] => { results := [.lit (.bool true)], args := [d1, d2] }
  | _ => none }
def fragWholeRow : OpenClaim := { program := "ytejmipoolbodgaa", sum := "228b2188803e9ce65cc2202746917007b9bfc3d15d03e7175e28af884d4534d7", func := "palanquin/palanquinlaw15.FragWhole", spec := "fragWhole", inPlace := ["internal/abi.NoEscape"], unfollowed := true, recurses := true, apart := false }
def FragWholeSaid : Prop := fragWholeRow.holds Try.pinned (OpenSpec.ofChange fragWholeSpec)

/-- ITS FALSE NEIGHBOUR: 'it returns false'. Refute it at one input. -/
def fragWholeWrong : ChangeSpec := { name := "fragWhole", fn := fun _ => fun
  | [d1, d2] => { results := [.lit (.bool false)], args := [d1, d2] }
  | _ => none }
def FragWholeWrongFalsely : Prop := fragWholeRow.holds Try.pinned (OpenSpec.ofChange fragWholeWrong)

/-- 'palanquinlaw15.FragTwice': WHATEVER THE INPUT: true; the input reads as it did. -/
def fragTwiceSpec : ChangeSpec := { name := "fragTwice", fn := fun _ => fun
  | [d1, d2, d3] => { results := [.lit (.bool true)], args := [d1, d2, d3] }
  | _ => none }
def fragTwiceRow : OpenClaim := { program := "ytejmipoolbodgaa", sum := "228b2188803e9ce65cc2202746917007b9bfc3d15d03e7175e28af884d4534d7", func := "palanquin/palanquinlaw15.FragTwice", spec := "fragTwice", inPlace := ["internal/abi.NoEscape"], unfollowed := true, recurses := true, apart := false }
def FragTwiceSaid : Prop := fragTwiceRow.holds Try.pinned (OpenSpec.ofChange fragTwiceSpec)

/-- ITS FALSE NEIGHBOUR: 'it returns false'. Refute it at one input. -/
def fragTwiceWrong : ChangeSpec := { name := "fragTwice", fn := fun _ => fun
  | [d1, d2, d3] => { results := [.lit (.bool false)], args := [d1, d2, d3] }
  | _ => none }
def FragTwiceWrongFalsely : Prop := fragTwiceRow.holds Try.pinned (OpenSpec.ofChange fragTwiceWrong)

/-- 'palanquinlaw15.FragSizes': WHATEVER THE INPUT: true; the input reads as it did. -/
def fragSizesSpec : ChangeSpec := { name := "fragSizes", fn := fun _ => fun
  | [d1, d2, d3] => { results := [.lit (.bool true)], args := [d1, d2, d3] }
  | _ => none }
def fragSizesRow : OpenClaim := { program := "ytejmipoolbodgaa", sum := "228b2188803e9ce65cc2202746917007b9bfc3d15d03e7175e28af884d4534d7", func := "palanquin/palanquinlaw15.FragSizes", spec := "fragSizes", inPlace := ["internal/abi.NoEscape"], unfollowed := true, recurses := true, apart := false }
def FragSizesSaid : Prop := fragSizesRow.holds Try.pinned (OpenSpec.ofChange fragSizesSpec)

/-- ITS FALSE NEIGHBOUR: 'it returns false'. Refute it at one input. -/
def fragSizesWrong : ChangeSpec := { name := "fragSizes", fn := fun _ => fun
  | [d1, d2, d3] => { results := [.lit (.bool false)], args := [d1, d2, d3] }
  | _ => none }
def FragSizesWrongFalsely : Prop := fragSizesRow.holds Try.pinned (OpenSpec.ofChange fragSizesWrong)

/-- 'palanquinlaw15.FragCuts': WHATEVER THE INPUT: true; the input reads as it did. -/
def fragCutsSpec : ChangeSpec := { name := "fragCuts", fn := fun _ => fun
  | [d1, d2, d3, d4] => { results := [.lit (.bool true)], args := [d1, d2, d3, d4] }
  | _ => none }
def fragCutsRow : OpenClaim := { program := "ytejmipoolbodgaa", sum := "228b2188803e9ce65cc2202746917007b9bfc3d15d03e7175e28af884d4534d7", func := "palanquin/palanquinlaw15.FragCuts", spec := "fragCuts", inPlace := ["internal/abi.NoEscape"], unfollowed := true, recurses := true, apart := false }
def FragCutsSaid : Prop := fragCutsRow.holds Try.pinned (OpenSpec.ofChange fragCutsSpec)

/-- ITS FALSE NEIGHBOUR: 'it returns false'. Refute it at one input. -/
def fragCutsWrong : ChangeSpec := { name := "fragCuts", fn := fun _ => fun
  | [d1, d2, d3, d4] => { results := [.lit (.bool false)], args := [d1, d2, d3, d4] }
  | _ => none }
def FragCutsWrongFalsely : Prop := fragCutsRow.holds Try.pinned (OpenSpec.ofChange fragCutsWrong)

/- THE SECOND FORM. 'bulk': how many values and letters a reading holds, each counted each time it is reached (what is shared counts as often as it is met; a slice's spare places count too). A statement '..UptoSaid' is the law's where the arguments, and the package variables that the reading takes, are together of bulk at most 1048576: NARROWER than '..Said'. Prove '..Said' where nothing that the law and all that it calls make is longer than what came in: it says more and counts as full. Else prove '..UptoSaid'. A law counts once. -/
mutual
def uptoBulk {H : Type} : DataW H → Nat
  | .lit (.string bytes) => bytes.length + 1
  | .lit _ => 1
  | .nil => 1
  | .ptr d => uptoBulk d + 1
  | .slice elems spare => uptoBulkAll elems + uptoBulkAll spare + 1
  | .agg parts => uptoBulkAll parts + 1
  | .iface _ d => uptoBulk d + 1
  | .map entries => uptoBulkEntries entries + 1
  | .held _ => 1
def uptoBulkAll {H : Type} : List (DataW H) → Nat
  | [] => 0
  | d :: r => uptoBulk d + uptoBulkAll r
def uptoBulkEntries {H : Type} : List (Lit × DataW H) → Nat
  | [] => 0
  | x :: r => uptoBulkEntry x + uptoBulkEntries r
def uptoBulkEntry {H : Type} : Lit × DataW H → Nat
  | (.string bytes, d) => bytes.length + uptoBulk d + 1
  | (_, d) => uptoBulk d + 1
 end
def uptoSmall : (H : Type) → List (DataW H) → Bool := fun _ ds => decide (uptoBulkAll ds ≤ 1048576)
def OpenSpec.upto (s : _root_.Go.ChangeSpec) : _root_.Go.OpenSpec := { _root_.Go.OpenSpec.ofChange s with cond := some uptoSmall }

/-- 'palanquinlaw02.SumSeals', WHERE WHAT IT READS IS OF BULK AT MOST 1048576: true; the input reads as it did. -/
def sumSealsUptoRow : OpenClaim := { program := "ytejmipoolbodgaa", sum := "228b2188803e9ce65cc2202746917007b9bfc3d15d03e7175e28af884d4534d7", func := "palanquin/palanquinlaw02.SumSeals", spec := "sumSeals", unfollowed := true, recurses := true, apart := false, narrowed := true }
def SumSealsUptoSaid : Prop := sumSealsUptoRow.holds Try.pinned (OpenSpec.upto sumSealsSpec)

/-- 'palanquinlaw02.SumOrder', WHERE WHAT IT READS IS OF BULK AT MOST 1048576: true; the input reads as it did. -/
def sumOrderUptoRow : OpenClaim := { program := "ytejmipoolbodgaa", sum := "228b2188803e9ce65cc2202746917007b9bfc3d15d03e7175e28af884d4534d7", func := "palanquin/palanquinlaw02.SumOrder", spec := "sumOrder", unfollowed := true, recurses := true, apart := false, narrowed := true }
def SumOrderUptoSaid : Prop := sumOrderUptoRow.holds Try.pinned (OpenSpec.upto sumOrderSpec)

/-- 'palanquinlaw02.SumUpdates', WHERE WHAT IT READS IS OF BULK AT MOST 1048576: true; the input reads as it did. -/
def sumUpdatesUptoRow : OpenClaim := { program := "ytejmipoolbodgaa", sum := "228b2188803e9ce65cc2202746917007b9bfc3d15d03e7175e28af884d4534d7", func := "palanquin/palanquinlaw02.SumUpdates", spec := "sumUpdates", unfollowed := true, recurses := true, apart := false, narrowed := true }
def SumUpdatesUptoSaid : Prop := sumUpdatesUptoRow.holds Try.pinned (OpenSpec.upto sumUpdatesSpec)

/-- 'palanquinlaw02.SumTells', WHERE WHAT IT READS IS OF BULK AT MOST 1048576: true; the input reads as it did. -/
def sumTellsUptoRow : OpenClaim := { program := "ytejmipoolbodgaa", sum := "228b2188803e9ce65cc2202746917007b9bfc3d15d03e7175e28af884d4534d7", func := "palanquin/palanquinlaw02.SumTells", spec := "sumTells", unfollowed := true, recurses := true, apart := false, narrowed := true }
def SumTellsUptoSaid : Prop := sumTellsUptoRow.holds Try.pinned (OpenSpec.upto sumTellsSpec)

/-- 'palanquinlaw01.WireInside', WHERE WHAT IT READS IS OF BULK AT MOST 1048576: true; the input reads as it did. -/
def wireInsideUptoRow : OpenClaim := { program := "ytejmipoolbodgaa", sum := "228b2188803e9ce65cc2202746917007b9bfc3d15d03e7175e28af884d4534d7", func := "palanquin/palanquinlaw01.WireInside", spec := "wireInside", unfollowed := true, recurses := true, apart := false, narrowed := true }
def WireInsideUptoSaid : Prop := wireInsideUptoRow.holds Try.pinned (OpenSpec.upto wireInsideSpec)

/-- 'palanquinlaw01.WireNeeds', WHERE WHAT IT READS IS OF BULK AT MOST 1048576: true; the input reads as it did. -/
def wireNeedsUptoRow : OpenClaim := { program := "ytejmipoolbodgaa", sum := "228b2188803e9ce65cc2202746917007b9bfc3d15d03e7175e28af884d4534d7", func := "palanquin/palanquinlaw01.WireNeeds", spec := "wireNeeds", unfollowed := true, recurses := true, apart := false, narrowed := true }
def WireNeedsUptoSaid : Prop := wireNeedsUptoRow.holds Try.pinned (OpenSpec.upto wireNeedsSpec)

/-- 'palanquinlaw01.WireReads', WHERE WHAT IT READS IS OF BULK AT MOST 1048576: true; the input reads as it did. -/
def wireReadsUptoRow : OpenClaim := { program := "ytejmipoolbodgaa", sum := "228b2188803e9ce65cc2202746917007b9bfc3d15d03e7175e28af884d4534d7", func := "palanquin/palanquinlaw01.WireReads", spec := "wireReads", unfollowed := true, recurses := true, apart := false, narrowed := true }
def WireReadsUptoSaid : Prop := wireReadsUptoRow.holds Try.pinned (OpenSpec.upto wireReadsSpec)

/-- 'palanquinlaw07.TcpOptions', WHERE WHAT IT READS IS OF BULK AT MOST 1048576: true; the input reads as it did. -/
def tcpOptionsUptoRow : OpenClaim := { program := "ytejmipoolbodgaa", sum := "228b2188803e9ce65cc2202746917007b9bfc3d15d03e7175e28af884d4534d7", func := "palanquin/palanquinlaw07.TcpOptions", spec := "tcpOptions", unfollowed := true, recurses := true, apart := false, narrowed := true }
def TcpOptionsUptoSaid : Prop := tcpOptionsUptoRow.holds Try.pinned (OpenSpec.upto tcpOptionsSpec)

/-- 'palanquinlaw07.TcpMSS', WHERE WHAT IT READS IS OF BULK AT MOST 1048576: true; the input reads as it did. -/
def tcpMSSUptoRow : OpenClaim := { program := "ytejmipoolbodgaa", sum := "228b2188803e9ce65cc2202746917007b9bfc3d15d03e7175e28af884d4534d7", func := "palanquin/palanquinlaw07.TcpMSS", spec := "tcpMSS", unfollowed := true, recurses := true, apart := false, narrowed := true }
def TcpMSSUptoSaid : Prop := tcpMSSUptoRow.holds Try.pinned (OpenSpec.upto tcpMSSSpec)

/-- 'palanquinlaw07.TcpWalks', WHERE WHAT IT READS IS OF BULK AT MOST 1048576: true; the input reads as it did. -/
def tcpWalksUptoRow : OpenClaim := { program := "ytejmipoolbodgaa", sum := "228b2188803e9ce65cc2202746917007b9bfc3d15d03e7175e28af884d4534d7", func := "palanquin/palanquinlaw07.TcpWalks", spec := "tcpWalks", unfollowed := true, recurses := true, apart := false, narrowed := true }
def TcpWalksUptoSaid : Prop := tcpWalksUptoRow.holds Try.pinned (OpenSpec.upto tcpWalksSpec)

/-- 'palanquinlaw20.HashBytes', WHERE WHAT IT READS IS OF BULK AT MOST 1048576: true; the input reads as it did. -/
def hashBytesUptoRow : OpenClaim := { program := "ytejmipoolbodgaa", sum := "228b2188803e9ce65cc2202746917007b9bfc3d15d03e7175e28af884d4534d7", func := "palanquin/palanquinlaw20.HashBytes", spec := "hashBytes", inPlace := ["internal/abi.NoEscape"], apart := false, narrowed := true }
def HashBytesUptoSaid : Prop := hashBytesUptoRow.holds Try.pinned (OpenSpec.upto hashBytesSpec)

/-- 'palanquinlaw20.HashParts', WHERE WHAT IT READS IS OF BULK AT MOST 1048576: true; the input reads as it did. -/
def hashPartsUptoRow : OpenClaim := { program := "ytejmipoolbodgaa", sum := "228b2188803e9ce65cc2202746917007b9bfc3d15d03e7175e28af884d4534d7", func := "palanquin/palanquinlaw20.HashParts", spec := "hashParts", inPlace := ["internal/abi.NoEscape"], apart := false, narrowed := true }
def HashPartsUptoSaid : Prop := hashPartsUptoRow.holds Try.pinned (OpenSpec.upto hashPartsSpec)

/-- 'palanquinlaw20.HashApart', WHERE WHAT IT READS IS OF BULK AT MOST 1048576: true; the input reads as it did. -/
def hashApartUptoRow : OpenClaim := { program := "ytejmipoolbodgaa", sum := "228b2188803e9ce65cc2202746917007b9bfc3d15d03e7175e28af884d4534d7", func := "palanquin/palanquinlaw20.HashApart", spec := "hashApart", inPlace := ["internal/abi.NoEscape"], apart := false, narrowed := true }
def HashApartUptoSaid : Prop := hashApartUptoRow.holds Try.pinned (OpenSpec.upto hashApartSpec)

/-- 'palanquinlaw20.HashTells', WHERE WHAT IT READS IS OF BULK AT MOST 1048576: true; the input reads as it did. -/
def hashTellsUptoRow : OpenClaim := { program := "ytejmipoolbodgaa", sum := "228b2188803e9ce65cc2202746917007b9bfc3d15d03e7175e28af884d4534d7", func := "palanquin/palanquinlaw20.HashTells", spec := "hashTells", inPlace := ["internal/abi.NoEscape"], apart := false, narrowed := true }
def HashTellsUptoSaid : Prop := hashTellsUptoRow.holds Try.pinned (OpenSpec.upto hashTellsSpec)

/-- 'palanquinlaw01.WireWrites', WHERE WHAT IT READS IS OF BULK AT MOST 1048576: true; the input reads as it did. -/
def wireWritesUptoRow : OpenClaim := { program := "ytejmipoolbodgaa", sum := "228b2188803e9ce65cc2202746917007b9bfc3d15d03e7175e28af884d4534d7", func := "palanquin/palanquinlaw01.WireWrites", spec := "wireWrites", inPlace := ["internal/abi.NoEscape"], unfollowed := true, recurses := true, apart := false, narrowed := true }
def WireWritesUptoSaid : Prop := wireWritesUptoRow.holds Try.pinned (OpenSpec.upto wireWritesSpec)

/-- 'palanquinlaw01.WireBack', WHERE WHAT IT READS IS OF BULK AT MOST 1048576: true; the input reads as it did. -/
def wireBackUptoRow : OpenClaim := { program := "ytejmipoolbodgaa", sum := "228b2188803e9ce65cc2202746917007b9bfc3d15d03e7175e28af884d4534d7", func := "palanquin/palanquinlaw01.WireBack", spec := "wireBack", inPlace := ["internal/abi.NoEscape"], unfollowed := true, recurses := true, apart := false, narrowed := true }
def WireBackUptoSaid : Prop := wireBackUptoRow.holds Try.pinned (OpenSpec.upto wireBackSpec)

/-- 'palanquinlaw05.Ip4Puts', WHERE WHAT IT READS IS OF BULK AT MOST 1048576: true; the input reads as it did. -/
def ip4PutsUptoRow : OpenClaim := { program := "ytejmipoolbodgaa", sum := "228b2188803e9ce65cc2202746917007b9bfc3d15d03e7175e28af884d4534d7", func := "palanquin/palanquinlaw05.Ip4Puts", spec := "ip4Puts", inPlace := ["internal/abi.NoEscape"], unfollowed := true, recurses := true, apart := false, narrowed := true }
def Ip4PutsUptoSaid : Prop := ip4PutsUptoRow.holds Try.pinned (OpenSpec.upto ip4PutsSpec)

/-- 'palanquinlaw08.UdpTells', WHERE WHAT IT READS IS OF BULK AT MOST 1048576: true; the input reads as it did. -/
def udpTellsUptoRow : OpenClaim := { program := "ytejmipoolbodgaa", sum := "228b2188803e9ce65cc2202746917007b9bfc3d15d03e7175e28af884d4534d7", func := "palanquin/palanquinlaw08.UdpTells", spec := "udpTells", inPlace := ["internal/abi.NoEscape"], unfollowed := true, recurses := true, apart := false, narrowed := true }
def UdpTellsUptoSaid : Prop := udpTellsUptoRow.holds Try.pinned (OpenSpec.upto udpTellsSpec)

/-- 'palanquinlaw08.UdpBack', WHERE WHAT IT READS IS OF BULK AT MOST 1048576: true; the input reads as it did. -/
def udpBackUptoRow : OpenClaim := { program := "ytejmipoolbodgaa", sum := "228b2188803e9ce65cc2202746917007b9bfc3d15d03e7175e28af884d4534d7", func := "palanquin/palanquinlaw08.UdpBack", spec := "udpBack", inPlace := ["internal/abi.NoEscape"], unfollowed := true, recurses := true, apart := false, narrowed := true }
def UdpBackUptoSaid : Prop := udpBackUptoRow.holds Try.pinned (OpenSpec.upto udpBackSpec)

/-- 'palanquinlaw08.UdpParts', WHERE WHAT IT READS IS OF BULK AT MOST 1048576: true; the input reads as it did. -/
def udpPartsUptoRow : OpenClaim := { program := "ytejmipoolbodgaa", sum := "228b2188803e9ce65cc2202746917007b9bfc3d15d03e7175e28af884d4534d7", func := "palanquin/palanquinlaw08.UdpParts", spec := "udpParts", inPlace := ["internal/abi.NoEscape"], unfollowed := true, recurses := true, apart := false, narrowed := true }
def UdpPartsUptoSaid : Prop := udpPartsUptoRow.holds Try.pinned (OpenSpec.upto udpPartsSpec)

/-- 'palanquinlaw06.Ip6Tells', WHERE WHAT IT READS IS OF BULK AT MOST 1048576: true; the input reads as it did. -/
def ip6TellsUptoRow : OpenClaim := { program := "ytejmipoolbodgaa", sum := "228b2188803e9ce65cc2202746917007b9bfc3d15d03e7175e28af884d4534d7", func := "palanquin/palanquinlaw06.Ip6Tells", spec := "ip6Tells", inPlace := ["internal/abi.NoEscape"], unfollowed := true, recurses := true, apart := false, narrowed := true }
def Ip6TellsUptoSaid : Prop := ip6TellsUptoRow.holds Try.pinned (OpenSpec.upto ip6TellsSpec)

/-- 'palanquinlaw06.Ip6Back', WHERE WHAT IT READS IS OF BULK AT MOST 1048576: true; the input reads as it did. -/
def ip6BackUptoRow : OpenClaim := { program := "ytejmipoolbodgaa", sum := "228b2188803e9ce65cc2202746917007b9bfc3d15d03e7175e28af884d4534d7", func := "palanquin/palanquinlaw06.Ip6Back", spec := "ip6Back", inPlace := ["internal/abi.NoEscape"], unfollowed := true, recurses := true, apart := false, narrowed := true }
def Ip6BackUptoSaid : Prop := ip6BackUptoRow.holds Try.pinned (OpenSpec.upto ip6BackSpec)

/-- 'palanquinlaw06.Ip6Cuts', WHERE WHAT IT READS IS OF BULK AT MOST 1048576: true; the input reads as it did. -/
def ip6CutsUptoRow : OpenClaim := { program := "ytejmipoolbodgaa", sum := "228b2188803e9ce65cc2202746917007b9bfc3d15d03e7175e28af884d4534d7", func := "palanquin/palanquinlaw06.Ip6Cuts", spec := "ip6Cuts", inPlace := ["internal/abi.NoEscape"], unfollowed := true, recurses := true, apart := false, narrowed := true }
def Ip6CutsUptoSaid : Prop := ip6CutsUptoRow.holds Try.pinned (OpenSpec.upto ip6CutsSpec)

/-- 'palanquinlaw07.TcpTells', WHERE WHAT IT READS IS OF BULK AT MOST 1048576: true; the input reads as it did. -/
def tcpTellsUptoRow : OpenClaim := { program := "ytejmipoolbodgaa", sum := "228b2188803e9ce65cc2202746917007b9bfc3d15d03e7175e28af884d4534d7", func := "palanquin/palanquinlaw07.TcpTells", spec := "tcpTells", inPlace := ["internal/abi.NoEscape"], unfollowed := true, recurses := true, apart := false, narrowed := true }
def TcpTellsUptoSaid : Prop := tcpTellsUptoRow.holds Try.pinned (OpenSpec.upto tcpTellsSpec)

/-- 'palanquinlaw07.TcpBack', WHERE WHAT IT READS IS OF BULK AT MOST 1048576: true; the input reads as it did. -/
def tcpBackUptoRow : OpenClaim := { program := "ytejmipoolbodgaa", sum := "228b2188803e9ce65cc2202746917007b9bfc3d15d03e7175e28af884d4534d7", func := "palanquin/palanquinlaw07.TcpBack", spec := "tcpBack", inPlace := ["internal/abi.NoEscape"], unfollowed := true, recurses := true, apart := false, narrowed := true }
def TcpBackUptoSaid : Prop := tcpBackUptoRow.holds Try.pinned (OpenSpec.upto tcpBackSpec)

/-- 'palanquinlaw05.Ip4Gets', WHERE WHAT IT READS IS OF BULK AT MOST 1048576: true; the input reads as it did. -/
def ip4GetsUptoRow : OpenClaim := { program := "ytejmipoolbodgaa", sum := "228b2188803e9ce65cc2202746917007b9bfc3d15d03e7175e28af884d4534d7", func := "palanquin/palanquinlaw05.Ip4Gets", spec := "ip4Gets", inPlace := ["internal/abi.NoEscape"], unfollowed := true, recurses := true, apart := false, narrowed := true }
def Ip4GetsUptoSaid : Prop := ip4GetsUptoRow.holds Try.pinned (OpenSpec.upto ip4GetsSpec)

/-- 'palanquinlaw05.Ip4Back', WHERE WHAT IT READS IS OF BULK AT MOST 1048576: true; the input reads as it did. -/
def ip4BackUptoRow : OpenClaim := { program := "ytejmipoolbodgaa", sum := "228b2188803e9ce65cc2202746917007b9bfc3d15d03e7175e28af884d4534d7", func := "palanquin/palanquinlaw05.Ip4Back", spec := "ip4Back", inPlace := ["internal/abi.NoEscape"], unfollowed := true, recurses := true, apart := false, narrowed := true }
def Ip4BackUptoSaid : Prop := ip4BackUptoRow.holds Try.pinned (OpenSpec.upto ip4BackSpec)

/-- 'palanquinlaw05.Ip4Sums', WHERE WHAT IT READS IS OF BULK AT MOST 1048576: true; the input reads as it did. -/
def ip4SumsUptoRow : OpenClaim := { program := "ytejmipoolbodgaa", sum := "228b2188803e9ce65cc2202746917007b9bfc3d15d03e7175e28af884d4534d7", func := "palanquin/palanquinlaw05.Ip4Sums", spec := "ip4Sums", inPlace := ["internal/abi.NoEscape"], unfollowed := true, recurses := true, apart := false, narrowed := true }
def Ip4SumsUptoSaid : Prop := ip4SumsUptoRow.holds Try.pinned (OpenSpec.upto ip4SumsSpec)

/-- 'palanquinlaw05.Ip4Fields', WHERE WHAT IT READS IS OF BULK AT MOST 1048576: true; the input reads as it did. -/
def ip4FieldsUptoRow : OpenClaim := { program := "ytejmipoolbodgaa", sum := "228b2188803e9ce65cc2202746917007b9bfc3d15d03e7175e28af884d4534d7", func := "palanquin/palanquinlaw05.Ip4Fields", spec := "ip4Fields", inPlace := ["internal/abi.NoEscape"], unfollowed := true, recurses := true, apart := false, narrowed := true }
def Ip4FieldsUptoSaid : Prop := ip4FieldsUptoRow.holds Try.pinned (OpenSpec.upto ip4FieldsSpec)

/-- 'palanquinlaw15.FragWhole', WHERE WHAT IT READS IS OF BULK AT MOST 1048576: true; the input reads as it did. -/
def fragWholeUptoRow : OpenClaim := { program := "ytejmipoolbodgaa", sum := "228b2188803e9ce65cc2202746917007b9bfc3d15d03e7175e28af884d4534d7", func := "palanquin/palanquinlaw15.FragWhole", spec := "fragWhole", inPlace := ["internal/abi.NoEscape"], unfollowed := true, recurses := true, apart := false, narrowed := true }
def FragWholeUptoSaid : Prop := fragWholeUptoRow.holds Try.pinned (OpenSpec.upto fragWholeSpec)

/-- 'palanquinlaw15.FragTwice', WHERE WHAT IT READS IS OF BULK AT MOST 1048576: true; the input reads as it did. -/
def fragTwiceUptoRow : OpenClaim := { program := "ytejmipoolbodgaa", sum := "228b2188803e9ce65cc2202746917007b9bfc3d15d03e7175e28af884d4534d7", func := "palanquin/palanquinlaw15.FragTwice", spec := "fragTwice", inPlace := ["internal/abi.NoEscape"], unfollowed := true, recurses := true, apart := false, narrowed := true }
def FragTwiceUptoSaid : Prop := fragTwiceUptoRow.holds Try.pinned (OpenSpec.upto fragTwiceSpec)

/-- 'palanquinlaw15.FragSizes', WHERE WHAT IT READS IS OF BULK AT MOST 1048576: true; the input reads as it did. -/
def fragSizesUptoRow : OpenClaim := { program := "ytejmipoolbodgaa", sum := "228b2188803e9ce65cc2202746917007b9bfc3d15d03e7175e28af884d4534d7", func := "palanquin/palanquinlaw15.FragSizes", spec := "fragSizes", inPlace := ["internal/abi.NoEscape"], unfollowed := true, recurses := true, apart := false, narrowed := true }
def FragSizesUptoSaid : Prop := fragSizesUptoRow.holds Try.pinned (OpenSpec.upto fragSizesSpec)

/-- 'palanquinlaw15.FragCuts', WHERE WHAT IT READS IS OF BULK AT MOST 1048576: true; the input reads as it did. -/
def fragCutsUptoRow : OpenClaim := { program := "ytejmipoolbodgaa", sum := "228b2188803e9ce65cc2202746917007b9bfc3d15d03e7175e28af884d4534d7", func := "palanquin/palanquinlaw15.FragCuts", spec := "fragCuts", inPlace := ["internal/abi.NoEscape"], unfollowed := true, recurses := true, apart := false, narrowed := true }
def FragCutsUptoSaid : Prop := fragCutsUptoRow.holds Try.pinned (OpenSpec.upto fragCutsSpec)

end Rows
end Go.Proofs.Ytejmipoolbodgaa
