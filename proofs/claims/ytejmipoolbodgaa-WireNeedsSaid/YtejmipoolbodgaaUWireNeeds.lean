/- Plain law of WireNeeds: its walk is for the answer true alone. -/
import Derived.Test.YtejmipoolbodgaaHLaw01M
namespace Go.Proofs.Ytejmipoolbodgaa.Pure
open Go.RowKit Go.Proofs.YtejmipoolbodgaaW.PrintWords Go.Proofs.YtejmipoolbodgaaW.PrintLast Go.Proofs.Ytejmipoolbodgaa.G Go.Proofs.Ytejmipoolbodgaa.Pal
theorem WireNeeds (s : ByteArray) (n e : Int) (hs : s.size ≤ 140737488351232) (_ : (Lit.int .i64 n).wf = true) (_ : (Lit.int .i64 e).wf = true) : palanquinlaw01_WireNeeds.f s n e = some true := rfl
end Go.Proofs.Ytejmipoolbodgaa.Pure
