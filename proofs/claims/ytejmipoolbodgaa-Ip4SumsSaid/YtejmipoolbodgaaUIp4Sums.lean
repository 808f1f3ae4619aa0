/- Plain law of Ip4Sums: its walk is for the answer true alone. -/
import Derived.Test.YtejmipoolbodgaaHIp4Sums
namespace Go.Proofs.Ytejmipoolbodgaa.Pure
open Go.RowKit Go.Proofs.YtejmipoolbodgaaW.PrintWords Go.Proofs.YtejmipoolbodgaaW.PrintLast Go.Proofs.Ytejmipoolbodgaa.G Go.Proofs.Ytejmipoolbodgaa.Pal
theorem Ip4Sums (tos id off ttl proto : Int) (df mf : Bool) (src dst opt p : ByteArray) (bit : Int) (_ : (Lit.int .i64 tos).wf = true) (_ : (Lit.int .i64 id).wf = true) (_ : (Lit.int .i64 off).wf = true) (_ : (Lit.int .i64 ttl).wf = true) (_ : (Lit.int .i64 proto).wf = true) (_ : src.size ≤ maxLen) (_ : dst.size ≤ maxLen) (_ : opt.size ≤ maxLen) (_ : p.size ≤ 140737488351232) (_ : (Lit.int .i64 bit).wf = true) :
    palanquinlaw05_Ip4Sums.f tos id off ttl proto df mf src dst opt p bit = some true := rfl
end Go.Proofs.Ytejmipoolbodgaa.Pure
