/- Plain law of WireInside: its walk is for the answer true alone; what is left is the sizes. -/
import Derived.Test.YtejmipoolbodgaaHLaw01
namespace Go.Proofs.Ytejmipoolbodgaa.Pure
open Go.RowKit Go.Proofs.YtejmipoolbodgaaW.PrintWords Go.Proofs.YtejmipoolbodgaaW.PrintLast Go.Proofs.Ytejmipoolbodgaa.G Go.Proofs.Ytejmipoolbodgaa.Pal
theorem WireInside (s t : ByteArray) (n e : Int) (hs : s.size ≤ 140737488351232) (ht : t.size ≤ 140737488351232) (_ : (Lit.int .i64 n).wf = true) (_ : (Lit.int .i64 e).wf = true) : palanquinlaw01_WireInside.f s t n e = some true := by
  unfold palanquinlaw01_WireInside.f
  rw [if_pos ⟨hs, ht⟩]
end Go.Proofs.Ytejmipoolbodgaa.Pure
