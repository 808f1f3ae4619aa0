/- The law's own example holds. -/
import Derived.Test.YtejmipoolbodgaaGlaw07
import Derived.Test.YtejmipoolbodgaaPTcpF
namespace Go.Proofs.Ytejmipoolbodgaa.Pure
open Go.RowKit Go.Proofs.YtejmipoolbodgaaW.PrintWords Go.Proofs.YtejmipoolbodgaaW.PrintLast Go.Proofs.Ytejmipoolbodgaa.G Go.Proofs.Ytejmipoolbodgaa.Pal
theorem awake07 : palanquinlaw07_awake.f = some true := by
  unfold palanquinlaw07_awake.f
  rw [mss_is _ (by decide), Option.bind_some, show mssOf (bl ⟨#[2, 4, 5, 180]⟩) = some (1460, 2) by decide +kernel]
  rfl
end Go.Proofs.Ytejmipoolbodgaa.Pure
