/- The plain law of WireWrites: its walk is by hand, for the answer true. -/
import Derived.Test.YtejmipoolbodgaaHWr1
namespace Go.Proofs.Ytejmipoolbodgaa.Pure
open Go.RowKit Go.Proofs.Ytejmipoolbodgaa.G
theorem WireWrites (l0 : List S87) (w0 : ∀ c ∈ l0, (0 ≤ c.f2 ∧ c.f2 < 18446744073709551616) ∧ c.f3.size ≤ 140737488351232) : palanquinlaw01_WireWrites.f l0 = some true := if_pos w0
end Go.Proofs.Ytejmipoolbodgaa.Pure
