/- Plain law of TcpOptions: whether options are right, and the MSS that they tell, are just the document's. -/
import Derived.Test.YtejmipoolbodgaaGTcpOptions
import Derived.Test.YtejmipoolbodgaaPRef07
import Derived.Test.YtejmipoolbodgaaPLaw07
namespace Go.Proofs.Ytejmipoolbodgaa.Pure
open Go.RowKit Go.Proofs.YtejmipoolbodgaaW.PrintWords Go.Proofs.YtejmipoolbodgaaW.PrintLast Go.Proofs.Ytejmipoolbodgaa.G Go.Proofs.Ytejmipoolbodgaa.Pal
theorem TcpOptions : palanquinlaw07_TcpOptions.Pure := by
  intro a ha
  refine ⟨2 * 1000 + 2, ?_⟩
  unfold palanquinlaw07_TcpOptions.f
  rw [awake07, Option.bind_some, if_pos rfl]
  by_cases h : (a.size : Int) > 1000
  · rw [if_pos h]
  rw [if_neg h, walk07_is a _ (by omega) (by omega), Option.bind_some, mss_is a ha, Option.bind_some, mss07_is a _ (by omega) (by omega), Option.bind_some, right_is a ha, Option.bind_some]
  rw [walkR_snd, beq_self_eq_true, if_pos rfl, if_pos rfl, if_pos rfl, beq_self_eq_true]
end Go.Proofs.Ytejmipoolbodgaa.Pure
