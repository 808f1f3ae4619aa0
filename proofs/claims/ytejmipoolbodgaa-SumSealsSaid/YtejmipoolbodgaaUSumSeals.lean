/- Plain law of SumSeals: its walk is for the answer true alone; what is left is the sizes. -/
import Derived.Test.YtejmipoolbodgaaHSeals
namespace Go.Proofs.Ytejmipoolbodgaa.Pure
open Go.RowKit Go.Proofs.YtejmipoolbodgaaW.PrintWords Go.Proofs.YtejmipoolbodgaaW.PrintLast Go.Proofs.Ytejmipoolbodgaa.G Go.Proofs.Ytejmipoolbodgaa.Pal
theorem SumSeals (a : ByteArray) (b : Int) (ha : a.size ≤ 140737488351232) (hb : (Lit.int .i64 b).wf = true) : palanquinlaw02_SumSeals.f a b = some true := by
  unfold palanquinlaw02_SumSeals.f
  have : -9223372036854775808 ≤ b ∧ b ≤ 9223372036854775807 := by simp [Lit.wf] at hb; exact hb
  rw [if_pos ⟨ha, this⟩]
end Go.Proofs.Ytejmipoolbodgaa.Pure
