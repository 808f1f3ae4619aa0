/- Plain law of Ip6Cuts: its walk is for the answer true alone. -/
import Derived.Test.YtejmipoolbodgaaHIp6Cuts
namespace Go.Proofs.Ytejmipoolbodgaa.Pure
open Go.RowKit Go.Proofs.YtejmipoolbodgaaW.PrintWords Go.Proofs.YtejmipoolbodgaaW.PrintLast Go.Proofs.Ytejmipoolbodgaa.G Go.Proofs.Ytejmipoolbodgaa.Pal
theorem Ip6Cuts (c l n h : Int) (s d p : ByteArray) (v : Int) (_ : (Lit.int .i64 c).wf = true) (_ : (Lit.int .i64 l).wf = true) (_ : (Lit.int .i64 n).wf = true) (_ : (Lit.int .i64 h).wf = true) (_ : s.size ≤ maxLen) (_ : d.size ≤ maxLen) (_ : p.size ≤ 140737488351232) (hv : (Lit.int .u8 v).wf = true) :
    palanquinlaw06_Ip6Cuts.f c l n h s d p v = some true := by
  have hv' : 0 ≤ v ∧ v ≤ 255 := by simp [Lit.wf] at hv; exact hv
  unfold palanquinlaw06_Ip6Cuts.f
  rw [if_pos (by omega)]
end Go.Proofs.Ytejmipoolbodgaa.Pure
