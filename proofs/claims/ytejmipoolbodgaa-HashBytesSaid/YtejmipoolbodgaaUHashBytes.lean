/- Plain law of HashBytes: its walk is for the answer true alone; what is left is the sizes. -/
import Derived.Test.YtejmipoolbodgaaHHBytes
namespace Go.Proofs.Ytejmipoolbodgaa.Pure
open Go.RowKit Go.Proofs.YtejmipoolbodgaaW.PrintWords Go.Proofs.YtejmipoolbodgaaW.PrintLast Go.Proofs.Ytejmipoolbodgaa.G Go.Proofs.Ytejmipoolbodgaa.Pal
theorem HashBytes (a : ByteArray) (b c d e : Int) (ha : a.size ≤ 140737488351232) (hb : (Lit.int .i64 b).wf = true) (hc : (Lit.int .u8 c).wf = true) (_ : (Lit.int .i64 d).wf = true) (_ : (Lit.int .i64 e).wf = true) : palanquinlaw20_HashBytes.f a b c d e = some true := by
  unfold palanquinlaw20_HashBytes.f
  have h1 : -9223372036854775808 ≤ b ∧ b ≤ 9223372036854775807 := by simp [Lit.wf] at hb; exact hb
  have h2 : 0 ≤ c ∧ c ≤ 255 := by simp [Lit.wf] at hc; exact hc
  rw [if_pos ⟨ha, h1.1, h1.2, h2.1, h2.2⟩]
end Go.Proofs.Ytejmipoolbodgaa.Pure
