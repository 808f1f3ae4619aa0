/- Texts of this session, joined: each is a section. -/
import Derived.Test.YtcmalglippmocaaDoorMGrbg1
set_option linter.unusedVariables false
set_option linter.unusedSimpArgs false
section
namespace Go.Proofs.YtcmalglippmocaaDoor.G
open Go.RowKit Go.Proofs.YtcmalglippmocaaDoorW.PrintWords Go.Proofs.YtcmalglippmocaaDoorW.PrintLast Go.Proofs.YtcmalglippmocaaDoorW.PrintMore
attribute [local go_sem] max2_int min2_int max_two min_two max_three min_three max_four min_four   -- for this text's walks alone
set_option linter.unusedVariables false
set_option linter.unusedSimpArgs false

theorem eqA40 (d : Nat) (w : World) (x0 y0 : Bool) (x1 y1 : Bool) (x2 y2 : Int) :
    (Op.equalIn (d + 2) 40 (.agg #[.bool x0, .bool x1, .int .u32 x2]) (.agg #[.bool y0, .bool y1, .int .u32 y2])).run Tryd.prog w = .ok (x0 == y0 && (x1 == y1 && (x2 == y2))) w := by
  refine eqA_of Tryd.underlying40 (by kernel_rfl) ?_
  refine eqf_cons (by rfl) (by go_simp; rfl) (by go_simp; rfl) (by go_simp) ?_
  refine eqf_cons (by rfl) (by go_simp; rfl) (by go_simp; rfl) (by go_simp) ?_
  exact eqf_last (by rfl) (by go_simp; rfl) (by go_simp; rfl) (by go_simp)
end Go.Proofs.YtcmalglippmocaaDoor.G
end
