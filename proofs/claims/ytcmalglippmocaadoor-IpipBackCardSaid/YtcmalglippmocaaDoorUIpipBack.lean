/- The plain law of IpipBack: what is put is got by its own protocol alone. -/
import Derived.Test.YtcmalglippmocaaDoorPIpip
import Derived.Test.YtcmalglippmocaaDoorGIpipBack
namespace Go.Proofs.YtcmalglippmocaaDoor.Pure
open Go.RowKit Go.Proofs.YtcmalglippmocaaDoorW.PrintWords Go.Proofs.YtcmalglippmocaaDoorW.PrintLast Go.Proofs.YtcmalglippmocaaDoor.G Go.Proofs.YtcmalglippmocaaDoor.Pal
set_option linter.unusedVariables false
theorem IpipBack (a0 : ByteArray) (a1 : Int) (w0 : a0.size ≤ 140737488351232) (w1 : (Lit.int .i64 a1).wf = true) : palanquinlaw11_IpipBack.f a0 a1 = some true := by
  unfold palanquinlaw11_IpipBack.f
  rw [awake11, Option.bind_some, if_pos rfl]
  split
  · rfl
  rw [put_is, Option.bind_some]
  by_cases he : (verOf a0).2.2.2 = 0
  · rw [if_pos he]
    dsimp +instances only
    rw [if_pos rfl, get_own he, Option.bind_some]
    by_cases hp : a1 = (verOf a0).2.1
    · rw [hp, get_own he, Option.bind_some]
      simp
    · obtain ⟨e, h1, h2⟩ := get_other he hp
      rw [h1, Option.bind_some]
      dsimp +instances only
      rw [if_pos rfl, if_pos rfl, if_pos (by rw [beq_eq_false_iff_ne.mpr h2, beq_eq_false_iff_ne.mpr hp]; rfl)]
      split
      · rfl
      · first | (rw [empty11]; rfl) | (rw [if_neg h2, empty11]; rfl)
  · rw [if_neg he]
    dsimp +instances only
    rw [if_neg he, if_pos rfl, empty11]; rfl
end Go.Proofs.YtcmalglippmocaaDoor.Pure
