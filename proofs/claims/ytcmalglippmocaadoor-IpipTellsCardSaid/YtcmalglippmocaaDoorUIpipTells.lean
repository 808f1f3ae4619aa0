/- The plain law of IpipTells: protocol, kind, put and got are the document's. -/
import Derived.Test.YtcmalglippmocaaDoorPIpip
import Derived.Test.YtcmalglippmocaaDoorGIpipTells
namespace Go.Proofs.YtcmalglippmocaaDoor.Pure
open Go.RowKit Go.Proofs.YtcmalglippmocaaDoorW.PrintWords Go.Proofs.YtcmalglippmocaaDoorW.PrintLast Go.Proofs.YtcmalglippmocaaDoor.G Go.Proofs.YtcmalglippmocaaDoor.Pal
set_option linter.unusedVariables false
theorem IpipTells (a0 : ByteArray) (a1 : Int) (w0 : a0.size ≤ 140737488351232) (w1 : (Lit.int .i64 a1).wf = true) : ∃ k, palanquinlaw11_IpipTells.f k a0 a1 = some true := by
  refine ⟨1, ?_⟩
  unfold palanquinlaw11_IpipTells.f
  rw [awake11, Option.bind_some, if_pos rfl]
  split
  · rfl
  obtain ⟨g, hg⟩ : ∃ g, ipip_Get.f a1 a0 = some g := ⟨_, rfl⟩
  rw [proto_is, Option.bind_some, refProto_is, Option.bind_some, kind_is, Option.bind_some, refKind_is, Option.bind_some, refGet_is, hg, Option.bind_some, Option.bind_some, put_is, Option.bind_some]
  dsimp +instances only
  rw [if_pos rfl, if_pos rfl, if_pos rfl, if_pos rfl, if_pos rfl, if_pos rfl]
  by_cases he : (verOf a0).2.2.2 = 0
  · rw [if_pos he]
    dsimp +instances only
    rw [if_pos rfl, if_pos he.symm, if_pos rfl]
  · rw [if_neg he]
    dsimp +instances only
    have hp : (verOf a0).2.1 = 0 := by
      rcases ver_cases a0 with ⟨_, e⟩ | ⟨_, _, e⟩ | ⟨_, _, e⟩ | ⟨_, _, _, e⟩ <;> rw [e] at he ⊢ <;> simp at he ⊢
    rw [if_pos hp.symm, if_pos rfl]
    split
    · rfl
    · first | (rw [empty11]; rfl) | (rw [if_neg he, empty11]; rfl)
end Go.Proofs.YtcmalglippmocaaDoor.Pure
