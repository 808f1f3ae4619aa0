/- The plain law of WireReads: what calls tell of a text is the document's. -/
import Derived.Test.YtejmipoolbodgaaPLaw01
import Derived.Test.YtejmipoolbodgaaGWireReads
namespace Go.Proofs.Ytejmipoolbodgaa.Pure
open Go.RowKit Go.Proofs.YtejmipoolbodgaaW.PrintWords Go.Proofs.YtejmipoolbodgaaW.PrintLast Go.Proofs.Ytejmipoolbodgaa.G Go.Proofs.Ytejmipoolbodgaa.Pal
set_option linter.unusedVariables false
theorem WireReads (a0 : ByteArray) (l1 : List S87) (w0 : a0.size ≤ 140737488351232) (w1 : ∀ c ∈ l1, (0 ≤ c.f2 ∧ c.f2 < 18446744073709551616) ∧ c.f3.size ≤ 140737488351232) : ∃ k, palanquinlaw01_WireReads.f k a0 l1 = some true := by
  refine ⟨1001, ?_⟩
  unfold palanquinlaw01_WireReads.f
  rw [show palanquinlaw01_awake.f = some true from rfl, Option.bind_some, if_pos rfl]
  obtain ⟨b, hb, hB⟩ := few_is l1 1001 (by omega)
  rw [hb, Option.bind_some]
  have end_ : ∀ k, palanquinlaw01_WireReads.j0 (k + 1) a0 l1 true = some true := fun k => by rw [palanquinlaw01_WireReads.j0, if_pos rfl]
  cases b with
  | false => rw [if_neg (by decide)]; exact end_ 1000
  | true =>
    have hl := hB rfl
    rw [if_pos rfl]
    split
    · exact end_ 1000
    rename_i h5
    obtain ⟨c, hc, hC⟩ := stops_is l1 hl 1001 (by omega)
    rw [hc, Option.bind_some]
    cases c with
    | true => exact end_ 1000
    | false =>
      have hr : palanquinlaw01_read.f a0 l1 = some (reads a0 0 l1) := if_pos ⟨w0, by omega, hC rfl⟩
      have hz := reads_len a0 l1 0
      rw [palanquinlaw01_WireReads.j0, if_neg (by decide), hr, Option.bind_some, read_is a0 l1 w0 hl (fun c h => (w1 c h).1.1) 1000 (by omega), Option.bind_some, answers_is _ (by omega) 1000 (by omega), Option.bind_some, if_pos rfl]
      simp
end Go.Proofs.Ytejmipoolbodgaa.Pure
