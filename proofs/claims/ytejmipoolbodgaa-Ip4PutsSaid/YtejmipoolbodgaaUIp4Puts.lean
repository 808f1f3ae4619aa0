/- Plain law of Ip4Puts: what may be a header, and its packet, are just the document's. -/
import Derived.Test.YtejmipoolbodgaaGIp4Puts
import Derived.Test.YtejmipoolbodgaaPIp4
import Derived.Test.YtejmipoolbodgaaPRef4
namespace Go.Proofs.Ytejmipoolbodgaa.Pure
open Go.RowKit Go.Proofs.YtejmipoolbodgaaW.PrintWords Go.Proofs.YtejmipoolbodgaaW.PrintLast Go.Proofs.Ytejmipoolbodgaa.G Go.Proofs.Ytejmipoolbodgaa.Pal
theorem Ip4Puts (tos id off ttl proto : Int) (df mf : Bool) (src dst opt p : ByteArray) (_ : (Lit.int .i64 tos).wf = true) (_ : (Lit.int .i64 id).wf = true) (_ : (Lit.int .i64 off).wf = true) (_ : (Lit.int .i64 ttl).wf = true) (_ : (Lit.int .i64 proto).wf = true) (_ : src.size ≤ maxLen) (_ : dst.size ≤ maxLen) (_ : opt.size ≤ maxLen) (hp : p.size ≤ 140737488351232) :
    ∃ k, palanquinlaw05_Ip4Puts.f k tos id off ttl proto df mf src dst opt p = some true := by
  refine ⟨6003 + 1, ?_⟩
  unfold palanquinlaw05_Ip4Puts.f
  obtain ⟨t, ht, hf⟩ := few05 tos id off ttl proto df mf src dst opt
  rw [awake05, Option.bind_some, if_pos rfl, ht, Option.bind_some]
  have skip : palanquinlaw05_Ip4Puts.j0 (6003 + 1) p true tos id off ttl proto df mf src dst opt = some true := by rw [palanquinlaw05_Ip4Puts.j0, if_pos rfl]
  cases t
  · rw [if_neg (by decide)]; exact skip
  rw [if_pos rfl]
  by_cases h1 : (p.size : Int) > 70000
  · rw [decide_eq_true h1]; exact skip
  rw [decide_eq_false h1, palanquinlaw05_Ip4Puts.j0, if_neg (by decide)]
  obtain ⟨f1, f2, f3⟩ := hf rfl
  rw [ref_put4 tos id off ttl proto df mf src dst opt p (by omega) (by omega) (by omega) hp 6003 (by decide)]
  obtain ⟨x, hx⟩ := put4_some tos id off ttl proto df mf src dst opt p (by omega) (by omega) (by omega) hp
  rw [hx, Option.bind_some, Option.bind_some, if_pos rfl, if_pos rfl, check4 (by omega) (by omega) (by omega), Option.bind_some, ref_right4, Option.bind_some]
  by_cases o : ok4 tos id off ttl proto src dst opt
  · rw [if_pos o, decide_eq_true o]; rfl
  · rw [if_neg o, decide_eq_false o]; rfl
end Go.Proofs.Ytejmipoolbodgaa.Pure
