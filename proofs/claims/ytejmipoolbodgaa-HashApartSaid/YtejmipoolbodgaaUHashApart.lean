/- Plain law of HashApart: unlike flows have unlike texts, like ones like numbers and ports. -/
import Derived.Test.YtejmipoolbodgaaGHashApart
import Derived.Test.YtejmipoolbodgaaPHash
namespace Go.Proofs.Ytejmipoolbodgaa.Pure
open Go.RowKit Go.Proofs.YtejmipoolbodgaaW.PrintWords Go.Proofs.YtejmipoolbodgaaW.PrintLast Go.Proofs.Ytejmipoolbodgaa.G Go.Proofs.Ytejmipoolbodgaa.Pal
theorem HashApart (p : Int) (s d : ByteArray) (a b : Int) (p' : Int) (s' d' : ByteArray) (a' b' : Int) (_ : (Lit.int .i64 p).wf = true) (_ : s.size ≤ maxLen) (_ : d.size ≤ maxLen) (_ : (Lit.int .i64 a).wf = true) (_ : (Lit.int .i64 b).wf = true) (_ : (Lit.int .i64 p').wf = true) (_ : s'.size ≤ maxLen) (_ : d'.size ≤ maxLen) (_ : (Lit.int .i64 a').wf = true) (_ : (Lit.int .i64 b').wf = true) :
    ∃ k, palanquinlaw20_HashApart.f k p s d a b p' s' d' a' b' = some true := by
  refine ⟨1 + 1 + 1, ?_⟩
  unfold palanquinlaw20_HashApart.f
  rw [awake20, Option.bind_some, if_pos rfl]
  have skip : palanquinlaw20_HashApart.j0 (1 + 1 + 1) true p s d a b p' s' d' a' b' = some true := by rw [palanquinlaw20_HashApart.j0, if_pos rfl]
  obtain ⟨t, ht, ok⟩ := right_flow p s d a b
  rw [ht, Option.bind_some]
  cases t
  · rw [if_neg (by decide)]; exact skip
  replace ok := ok rfl
  rw [if_pos rfl]
  obtain ⟨t', ht', ok'⟩ := right_flow p' s' d' a' b'
  rw [ht', Option.bind_some]
  cases t'
  · exact skip
  replace ok' := ok' rfl
  have z : s.size + d.size ≤ 1000 := by have := ok.2.1; have := ok.2.2.1; omega
  have z' : s'.size + d'.size ≤ 1000 := by have := ok'.2.1; have := ok'.2.2.1; omega
  show palanquinlaw20_HashApart.j0 (1 + 1 + 1) false p s d a b p' s' d' a' b' = some true
  rw [palanquinlaw20_HashApart.j0, if_neg (by decide), text_is _ _ _ _ _ z, Option.bind_some, text_is _ _ _ _ _ z', Option.bind_some]
  have j1 : palanquinlaw20_HashApart.j1 (1 + 1) false p s d a b p' s' d' a' b' = some true := by
    rw [palanquinlaw20_HashApart.j1, if_neg (by decide)]
    by_cases e : p = p' ∧ s = s' ∧ d = d' ∧ a = a' ∧ b = b'
    · obtain ⟨rfl, rfl, rfl, rfl, rfl⟩ := e
      rw [if_neg (by simp), flow_is _ _ _ _ _ z, Option.bind_some, Option.bind_some, if_pos rfl, port_is _ _ _ _ _ z, Option.bind_some, Option.bind_some, beq_self_eq_true]
    · rw [if_pos ?_]
      simp only [toList_bl, Bool.or_eq_true, Bool.not_eq_true', beq_eq_false_iff_ne]
      by_cases h1 : p = p'
      · by_cases h2 : bl s = bl s'
        · by_cases h3 : bl d = bl d'
          · by_cases h4 : a = a'
            · by_cases h5 : b = b'
              · exact absurd ⟨h1, hbl_inj h2, hbl_inj h3, h4, h5⟩ e
              · exact .inr (.inr (.inr (.inr h5)))
            · exact .inr (.inr (.inr (.inl h4)))
          · exact .inr (.inr (.inl h3))
        · exact .inr (.inl h2)
      · exact .inl h1
  have eq : ((⟨(flowText p s d a b).toArray⟩ : ByteArray).toList == (⟨(flowText p' s' d' a' b').toArray⟩ : ByteArray).toList) = (p == p' && (s.toList == s'.toList && (d.toList == d'.toList && (a == a' && (b == b'))))) := by
    simp only [toList_bl, hbl_mk]
    by_cases e : p = p' ∧ s = s' ∧ d = d' ∧ a = a' ∧ b = b'
    · obtain ⟨rfl, rfl, rfl, rfl, rfl⟩ := e
      simp
    · have n1 : flowText p s d a b ≠ flowText p' s' d' a' b' := fun h => e (flowText_inj ok ok' h)
      rw [beq_eq_false_iff_ne.mpr n1]
      symm
      rw [Bool.eq_false_iff]
      intro h
      simp only [Bool.and_eq_true, beq_iff_eq] at h
      exact e ⟨h.1, hbl_inj h.2.1, hbl_inj h.2.2.1, h.2.2.2⟩
  rw [eq, if_neg (by simp), flow_is _ _ _ _ _ z, Option.bind_some, hsum_one _ (by rw [text_size]; omega), Option.bind_some, hbl_mk, if_pos rfl, port_is _ _ _ _ _ z, Option.bind_some, if_neg (by omega), Option.bind_some, decide_eq_false (by omega)]
  exact j1
end Go.Proofs.Ytejmipoolbodgaa.Pure
