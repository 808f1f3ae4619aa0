/- Plain law of TcpBack: what is put is got as it was, if its options are right; what is got is put as it was. -/
import Derived.Test.YtejmipoolbodgaaGTcpBack
import Derived.Test.YtejmipoolbodgaaPTcpS
import Derived.Test.YtejmipoolbodgaaPLaw07
namespace Go.Proofs.Ytejmipoolbodgaa.Pure
open Go.RowKit Go.Proofs.YtejmipoolbodgaaW.PrintWords Go.Proofs.YtejmipoolbodgaaW.PrintLast Go.Proofs.Ytejmipoolbodgaa.G Go.Proofs.Ytejmipoolbodgaa.Pal
theorem emptyT : (⟨#[]⟩ : ByteArray).toList = [] := by decide +kernel
theorem few07 (src dst seq ack flags win urg : Int) (opt p : ByteArray) : ∃ t, palanquinlaw07_few.f src dst seq ack flags win urg opt p = some t ∧ (t = true → opt.size ≤ 300 ∧ p.size ≤ 5000) := by
  unfold palanquinlaw07_few.f
  split
  · exact ⟨_, rfl, fun h => by have := of_decide_eq_true h; omega⟩
  · exact ⟨_, rfl, fun h => absurd h (by decide)⟩
theorem backT (s : ByteArray) (hs : s.size ≤ 140737488351232) (k : Nat) : palanquinlaw07_TcpBack.j1 (k + 1) s = some true := by
  rw [palanquinlaw07_TcpBack.j1, getT_is hs, Option.bind_some]
  by_cases he : tcpErr s = 0
  · rw [if_pos he]
    dsimp only
    rw [if_pos rfl, put_getT hs he, Option.bind_some, if_pos rfl, beq_self_eq_true]
  · rw [if_neg he]
    dsimp only
    rw [if_neg he, emptyT]
    rfl
theorem TcpBack (src dst seq ack flags win urg : Int) (opt p : ByteArray) (sum : Int) (s : ByteArray) (_ : (Lit.int .i64 src).wf = true) (_ : (Lit.int .i64 dst).wf = true) (hseq : (Lit.int .u32 seq).wf = true) (hack : (Lit.int .u32 ack).wf = true) (_ : (Lit.int .i64 flags).wf = true) (_ : (Lit.int .i64 win).wf = true) (_ : (Lit.int .i64 urg).wf = true) (_ : opt.size ≤ maxLen) (_ : p.size ≤ maxLen) (_ : (Lit.int .i64 sum).wf = true) (hs : s.size ≤ 140737488351232) :
    ∃ k, palanquinlaw07_TcpBack.f k src dst seq ack flags win urg opt p sum s = some true := by
  have hq' : 0 ≤ seq ∧ seq ≤ 4294967295 := by simp [Lit.wf] at hseq; exact hseq
  have hq : 0 ≤ seq ∧ seq < 4294967296 := by omega
  have ha' : 0 ≤ ack ∧ ack ≤ 4294967295 := by simp [Lit.wf] at hack; exact hack
  have ha : 0 ≤ ack ∧ ack < 4294967296 := by omega
  refine ⟨1 + 1, ?_⟩
  unfold palanquinlaw07_TcpBack.f
  obtain ⟨t, ht, hf⟩ := few07 src dst seq ack flags win urg opt p
  rw [awake07, Option.bind_some, if_pos rfl, ht, Option.bind_some]
  have skip : palanquinlaw07_TcpBack.j0 (1 + 1) sum s true src dst seq ack flags win urg opt p = some true := by rw [palanquinlaw07_TcpBack.j0, if_pos rfl]
  cases t
  · rw [if_neg (by decide)]; exact skip
  rw [if_pos rfl]
  by_cases h2 : (s.size : Int) > 5000
  · rw [decide_eq_true h2]; exact skip
  obtain ⟨f1, f2⟩ := hf rfl
  rw [decide_eq_false h2, palanquinlaw07_TcpBack.j0, if_neg (by decide)]
  by_cases o : tcpOk src dst flags win urg opt ∧ in16 sum
  case neg =>
    rw [putT_no (by omega) hq ha o, Option.bind_some, if_neg (by decide), if_pos emptyT]
    exact backT s hs 0
  rw [putT_ok (by omega) hq ha o.1 o.2, Option.bind_some, if_pos rfl, get_putT (by omega) hq ha o.1 o.2 (blT_mk _), Option.bind_some, right_is opt (by omega), Option.bind_some]
  by_cases hr : rightO (bl opt) = true
  · rw [if_pos hr, hr]
    dsimp only
    rw [if_neg (by decide), if_pos rfl, if_neg (by simp), if_pos rfl]
    exact backT s hs 0
  · rw [if_neg hr, Bool.eq_false_iff.mpr hr]
    dsimp only
    rw [if_neg (by decide), if_neg (by decide), if_pos rfl]
    exact backT s hs 0
end Go.Proofs.Ytejmipoolbodgaa.Pure
