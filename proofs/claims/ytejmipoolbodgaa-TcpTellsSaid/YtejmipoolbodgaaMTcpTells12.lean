/- Texts of this session, joined: each is a section. -/
import Derived.Test.YtejmipoolbodgaaMTcpTells6
import Derived.Test.YtejmipoolbodgaaMTcpTells7
import Derived.Test.YtejmipoolbodgaaMTcpTells8
import Derived.Test.YtejmipoolbodgaaMTcpTells3
import Derived.Test.YtejmipoolbodgaaMTcpTells1
import Derived.Test.YtejmipoolbodgaaMTcpTells11
import Derived.Test.YtejmipoolbodgaaMTcpTells9
import Derived.Test.YtejmipoolbodgaaWWords
import Derived.Deep.Fields
import Derived.Deep.Strs
import Derived.WideShapes
import Derived.ChangeArms
set_option linter.unusedVariables false
set_option linter.unusedSimpArgs false
section
/- Plain theory: the document's Put and Get of a segment are the program's. -/
namespace Go.Proofs.Ytejmipoolbodgaa.Pure
open Go.RowKit Go.Proofs.YtejmipoolbodgaaW.PrintWords Go.Proofs.YtejmipoolbodgaaW.PrintLast Go.Proofs.Ytejmipoolbodgaa.G Go.Proofs.Ytejmipoolbodgaa.Pal
set_option linter.unusedVariables false
theorem in07 (a lo hi : Int) : palanquinref07_in.f a lo hi = some (decide (lo ≤ a ∧ a ≤ hi)) := by
  unfold palanquinref07_in.f
  by_cases h : a ≥ lo
  · rw [if_pos h]; congr 1
    by_cases h2 : a ≤ hi
    · rw [decide_eq_true h2, decide_eq_true (show lo ≤ a ∧ a ≤ hi from ⟨h, h2⟩)]
    · rw [decide_eq_false h2, decide_eq_false (show ¬ (lo ≤ a ∧ a ≤ hi) from fun h3 => h2 h3.2)]
  · rw [if_neg h, decide_eq_false (show ¬ (lo ≤ a ∧ a ≤ hi) from fun h3 => h h3.1)]
theorem may07 (src dst seq ack flags win urg : Int) (opt p : ByteArray) : palanquinref07_May.f src dst seq ack flags win urg opt p = some (decide (tcpOk src dst flags win urg opt)) := by
  unfold palanquinref07_May.f
  simp only [in07, Option.bind_some]
  by_cases h1 : 0 ≤ src ∧ src ≤ 65535
  case neg => rw [decide_eq_false h1, if_neg (by decide), decide_eq_false (fun h => h1 h.1)]
  rw [decide_eq_true h1, if_pos rfl]
  by_cases h2 : 0 ≤ dst ∧ dst ≤ 65535
  case neg => rw [decide_eq_false h2, if_neg (by decide), decide_eq_false (fun h => h2 h.2.1)]
  rw [decide_eq_true h2, if_pos rfl]
  by_cases h3 : 0 ≤ win ∧ win ≤ 65535
  case neg => rw [decide_eq_false h3, if_neg (by decide), decide_eq_false (fun h => h3 h.2.2.1)]
  rw [decide_eq_true h3, if_pos rfl]
  by_cases h4 : 0 ≤ urg ∧ urg ≤ 65535
  case neg => rw [decide_eq_false h4, if_neg (by decide), decide_eq_false (fun h => h4 h.2.2.2.1)]
  rw [decide_eq_true h4, if_pos rfl]
  by_cases h5 : 0 ≤ flags ∧ flags ≤ 255
  case neg => rw [decide_eq_false h5, if_neg (by decide), decide_eq_false (fun h => h5 h.2.2.2.2.1)]
  rw [decide_eq_true h5, if_pos rfl]
  by_cases h6 : (opt.size : Int) ≤ 40
  case neg => rw [if_neg h6, decide_eq_false (fun h => h6 (by have := h.2.2.2.2.2.1; omega))]
  rw [if_pos h6]
  congr 1
  by_cases h7 : opt.size % 4 = 0
  · rw [decide_eq_true (show tcpOk src dst flags win urg opt from ⟨h1, h2, h3, h4, h5, by omega, h7⟩), beq_iff_eq]; omega
  · rw [decide_eq_false (fun h => h7 h.2.2.2.2.2.2), beq_eq_false_iff_ne]; omega
theorem num07 (n : Nat) (hn : n ≤ 8) (v : Int) (k : Nat) (hk : n < k) : ∃ r, palanquinref07_num.f k v (n : Int) = some r ∧ bl r = nb n (u64n v) := by
  obtain ⟨r, h1, h2⟩ := bytes_u n hn v k hk
  exact ⟨r, by unfold palanquinref07_num.f; rw [h1, Option.bind_some], h2⟩
theorem off07 (n : Nat) (h : n ≤ 40) : wrap64 ((wrap64 (5 + (wrap64 ((n : Int) / 4)))) * 16) = (((20 + n) / 4 * 16 : Nat) : Int) := by
  have e1 : wrap64 ((n : Int) / 4) = ((n / 4 : Nat) : Int) := by unfold wrap64; omega
  have e2 : wrap64 (5 + ((n / 4 : Nat) : Int)) = ((5 + n / 4 : Nat) : Int) := by unfold wrap64; omega
  have e3 : (20 + n) / 4 = 5 + n / 4 := by omega
  rw [e1, e2, e3]
  unfold wrap64; omega
theorem put07 {src dst seq ack flags win urg sum : Int} {opt p : ByteArray} (hp : p.size ≤ 140737488351232) (hq : 0 ≤ seq ∧ seq < 4294967296) (ha : 0 ≤ ack ∧ ack < 4294967296) (k : Nat) (hk : 6 < k) :
    palanquinref07_Put.f k src dst seq ack flags win urg opt p sum = tcp_Put.f src dst seq ack flags win urg opt p sum := by
  obtain ⟨k, rfl⟩ : ∃ j, k = j + 1 := ⟨k - 1, by omega⟩
  unfold palanquinref07_Put.f
  rw [may07, Option.bind_some]
  by_cases o : tcpOk src dst flags win urg opt
  case neg => rw [decide_eq_false o, if_neg (by decide), palanquinref07_Put.j0, if_pos rfl, putT_no hp hq ha (fun h => o h.1)]
  rw [decide_eq_true o, if_pos rfl, in07, Option.bind_some]
  by_cases hs : in16 sum
  case neg => rw [decide_eq_false (show ¬ (0 ≤ sum ∧ sum ≤ 65535) from hs), palanquinref07_Put.j0, if_pos (by decide), putT_no hp hq ha (fun h => hs h.2)]
  rw [decide_eq_true (show 0 ≤ sum ∧ sum ≤ 65535 from hs), palanquinref07_Put.j0, if_neg (by decide), putT_ok hp hq ha o hs]
  obtain ⟨o1, o2, o3, o4, o5, o6, o7⟩ := o
  obtain ⟨r1, e1, b1⟩ := num07 2 (by decide) src k (by omega)
  obtain ⟨r2, e2, b2⟩ := num07 2 (by decide) dst k (by omega)
  obtain ⟨r3, e3, b3⟩ := num07 4 (by decide) seq k (by omega)
  obtain ⟨r4, e4, b4⟩ := num07 4 (by decide) ack k (by omega)
  obtain ⟨r5, e5, b5⟩ := num07 1 (by decide) (((20 + opt.size) / 4 * 16 : Nat) : Int) k (by omega)
  obtain ⟨r6, e6, b6⟩ := num07 1 (by decide) flags k (by omega)
  obtain ⟨r7, e7, b7⟩ := num07 2 (by decide) win k (by omega)
  obtain ⟨r8, e8, b8⟩ := num07 2 (by decide) sum k (by omega)
  obtain ⟨r9, e9, b9⟩ := num07 2 (by decide) urg k (by omega)
  have s1 := bytes_sized b1
  have s2 := bytes_sized b2
  have s3 := bytes_sized b3
  have s4 := bytes_sized b4
  have s5 := bytes_sized b5
  have s6 := bytes_sized b6
  have s7 := bytes_sized b7
  have s8 := bytes_sized b8
  have s9 := bytes_sized b9
  have w1 : wrap64 seq = seq := by unfold wrap64; omega
  have w2 : wrap64 ack = ack := by unfold wrap64; omega
  have w3 := off07 opt.size o6
  rw [w1, w2, w3]
  erw [e1, Option.bind_some, e2, Option.bind_some, if_pos (by omega), e3, Option.bind_some, if_pos (by simp only [ByteArray.size_append]; omega), e4, Option.bind_some, if_pos (by simp only [ByteArray.size_append]; omega), e5, Option.bind_some, if_pos (by simp only [ByteArray.size_append]; omega), e6, Option.bind_some, if_pos (by simp only [ByteArray.size_append]; omega), e7, Option.bind_some, if_pos (by simp only [ByteArray.size_append]; omega), e8, Option.bind_some, if_pos (by simp only [ByteArray.size_append]; omega), e9, Option.bind_some, if_pos (by simp only [ByteArray.size_append]; omega), if_pos (by simp only [ByteArray.size_append]; omega), if_pos (by simp only [ByteArray.size_append]; omega)]
  refine congrArg some (Prod.ext (blT_inj ?_) rfl)
  refine Eq.trans ?_ (blT_mk _).symm
  simp only [bl_append, b1, b2, b3, b4, b5, b6, b7, b8, b9]
  rfl
end Go.Proofs.Ytejmipoolbodgaa.Pure
end

section
/- The law's own example holds. -/
namespace Go.Proofs.Ytejmipoolbodgaa.Pure
open Go.RowKit Go.Proofs.YtejmipoolbodgaaW.PrintWords Go.Proofs.YtejmipoolbodgaaW.PrintLast Go.Proofs.Ytejmipoolbodgaa.G Go.Proofs.Ytejmipoolbodgaa.Pal
theorem awake07 : palanquinlaw07_awake.f = some true := by
  unfold palanquinlaw07_awake.f
  rw [mss_is _ (by decide), Option.bind_some, show mssOf (bl ⟨#[2, 4, 5, 180]⟩) = some (1460, 2) by decide +kernel]
  rfl
end Go.Proofs.Ytejmipoolbodgaa.Pure
end

section
/- Plain law of TcpTells: whether any segment may be, its bytes, and what any bytes say as one, are just the document's. -/
namespace Go.Proofs.Ytejmipoolbodgaa.Pure
open Go.RowKit Go.Proofs.YtejmipoolbodgaaW.PrintWords Go.Proofs.YtejmipoolbodgaaW.PrintLast Go.Proofs.Ytejmipoolbodgaa.G Go.Proofs.Ytejmipoolbodgaa.Pal
set_option linter.unusedVariables false
theorem few07t (src dst seq ack flags win urg : Int) (opt p : ByteArray) : ∃ t, palanquinlaw07_few.f src dst seq ack flags win urg opt p = some t ∧ (t = true → opt.size ≤ 300 ∧ p.size ≤ 5000) := by
  unfold palanquinlaw07_few.f
  split
  · exact ⟨_, rfl, fun h => by have := of_decide_eq_true h; omega⟩
  · exact ⟨_, rfl, fun h => absurd h (by decide)⟩
theorem check07 (src dst seq ack flags win urg : Int) (opt p : ByteArray) : ∃ t, tcp_Check.f src dst seq ack flags win urg opt p = some t ∧ ((t == 0) == decide (tcpOk src dst flags win urg opt)) = true := by
  unfold tcp_Check.f tcpCheck
  by_cases h : tcpOk src dst flags win urg opt
  · exact ⟨0, by rw [if_pos h], by rw [decide_eq_true h]; rfl⟩
  · exact ⟨1, by rw [if_neg h], by rw [decide_eq_false h]; rfl⟩
theorem TcpTells (src dst seq ack flags win urg : Int) (opt p : ByteArray) (sum : Int) (s : ByteArray) (_ : (Lit.int .i64 src).wf = true) (_ : (Lit.int .i64 dst).wf = true) (hseq : (Lit.int .u32 seq).wf = true) (hack : (Lit.int .u32 ack).wf = true) (_ : (Lit.int .i64 flags).wf = true) (_ : (Lit.int .i64 win).wf = true) (_ : (Lit.int .i64 urg).wf = true) (_ : opt.size ≤ maxLen) (_ : p.size ≤ maxLen) (_ : (Lit.int .i64 sum).wf = true) (hs : s.size ≤ 140737488351232) :
    ∃ k, palanquinlaw07_TcpTells.f k src dst seq ack flags win urg opt p sum s = some true := by
  have hq' : 0 ≤ seq ∧ seq ≤ 4294967295 := by simp [Lit.wf] at hseq; exact hseq
  have hq : 0 ≤ seq ∧ seq < 4294967296 := by omega
  have ha' : 0 ≤ ack ∧ ack ≤ 4294967295 := by simp [Lit.wf] at hack; exact hack
  have ha : 0 ≤ ack ∧ ack < 4294967296 := by omega
  refine ⟨9 + 1, ?_⟩
  unfold palanquinlaw07_TcpTells.f
  obtain ⟨t, ht, hf⟩ := few07t src dst seq ack flags win urg opt p
  rw [awake07, Option.bind_some, if_pos rfl, ht, Option.bind_some]
  have skip : palanquinlaw07_TcpTells.j0 (9 + 1) sum s true src dst seq ack flags win urg opt p = some true := by rw [palanquinlaw07_TcpTells.j0, if_pos rfl]
  cases t
  · rw [if_neg (by decide)]; exact skip
  rw [if_pos rfl]
  by_cases h2 : (s.size : Int) > 5000
  · rw [decide_eq_true h2]; exact skip
  obtain ⟨f1, f2⟩ := hf rfl
  have hput := put07 (src := src) (dst := dst) (flags := flags) (win := win) (urg := urg) (sum := sum) (opt := opt) (p := p) (by omega) hq ha 9 (by decide)
  have hget : palanquinref07_Get.f s = tcp_Get.f s := by unfold palanquinref07_Get.f; rw [if_pos (by omega)]
  obtain ⟨x, hx⟩ : ∃ x, tcp_Put.f src dst seq ack flags win urg opt p sum = some x := by
    unfold tcp_Put.f
    rw [if_pos ⟨by omega, hq, ha⟩]
    split <;> exact ⟨_, rfl⟩
  obtain ⟨y, hy⟩ : ∃ y, tcp_Get.f s = some y := by
    unfold tcp_Get.f
    rw [if_pos hs]
    exact ⟨_, rfl⟩
  obtain ⟨c, hc, hcc⟩ := check07 src dst seq ack flags win urg opt p
  rw [decide_eq_false h2, palanquinlaw07_TcpTells.j0, if_neg (by decide), hput, hx, Option.bind_some, Option.bind_some, hget, hy, Option.bind_some, Option.bind_some, if_pos rfl, if_pos rfl, hc, Option.bind_some, may07, Option.bind_some, if_pos hcc, if_pos (by simp), if_pos rfl, beq_self_eq_true]
end Go.Proofs.Ytejmipoolbodgaa.Pure
end

section
/- Plain facts for rows: arguments that are structs of one-cell fields, and slices of strings, laid open. No function of the program in it. -/
namespace Go.Proofs.Ytejmipoolbodgaa.Pal
open Go.RowKit Go.ChangeShapes Go.WideShapes Go.Deep Go.Proofs.YtejmipoolbodgaaW.PrintWords
section
variable {H : Type} {enc : TypeId × Value → H} {P : Program} {w : World} {base : Nat} {spare : Nat → Bool} {held : Bool}
theorem open_fields {r : Reach} {b0 : Nat} {t : TypeId} {fs : Array Field} {v : Value} {d : DataW H} {p : List MemPlace} (hs : P.underlying t = some (.struct fs)) (hone : oneCellFields P fs = true)
    (hv : Value.okWide P w r b0 t v) (h : DataW.Trod enc P w base spare held t v d p) :
    ∃ (cs : Array Value), v = .agg cs ∧ cs.size = P.cellsOf t ∧ ∀ (j : Nat) (f : Field) (c : Value), fs[j]? = some f → cs[j]? = some c → ∃ (n : Nat) (y : DataW H × List MemPlace), DataW.trod enc P w base spare held n f.type [c] = some y := by
  obtain ⟨cs, rfl, hsz⟩ := okWide_struct hs hv
  obtain ⟨fuel, hf⟩ := h
  obtain ⟨xs, n, _, _, _, hlen, hF⟩ := DataW.trod_struct hs hf
  refine ⟨cs, rfl, hsz, fun j f c hj hc => ?_⟩
  obtain ⟨o0, k0⟩ := hone_of hone j f hj
  have hj' : j < xs.length := by rw [hlen]; exact (Array.getElem?_eq_some_iff.1 hj).1
  refine ⟨n, xs[j], ?_⟩
  have e := hF j f hj
  rw [o0, k0, List.getElem?_eq_getElem hj'] at e
  have hc' : (Value.cells (.agg cs)).toList.drop j = c :: (Value.cells (.agg cs)).toList.drop (j + 1) := by
    obtain ⟨hlt, rfl⟩ := Array.getElem?_eq_some_iff.1 hc
    show cs.toList.drop j = cs[j] :: cs.toList.drop (j + 1)
    rw [List.drop_eq_getElem_cons (by simpa using hlt), Array.getElem_toList]
  rw [hc'] at e
  simpa using e
theorem leaf_int {n : Nat} {t : TypeId} {k : IntKind} {c : Value} {y : DataW H × List MemPlace} (ht : P.underlying t = some (.int k)) (h : DataW.trod enc P w base spare held n t [c] = some y) : ∃ a, c = .int k a ∧ (Lit.int k a).wf = true := by
  obtain ⟨a, e1, _, h2⟩ := DataW.trod_int ht h
  exact ⟨a, by simpa using e1, h2⟩
theorem leaf_str {n : Nat} {t : TypeId} {c : Value} {y : DataW H × List MemPlace} (ht : P.underlying t = some .string) (h : DataW.trod enc P w base spare held n t [c] = some y) : ∃ a : ByteArray, c = .string a ∧ a.size ≤ maxLen := by
  obtain ⟨a, e1, _, h2⟩ := DataW.trod_string ht h
  exact ⟨a, by simpa using e1, h2⟩
theorem leaf_bool {n : Nat} {t : TypeId} {c : Value} {y : DataW H × List MemPlace} (ht : P.underlying t = some .bool) (h : DataW.trod enc P w base spare held n t [c] = some y) : ∃ a : Bool, c = .bool a := by
  obtain ⟨a, e1, _⟩ := DataW.trod_bool ht h
  exact ⟨a, by simpa using e1⟩
theorem mem_texts {H : Type} {P : Program} {e : TypeId} {s : ByteArray} : ∀ {l : List ByteArray}, s ∈ l → s.size ∈ DataW.weightsAll (H := H) P e (l.map fun s => .lit (.string s.data.toList))
  | x :: l, h => by
    rw [List.map_cons, DataW.weightsAll, List.mem_append]
    rcases List.mem_cons.1 h with rfl | h
    · left; simp [DataW.weights]
    · exact Or.inr (mem_texts h)
theorem open_texts {r : Reach} {b0 : Nat} {t e : TypeId} {v : Value} {d : DataW H} {p : List MemPlace} (ht : P.underlying t = some (.slice e)) (he : P.underlying e = some .string) (hc : P.cellsOf e = 1)
    (hv : Value.okWide P w r b0 t v) (h : DataW.Trod enc P w base spare held t v d p) :
    ∃ (A : Option Addr) (l : List ByteArray) (cap : Nat), v = .slice A l.length cap ∧ l.length ≤ cap ∧ Kd.C Kd.string w A l.length l ∧ (∀ s ∈ l, s.size ∈ DataW.weights P t d) := by
  obtain ⟨A, len, cap, rfl⟩ := okWide_slice ht hv
  obtain ⟨fuel, hf⟩ := h
  rcases open_strs ht he hc hf with ⟨hcs, _⟩ | ⟨a, ln, c, m, Sx, hcs, _, hl, hm, hmm, hdp, hcell⟩
  · simp [Value.cells] at hcs
    obtain ⟨rfl, rfl, rfl⟩ := hcs
    exact ⟨none, [], 0, rfl, Nat.le_refl _, ⟨rfl, by decide, fun h => absurd h (by decide)⟩, fun s hs => nomatch hs⟩
  · simp [Value.cells] at hcs
    obtain ⟨rfl, rfl, rfl⟩ := hcs
    have hlm : len ≤ m := by rw [hmm]; split <;> omega
    refine ⟨some a, (List.range len).map Sx, cap, by simp, by simpa using hl, ⟨by simp, by simp; exact Nat.le_trans hl (Nat.le_trans hm (by decide)), fun _ => ⟨a, rfl, fun j q hj => ?_⟩⟩, fun s hs => ?_⟩
    · rw [List.getElem?_map] at hj
      by_cases hjl : j < len
      · rw [List.getElem?_range hjl] at hj
        obtain rfl : Sx j = q := by simpa using hj
        refine ⟨[.string (Sx j)], rfl, rfl, fun i u hi => ?_⟩
        match i, hi with
        | 0, hi =>
          obtain rfl : Value.string (Sx j) = u := by simpa using hi
          simpa [Kd.string, Kd.scalar] using (hcell j (by omega)).1
        | i + 1, hi => simp at hi
      · rw [List.getElem?_eq_none (by simpa using hjl)] at hj
        simp at hj
    · have hd := congrArg Prod.fst hdp
      dsimp only at hd
      rw [hd, DataW.weights, ht]
      refine List.mem_cons_of_mem _ (List.mem_append.2 (Or.inl ?_))
      have e1 := mem_texts (H := H) (P := P) (e := e) hs
      rwa [List.map_map] at e1
end
end Go.Proofs.Ytejmipoolbodgaa.Pal
end
