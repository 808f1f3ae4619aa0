/- Plain facts of tcp.Put and tcp.Get as functions: what is put is got, what is got is put. -/
import Derived.Test.YtejmipoolbodgaaHTcpF
namespace Go.Proofs.Ytejmipoolbodgaa.Pure
open Go.RowKit Go.Proofs.YtejmipoolbodgaaW.PrintWords Go.Proofs.YtejmipoolbodgaaW.PrintLast Go.Proofs.Ytejmipoolbodgaa.G Go.Proofs.Ytejmipoolbodgaa.Pal
set_option linter.unusedVariables false
theorem blT_inj {a b : ByteArray} (h : bl a = bl b) : a = b := ByteArray.ext (Array.toList_inj.mp h)
theorem blT_mk (l : List UInt8) : bl ⟨l.toArray⟩ = l := by simp [bl]
theorem sizeT_mk (l : List UInt8) : (⟨l.toArray⟩ : ByteArray).size = l.length := by simp [ByteArray.size]
theorem u64n_T {a : Int} (h0 : 0 ≤ a) (h1 : a ≤ 18446744073709551615) : u64n a = a.toNat := by
  unfold u64n; rw [IntKind.wrap_u64]; omega
theorem beT1 {a : Int} (h0 : 0 ≤ a) (h1 : a < 256) : ((be (nb 1 (u64n a)) : Nat) : Int) = a := by rw [be_nb, u64n_T h0 (by omega)]; omega
theorem beT2 {a : Int} (h : in16 a) : ((be (nb 2 (u64n a)) : Nat) : Int) = a := by
  have := h.1; have := h.2
  rw [be_nb, u64n_T (by omega) (by omega)]; omega
theorem beT4 {a : Int} (h0 : 0 ≤ a) (h1 : a < 4294967296) : ((be (nb 4 (u64n a)) : Nat) : Int) = a := by rw [be_nb, u64n_T h0 (by omega)]; omega
theorem nbT (m : Nat) (l : List UInt8) (hm : l.length = m) (h8 : m ≤ 8) : nb m (u64n ((be l : Nat) : Int)) = l := by
  have h := be_lt_of l 8 (by omega)
  rw [u64n_T (by omega) (by omega), Int.toNat_natCast, ← hm]
  exact nb_be l
theorem cutT (s : ByteArray) (n m : Nat) : bl (s.extract n m) = ((bl s).take m).drop n := by simp [bl, ByteArray.data_extract, List.drop_take]
theorem segT {x : ByteArray} (A B C : List UInt8) {i j : Nat} (hx : bl x = A ++ B ++ C) (hA : A.length = i) (hB : A.length + B.length = j) : bl (x.extract i j) = B := by
  rw [cutT, hx, List.take_left' (by rw [List.length_append]; exact hB), List.drop_left' hA]
/-- The bytes of a segment, part by part. -/
theorem partsT {x : ByteArray} {a b c d e f g h i : List UInt8} {opt p : ByteArray} (hx : bl x = a ++ b ++ c ++ d ++ e ++ f ++ g ++ h ++ i ++ bl opt ++ bl p) (ha : a.length = 2) (hb : b.length = 2) (hc : c.length = 4) (hd : d.length = 4) (he : e.length = 1) (hf : f.length = 1) (hg : g.length = 2) (hh : h.length = 2) (hi : i.length = 2) :
    x.size = 20 + opt.size + p.size ∧ bl (x.extract 0 2) = a ∧ bl (x.extract 2 4) = b ∧ bl (x.extract 4 8) = c ∧ bl (x.extract 8 12) = d ∧ bl (x.extract 12 13) = e ∧ bl (x.extract 13 14) = f ∧ bl (x.extract 14 16) = g ∧ bl (x.extract 16 18) = h ∧ bl (x.extract 18 20) = i ∧ x.extract 20 (20 + opt.size) = opt ∧ x.extract (20 + opt.size) x.size = p := by
  have lo := bl_length opt
  have lp := bl_length p
  have hsz : x.size = 20 + opt.size + p.size := by rw [← bl_length, hx]; simp only [List.length_append]; omega
  refine ⟨hsz, segT [] a (b ++ c ++ d ++ e ++ f ++ g ++ h ++ i ++ bl opt ++ bl p) (by rw [hx]; simp only [List.append_assoc, List.nil_append]) rfl (by simp only [List.length_nil]; omega),
    segT a b (c ++ d ++ e ++ f ++ g ++ h ++ i ++ bl opt ++ bl p) (by rw [hx]; simp only [List.append_assoc]) ha (by omega),
    segT (a ++ b) c (d ++ e ++ f ++ g ++ h ++ i ++ bl opt ++ bl p) (by rw [hx]; simp only [List.append_assoc]) (by simp only [List.length_append]; omega) (by simp only [List.length_append]; omega),
    segT (a ++ b ++ c) d (e ++ f ++ g ++ h ++ i ++ bl opt ++ bl p) (by rw [hx]; simp only [List.append_assoc]) (by simp only [List.length_append]; omega) (by simp only [List.length_append]; omega),
    segT (a ++ b ++ c ++ d) e (f ++ g ++ h ++ i ++ bl opt ++ bl p) (by rw [hx]; simp only [List.append_assoc]) (by simp only [List.length_append]; omega) (by simp only [List.length_append]; omega),
    segT (a ++ b ++ c ++ d ++ e) f (g ++ h ++ i ++ bl opt ++ bl p) (by rw [hx]; simp only [List.append_assoc]) (by simp only [List.length_append]; omega) (by simp only [List.length_append]; omega),
    segT (a ++ b ++ c ++ d ++ e ++ f) g (h ++ i ++ bl opt ++ bl p) (by rw [hx]; simp only [List.append_assoc]) (by simp only [List.length_append]; omega) (by simp only [List.length_append]; omega),
    segT (a ++ b ++ c ++ d ++ e ++ f ++ g) h (i ++ bl opt ++ bl p) (by rw [hx]; simp only [List.append_assoc]) (by simp only [List.length_append]; omega) (by simp only [List.length_append]; omega),
    segT (a ++ b ++ c ++ d ++ e ++ f ++ g ++ h) i (bl opt ++ bl p) (by rw [hx]; simp only [List.append_assoc]) (by simp only [List.length_append]; omega) (by simp only [List.length_append]; omega),
    blT_inj (segT (a ++ b ++ c ++ d ++ e ++ f ++ g ++ h ++ i) (bl opt) (bl p) hx (by simp only [List.length_append]; omega) (by simp only [List.length_append]; omega)),
    blT_inj (segT (a ++ b ++ c ++ d ++ e ++ f ++ g ++ h ++ i ++ bl opt) (bl p) [] (by rw [hx, List.append_nil]) (by simp only [List.length_append]; omega) (by simp only [List.length_append]; omega))⟩
theorem putT_ok {src dst seq ack flags win urg sum : Int} {opt p : ByteArray} (hp : p.size ≤ 140737488351232) (hq : 0 ≤ seq ∧ seq < 4294967296) (ha : 0 ≤ ack ∧ ack < 4294967296) (ok : tcpOk src dst flags win urg opt) (hs : in16 sum) :
    tcp_Put.f src dst seq ack flags win urg opt p sum = some (⟨(tcpBytes src dst seq ack flags win urg opt p sum).toArray⟩, 0) := by
  unfold tcp_Put.f
  rw [if_pos ⟨hp, hq, ha⟩, if_pos ⟨by unfold tcpCheck; rw [if_pos ok], hs⟩]
theorem putT_no {src dst seq ack flags win urg sum : Int} {opt p : ByteArray} (hp : p.size ≤ 140737488351232) (hq : 0 ≤ seq ∧ seq < 4294967296) (ha : 0 ≤ ack ∧ ack < 4294967296) (h : ¬ (tcpOk src dst flags win urg opt ∧ in16 sum)) :
    tcp_Put.f src dst seq ack flags win urg opt p sum = some (⟨#[]⟩, 1) := by
  unfold tcp_Put.f
  rw [if_pos ⟨hp, hq, ha⟩, if_neg]
  rintro ⟨h1, h2⟩
  exact h ⟨tcpCheck_ok h1, h2⟩
/-- What is put is got, if its options are right. -/
theorem get_putT {src dst seq ack flags win urg sum : Int} {opt p x : ByteArray} (hp : p.size ≤ 140737488350000) (hq : 0 ≤ seq ∧ seq < 4294967296) (ha : 0 ≤ ack ∧ ack < 4294967296) (ok : tcpOk src dst flags win urg opt) (hs : in16 sum) (hx : bl x = tcpBytes src dst seq ack flags win urg opt p sum) :
    tcp_Get.f x = some (if rightO (bl opt) = true then (src, dst, seq, ack, flags, win, urg, opt, p, sum, 0) else (0, 0, 0, 0, 0, 0, 0, ⟨#[]⟩, ⟨#[]⟩, 0, 4)) := by
  obtain ⟨o1, o2, o3, o4, o5, o6, o7⟩ := ok
  obtain ⟨z, q1, q2, q3, q4, q5, q6, q7, q8, q9, q10, q11⟩ := partsT hx (nb_length _ _) (nb_length _ _) (nb_length _ _) (nb_length _ _) (nb_length _ _) (nb_length _ _) (nb_length _ _) (nb_length _ _) (nb_length _ _)
  have hB : be (bl (x.extract 12 13)) = (20 + opt.size) / 4 * 16 := by
    have := beT1 (a := (((20 + opt.size) / 4 * 16 : Nat) : Int)) (by omega) (by omega)
    rw [q5]; omega
  have hh : ht x = 20 + opt.size := by unfold ht; rw [hB]; omega
  have he : tcpErr x = if rightO (bl opt) = true then 0 else 4 := by
    unfold tcpErr
    rw [if_neg (by omega), hh, if_pos ⟨by omega, by omega⟩, if_pos (by rw [hB]; omega), q10]
  unfold tcp_Get.f
  rw [if_pos (by omega), he, hh, q10, q11, q1, q2, q3, q4, q6, q7, q8, q9, beT2 o1, beT2 o2, beT4 hq.1 hq.2, beT4 ha.1 ha.2, beT1 o5.1 (by omega), beT2 o3, beT2 hs, beT2 o4]
  by_cases hr : rightO (bl opt) = true
  · rw [if_pos hr, if_pos rfl, if_pos hr]
  · rw [if_neg hr, if_neg (by decide), if_neg hr]
theorem errT_zero {s : ByteArray} (h : tcpErr s = 0) : 20 ≤ s.size ∧ (20 ≤ ht s ∧ ht s ≤ s.size) ∧ be (bl (s.extract 12 13)) % 16 = 0 ∧ rightO (bl (s.extract 20 (ht s))) = true := by
  unfold tcpErr at h
  by_cases h1 : s.size < 20
  · rw [if_pos h1] at h; exact absurd h (by decide)
  rw [if_neg h1] at h
  by_cases h2 : 20 ≤ ht s ∧ ht s ≤ s.size
  case neg => rw [if_neg h2] at h; exact absurd h (by decide)
  rw [if_pos h2] at h
  by_cases h3 : be (bl (s.extract 12 13)) % 16 = 0
  case neg => rw [if_neg h3] at h; exact absurd h (by decide)
  rw [if_pos h3] at h
  by_cases h4 : rightO (bl (s.extract 20 (ht s))) = true
  case neg => rw [if_neg h4] at h; exact absurd h (by decide)
  exact ⟨by omega, h2, h3, h4⟩
/-- What is got is put as it was. -/
theorem put_getT {s : ByteArray} (hs : s.size ≤ 140737488351232) (h : tcpErr s = 0) :
    tcp_Put.f ((be (bl (s.extract 0 2)) : Nat) : Int) ((be (bl (s.extract 2 4)) : Nat) : Int) ((be (bl (s.extract 4 8)) : Nat) : Int) ((be (bl (s.extract 8 12)) : Nat) : Int) ((be (bl (s.extract 13 14)) : Nat) : Int) ((be (bl (s.extract 14 16)) : Nat) : Int) ((be (bl (s.extract 18 20)) : Nat) : Int) (s.extract 20 (ht s)) (s.extract (ht s) s.size) ((be (bl (s.extract 16 18)) : Nat) : Int) = some (s, 0) := by
  obtain ⟨h20, ⟨hl, hm⟩, h16, _⟩ := errT_zero h
  have z : ∀ i j, (bl (s.extract i j)).length = min j s.size - i := fun i j => by rw [bl_length]; simp only [ByteArray.size_extract]
  have b2 : ∀ i j, min j s.size - i ≤ 2 → in16 ((be (bl (s.extract i j)) : Nat) : Int) := fun i j hz => by
    have := be_lt_of (bl (s.extract i j)) 2 (by rw [z]; exact hz)
    unfold in16; omega
  have b4 : ∀ i j, min j s.size - i ≤ 4 → 0 ≤ ((be (bl (s.extract i j)) : Nat) : Int) ∧ ((be (bl (s.extract i j)) : Nat) : Int) < 4294967296 := fun i j hz => by
    have := be_lt_of (bl (s.extract i j)) 4 (by rw [z]; exact hz)
    omega
  have b12 : be (bl (s.extract 12 13)) < 256 := be_lt_of _ 1 (by rw [z]; omega)
  have b13 : be (bl (s.extract 13 14)) < 256 := be_lt_of _ 1 (by rw [z]; omega)
  have e1 : (s.extract 20 (ht s)).size = ht s - 20 := by simp only [ByteArray.size_extract]; omega
  have e2 : (s.extract (ht s) s.size).size = s.size - ht s := by simp only [ByteArray.size_extract]; omega
  have hd : ht s % 4 = 0 ∧ ht s ≤ 60 ∧ (20 + (ht s - 20)) / 4 * 16 = be (bl (s.extract 12 13)) := by unfold ht at hl ⊢; omega
  rw [putT_ok (by rw [e2]; omega) (b4 4 8 (by omega)) (b4 8 12 (by omega)) ⟨b2 0 2 (by omega), b2 2 4 (by omega), b2 14 16 (by omega), b2 18 20 (by omega), by omega, by rw [e1]; omega, by rw [e1]; omega⟩ (b2 16 18 (by omega))]
  refine congrArg some (Prod.ext (blT_inj ?_) rfl)
  refine Eq.trans (blT_mk _) ?_
  unfold tcpBytes
  rw [e1, hd.2.2, nbT 2 _ (by rw [z]; omega) (by decide), nbT 2 _ (by rw [z]; omega) (by decide), nbT 4 _ (by rw [z]; omega) (by decide), nbT 4 _ (by rw [z]; omega) (by decide), nbT 1 _ (by rw [z]; omega) (by decide), nbT 1 _ (by rw [z]; omega) (by decide), nbT 2 _ (by rw [z]; omega) (by decide), nbT 2 _ (by rw [z]; omega) (by decide), nbT 2 _ (by rw [z]; omega) (by decide)]
  simp only [cutT, List.drop_zero]
  have cat' : ∀ (l : List UInt8) i j, i ≤ j → l.take i ++ (l.take j).drop i = l.take j := fun l i j h => by
    conv => rhs; rw [← List.take_append_drop i (l.take j)]
    rw [List.take_take, Nat.min_eq_left h]
  rw [cat' _ 2 4 (by decide), cat' _ 4 8 (by decide), cat' _ 8 12 (by decide), cat' _ 12 13 (by decide), cat' _ 13 14 (by decide), cat' _ 14 16 (by decide), cat' _ 16 18 (by decide), cat' _ 18 20 (by decide), cat' _ 20 _ hl, cat' _ _ _ hm]
  exact List.take_of_length_le (Nat.le_of_eq (bl_length s))
theorem getT_is {s : ByteArray} (hs : s.size ≤ 140737488351232) : tcp_Get.f s = some (if tcpErr s = 0 then (((be (bl (s.extract 0 2)) : Nat) : Int), ((be (bl (s.extract 2 4)) : Nat) : Int), ((be (bl (s.extract 4 8)) : Nat) : Int), ((be (bl (s.extract 8 12)) : Nat) : Int), ((be (bl (s.extract 13 14)) : Nat) : Int), ((be (bl (s.extract 14 16)) : Nat) : Int), ((be (bl (s.extract 18 20)) : Nat) : Int), s.extract 20 (ht s), s.extract (ht s) s.size, ((be (bl (s.extract 16 18)) : Nat) : Int), 0) else (0, 0, 0, 0, 0, 0, 0, ⟨#[]⟩, ⟨#[]⟩, 0, tcpErr s)) := by
  unfold tcp_Get.f; rw [if_pos hs]
end Go.Proofs.Ytejmipoolbodgaa.Pure
