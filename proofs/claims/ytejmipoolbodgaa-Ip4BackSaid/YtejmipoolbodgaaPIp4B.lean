/- Plain facts of ip4.Put and ip4.Get as functions: what is put is got. -/
import Derived.Test.YtejmipoolbodgaaPIp4
import Derived.Test.YtejmipoolbodgaaPIp4F
import Derived.Test.YtejmipoolbodgaaPSeal
namespace Go.Proofs.Ytejmipoolbodgaa.Pure
open Go.RowKit Go.Proofs.YtejmipoolbodgaaW.PrintWords Go.Proofs.YtejmipoolbodgaaW.PrintLast Go.Proofs.Ytejmipoolbodgaa.G Go.Proofs.Ytejmipoolbodgaa.Pal
theorem cut4 (s : ByteArray) (n m : Nat) : bl (s.extract n m) = ((bl s).take m).drop n := by simp [bl, ByteArray.data_extract, List.drop_take]
theorem seg4 {x : ByteArray} (A B C : List UInt8) {i j : Nat} (hx : bl x = A ++ B ++ C) (hA : A.length = i) (hB : i + B.length = j) : bl (x.extract i j) = B := by
  rw [cut4, hx, List.take_left' (by rw [List.length_append]; omega), List.drop_left' hA]
/-- A packet's bytes, part by part. -/
theorem parts4 {x src dst opt p : ByteArray} {a b c d e f g h : List UInt8} (hx : bl x = a ++ b ++ c ++ d ++ e ++ f ++ g ++ h ++ (bl src ++ bl dst ++ bl opt) ++ bl p) (ha : a.length = 1) (hb : b.length = 1) (hc : c.length = 2) (hd : d.length = 2) (he : e.length = 2) (hf : f.length = 1) (hg : g.length = 1) (hh : h.length = 2) (hs : src.size = 4) (ht : dst.size = 4) :
    x.size = 20 + opt.size + p.size ∧ bl (x.extract 0 1) = a ∧ bl (x.extract 1 2) = b ∧ bl (x.extract 2 4) = c ∧ bl (x.extract 4 6) = d ∧ bl (x.extract 6 8) = e ∧ bl (x.extract 8 9) = f ∧ bl (x.extract 9 10) = g ∧ bl (x.extract 10 12) = h ∧ x.extract 12 16 = src ∧ x.extract 16 20 = dst ∧ x.extract 20 (20 + opt.size) = opt ∧ x.extract (20 + opt.size) x.size = p ∧ bl (x.extract 0 (20 + opt.size)) = a ++ b ++ c ++ d ++ e ++ f ++ g ++ h ++ (bl src ++ bl dst ++ bl opt) := by
  have ls := bl_length src
  have lt := bl_length dst
  have lo := bl_length opt
  have lp := bl_length p
  have hsz : x.size = 20 + opt.size + p.size := by rw [← bl_length, hx]; simp only [List.length_append]; omega
  refine ⟨hsz, seg4 [] a (b ++ c ++ d ++ e ++ f ++ g ++ h ++ (bl src ++ bl dst ++ bl opt) ++ bl p) (by rw [hx]; simp only [List.append_assoc, List.nil_append]) rfl (by omega),
    seg4 a b (c ++ d ++ e ++ f ++ g ++ h ++ (bl src ++ bl dst ++ bl opt) ++ bl p) (by rw [hx]; simp only [List.append_assoc]) ha (by omega),
    seg4 (a ++ b) c (d ++ e ++ f ++ g ++ h ++ (bl src ++ bl dst ++ bl opt) ++ bl p) (by rw [hx]; simp only [List.append_assoc]) (by simp only [List.length_append]; omega) (by omega),
    seg4 (a ++ b ++ c) d (e ++ f ++ g ++ h ++ (bl src ++ bl dst ++ bl opt) ++ bl p) (by rw [hx]; simp only [List.append_assoc]) (by simp only [List.length_append]; omega) (by omega),
    seg4 (a ++ b ++ c ++ d) e (f ++ g ++ h ++ (bl src ++ bl dst ++ bl opt) ++ bl p) (by rw [hx]; simp only [List.append_assoc]) (by simp only [List.length_append]; omega) (by omega),
    seg4 (a ++ b ++ c ++ d ++ e) f (g ++ h ++ (bl src ++ bl dst ++ bl opt) ++ bl p) (by rw [hx]; simp only [List.append_assoc]) (by simp only [List.length_append]; omega) (by omega),
    seg4 (a ++ b ++ c ++ d ++ e ++ f) g (h ++ (bl src ++ bl dst ++ bl opt) ++ bl p) (by rw [hx]; simp only [List.append_assoc]) (by simp only [List.length_append]; omega) (by omega),
    seg4 (a ++ b ++ c ++ d ++ e ++ f ++ g) h ((bl src ++ bl dst ++ bl opt) ++ bl p) (by rw [hx]; simp only [List.append_assoc]) (by simp only [List.length_append]; omega) (by omega),
    bl4_inj (seg4 (a ++ b ++ c ++ d ++ e ++ f ++ g ++ h) (bl src) (bl dst ++ bl opt ++ bl p) (by rw [hx]; simp only [List.append_assoc]) (by simp only [List.length_append]; omega) (by omega)),
    bl4_inj (seg4 (a ++ b ++ c ++ d ++ e ++ f ++ g ++ h ++ bl src) (bl dst) (bl opt ++ bl p) (by rw [hx]; simp only [List.append_assoc]) (by simp only [List.length_append]; omega) (by omega)),
    bl4_inj (seg4 (a ++ b ++ c ++ d ++ e ++ f ++ g ++ h ++ bl src ++ bl dst) (bl opt) (bl p) (by rw [hx]; simp only [List.append_assoc]) (by simp only [List.length_append]; omega) (by omega)),
    bl4_inj (seg4 (a ++ b ++ c ++ d ++ e ++ f ++ g ++ h ++ bl src ++ bl dst ++ bl opt) (bl p) [] (by rw [hx]; simp only [List.append_assoc, List.append_nil]) (by simp only [List.length_append]; omega) (by omega)),
    seg4 [] (a ++ b ++ c ++ d ++ e ++ f ++ g ++ h ++ (bl src ++ bl dst ++ bl opt)) (bl p) (by rw [hx]; simp only [List.nil_append]) rfl (by simp only [List.length_append]; omega)⟩
theorem one4 (v : Nat) (h : v < 256) : be (nb 1 v) = v := by rw [be_nb]; omega
theorem two4 (v : Nat) (h : v < 65536) : be (nb 2 v) = v := by rw [be_nb]; omega
theorem head4_mid (tos id off ttl proto : Nat) (df mf : Bool) (src dst opt : ByteArray) (T C : Nat) :
    head4 tos id off ttl proto df mf src dst opt T C = (nb 1 (64 + (20 + opt.size) / 4) ++ nb 1 tos ++ nb 2 T ++ nb 2 id ++ nb 2 (fl df mf off) ++ nb 1 ttl ++ nb 1 proto) ++ nb 2 C ++ (bl src ++ bl dst ++ bl opt) := rfl
theorem head4_seal (tos id off ttl proto : Nat) (df mf : Bool) (src dst opt : ByteArray) (T : Nat) : csum (head4 tos id off ttl proto df mf src dst opt T (csum (head4 tos id off ttl proto df mf src dst opt T 0))) = 0 := by
  rw [head4_mid, head4_mid]
  refine inSealed _ _ ?_
  unfold odd
  simp only [List.length_append, nb_length]
  rfl
theorem fl_parts (df mf : Bool) (off : Nat) (h : off < 8192) : fl df mf off % 8192 = off ∧ (fl df mf off / 16384 % 2 == 1) = df ∧ (fl df mf off / 8192 % 2 == 1) = mf ∧ fl df mf off / 32768 = 0 := by
  have b1 : ∀ x : Nat, x = 1 → (x == 1) = true := fun x hx => by rw [hx]; rfl
  have b0 : ∀ x : Nat, x = 0 → (x == 1) = false := fun x hx => by rw [hx]; rfl
  cases df <;> cases mf <;> simp only [fl, Bool.false_eq_true, if_false, if_true]
  · exact ⟨by omega, b0 _ (by omega), b0 _ (by omega), by omega⟩
  · exact ⟨by omega, b0 _ (by omega), b1 _ (by omega), by omega⟩
  · exact ⟨by omega, b1 _ (by omega), b0 _ (by omega), by omega⟩
  · exact ⟨by omega, b1 _ (by omega), b1 _ (by omega), by omega⟩
/-- What is put is got. -/
theorem get_put4 {tos id off ttl proto : Nat} {df mf : Bool} {src dst opt p x : ByteArray} (h : ok4 tos id off ttl proto src dst opt) (hp : 20 + opt.size + p.size ≤ 65535) (hx : bl x = put4 tos id off ttl proto df mf src dst opt p) :
    ip4_Get.f x = some ((tos : Int), (id : Int), (off : Int), (ttl : Int), (proto : Int), df, mf, src, dst, opt, p, 0) := by
  obtain ⟨h1, h2, h3, h4, h5, h6, h7, h8, h9⟩ := h
  have hseal := head4_seal tos id off ttl proto df mf src dst opt (20 + opt.size + p.size)
  have hC := csum_bound (head4 tos id off ttl proto df mf src dst opt (20 + opt.size + p.size) 0)
  unfold put4 at hx
  generalize csum (head4 tos id off ttl proto df mf src dst opt (20 + opt.size + p.size) 0) = C at hseal hC hx
  have hx' := hx
  unfold head4 at hx' hseal
  obtain ⟨z, q1, q2, q3, q4, q5, q6, q7, q8, q9, q10, q11, q12, q13⟩ := parts4 hx' (nb_length _ _) (nb_length _ _) (nb_length _ _) (nb_length _ _) (nb_length _ _) (nb_length _ _) (nb_length _ _) (nb_length _ _) h6 h7
  obtain ⟨f1, f2, f3, f4⟩ := fl_parts df mf off (by omega)
  have hb : be (bl (x.extract 0 1)) = 64 + (20 + opt.size) / 4 := by rw [q1]; exact one4 _ (by omega)
  have hh : hl4 x = 20 + opt.size := by unfold hl4; rw [hb]; omega
  have hF : be (bl (x.extract 6 8)) = fl df mf off := by rw [q5]; exact two4 _ (by have := fl_lt (df := df) (mf := mf) (show off < 8192 by omega); omega)
  have hT : be (bl (x.extract 2 4)) = x.size := by rw [q3, z]; exact two4 _ (by omega)
  have he : ip4Err x = 0 := by
    unfold ip4Err
    rw [if_neg (by omega), if_pos (by rw [hb]; omega), if_pos ⟨by omega, by omega, hT⟩, hh, q13, hseal, if_pos rfl, hF, if_pos f4]
  unfold ip4_Get.f
  rw [if_pos (by omega), if_pos he, hF, f1, f2, f3, hh, q9, q10, q11, q12, q2, q4, q6, q7, one4 tos (by omega), two4 id (by omega), one4 ttl (by omega), one4 proto (by omega)]
theorem fl_back (F : Nat) (h : F < 32768) : fl (F / 16384 % 2 == 1) (F / 8192 % 2 == 1) (F % 8192) = F := by
  have h1 : F / 16384 % 2 = 0 ∨ F / 16384 % 2 = 1 := by omega
  have h2 : F / 8192 % 2 = 0 ∨ F / 8192 % 2 = 1 := by omega
  rcases h1 with h1 | h1 <;> rcases h2 with h2 | h2 <;> rw [h1, h2] <;> simp [fl] <;> omega
theorem err4_zero {s : ByteArray} (h : ip4Err s = 0) : 20 ≤ s.size ∧ be (bl (s.extract 0 1)) / 16 = 4 ∧ (20 ≤ hl4 s ∧ hl4 s ≤ s.size ∧ be (bl (s.extract 2 4)) = s.size) ∧ csum (bl (s.extract 0 (hl4 s))) = 0 ∧ be (bl (s.extract 6 8)) / 32768 = 0 := by
  unfold ip4Err at h
  by_cases h1 : s.size < 20
  · rw [if_pos h1] at h; exact absurd h (by decide)
  rw [if_neg h1] at h
  by_cases h2 : be (bl (s.extract 0 1)) / 16 = 4
  case neg => rw [if_neg h2] at h; exact absurd h (by decide)
  rw [if_pos h2] at h
  by_cases h3 : 20 ≤ hl4 s ∧ hl4 s ≤ s.size ∧ be (bl (s.extract 2 4)) = s.size
  case neg => rw [if_neg h3] at h; exact absurd h (by decide)
  rw [if_pos h3] at h
  by_cases h4 : csum (bl (s.extract 0 (hl4 s))) = 0
  case neg => rw [if_neg h4] at h; exact absurd h (by decide)
  rw [if_pos h4] at h
  by_cases h5 : be (bl (s.extract 6 8)) / 32768 = 0
  case neg => rw [if_neg h5] at h; exact absurd h (by decide)
  exact ⟨by omega, h2, h3, h4, h5⟩
/-- The fields of a packet that is got may be a header's. -/
theorem got4_ok {s : ByteArray} (h : ip4Err s = 0) : ok4 ((be (bl (s.extract 1 2)) : Nat) : Int) ((be (bl (s.extract 4 6)) : Nat) : Int) ((be (bl (s.extract 6 8)) % 8192 : Nat) : Int) ((be (bl (s.extract 8 9)) : Nat) : Int) ((be (bl (s.extract 9 10)) : Nat) : Int) (s.extract 12 16) (s.extract 16 20) (s.extract 20 (hl4 s)) ∧ s.size ≤ 65535 ∧ (s.extract 20 (hl4 s)).size = hl4 s - 20 ∧ (s.extract (hl4 s) s.size).size = s.size - hl4 s := by
  obtain ⟨h20, hv, ⟨hl, hm, hT⟩, hc, hf⟩ := err4_zero h
  have z : ∀ i j, (bl (s.extract i j)).length = min j s.size - i := fun i j => by rw [bl_length]; simp only [ByteArray.size_extract]
  have b1 : be (bl (s.extract 1 2)) < 256 := be_lt_of _ 1 (by rw [z]; omega)
  have b2 : be (bl (s.extract 4 6)) < 65536 := be_lt_of _ 2 (by rw [z]; omega)
  have b3 : be (bl (s.extract 8 9)) < 256 := be_lt_of _ 1 (by rw [z]; omega)
  have b4 : be (bl (s.extract 9 10)) < 256 := be_lt_of _ 1 (by rw [z]; omega)
  have b5 : be (bl (s.extract 2 4)) < 65536 := be_lt_of _ 2 (by rw [z]; omega)
  have e1 : (s.extract 20 (hl4 s)).size = hl4 s - 20 := by simp only [ByteArray.size_extract]; omega
  have e2 : (s.extract (hl4 s) s.size).size = s.size - hl4 s := by simp only [ByteArray.size_extract]; omega
  have hd : hl4 s % 4 = 0 ∧ hl4 s ≤ 60 := by unfold hl4; omega
  refine ⟨⟨by omega, by omega, by omega, by omega, by omega, by simp only [ByteArray.size_extract]; omega, by simp only [ByteArray.size_extract]; omega, by omega, by omega⟩, by omega, e1, e2⟩
/-- What is got is put, but where its sum is FFFF. -/
theorem put_get4 {s : ByteArray} (h : ip4Err s = 0) (hc : be (bl (s.extract 10 12)) ≠ 65535) :
    ip4_Put.f ((be (bl (s.extract 1 2)) : Nat) : Int) ((be (bl (s.extract 4 6)) : Nat) : Int) ((be (bl (s.extract 6 8)) % 8192 : Nat) : Int) ((be (bl (s.extract 8 9)) : Nat) : Int) ((be (bl (s.extract 9 10)) : Nat) : Int) (be (bl (s.extract 6 8)) / 16384 % 2 == 1) (be (bl (s.extract 6 8)) / 8192 % 2 == 1) (s.extract 12 16) (s.extract 16 20) (s.extract 20 (hl4 s)) (s.extract (hl4 s) s.size) = some (s, 0) := by
  obtain ⟨ok, hs, e1, e2⟩ := got4_ok h
  obtain ⟨h20, hv, ⟨hl, hm, hT⟩, hz, hf⟩ := err4_zero h
  have z : ∀ i j, (bl (s.extract i j)).length = min j s.size - i := fun i j => by rw [bl_length]; simp only [ByteArray.size_extract]
  have bF : be (bl (s.extract 6 8)) < 65536 := be_lt_of _ 2 (by rw [z]; omega)
  have bc : be (bl (s.extract 10 12)) < 65536 := be_lt_of _ 2 (by rw [z]; omega)
  have b0 : be (bl (s.extract 0 1)) < 256 := be_lt_of _ 1 (by rw [z]; omega)
  have e : ∀ i j m, min j s.size - i = m → nb m (be (bl (s.extract i j))) = bl (s.extract i j) := fun i j m h => by rw [← h, ← z]; exact nb_be _
  have hfirst : 64 + (20 + (s.extract 20 (hl4 s)).size) / 4 = be (bl (s.extract 0 1)) := by rw [e1]; unfold hl4 at hl ⊢; omega
  have hlen : 20 + (s.extract 20 (hl4 s)).size + (s.extract (hl4 s) s.size).size = be (bl (s.extract 2 4)) := by rw [e1, e2, hT]; omega
  rw [put4_ok ok (by rw [e1, e2]; omega)]
  refine congrArg some (Prod.ext (bl4_inj ?_) rfl)
  refine Eq.trans (bl4_mk _) ?_
  have full : ∀ c, head4 (be (bl (s.extract 1 2))) (be (bl (s.extract 4 6))) (be (bl (s.extract 6 8)) % 8192) (be (bl (s.extract 8 9))) (be (bl (s.extract 9 10))) (be (bl (s.extract 6 8)) / 16384 % 2 == 1) (be (bl (s.extract 6 8)) / 8192 % 2 == 1) (s.extract 12 16) (s.extract 16 20) (s.extract 20 (hl4 s)) (be (bl (s.extract 2 4))) c =
      (bl (s.extract 0 1) ++ bl (s.extract 1 2) ++ bl (s.extract 2 4) ++ bl (s.extract 4 6) ++ bl (s.extract 6 8) ++ bl (s.extract 8 9) ++ bl (s.extract 9 10)) ++ nb 2 c ++ (bl (s.extract 12 16) ++ bl (s.extract 16 20) ++ bl (s.extract 20 (hl4 s))) := fun c => by
    unfold head4
    rw [hfirst, fl_back _ (by omega), e 0 1 1 (by omega), e 1 2 1 (by omega), e 2 4 2 (by omega), e 4 6 2 (by omega), e 6 8 2 (by omega), e 8 9 1 (by omega), e 9 10 1 (by omega)]
  have cat' : ∀ (l : List UInt8) i j, i ≤ j → l.take i ++ (l.take j).drop i = l.take j := fun l i j h => by
    conv => rhs; rw [← List.take_append_drop i (l.take j)]
    rw [List.take_take, Nat.min_eq_left h]
  have whole : (bl (s.extract 0 1) ++ bl (s.extract 1 2) ++ bl (s.extract 2 4) ++ bl (s.extract 4 6) ++ bl (s.extract 6 8) ++ bl (s.extract 8 9) ++ bl (s.extract 9 10)) ++ bl (s.extract 10 12) ++ (bl (s.extract 12 16) ++ bl (s.extract 16 20) ++ bl (s.extract 20 (hl4 s))) = bl (s.extract 0 (hl4 s)) := by
    simp only [cut4, List.drop_zero, ← List.append_assoc]
    rw [cat' _ 1 2 (by decide), cat' _ 2 4 (by decide), cat' _ 4 6 (by decide), cat' _ 6 8 (by decide), cat' _ 8 9 (by decide), cat' _ 9 10 (by decide), cat' _ 10 12 (by decide), cat' _ 12 16 (by decide), cat' _ 16 20 (by decide), cat' _ 20 _ hl]
  have hun := outSealed (bl (s.extract 0 1) ++ bl (s.extract 1 2) ++ bl (s.extract 2 4) ++ bl (s.extract 4 6) ++ bl (s.extract 6 8) ++ bl (s.extract 8 9) ++ bl (s.extract 9 10)) (bl (s.extract 12 16) ++ bl (s.extract 16 20) ++ bl (s.extract 20 (hl4 s))) (be (bl (s.extract 10 12)))
    (by unfold odd; simp only [List.length_append, z]; rw [beq_eq_false_iff_ne]; omega) (by omega) (by rw [e 10 12 2 (by omega), whole]; exact hz)
  unfold put4
  rw [hlen, full, full, hun, e 10 12 2 (by omega), whole, cut4, cut4, List.drop_zero, List.take_of_length_le (l := bl s) (i := s.size) (Nat.le_of_eq (bl_length s)), List.take_append_drop]
end Go.Proofs.Ytejmipoolbodgaa.Pure
