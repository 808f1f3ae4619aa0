/- Plain law of Ip4Fields: each field stands where it is told alone. -/
import Derived.Test.YtejmipoolbodgaaGIp4Fields
import Derived.Test.YtejmipoolbodgaaPIp4B
namespace Go.Proofs.Ytejmipoolbodgaa.Pure
open Go.RowKit Go.Proofs.YtejmipoolbodgaaW.PrintWords Go.Proofs.YtejmipoolbodgaaW.PrintLast Go.Proofs.Ytejmipoolbodgaa.G Go.Proofs.Ytejmipoolbodgaa.Pal
theorem nil4 : (⟨#[]⟩ : ByteArray).toList = [] := by decide +kernel
theorem tl4 (s : ByteArray) : s.toList = bl s := ByteArray.toList_eq s
theorem put4_parts {tos id off ttl proto : Nat} {df mf : Bool} {src dst opt p x : ByteArray} (hs : src.size = 4) (hd : dst.size = 4) (hx : bl x = put4 tos id off ttl proto df mf src dst opt p) :
    x.size = 20 + opt.size + p.size ∧ bl (x.extract 0 1) = nb 1 (64 + (20 + opt.size) / 4) ∧ bl (x.extract 2 4) = nb 2 (20 + opt.size + p.size) ∧ bl (x.extract 9 10) = nb 1 proto ∧ bl (x.extract 12 x.size) = (bl src ++ bl dst ++ bl opt) ++ bl p ∧
    bl (x.extract 0 (20 + opt.size)) = head4 tos id off ttl proto df mf src dst opt (20 + opt.size + p.size) (csum (head4 tos id off ttl proto df mf src dst opt (20 + opt.size + p.size) 0)) ∧ x.extract (20 + opt.size) x.size = p := by
  unfold put4 at hx
  generalize csum (head4 tos id off ttl proto df mf src dst opt (20 + opt.size + p.size) 0) = C at hx ⊢
  have hx' := hx
  unfold head4 at hx' ⊢
  obtain ⟨z, q1, q2, q3, q4, q5, q6, q7, q8, q9, q10, q11, q12, q13⟩ := parts4 hx' (nb_length _ _) (nb_length _ _) (nb_length _ _) (nb_length _ _) (nb_length _ _) (nb_length _ _) (nb_length _ _) (nb_length _ _) hs hd
  refine ⟨z, q1, q3, q7, ?_, q13, q12⟩
  refine seg4 (nb 1 (64 + (20 + opt.size) / 4) ++ nb 1 tos ++ nb 2 (20 + opt.size + p.size) ++ nb 2 id ++ nb 2 (fl df mf off) ++ nb 1 ttl ++ nb 1 proto ++ nb 2 C) ((bl src ++ bl dst ++ bl opt) ++ bl p) [] (by rw [hx']; simp only [List.append_assoc, List.append_nil]) (by simp only [List.length_append, nb_length]) ?_
  simp only [List.length_append, bl_length]; omega
theorem wsub4 (m n : Nat) (h : m ≤ 100000) (h2 : n ≤ 100000) : wrap64 (((m + n : Nat) : Int) - (n : Int)) = (m : Int) := by unfold wrap64; omega
theorem Ip4Fields (tos id off ttl proto : Int) (df mf : Bool) (src dst opt a b : ByteArray) (ttl' tos' id' : Int) (_ : (Lit.int .i64 tos).wf = true) (_ : (Lit.int .i64 id).wf = true) (_ : (Lit.int .i64 off).wf = true) (_ : (Lit.int .i64 ttl).wf = true) (_ : (Lit.int .i64 proto).wf = true) (_ : src.size ≤ maxLen) (_ : dst.size ≤ maxLen) (_ : opt.size ≤ maxLen) (ha : a.size ≤ 140737488351232) (hb : b.size ≤ 140737488351232)
    (ht : (Lit.int .u8 ttl').wf = true) (ho : (Lit.int .u8 tos').wf = true) (hi : (Lit.int .u16 id').wf = true) :
    ∃ k, palanquinlaw05_Ip4Fields.f k tos id off ttl proto df mf src dst opt a b ttl' tos' id' = some true := by
  have ht' : 0 ≤ ttl' ∧ ttl' ≤ 255 := by simp [Lit.wf] at ht; exact ht
  have ho' : 0 ≤ tos' ∧ tos' ≤ 255 := by simp [Lit.wf] at ho; exact ho
  have hi' : 0 ≤ id' ∧ id' ≤ 65535 := by simp [Lit.wf] at hi; exact hi
  clear ht ho hi
  refine ⟨1 + 1, ?_⟩
  unfold palanquinlaw05_Ip4Fields.f
  obtain ⟨t, hfew, hf⟩ := few05 tos id off ttl proto df mf src dst opt
  rw [awake05, Option.bind_some, if_pos rfl, hfew, Option.bind_some]
  have skip : palanquinlaw05_Ip4Fields.j0 (1 + 1) a b ttl' tos' id' true tos id off ttl proto df mf src dst opt = some true := by rw [palanquinlaw05_Ip4Fields.j0, if_pos rfl]
  cases t
  · rw [if_neg (by decide)]; exact skip
  rw [if_pos rfl]
  by_cases hab : (a.size : Int) = (b.size : Int)
  case neg => rw [if_neg hab]; exact skip
  rw [if_pos hab]
  by_cases h2 : (a.size : Int) > 2000
  · rw [decide_eq_true h2]; exact skip
  obtain ⟨f1, f2, f3⟩ := hf rfl
  rw [decide_eq_false h2, palanquinlaw05_Ip4Fields.j0, if_neg (by decide)]
  by_cases o : ok4 tos id off ttl proto src dst opt
  case neg =>
    rw [put4_no o (by omega) (by omega) (by omega), Option.bind_some, put4_no o (by omega) (by omega) (by omega), Option.bind_some, if_pos rfl, if_neg (by decide), if_pos nil4, nil4]
    rfl
  obtain ⟨n1, n2, n3, n4, n5, rfl, rfl, rfl, rfl, rfl⟩ := ok4_nat o
  obtain ⟨m4, rfl⟩ := Int.eq_ofNat_of_zero_le ht'.1
  obtain ⟨m1, rfl⟩ := Int.eq_ofNat_of_zero_le ho'.1
  obtain ⟨m2, rfl⟩ := Int.eq_ofNat_of_zero_le hi'.1
  have hs := o.2.2.2.2.2
  have sab : b.size = a.size := by omega
  have o' : ok4 (m1 : Int) (m2 : Int) (n3 : Int) (m4 : Int) (n5 : Int) src dst opt := ⟨ho', hi', o.2.2.1, ht', o.2.2.2.2.1, hs⟩
  have w1 : wrap64 (m1 : Int) = (m1 : Int) := by unfold wrap64; omega
  have w2 : wrap64 (m2 : Int) = (m2 : Int) := by unfold wrap64; omega
  have w4 : wrap64 (m4 : Int) = (m4 : Int) := by unfold wrap64; omega
  have sz : 20 + opt.size + a.size ≤ 65535 := by omega
  obtain ⟨x, hx⟩ : ∃ x : ByteArray, x = ⟨(put4 n1 n2 n3 n4 n5 df mf src dst opt a).toArray⟩ := ⟨_, rfl⟩
  obtain ⟨y, hy⟩ : ∃ y : ByteArray, y = ⟨(put4 n1 n2 n3 n4 n5 df mf src dst opt b).toArray⟩ := ⟨_, rfl⟩
  obtain ⟨v, hv⟩ : ∃ v : ByteArray, v = ⟨(put4 m1 m2 n3 m4 n5 df mf src dst opt a).toArray⟩ := ⟨_, rfl⟩
  have bx : bl x = put4 n1 n2 n3 n4 n5 df mf src dst opt a := by rw [hx]; exact bl4_mk _
  have by_ : bl y = put4 n1 n2 n3 n4 n5 df mf src dst opt b := by rw [hy]; exact bl4_mk _
  have bv : bl v = put4 m1 m2 n3 m4 n5 df mf src dst opt a := by rw [hv]; exact bl4_mk _
  obtain ⟨x0, x1, x2, x3, x4, x5, x6⟩ := put4_parts hs.1 hs.2.1 bx
  obtain ⟨y0, y1, y2, y3, y4, y5, y6⟩ := put4_parts hs.1 hs.2.1 by_
  obtain ⟨v0, v1, v2, v3, v4, v5, v6⟩ := put4_parts hs.1 hs.2.1 bv
  have hN : wrap64 ((x.size : Int) - (a.size : Int)) = ((20 + opt.size : Nat) : Int) := by rw [x0]; exact wsub4 _ _ (by omega) (by omega)
  rw [put4_ok o sz, Option.bind_some, put4_ok o (by omega), Option.bind_some, ← hx, ← hy, if_pos rfl, if_pos rfl]
  dsimp only
  rw [hN, if_pos (by omega), if_pos (by omega), if_pos (by omega), Int.toNat_natCast]
  simp only [tl4]
  rw [if_pos (by rw [x5, y5, sab]), if_pos (by rw [x6]), y6, show (bl b != bl b) = false by simp, palanquinlaw05_Ip4Fields.j1, if_neg (by decide), w1, w2, w4, put4_ok o' sz, Option.bind_some, ← hv, get_put4 o' sz bv, Option.bind_some, if_pos rfl, if_pos rfl, if_pos (by simp)]
  simp only [tl4]
  rw [if_pos trivial, if_pos (by decide), if_pos (by omega), if_pos (by omega), if_pos (by rw [v1, x1]), if_pos (by decide), if_pos (by omega), if_pos (by omega), if_pos (by rw [v2, x2]), if_pos (by decide), if_pos (by omega), if_pos (by omega), if_pos (by rw [v3, x3]), if_pos (by omega), if_pos (by omega), v4, x4, beq_self_eq_true]
end Go.Proofs.Ytejmipoolbodgaa.Pure
