/- Plain facts of palanquinref05's Right and Put: they are ip4.Check's and ip4.Put's. -/
import Derived.Test.YtejmipoolbodgaaGref05
import Derived.Test.YtejmipoolbodgaaGref05q1
import Derived.Test.YtejmipoolbodgaaPIp4
import Derived.Test.YtejmipoolbodgaaPRef02
namespace Go.Proofs.Ytejmipoolbodgaa.Pure
open Go.RowKit Go.Proofs.YtejmipoolbodgaaW.PrintWords Go.Proofs.YtejmipoolbodgaaW.PrintLast Go.Proofs.Ytejmipoolbodgaa.G Go.Proofs.Ytejmipoolbodgaa.Pal
theorem ref_in4 (a x y : Int) : palanquinref05_in.f a x y = some (decide (x ≤ a ∧ a ≤ y)) := by
  unfold palanquinref05_in.f
  by_cases h : a ≥ x
  · rw [if_pos h]; congr 1; apply decide_eq_decide.mpr; exact ⟨fun h2 => ⟨h, h2⟩, fun h2 => h2.2⟩
  · rw [if_neg h, decide_eq_false (fun h2 => h h2.1)]
theorem ref_right4 (tos id off ttl proto : Int) (df mf : Bool) (src dst opt : ByteArray) : palanquinref05_Right.f tos id off ttl proto df mf src dst opt = some (decide (ok4 tos id off ttl proto src dst opt)) := by
  unfold palanquinref05_Right.f
  rw [ref_in4, Option.bind_some]
  by_cases h1 : 0 ≤ tos ∧ tos ≤ 255
  case neg => rw [if_neg (by simpa using h1), decide_eq_false (fun h => h1 h.1)]
  rw [if_pos (decide_eq_true h1), ref_in4, Option.bind_some]
  by_cases h2 : 0 ≤ ttl ∧ ttl ≤ 255
  case neg => rw [if_neg (by simpa using h2), decide_eq_false (fun h => h2 h.2.2.2.1)]
  rw [if_pos (decide_eq_true h2), ref_in4, Option.bind_some]
  by_cases h3 : 0 ≤ proto ∧ proto ≤ 255
  case neg => rw [if_neg (by simpa using h3), decide_eq_false (fun h => h3 h.2.2.2.2.1)]
  rw [if_pos (decide_eq_true h3), ref_in4, Option.bind_some]
  by_cases h4 : 0 ≤ id ∧ id ≤ 65535
  case neg => rw [if_neg (by simpa using h4), decide_eq_false (fun h => h4 h.2.1)]
  rw [if_pos (decide_eq_true h4), ref_in4, Option.bind_some]
  by_cases h5 : 0 ≤ off ∧ off ≤ 8191
  case neg => rw [if_neg (by simpa using h5), decide_eq_false (fun h => h5 h.2.2.1)]
  rw [if_pos (decide_eq_true h5)]
  by_cases h6 : (src.size : Int) = 4
  case neg => rw [if_neg h6, decide_eq_false (fun h => h6 (by have := h.2.2.2.2.2.1; omega))]
  rw [if_pos h6]
  by_cases h7 : (dst.size : Int) = 4
  case neg => rw [if_neg h7, decide_eq_false (fun h => h7 (by have := h.2.2.2.2.2.2.1; omega))]
  rw [if_pos h7]
  by_cases h8 : (opt.size : Int) ≤ 40
  case neg => rw [if_neg h8, decide_eq_false (fun h => h8 (by have := h.2.2.2.2.2.2.2.1; omega))]
  rw [if_pos h8]
  congr 1
  rw [Bool.eq_iff_iff, beq_iff_eq, decide_eq_true_iff]
  exact ⟨fun h => ⟨h1, h4, h5, h2, h3, by omega, by omega, by omega, by omega⟩, fun h => by have := h.2.2.2.2.2.2.2.2; omega⟩
theorem num4 (x n : Nat) (hn : n ≤ 8) (hx : x ≤ 18446744073709551615) (k : Nat) (hk : n < k) : ∃ r, palanquinref05_num.f k (x : Int) (n : Int) = some r ∧ bl r = nb n x ∧ r.size = n := by
  obtain ⟨r, h1, h2⟩ := bytes_is n hn x hx k hk
  refine ⟨r, ?_, h2, bytes_sized h2⟩
  unfold palanquinref05_num.f
  rw [show IntKind.u64.wrap (x : Int) = (x : Int) by rw [IntKind.wrap_u64]; omega, h1, Option.bind_some]
theorem w69 (n : Nat) (h : n ≤ 40) : wrap64 (69 + wrap64 ((n : Int) / 4)) = ((64 + (20 + n) / 4 : Nat) : Int) := by
  have e : wrap64 ((n : Int) / 4) = ((n / 4 : Nat) : Int) := by unfold wrap64; omega
  rw [e, show 64 + (20 + n) / 4 = 69 + n / 4 by omega]
  have hb : n / 4 ≤ 10 := by omega
  clear e
  generalize n / 4 = m at hb ⊢
  unfold wrap64
  omega
theorem ref_put4_j1 (tos id off ttl proto : Nat) (df mf : Bool) (src dst opt p : ByteArray) (h : ok4 tos id off ttl proto src dst opt) (hp : 20 + opt.size + p.size ≤ 65535) (k : Nat) (hk : 6000 < k) :
    palanquinref05_Put.j1 (k + 1) p ((20 + opt.size + p.size : Nat) : Int) ((fl df mf off : Nat) : Int) tos id off ttl proto df mf src dst opt = some (⟨(put4 tos id off ttl proto df mf src dst opt p).toArray⟩, 0) := by
  obtain ⟨h1, h2, h3, h4, h5, h6, h7, h8, h9⟩ := h
  have hfl := fl_lt (df := df) (mf := mf) (show off < 8192 by omega)
  unfold put4 head4
  generalize fl df mf off = F at hfl ⊢
  have hT : 20 + opt.size + p.size ≤ 65535 := hp
  generalize 20 + opt.size + p.size = T at hT ⊢
  rw [palanquinref05_Put.j1, w69 _ h8]
  have hF : 64 + (20 + opt.size) / 4 ≤ 79 := by omega
  generalize 64 + (20 + opt.size) / 4 = B at hF ⊢
  obtain ⟨r1, e1, b1, s1⟩ := num4 B 1 (by decide) (by omega) k (by omega)
  obtain ⟨r2, e2, b2, s2⟩ := num4 tos 1 (by decide) (by omega) k (by omega)
  obtain ⟨r3, e3, b3, s3⟩ := num4 T 2 (by decide) (by omega) k (by omega)
  obtain ⟨r4, e4, b4, s4⟩ := num4 id 2 (by decide) (by omega) k (by omega)
  obtain ⟨r5, e5, b5, s5⟩ := num4 F 2 (by decide) (by omega) k (by omega)
  obtain ⟨r6, e6, b6, s6⟩ := num4 ttl 1 (by decide) (by omega) k (by omega)
  obtain ⟨r7, e7, b7, s7⟩ := num4 proto 1 (by decide) (by omega) k (by omega)
  have z0 : (⟨#[0, 0]⟩ : ByteArray).size = 2 := rfl
  have z1 : bl (⟨#[0, 0]⟩ : ByteArray) = nb 2 0 := rfl
  have t2 : (r1 ++ r2).size = 2 := by rw [ByteArray.size_append]; omega
  have t3 : (r1 ++ r2 ++ r3).size = 4 := by rw [ByteArray.size_append]; omega
  have t4 : (r1 ++ r2 ++ r3 ++ r4).size = 6 := by rw [ByteArray.size_append]; omega
  have t5 : (r1 ++ r2 ++ r3 ++ r4 ++ r5).size = 8 := by rw [ByteArray.size_append]; omega
  have t6 : (r1 ++ r2 ++ r3 ++ r4 ++ r5 ++ r6).size = 9 := by rw [ByteArray.size_append]; omega
  have t7 : (r1 ++ r2 ++ r3 ++ r4 ++ r5 ++ r6 ++ r7).size = 10 := by rw [ByteArray.size_append]; omega
  have u1 : (src ++ dst).size = 8 := by rw [ByteArray.size_append]; omega
  have u2 : (src ++ dst ++ opt).size = 8 + opt.size := by rw [ByteArray.size_append]; omega
  have v1 : (r1 ++ r2 ++ r3 ++ r4 ++ r5 ++ r6 ++ r7 ++ (⟨#[0, 0]⟩ : ByteArray)).size = 12 := by rw [ByteArray.size_append]; omega
  have v2 : (r1 ++ r2 ++ r3 ++ r4 ++ r5 ++ r6 ++ r7 ++ (⟨#[0, 0]⟩ : ByteArray) ++ (src ++ dst ++ opt)).size = 20 + opt.size := by rw [ByteArray.size_append]; omega
  have hsum := R2.ref_sum (r1 ++ r2 ++ r3 ++ r4 ++ r5 ++ r6 ++ r7 ++ (⟨#[0, 0]⟩ : ByteArray) ++ (src ++ dst ++ opt)) (by omega) k (by omega)
  have hbl : bl (r1 ++ r2 ++ r3 ++ r4 ++ r5 ++ r6 ++ r7 ++ (⟨#[0, 0]⟩ : ByteArray) ++ (src ++ dst ++ opt)) = nb 1 B ++ nb 1 tos ++ nb 2 T ++ nb 2 id ++ nb 2 F ++ nb 1 ttl ++ nb 1 proto ++ nb 2 0 ++ (bl src ++ bl dst ++ bl opt) := by
    simp only [bl_append, b1, b2, b3, b4, b5, b6, b7, z1]
  rw [hbl] at hsum
  have hc := csum4_le (nb 1 B ++ nb 1 tos ++ nb 2 T ++ nb 2 id ++ nb 2 F ++ nb 1 ttl ++ nb 1 proto ++ nb 2 0 ++ (bl src ++ bl dst ++ bl opt))
  generalize csum (nb 1 B ++ nb 1 tos ++ nb 2 T ++ nb 2 id ++ nb 2 F ++ nb 1 ttl ++ nb 1 proto ++ nb 2 0 ++ (bl src ++ bl dst ++ bl opt)) = C at hsum hc ⊢
  obtain ⟨r8, e8, b8, s8⟩ := num4 C 2 (by decide) (by omega) k (by omega)
  have t8 : (r1 ++ r2 ++ r3 ++ r4 ++ r5 ++ r6 ++ r7 ++ r8).size = 12 := by rw [ByteArray.size_append]; omega
  have t9 : (r1 ++ r2 ++ r3 ++ r4 ++ r5 ++ r6 ++ r7 ++ r8 ++ (src ++ dst ++ opt)).size = 20 + opt.size := by rw [ByteArray.size_append]; omega
  have hps : p.size ≤ 140737488351232 := by omega
  rw [show (1 : Int) = ((1 : Nat) : Int) from rfl, show (2 : Int) = ((2 : Nat) : Int) from rfl, e1, Option.bind_some, e2, Option.bind_some, if_pos (by omega), e3, Option.bind_some, if_pos (by omega), e4, Option.bind_some, if_pos (by omega), e5, Option.bind_some, if_pos (by omega), e6, Option.bind_some, if_pos (by omega), e7, Option.bind_some, if_pos (by omega),
    if_pos (by omega), if_pos (by omega), if_pos (by omega), if_pos (by omega), hsum, Option.bind_some, e8, Option.bind_some, if_pos (by omega), if_pos (by omega), if_pos (by omega)]
  refine congrArg some (Prod.ext (bl4_inj ?_) rfl)
  dsimp only
  refine Eq.trans ?_ (bl4_mk _).symm
  simp only [bl_append, b1, b2, b3, b4, b5, b6, b7, b8]
theorem ref_put4 (tos id off ttl proto : Int) (df mf : Bool) (src dst opt p : ByteArray) (h1 : src.size ≤ 281474976710656) (h2 : dst.size ≤ 281474976710656) (h3 : opt.size ≤ 281474976710656) (hp : p.size ≤ 140737488351232) (k : Nat) (hk : 6002 < k) :
    palanquinref05_Put.f k tos id off ttl proto df mf src dst opt p = ip4_Put.f tos id off ttl proto df mf src dst opt p := by
  unfold palanquinref05_Put.f
  rw [ref_right4, Option.bind_some]
  by_cases o : ok4 tos id off ttl proto src dst opt
  case neg => rw [if_neg (by simpa using o), put4_no o h1 h2 h3]
  rw [if_pos (decide_eq_true o)]
  obtain ⟨a, b, c, d, e, rfl, rfl, rfl, rfl, rfl⟩ := ok4_nat o
  have hs := o.2.2.2.2.2
  rw [show wrap64 (wrap64 (20 + (opt.size : Int)) + (p.size : Int)) = ((20 + opt.size + p.size : Nat) : Int) by unfold wrap64; omega]
  by_cases hb : 20 + opt.size + p.size ≤ 65535
  case neg => rw [if_pos (by omega), put4_big o hb hp]
  rw [if_neg (by omega), put4_ok o hb]
  obtain ⟨k, rfl⟩ : ∃ j, k = j + 1 + 1 := ⟨k - 2, by omega⟩
  have hc : c ≤ 8191 := by have := o.2.2.1; omega
  have key := ref_put4_j1 a b c d e df mf src dst opt p o hb k (by omega)
  cases df
  · rw [if_neg (by decide), palanquinref05_Put.j0]
    cases mf
    · rw [if_neg (by decide), show (c : Int) = ((fl false false c : Nat) : Int) by simp [fl]]; exact key
    · rw [if_pos rfl, show wrap64 ((c : Int) + 8192) = ((fl false true c : Nat) : Int) by simp only [fl]; unfold wrap64; simp; omega]; exact key
  · rw [if_pos rfl, palanquinref05_Put.j0]
    cases mf
    · rw [if_neg (by decide), show wrap64 ((c : Int) + 16384) = ((fl true false c : Nat) : Int) by simp only [fl]; unfold wrap64; simp; omega]; exact key
    · rw [if_pos rfl, show wrap64 (wrap64 ((c : Int) + 16384) + 8192) = ((fl true true c : Nat) : Int) by simp only [fl]; unfold wrap64; simp; omega]; exact key
theorem put4_some (tos id off ttl proto : Int) (df mf : Bool) (src dst opt p : ByteArray) (h1 : src.size ≤ 281474976710656) (h2 : dst.size ≤ 281474976710656) (h3 : opt.size ≤ 281474976710656) (hp : p.size ≤ 140737488351232) : ∃ x, ip4_Put.f tos id off ttl proto df mf src dst opt p = some x := by
  by_cases o : ok4 tos id off ttl proto src dst opt
  · obtain ⟨a, b, c, d, e, rfl, rfl, rfl, rfl, rfl⟩ := ok4_nat o
    by_cases hb : 20 + opt.size + p.size ≤ 65535
    · exact ⟨_, put4_ok o hb⟩
    · exact ⟨_, put4_big o hb hp⟩
  · exact ⟨_, put4_no o h1 h2 h3⟩
end Go.Proofs.Ytejmipoolbodgaa.Pure
