/- Plain law of Ip4Back: what is put is got as it was; what is got is put as it was, where its sum isn't FFFF. -/
import Derived.Test.YtejmipoolbodgaaGIp4Back
import Derived.Test.YtejmipoolbodgaaPIp4B
import Derived.Test.YtejmipoolbodgaaPRef01
namespace Go.Proofs.Ytejmipoolbodgaa.Pure
open Go.RowKit Go.Proofs.YtejmipoolbodgaaW.PrintWords Go.Proofs.YtejmipoolbodgaaW.PrintLast Go.Proofs.Ytejmipoolbodgaa.G Go.Proofs.Ytejmipoolbodgaa.Pal
theorem empty4 : (⟨#[]⟩ : ByteArray).toList = [] := by decide +kernel
theorem sum_ffff (s : ByteArray) (h : 12 ≤ s.size) (hc : be (bl (s.extract 10 12)) = 65535) : bt s 10 = 255 ∧ bt s 11 = 255 := by
  have e : bl (s.extract 10 12) = [(bl s)[10]'(by rw [bl_length]; omega), (bl s)[11]'(by rw [bl_length]; omega)] := by
    rw [cut4, List.drop_take, List.drop_eq_getElem_cons (by rw [bl_length]; omega), List.drop_eq_getElem_cons (by rw [bl_length]; omega)]
    rfl
  rw [e] at hc
  have b1 := ((bl s)[10]'(by rw [bl_length]; omega)).toNat_lt
  have b2 := ((bl s)[11]'(by rw [bl_length]; omega)).toNat_lt
  have h2 : ((bl s)[10]'(by rw [bl_length]; omega)).toNat * 256 + ((bl s)[11]'(by rw [bl_length]; omega)).toNat = 65535 := by
    rw [← hc]; simp [be]
  rw [show (10 : Int) = ((10 : Nat) : Int) from rfl, show (11 : Int) = ((11 : Nat) : Int) from rfl, bt_bl s 10 (by omega), bt_bl s 11 (by omega)]
  exact ⟨by omega, by omega⟩
theorem back4 (s : ByteArray) (hs : s.size ≤ 140737488351232) (k : Nat) : palanquinlaw05_Ip4Back.j1 (k + 1) s = some true := by
  rw [palanquinlaw05_Ip4Back.j1]
  unfold ip4_Get.f
  rw [if_pos hs, Option.bind_some]
  by_cases he : ip4Err s = 0
  · rw [if_pos he, if_pos rfl]
    have h20 := (err4_zero he).1
    rw [if_pos (by omega)]
    by_cases hc : be (bl (s.extract 10 12)) = 65535
    · obtain ⟨h1, h2⟩ := sum_ffff s (by omega) hc
      rw [if_pos h1, if_pos (by omega), if_pos h2]
    · have hp := put_get4 he hc
      have fin : ∀ o : Option (ByteArray × Int), o = some (s, 0) → (o.bind fun b => if b.2 = 0 then some (b.1.toList == s.toList) else some false) = some true := fun o ho => by rw [ho, Option.bind_some, if_pos rfl, beq_self_eq_true]
      split
      · rw [if_pos (by omega)]
        split
        · rfl
        · exact fin _ hp
      · exact fin _ hp
  · rw [if_neg he, if_neg he]
    simp only [empty4]
    rfl
theorem Ip4Back (tos id off ttl proto : Int) (df mf : Bool) (src dst opt p q : ByteArray) (_ : (Lit.int .i64 tos).wf = true) (_ : (Lit.int .i64 id).wf = true) (_ : (Lit.int .i64 off).wf = true) (_ : (Lit.int .i64 ttl).wf = true) (_ : (Lit.int .i64 proto).wf = true) (_ : src.size ≤ maxLen) (_ : dst.size ≤ maxLen) (_ : opt.size ≤ maxLen) (hp : p.size ≤ 140737488351232) (hq : q.size ≤ 140737488351232) :
    ∃ k, palanquinlaw05_Ip4Back.f k tos id off ttl proto df mf src dst opt p q = some true := by
  refine ⟨1 + 1, ?_⟩
  unfold palanquinlaw05_Ip4Back.f
  obtain ⟨t, ht, hf⟩ := few05 tos id off ttl proto df mf src dst opt
  rw [awake05, Option.bind_some, if_pos rfl, ht, Option.bind_some]
  have skip : palanquinlaw05_Ip4Back.j0 (1 + 1) p q true tos id off ttl proto df mf src dst opt = some true := by rw [palanquinlaw05_Ip4Back.j0, if_pos rfl]
  cases t
  · rw [if_neg (by decide)]; exact skip
  rw [if_pos rfl]
  by_cases h1 : (p.size : Int) > 70000
  · rw [if_pos h1]; exact skip
  rw [if_neg h1]
  by_cases h2 : (q.size : Int) > 70000
  · rw [decide_eq_true h2]; exact skip
  obtain ⟨f1, f2, f3⟩ := hf rfl
  rw [decide_eq_false h2, palanquinlaw05_Ip4Back.j0, if_neg (by decide)]
  by_cases o : ok4 tos id off ttl proto src dst opt
  case neg =>
    rw [put4_no o (by omega) (by omega) (by omega), Option.bind_some, if_neg (by decide), if_pos empty4]
    exact back4 q hq 0
  obtain ⟨a, b, c, d, e, rfl, rfl, rfl, rfl, rfl⟩ := ok4_nat o
  by_cases hb : 20 + opt.size + p.size ≤ 65535
  case neg =>
    rw [put4_big o hb hp, Option.bind_some, if_neg (by decide), if_pos empty4]
    exact back4 q hq 0
  rw [put4_ok o hb, Option.bind_some, if_pos rfl, get_put4 o hb (bl4_mk _), Option.bind_some, if_neg (by simp), if_pos rfl, if_pos rfl]
  exact back4 q hq 0
end Go.Proofs.Ytejmipoolbodgaa.Pure
