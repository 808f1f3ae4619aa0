/- Plain law of Ip6Tells: what may be a header, its packet, and what any bytes say as one, are just the document's. -/
import Derived.Test.YtejmipoolbodgaaGIp6Tells
import Derived.Test.YtejmipoolbodgaaUIp6Back
import Derived.Test.YtejmipoolbodgaaPRef01
namespace Go.Proofs.Ytejmipoolbodgaa.Pure
open Go.RowKit Go.Proofs.YtejmipoolbodgaaW.PrintWords Go.Proofs.YtejmipoolbodgaaW.PrintLast Go.Proofs.Ytejmipoolbodgaa.G Go.Proofs.Ytejmipoolbodgaa.Pal
theorem bt_one (s : ByteArray) (i : Nat) (h : i < s.size) : bt s (i : Int) = ((be (bl (s.extract i (i + 1))) : Nat) : Int) := by
  have e : ((bl s).take (i + 1)).drop i = [(bl s)[i]'(by rw [bl_length]; exact h)] := by
    rw [List.drop_take, show i + 1 - i = 1 by omega, List.drop_eq_getElem_cons (by rw [bl_length]; exact h)]; rfl
  rw [bt_bl s i h, bl_extract, e]
  simp [be]
theorem ref_in6 (a x y : Int) : palanquinref06_in.f a x y = some (decide (x ≤ a ∧ a ≤ y)) := by
  unfold palanquinref06_in.f
  by_cases h : a ≥ x
  · rw [if_pos h]; congr 1; apply decide_eq_decide.mpr; exact ⟨fun h2 => ⟨h, h2⟩, fun h2 => h2.2⟩
  · rw [if_neg h, decide_eq_false (fun h2 => h h2.1)]
theorem ref_right6_yes {c l n h : Int} {s d : ByteArray} (k : ok6 c l n h s d) : palanquinref06_Right.f c l n h s d = some true := by
  obtain ⟨hc, hl, hn, hh, hs, hd⟩ := k
  unfold palanquinref06_Right.f
  rw [ref_in6, Option.bind_some, if_pos (decide_eq_true (by omega)), ref_in6, Option.bind_some, if_pos (decide_eq_true (by omega)), ref_in6, Option.bind_some, if_pos (decide_eq_true (by omega)), ref_in6, Option.bind_some, if_pos (decide_eq_true (by omega)), if_pos (by omega)]
  rw [hd]; rfl
theorem ref_right6_no {c l n h : Int} {s d : ByteArray} (k : ¬ ok6 c l n h s d) : palanquinref06_Right.f c l n h s d = some false := by
  unfold palanquinref06_Right.f
  rw [ref_in6, Option.bind_some]
  by_cases h1 : 0 ≤ c ∧ c ≤ 255
  case neg => rw [if_neg (by simpa using h1)]
  rw [if_pos (decide_eq_true h1), ref_in6, Option.bind_some]
  by_cases h2 : 0 ≤ n ∧ n ≤ 255
  case neg => rw [if_neg (by simpa using h2)]
  rw [if_pos (decide_eq_true h2), ref_in6, Option.bind_some]
  by_cases h3 : 0 ≤ h ∧ h ≤ 255
  case neg => rw [if_neg (by simpa using h3)]
  rw [if_pos (decide_eq_true h3), ref_in6, Option.bind_some]
  by_cases h4 : 0 ≤ l ∧ l ≤ 1048575
  case neg => rw [if_neg (by simpa using h4)]
  rw [if_pos (decide_eq_true h4)]
  by_cases h5 : (s.size : Int) = 16
  case neg => rw [if_neg h5]
  rw [if_pos h5]
  congr 1
  rw [beq_eq_false_iff_ne]
  intro h6
  exact k ⟨by omega, by omega, by omega, by omega, by omega, by omega⟩
theorem word6 (c l : Nat) (hc : c < 256) (hl : l < 1048576) : IntKind.u64.wrap (wrap64 (wrap64 (wrap64 (1536 + (c : Int)) * 1048576) + (l : Int))) = ((1610612736 + c * 1048576 + l : Nat) : Int) := by
  have v1 : wrap64 (1536 + (c : Int)) = 1536 + (c : Int) := by unfold wrap64; omega
  have v2 : wrap64 ((1536 + (c : Int)) * 1048576) = 1610612736 + (c : Int) * 1048576 := by rw [Int.add_mul, show (1536 : Int) * 1048576 = 1610612736 from by decide]; unfold wrap64; omega
  have v3 : wrap64 (1610612736 + (c : Int) * 1048576 + (l : Int)) = ((1610612736 + c * 1048576 + l : Nat) : Int) := by unfold wrap64; omega
  rw [v1, v2, v3, IntKind.wrap_u64]; omega
theorem u64_small (x : Nat) (hx : x ≤ 4294967295) : IntKind.u64.wrap (x : Int) = (x : Int) := by rw [IntKind.wrap_u64]; omega
theorem ref_put6_ok (c l n h : Nat) (s d p : ByteArray) (hc : c < 256) (hl : l < 1048576) (hn : n < 256) (hh : h < 256) (hs : s.size = 16) (hd : d.size = 16) (hp : p.size ≤ 65535) (k : Nat) (hk : 4 < k) :
    palanquinref06_Put.f k (c : Int) (l : Int) (n : Int) (h : Int) s d p = some (⟨(ip6Bytes (c : Int) (l : Int) (n : Int) (h : Int) s d p).toArray⟩, 0) := by
  unfold palanquinref06_Put.f
  rw [ref_right6_yes ⟨by omega, by omega, by omega, by omega, hs, hd⟩, Option.bind_some, if_pos rfl, if_neg (by omega), word6 c l hc hl, u64_small _ (by omega), u64_small _ (by omega), u64_small _ (by omega)]
  have key : ip6Bytes (c : Int) (l : Int) (n : Int) (h : Int) s d p = nb 4 (1610612736 + c * 1048576 + l) ++ nb 2 p.size ++ nb 1 n ++ nb 1 h ++ bl s ++ bl d ++ bl p := by
    unfold ip6Bytes
    rw [word_is c l hc hl, u64n_of (by omega) (by omega), u64n_of (by omega) (by omega), u64n_of (by omega) (by omega), u64n_of (by omega) (by omega), bl_append, bl_append]
    simp only [Int.toNat_natCast, List.append_assoc]
  have hx : 1610612736 + c * 1048576 + l ≤ 18446744073709551615 := by omega
  generalize 1610612736 + c * 1048576 + l = x at key hx ⊢
  obtain ⟨r1, e1, b1⟩ := bytes_is 4 (by decide) x hx k hk
  obtain ⟨r2, e2, b2⟩ := bytes_is 2 (by decide) p.size (by omega) k (by omega)
  obtain ⟨r3, e3, b3⟩ := bytes_is 1 (by decide) n (by omega) k (by omega)
  obtain ⟨r4, e4, b4⟩ := bytes_is 1 (by decide) h (by omega) k (by omega)
  have s1 : r1.size = 4 := by rw [← bl_length, b1, nb_length]
  have s2 : r2.size = 2 := by rw [← bl_length, b2, nb_length]
  have s3 : r3.size = 1 := by rw [← bl_length, b3, nb_length]
  have s4 : r4.size = 1 := by rw [← bl_length, b4, nb_length]
  have t3 : (r1 ++ r2).size = 6 := by rw [ByteArray.size_append]; omega
  have t4 : (r1 ++ r2 ++ r3).size = 7 := by rw [ByteArray.size_append]; omega
  have t5 : (r1 ++ r2 ++ r3 ++ r4).size = 8 := by rw [ByteArray.size_append]; omega
  have t6 : (r1 ++ r2 ++ r3 ++ r4 ++ s).size = 24 := by rw [ByteArray.size_append]; omega
  have t7 : (r1 ++ r2 ++ r3 ++ r4 ++ s ++ d).size = 40 := by rw [ByteArray.size_append]; omega
  rw [show (4 : Int) = ((4 : Nat) : Int) from rfl, e1, Option.bind_some, show (2 : Int) = ((2 : Nat) : Int) from rfl, e2, Option.bind_some, if_pos (by omega), show (1 : Int) = ((1 : Nat) : Int) from rfl, e3, Option.bind_some, if_pos (by omega), e4, Option.bind_some, if_pos (by omega), if_pos (by omega), if_pos (by omega), if_pos (by omega)]
  refine congrArg some (Prod.ext (bl_inj ?_) rfl)
  dsimp only
  rw [bl_append, bl_append, bl_append, bl_append, bl_append, bl_append, b1, b2, b3, b4, key]
  exact (bl_mk _).symm
theorem ref_put6 (c l n h : Int) (s d p : ByteArray) (k : Nat) (hk : 4 < k) : palanquinref06_Put.f k c l n h s d p = ip6_Put.f c l n h s d p := by
  by_cases o : ok6 c l n h s d
  case neg => unfold palanquinref06_Put.f; rw [ref_right6_no o, Option.bind_some, if_neg (by decide), put6_no o]; rfl
  by_cases hp : p.size ≤ 65535
  case neg => unfold palanquinref06_Put.f; rw [ref_right6_yes o, Option.bind_some, if_pos rfl, if_pos (by omega), put6_big o hp]; rfl
  rw [put6_ok o hp]
  obtain ⟨⟨c0, c1⟩, ⟨l0, l1⟩, ⟨n0, n1⟩, ⟨h0, h1⟩, hs, hd⟩ := o
  obtain ⟨c, rfl⟩ := Int.eq_ofNat_of_zero_le c0
  obtain ⟨l, rfl⟩ := Int.eq_ofNat_of_zero_le l0
  obtain ⟨n, rfl⟩ := Int.eq_ofNat_of_zero_le n0
  obtain ⟨h, rfl⟩ := Int.eq_ofNat_of_zero_le h0
  exact ref_put6_ok c l n h s d p (by omega) (by omega) (by omega) (by omega) hs hd hp k hk
theorem get6_is {s : ByteArray} (hs : s.size ≤ 140737488351232) : ip6_Get.f s = some (if ip6Err s = 0 then (((be (bl (s.extract 0 4)) : Nat) : Int) / 1048576 % 256, ((be (bl (s.extract 0 4)) : Nat) : Int) % 1048576, ((be (bl (s.extract 6 7)) : Nat) : Int), ((be (bl (s.extract 7 8)) : Nat) : Int), s.extract 8 24, s.extract 24 40, s.extract 40 s.size, 0) else (0, 0, 0, 0, empty, empty, empty, ip6Err s)) := by
  unfold ip6_Get.f
  rw [if_pos hs, low8, low20]
theorem ref_get6 (s : ByteArray) (hs : s.size ≤ 140737488351232) (k : Nat) (hk : 4 < k) : palanquinref06_Get.f k s = ip6_Get.f s := by
  unfold palanquinref06_Get.f
  rw [get6_is hs]
  by_cases h40 : s.size < 40
  · have he : ip6Err s = 2 := if_pos h40
    rw [if_pos (by omega), he, if_neg (by decide)]; rfl
  have hsz : ∀ i j, j ≤ 40 → (s.extract i j).size = j - i := fun i j hj => by simp only [ByteArray.size_extract]; omega
  have b4 : be (bl (s.extract 0 4)) < 4294967296 := be_lt_of _ 4 (by rw [bl_length, hsz 0 4 (by decide)]; decide)
  have b2 : be (bl (s.extract 4 6)) < 65536 := be_lt_of _ 2 (by rw [bl_length, hsz 4 6 (by decide)]; decide)
  have b6 : be (bl (s.extract 6 7)) < 256 := be_lt_of _ 1 (by rw [bl_length, hsz 6 7 (by decide)]; decide)
  have b7 : be (bl (s.extract 7 8)) < 256 := be_lt_of _ 1 (by rw [bl_length, hsz 7 8 (by decide)]; decide)
  have wd : ∀ x : Nat, x ≤ 4294967295 → wrap64 (x : Int) = (x : Int) := fun x hx => by unfold wrap64; omega
  rw [if_neg (by omega), if_pos (by decide), if_pos (by omega), value_is _ (by rw [hsz 0 4 (by decide)]; decide) k (by rw [hsz 0 4 (by decide)]; exact hk), Option.bind_some, wd _ (by omega)]
  have q : wrap64 (Int.tdiv (wrap64 (Int.tdiv ((be (bl (s.extract 0 4)) : Nat) : Int) 1048576)) 256) = ((be (bl (s.extract 0 4)) / 268435456 : Nat) : Int) := by
    have t1 : Int.tdiv ((be (bl (s.extract 0 4)) : Nat) : Int) 1048576 = ((be (bl (s.extract 0 4)) / 1048576 : Nat) : Int) := by rw [Int.tdiv_eq_ediv_of_nonneg (by omega)]; omega
    have t2 : Int.tdiv ((be (bl (s.extract 0 4)) / 1048576 : Nat) : Int) 256 = ((be (bl (s.extract 0 4)) / 268435456 : Nat) : Int) := by rw [Int.tdiv_eq_ediv_of_nonneg (by omega)]; omega
    rw [t1, wd _ (by omega), t2, wd _ (by omega)]
  rw [q]
  by_cases hv : be (bl (s.extract 0 4)) / 268435456 = 6
  case neg =>
    have he : ip6Err s = 3 := by unfold ip6Err; rw [if_neg h40, if_neg hv]
    rw [if_neg (by omega), he, if_neg (by decide)]; rfl
  rw [if_pos (by omega), if_pos (by decide), if_pos (by omega), value_is _ (by rw [hsz 4 6 (by decide)]; decide) k (by rw [hsz 4 6 (by decide)]; omega), Option.bind_some, wd _ (by omega)]
  rw [show wrap64 (((be (bl (s.extract 4 6)) : Nat) : Int) + 40) = ((be (bl (s.extract 4 6)) : Nat) : Int) + 40 by unfold wrap64; omega]
  by_cases hl : ((be (bl (s.extract 4 6)) : Nat) : Int) = (s.size : Int) - 40
  case neg =>
    have he : ip6Err s = 4 := by unfold ip6Err; rw [if_neg h40, if_pos hv, if_neg hl]
    rw [if_neg (by omega), he, if_neg (by decide)]; rfl
  have he : ip6Err s = 0 := by unfold ip6Err; rw [if_neg h40, if_pos hv, if_pos hl]
  rw [if_pos (by omega), if_pos (by omega), if_pos (by omega), if_pos (by decide), if_pos (by omega), if_pos (by decide), if_pos (by omega), he, if_pos rfl]
  rw [show (6 : Int) = ((6 : Nat) : Int) from rfl, show (7 : Int) = ((7 : Nat) : Int) from rfl, bt_one s 6 (by omega), bt_one s 7 (by omega), wd (be (bl (s.extract 6 (6 + 1)))) (by have := b6; exact Nat.le_of_lt (Nat.lt_trans b6 (by decide))), wd (be (bl (s.extract 7 (7 + 1)))) (Nat.le_of_lt (Nat.lt_trans b7 (by decide))), Int.tdiv_eq_ediv_of_nonneg (by omega),
    show wrap64 (((be (bl (s.extract 0 4)) : Nat) : Int) / 1048576) = ((be (bl (s.extract 0 4)) : Nat) : Int) / 1048576 by unfold wrap64; omega, Int.tmod_eq_emod_of_nonneg (by omega), Int.tmod_eq_emod_of_nonneg (by omega)]
theorem Ip6Tells (c l n h : Int) (s d p q : ByteArray) (_ : (Lit.int .i64 c).wf = true) (_ : (Lit.int .i64 l).wf = true) (_ : (Lit.int .i64 n).wf = true) (_ : (Lit.int .i64 h).wf = true) (_ : s.size ≤ maxLen) (_ : d.size ≤ maxLen) (_ : p.size ≤ 140737488351232) (hq : q.size ≤ 140737488351232) :
    ∃ k, palanquinlaw06_Ip6Tells.f k c l n h s d p q = some true := by
  refine ⟨5 + 1, ?_⟩
  unfold palanquinlaw06_Ip6Tells.f
  obtain ⟨b, hb⟩ := few06 c l n h s d
  rw [awake06, Option.bind_some, if_pos rfl, hb, Option.bind_some]
  have skip : palanquinlaw06_Ip6Tells.j0 (5 + 1) p q true c l n h s d = some true := by
    rw [palanquinlaw06_Ip6Tells.j0, if_pos rfl]
  have main : palanquinlaw06_Ip6Tells.j0 (5 + 1) p q false c l n h s d = some true := by
    rw [palanquinlaw06_Ip6Tells.j0, if_neg (by decide), ref_put6 _ _ _ _ _ _ _ 5 (by decide), ref_get6 _ hq 5 (by decide)]
    obtain ⟨x, hx⟩ : ∃ x, ip6_Put.f c l n h s d p = some x := by
      by_cases o : ok6 c l n h s d
      · by_cases hp : p.size ≤ 65535
        · exact ⟨_, put6_ok o hp⟩
        · exact ⟨_, put6_big o hp⟩
      · exact ⟨_, put6_no o⟩
    rw [hx, Option.bind_some, Option.bind_some, get6_is hq, Option.bind_some, Option.bind_some, if_pos rfl, if_pos rfl]
    by_cases o : ok6 c l n h s d
    · rw [check6_yes o, Option.bind_some, ref_right6_yes o, Option.bind_some, if_pos (by decide), if_pos (by simp), if_pos rfl]; simp
    · rw [check6_no o, Option.bind_some, ref_right6_no o, Option.bind_some, if_pos (by decide), if_pos (by simp), if_pos rfl]; simp
  cases b
  · rw [if_neg (by decide)]; exact skip
  rw [if_pos rfl]
  by_cases h1 : (p.size : Int) > 70000
  · rw [if_pos h1]; exact skip
  rw [if_neg h1]
  by_cases h2 : (q.size : Int) > 70000
  · rw [decide_eq_true h2]; exact skip
  · rw [decide_eq_false h2]; exact main
end Go.Proofs.Ytejmipoolbodgaa.Pure
