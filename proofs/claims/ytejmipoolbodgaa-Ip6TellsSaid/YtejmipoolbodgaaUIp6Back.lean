/- Plain law of Ip6Back: what is put is got as it was, what is got is put as it was. -/
import Derived.Test.YtejmipoolbodgaaGIp6Back
import Derived.Test.YtejmipoolbodgaaPIp6
namespace Go.Proofs.Ytejmipoolbodgaa.Pure
open Go.RowKit Go.Proofs.YtejmipoolbodgaaW.PrintWords Go.Proofs.YtejmipoolbodgaaW.PrintLast Go.Proofs.Ytejmipoolbodgaa.G Go.Proofs.Ytejmipoolbodgaa.Pal
theorem back6 (s : ByteArray) (hs : s.size ≤ 140737488351232) (k : Nat) : palanquinlaw06_Ip6Back.j1 (k + 1) s = some true := by
  rw [palanquinlaw06_Ip6Back.j1]
  unfold ip6_Get.f
  rw [if_pos hs, Option.bind_some]
  by_cases he : ip6Err s = 0
  · rw [if_pos he, if_pos rfl]
    have hn : 40 ≤ s.size ∧ be (bl (s.extract 0 4)) / 268435456 = 6 ∧ ((be (bl (s.extract 4 6)) : Nat) : Int) = (s.size : Int) - 40 := by
      unfold ip6Err at he
      split at he
      · omega
      · split at he
        · split at he
          · exact ⟨by omega, by assumption, by assumption⟩
          · omega
        · omega
    obtain ⟨h40, hv, hl⟩ := hn
    have z : ∀ i j, (bl (s.extract i j)).length = min j s.size - i := fun i j => by rw [bl_length]; simp only [ByteArray.size_extract]
    have b0 : be (bl (s.extract 0 4)) < 4294967296 := be_lt_of _ 4 (by rw [z]; omega)
    have b1 : be (bl (s.extract 4 6)) < 65536 := be_lt_of _ 2 (by rw [z]; omega)
    have b2 : be (bl (s.extract 6 7)) < 256 := be_lt_of _ 1 (by rw [z]; omega)
    have b3 : be (bl (s.extract 7 8)) < 256 := be_lt_of _ 1 (by rw [z]; omega)
    have e : ∀ i j m, min j s.size - i = m → nb m (be (bl (s.extract i j))) = bl (s.extract i j) := fun i j m h => by rw [← h, ← z]; exact nb_be _
    dsimp only
    rw [low8, low20]
    rw [put6_ok ⟨by omega, by omega, by omega, by omega, by simp only [ByteArray.size_extract]; omega, by simp only [ByteArray.size_extract]; omega⟩ (by simp only [ByteArray.size_extract]; omega), Option.bind_some, if_pos rfl]
    have key : (⟨(ip6Bytes (((be (bl (s.extract 0 4)) : Nat) : Int) / 1048576 % 256) (((be (bl (s.extract 0 4)) : Nat) : Int) % 1048576) ((be (bl (s.extract 6 7)) : Nat) : Int) ((be (bl (s.extract 7 8)) : Nat) : Int) (s.extract 8 24) (s.extract 24 40) (s.extract 40 s.size)).toArray⟩ : ByteArray) = s := by
      refine bl_inj (Eq.trans (bl_mk _) ?_)
      unfold ip6Bytes
      have hp : ((s.extract 40 s.size).size : Int) = ((be (bl (s.extract 4 6)) : Nat) : Int) := by simp only [ByteArray.size_extract]; omega
      rw [hp, show ((be (bl (s.extract 0 4)) : Nat) : Int) / 1048576 % 256 = ((be (bl (s.extract 0 4)) / 1048576 % 256 : Nat) : Int) by omega, show ((be (bl (s.extract 0 4)) : Nat) : Int) % 1048576 = ((be (bl (s.extract 0 4)) % 1048576 : Nat) : Int) by omega,
        word_is _ _ (by omega) (by omega), show 1610612736 + be (bl (s.extract 0 4)) / 1048576 % 256 * 1048576 + be (bl (s.extract 0 4)) % 1048576 = be (bl (s.extract 0 4)) by omega]
      rw [u64n_of (by omega) (by omega), u64n_of (by omega) (by omega), u64n_of (by omega) (by omega), u64n_of (by omega) (by omega)]
      simp only [Int.toNat_natCast]
      rw [e 0 4 4 (by omega), e 4 6 2 (by omega), e 6 7 1 (by omega), e 7 8 1 (by omega), bl_append, bl_append]
      simp only [bl_extract]
      rw [List.take_of_length_le (l := bl s) (i := s.size) (Nat.le_of_eq (bl_length s))]
      generalize bl s = l
      have cat' : ∀ i j, i ≤ j → l.take i ++ (l.take j).drop i = l.take j := fun i j h => by
        conv => rhs; rw [← List.take_append_drop i (l.take j)]
        rw [List.take_take, Nat.min_eq_left h]
      simp only [List.drop_zero, ← List.append_assoc]
      rw [cat' 4 6 (by decide), cat' 6 7 (by decide), cat' 7 8 (by decide), cat' 8 24 (by decide), cat' 24 40 (by decide)]
      exact List.take_append_drop 40 l
    rw [key]
    simp
  · rw [if_neg he, if_neg he]
    dsimp only
    rw [if_pos (by rw [empty_list]; rfl), empty_list]
    rfl
theorem ip6Bytes_length (c l n h : Int) (s d p : ByteArray) : (ip6Bytes c l n h s d p).length = 8 + s.size + d.size + p.size := by
  unfold ip6Bytes; simp only [List.length_append, nb_length, bl_length, ByteArray.size_append]; omega
theorem awake06 : palanquinlaw06_awake.f = some true := by
  unfold palanquinlaw06_awake.f
  have hz : (strOfNums (List.replicate 16 0)).size = 16 := by decide +kernel
  rw [if_pos (by decide), Option.bind_some, put6_ok ⟨by omega, by omega, by omega, by omega, hz, hz⟩ (by decide), Option.bind_some]
  rw [if_pos (by rw [size_mk, ip6Bytes_length, hz]; rfl), if_pos rfl, check6_no (fun h => absurd h.2.2.2.2.1 (by decide)), Option.bind_some]
  rfl
theorem few06 (c l n h : Int) (s d : ByteArray) : ∃ b, palanquinlaw06_few.f c l n h s d = some b := by
  unfold palanquinlaw06_few.f
  split
  · exact ⟨_, rfl⟩
  · exact ⟨_, rfl⟩
theorem Ip6Back (c l n h : Int) (s d p q : ByteArray) (_ : (Lit.int .i64 c).wf = true) (_ : (Lit.int .i64 l).wf = true) (_ : (Lit.int .i64 n).wf = true) (_ : (Lit.int .i64 h).wf = true) (_ : s.size ≤ maxLen) (_ : d.size ≤ maxLen) (_ : p.size ≤ 140737488351232) (hq : q.size ≤ 140737488351232) :
    ∃ k, palanquinlaw06_Ip6Back.f k c l n h s d p q = some true := by
  refine ⟨1 + 1, ?_⟩
  unfold palanquinlaw06_Ip6Back.f
  obtain ⟨b, hb⟩ := few06 c l n h s d
  rw [awake06, Option.bind_some, if_pos rfl, hb, Option.bind_some]
  have main : palanquinlaw06_Ip6Back.j0 (1 + 1) p q false c l n h s d = some true := by
    rw [palanquinlaw06_Ip6Back.j0, if_neg (by decide)]
    by_cases k : ok6 c l n h s d
    · by_cases hp : p.size ≤ 65535
      · obtain ⟨x, hx⟩ : ∃ x : ByteArray, x = ⟨(ip6Bytes c l n h s d p).toArray⟩ := ⟨_, rfl⟩
        have bx : bl x = ip6Bytes c l n h s d p := by rw [hx]; exact bl_mk _
        have sx : x.size = 40 + p.size := by rw [← bl_length, bx, ip6Bytes_length, k.2.2.2.2.1, k.2.2.2.2.2]
        rw [put6_ok k hp, Option.bind_some, ← hx, if_pos rfl]
        dsimp only
        rw [get_put6 k hp bx, Option.bind_some, if_neg (by simp), if_pos rfl, if_pos rfl, if_pos (by rw [sx]; unfold wrap64; omega)]
        exact back6 q hq 0
      · rw [put6_big k hp, Option.bind_some, if_neg (by decide), if_pos (show empty.toList = [] from empty_list)]
        exact back6 q hq 0
    · rw [put6_no k, Option.bind_some, if_neg (by decide), if_pos (show empty.toList = [] from empty_list)]
      exact back6 q hq 0
  have skip : palanquinlaw06_Ip6Back.j0 (1 + 1) p q true c l n h s d = some true := by
    rw [palanquinlaw06_Ip6Back.j0, if_pos rfl]
  cases b
  · rw [if_neg (by decide)]; exact skip
  rw [if_pos rfl]
  by_cases h1 : (p.size : Int) > 70000
  · rw [if_pos h1]; exact skip
  rw [if_neg h1]
  by_cases h2 : (q.size : Int) > 70000
  · rw [decide_eq_true h2]; exact skip
  · rw [decide_eq_false h2]; exact main
end Go.Proofs.Ytejmipoolbodgaa.Pure
