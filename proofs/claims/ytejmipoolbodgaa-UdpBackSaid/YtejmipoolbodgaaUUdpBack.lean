/- Plain law of UdpBack: what is put is got as it was, what is got is put as it was, one byte more or less is refused. -/
import Derived.Test.YtejmipoolbodgaaGUdpBack
import Derived.Test.YtejmipoolbodgaaPUdp
namespace Go.Proofs.Ytejmipoolbodgaa.Pure
open Go.RowKit Go.Proofs.YtejmipoolbodgaaW.PrintWords Go.Proofs.YtejmipoolbodgaaW.PrintLast Go.Proofs.Ytejmipoolbodgaa.G Go.Proofs.Ytejmipoolbodgaa.Pal
theorem back1 (s : ByteArray) (hs : s.size ≤ 140737488351232) (k : Nat) : palanquinlaw08_UdpBack.j1 (k + 1) s = some true := by
  rw [palanquinlaw08_UdpBack.j1, get_is hs, Option.bind_some]
  by_cases he : udpErr s = 0
  · rw [if_pos he, if_pos rfl]
    have hn : 8 ≤ s.size ∧ be (bl (s.extract 4 6)) = s.size := by
      unfold udpErr at he
      split at he
      · omega
      · split at he
        · exact ⟨by omega, by assumption⟩
        · omega
    have hsz : ∀ i, (bl (s.extract i (i + 2))).length ≤ 2 := fun i => by rw [bl_length]; simp only [ByteArray.size_extract]; omega
    have hl : be (bl (s.extract 4 6)) < 65536 := be_lt_of _ 2 (hsz 4)
    have hp : (s.extract 8 s.size).size = s.size - 8 := by simp only [ByteArray.size_extract]; omega
    have hc : udpCheck ((be (bl (s.extract 0 2)) : Nat) : Int) ((be (bl (s.extract 2 4)) : Nat) : Int) (s.extract 8 s.size).size = 0 := check_zero.mpr ⟨in16_be (hsz 0), in16_be (hsz 2), by rw [hp]; omega⟩
    dsimp only
    rw [put_ok hc (in16_be (hsz 6)), Option.bind_some, if_pos rfl]
    have hb : bl s = udpBytes ((be (bl (s.extract 0 2)) : Nat) : Int) ((be (bl (s.extract 2 4)) : Nat) : Int) (s.extract 8 s.size) ((be (bl (s.extract 6 8)) : Nat) : Int) := by
      have two : ∀ i, i + 2 ≤ s.size → nb 2 (u64n ((be (bl (s.extract i (i + 2))) : Nat) : Int)) = bl (s.extract i (i + 2)) := fun i hi => by
        have h2 : (bl (s.extract i (i + 2))).length = 2 := by rw [bl_length]; simp only [ByteArray.size_extract]; omega
        have hlt := be_lt_of _ 2 (hsz i)
        rw [u64n_of (by omega) (by omega), Int.toNat_natCast]
        have e := nb_be (bl (s.extract i (i + 2)))
        rw [h2] at e
        exact e
      unfold udpBytes
      rw [two 0 (by omega), two 2 (by omega), two 6 (by omega)]
      have e8 : u64n (8 + (((s.extract 8 s.size).size : Nat) : Int)) = u64n ((be (bl (s.extract 4 (4 + 2))) : Nat) : Int) := by rw [hp, show be (bl (s.extract 4 (4 + 2))) = s.size from hn.2]; congr 1; omega
      rw [e8, two 4 (by omega)]
      simp only [bl_extract]
      rw [List.take_of_length_le (l := bl s) (i := s.size) (Nat.le_of_eq (bl_length s))]
      generalize bl s = l
      simp only [List.drop_zero, Nat.zero_add]
      have key : ∀ i, l.take i ++ (l.take (i + 2)).drop i = l.take (i + 2) := fun i => by
        conv => rhs; rw [← List.take_append_drop i (l.take (i + 2))]
        rw [List.take_take, Nat.min_eq_left (by omega)]
      rw [key 2, key 4, key 6]
      exact (List.take_append_drop 8 l).symm
    have : (⟨(udpBytes ((be (bl (s.extract 0 2)) : Nat) : Int) ((be (bl (s.extract 2 4)) : Nat) : Int) (s.extract 8 s.size) ((be (bl (s.extract 6 8)) : Nat) : Int)).toArray⟩ : ByteArray) = s := bl_inj (by rw [bl_mk, ← hb])
    rw [this]
    simp
  · rw [if_neg he, if_neg he]
    dsimp only
    rw [if_pos (by rw [empty_list]; rfl)]
    rfl
theorem get_more {a b : Int} {p : ByteArray} {n : Int} {x : ByteArray} (hp : p.size ≤ 65527) (hx : bl x = udpBytes a b p n) : ∃ g, udp_Get.f (x ++ (⟨#[122]⟩ : ByteArray)) = some g ∧ g.2.2.2.2 = 4 := by
  have hx' : bl (x ++ (⟨#[122]⟩ : ByteArray)) = nb 2 (u64n a) ++ nb 2 (u64n b) ++ nb 2 (u64n (8 + (p.size : Int))) ++ nb 2 (u64n n) ++ bl (p ++ (⟨#[122]⟩ : ByteArray)) := by
    rw [bl_append, hx, bl_append]; unfold udpBytes; simp only [List.append_assoc]
  obtain ⟨h0, h1, h2, h3, h4, h5⟩ := parts hx' (nb_length _ _) (nb_length _ _) (nb_length _ _) (nb_length _ _)
  have h1z : (⟨#[122]⟩ : ByteArray).size = 1 := rfl
  have hps : (p ++ (⟨#[122]⟩ : ByteArray)).size = p.size + 1 := by rw [ByteArray.size_append, h1z]
  have he : udpErr (x ++ (⟨#[122]⟩ : ByteArray)) = 4 := by
    unfold udpErr
    rw [if_neg (by omega), if_neg (by
      rw [h3]
      have := be_nb2 (a := 8 + (p.size : Int)) (by unfold in16; omega)
      omega)]
  exact ⟨_, get_is (by omega), by rw [if_neg (by omega)]; exact he⟩
theorem get_less {a b : Int} {p : ByteArray} {n : Int} {x : ByteArray} (hp : p.size ≤ 65527) (hx : bl x = udpBytes a b p n) : ∃ g, udp_Get.f (x.extract 0 (x.size - 1)) = some g ∧ ¬ g.2.2.2.2 = 0 := by
  obtain ⟨h0, h1, h2, h3, h4, h5⟩ := parts hx (nb_length _ _) (nb_length _ _) (nb_length _ _) (nb_length _ _)
  have hs : (x.extract 0 (x.size - 1)).size = x.size - 1 := by simp only [ByteArray.size_extract]; omega
  have he : ¬ udpErr (x.extract 0 (x.size - 1)) = 0 := by
    unfold udpErr
    by_cases h8 : (x.extract 0 (x.size - 1)).size < 8
    · rw [if_pos h8]; omega
    · rw [if_neg h8, if_neg (by
        have e : bl ((x.extract 0 (x.size - 1)).extract 4 6) = bl (x.extract 4 6) := by
          rw [bl_extract, bl_extract, bl_extract, List.drop_zero, List.take_take, Nat.min_eq_left (by omega)]
        rw [e, h3]
        have := be_nb2 (a := 8 + (p.size : Int)) (by unfold in16; omega)
        omega)]
      omega
  exact ⟨_, get_is (by omega), by rw [if_neg he]; exact he⟩
theorem UdpBack (a b : Int) (p : ByteArray) (n : Int) (s : ByteArray) (_ : (Lit.int .i64 a).wf = true) (_ : (Lit.int .i64 b).wf = true) (_ : p.size ≤ maxLen) (_ : (Lit.int .i64 n).wf = true) (hs : s.size ≤ 140737488351232) :
    ∃ k, palanquinlaw08_UdpBack.f k a b p n s = some true := by
  refine ⟨1 + 1, ?_⟩
  unfold palanquinlaw08_UdpBack.f
  rw [awake08, Option.bind_some, if_pos rfl]
  by_cases hp : (p.size : Int) > 70000
  · rw [if_pos hp, palanquinlaw08_UdpBack.j0, if_pos rfl]
  rw [if_neg hp]
  by_cases hq : (s.size : Int) > 70000
  · rw [decide_eq_true hq, palanquinlaw08_UdpBack.j0, if_pos rfl]
  rw [decide_eq_false hq, palanquinlaw08_UdpBack.j0, if_neg (by decide)]
  by_cases hc : udpCheck a b p.size = 0
  case neg =>
    rw [put_len hc, Option.bind_some, if_neg hc]
    rw [if_pos (show empty.toList = [] from empty_list)]
    exact back1 s hs 0
  by_cases hn : in16 n
  case neg =>
    rw [put_sum hc hn, Option.bind_some, if_neg (by decide)]
    rw [if_pos (show empty.toList = [] from empty_list)]
    exact back1 s hs 0
  obtain ⟨ha, hb, hl⟩ := check_zero.mp hc
  rw [put_ok hc hn, Option.bind_some, if_pos rfl]
  obtain ⟨x, hx⟩ : ∃ x : ByteArray, x = ⟨(udpBytes a b p n).toArray⟩ := ⟨_, rfl⟩
  have bx : bl x = udpBytes a b p n := by rw [hx, bl_mk]
  have sx : x.size = 8 + p.size := by rw [← bl_length, bx, udpBytes_length]
  rw [← hx]
  dsimp only
  have hw : wrap64 ((x.size : Int) - 1) = ((x.size - 1 : Nat) : Int) := by unfold wrap64; omega
  obtain ⟨g1, e1, f1⟩ := get_more hl bx
  obtain ⟨g2, e2, f2⟩ := get_less hl bx
  rw [get_put ha hb hl hn bx, Option.bind_some, if_pos (by omega), e1, Option.bind_some, hw, Int.toNat_natCast, if_pos (by omega), if_pos (by omega), e2, Option.bind_some]
  rw [if_neg (by simp), if_pos rfl, if_pos rfl, if_pos f1, if_neg f2]
  exact back1 s hs 0
end Go.Proofs.Ytejmipoolbodgaa.Pure
