/- Plain facts for Ip6Cuts: what ip6.Get tells of a packet with a byte less or more, of another version, with another payload. -/
import Derived.Test.YtejmipoolbodgaaPIp6
import Derived.Test.YtejmipoolbodgaaGlaw06
namespace Go.Proofs.Ytejmipoolbodgaa.Pure
open Go.RowKit Go.Proofs.YtejmipoolbodgaaW.PrintWords Go.Proofs.YtejmipoolbodgaaW.PrintLast Go.Proofs.Ytejmipoolbodgaa.G Go.Proofs.Ytejmipoolbodgaa.Pal
set_option linter.unusedVariables false
theorem ip6Bytes_len (c l n h : Int) (s d p : ByteArray) : (ip6Bytes c l n h s d p).length = 8 + s.size + d.size + p.size := by
  unfold ip6Bytes; simp only [List.length_append, nb_length, bl_length, ByteArray.size_append]; omega
theorem awake06c : palanquinlaw06_awake.f = some true := by
  unfold palanquinlaw06_awake.f
  have hz : (strOfNums (List.replicate 16 0)).size = 16 := by decide +kernel
  rw [if_pos (by decide), Option.bind_some, put6_ok ⟨by omega, by omega, by omega, by omega, hz, hz⟩ (by decide), Option.bind_some]
  rw [if_pos (by rw [size_mk, ip6Bytes_len, hz]; rfl), if_pos rfl, check6_no (fun h => absurd h.2.2.2.2.1 (by decide)), Option.bind_some]
  rfl
theorem few06c (c l n h : Int) (s d : ByteArray) : ∃ b, palanquinlaw06_few.f c l n h s d = some b := by
  unfold palanquinlaw06_few.f
  split
  · exact ⟨_, rfl⟩
  · exact ⟨_, rfl⟩
theorem get6_bad {x : ByteArray} (hs : x.size ≤ 140737488351232) {e : Int} (h : ip6Err x = e) (he : e ≠ 0) : ip6_Get.f x = some (0, 0, 0, 0, ⟨#[]⟩, ⟨#[]⟩, ⟨#[]⟩, e) := by
  unfold ip6_Get.f
  rw [if_pos hs, if_neg (by rw [h]; exact he), h]
  rfl
/-- The bytes of a packet by their places. -/
theorem put6_parts {c l n h : Int} {s d p x : ByteArray} (k : ok6 c l n h s d) (hp : p.size ≤ 65535) (hx : bl x = ip6Bytes c l n h s d p) :
    x.size = 40 + p.size ∧ be (bl (x.extract 0 4)) / 268435456 = 6 ∧ be (bl (x.extract 4 6)) = p.size := by
  obtain ⟨⟨c0, c1⟩, ⟨l0, l1⟩, ⟨n0, n1⟩, ⟨h0, h1⟩, hs, hd⟩ := k
  obtain ⟨c, rfl⟩ := Int.eq_ofNat_of_zero_le c0
  obtain ⟨l, rfl⟩ := Int.eq_ofNat_of_zero_le l0
  obtain ⟨z, q1, q2, q3, q4, q5, q6, q7⟩ := parts6 hx (nb_length _ _) (nb_length _ _) (nb_length _ _) (nb_length _ _) hs hd
  have w1 : be (bl (x.extract 0 4)) = 1610612736 + c * 1048576 + l := by
    rw [q1, be_nb, word_is c l (by omega) (by omega), u64n_of (by omega) (by omega), Int.toNat_natCast]
    exact Nat.mod_eq_of_lt (by omega)
  have w2 : ((be (bl (x.extract 4 6)) : Nat) : Int) = (p.size : Int) := by rw [q2]; exact be_nb2 (by unfold in16; omega)
  exact ⟨z, by omega, by omega⟩
theorem err6_is {x : ByteArray} (hx : 40 ≤ x.size) (hv : be (bl (x.extract 0 4)) / 268435456 = 6) (hl : be (bl (x.extract 4 6)) ≠ x.size - 40) : ip6Err x = 4 := by
  unfold ip6Err
  rw [if_neg (by omega), if_pos hv, if_neg (by omega)]
theorem bl_ext (s : ByteArray) (n m : Nat) : bl (s.extract n m) = ((bl s).take m).drop n := by simp [bl, ByteArray.data_extract, List.drop_take]
theorem ext_pre (x : ByteArray) (a b c : Nat) (h : b ≤ c) : bl ((x.extract 0 c).extract a b) = bl (x.extract a b) := by
  simp only [bl_ext, List.drop_zero, List.take_take, Nat.min_eq_left h]
theorem ext_app (x y : ByteArray) (a b : Nat) (h : b ≤ x.size) : bl ((x ++ y).extract a b) = bl (x.extract a b) := by
  simp only [bl_ext, bl_append]
  rw [List.take_append_of_le_length (by rw [bl_length]; exact h)]
theorem cut6_less {x : ByteArray} {p : Nat} (hz : x.size = 40 + p) (hv : be (bl (x.extract 0 4)) / 268435456 = 6) (hl : be (bl (x.extract 4 6)) = p) : ip6Err (x.extract 0 (39 + p)) = if p = 0 then 2 else 4 := by
  have sz : (x.extract 0 (39 + p)).size = 39 + p := by simp only [ByteArray.size_extract]; omega
  by_cases h : p = 0
  · subst h; rw [if_pos rfl]; unfold ip6Err; rw [if_pos (by omega)]
  · rw [if_neg h]
    refine err6_is (by omega) ?_ ?_
    · rw [ext_pre _ _ _ _ (by omega)]; exact hv
    · rw [ext_pre _ _ _ _ (by omega), hl, sz]; omega
theorem cut6_more {x : ByteArray} {p : Nat} (hz : x.size = 40 + p) (hv : be (bl (x.extract 0 4)) / 268435456 = 6) (hl : be (bl (x.extract 4 6)) = p) : ip6Err (x ++ ⟨#[122]⟩) = 4 := by
  have sz : (x ++ ⟨#[122]⟩ : ByteArray).size = 41 + p := by rw [ByteArray.size_append, hz]; show 40 + p + 1 = _; omega
  refine err6_is (by omega) ?_ ?_
  · rw [ext_app _ _ _ _ (by omega)]; exact hv
  · rw [ext_app _ _ _ _ (by omega), hl, sz]; omega
/-- The first byte in its halves. -/
def head6 (v : Nat) (x : ByteArray) : UInt8 := UInt8.ofNat (v % 16 * 16 + ((bl x).getD 0 0).toNat % 16)
theorem head6_is (v : Nat) (hv : v < 256) (x : ByteArray) : Go.bits .or .u8 (((v : Int) * 16) % 256) (Go.bits .and .u8 (((bl x).getD 0 0).toNat : Int) 15) = ((head6 v x).toNat : Int) := by
  unfold head6
  have hb := ((bl x).getD 0 0).toNat_lt
  generalize ((bl x).getD 0 0).toNat = b at hb ⊢
  have k1 : ∀ b : Fin 256, Go.bits .and .u8 (b.val : Int) 15 = ((b.val % 16 : Nat) : Int) := by decide +kernel
  have k2 : ∀ a b : Fin 16, Go.bits .or .u8 ((a.val * 16 : Nat) : Int) (b.val : Int) = ((UInt8.ofNat (a.val * 16 + b.val)).toNat : Int) := by decide +kernel
  have e1 := k1 ⟨b, hb⟩
  have e2 := k2 ⟨v % 16, Nat.mod_lt _ (by decide)⟩ ⟨b % 16, Nat.mod_lt _ (by decide)⟩
  dsimp only at e1 e2
  rw [e1, show ((v : Int) * 16) % 256 = ((v % 16 * 16 : Nat) : Int) by omega]
  exact e2
theorem other6 {x y : ByteArray} {p v : Nat} (hz : x.size = 40 + p) (hl : be (bl (x.extract 4 6)) = p) (hy : bl y = head6 v x :: (bl x).drop 1) : ip6Err y = if v % 16 = 6 then 0 else 3 := by
  have sz : y.size = 40 + p := by rw [← bl_length, hy, List.length_cons, List.length_drop, bl_length, hz]; omega
  have e1 : bl (y.extract 4 6) = bl (x.extract 4 6) := by
    rw [bl_ext, bl_ext, hy]
    have hx1 : 0 < (bl x).length := by rw [bl_length]; omega
    cases hb : bl x with
    | nil => rw [hb] at hx1; simp at hx1
    | cons b r => simp
  have e0 : be (bl (y.extract 0 4)) = (head6 v x).toNat * 16777216 + be (((bl x).drop 1).take 3) := by
    have h1 := bl_ext y 0 4
    rw [hy, List.take_succ_cons, List.drop_zero] at h1
    rw [h1, be_cons, List.length_take, List.length_drop, bl_length, hz]
    rw [show min 3 (40 + p - 1) = 3 by omega]
  have hlt : be (((bl x).drop 1).take 3) < 16777216 := be_lt_of _ 3 (by rw [List.length_take]; omega)
  have hh : (head6 v x).toNat = v % 16 * 16 + ((bl x).getD 0 0).toNat % 16 := by
    unfold head6; simp only [UInt8.toNat_ofNat']; omega
  have hv : be (bl (y.extract 0 4)) / 268435456 = v % 16 := by rw [e0, hh]; omega
  unfold ip6Err
  rw [if_neg (by omega), hv, e1, hl]
  by_cases h6 : v % 16 = 6
  · rw [if_pos h6, if_pos h6, if_pos (by omega)]
  · rw [if_neg h6, if_neg h6]
theorem ext_app2 (x y : ByteArray) (a : Nat) (h : a = x.size) : (x ++ y).extract a (x ++ y).size = y := by
  refine bl_inj ?_
  rw [bl_ext, bl_append, List.take_of_length_le (by rw [List.length_append, bl_length, bl_length, ByteArray.size_append]; omega), List.drop_left' (by rw [bl_length]; exact h.symm)]
theorem bytes_cut {c l n h : Int} {s d p x : ByteArray} (hs : s.size = 16) (hd : d.size = 16) (hx : bl x = ip6Bytes c l n h s d p) (q : ByteArray) (hq : q.size = p.size) : bl (x.extract 0 40 ++ q) = ip6Bytes c l n h s d q := by
  rw [bl_append, bl_ext, hx, List.drop_zero]
  unfold ip6Bytes
  rw [bl_append (s ++ d) p, bl_append (s ++ d) q, hq, ← List.append_assoc, List.take_left' (by simp only [List.length_append, nb_length, bl_length, ByteArray.size_append]; omega), List.append_assoc]
theorem get6_any {x : ByteArray} (hs : x.size ≤ 140737488351232) : ∃ (a b c d : Int) (e f g : ByteArray), ip6_Get.f x = some (a, b, c, d, e, f, g, ip6Err x) := by
  by_cases h : ip6Err x = 0
  · unfold ip6_Get.f
    rw [if_pos hs, if_pos h, h]
    exact ⟨_, _, _, _, _, _, _, rfl⟩
  · exact ⟨_, _, _, _, _, _, _, get6_bad hs rfl h⟩
end Go.Proofs.Ytejmipoolbodgaa.Pure
