/- Plain facts of ip6.Put and ip6.Get as functions (begun). -/
import Derived.Test.YtejmipoolbodgaaHIp6
import Derived.Test.YtejmipoolbodgaaPUdp
namespace Go.Proofs.Ytejmipoolbodgaa.Pure
open Go.RowKit Go.Proofs.YtejmipoolbodgaaW.PrintWords Go.Proofs.YtejmipoolbodgaaW.PrintLast Go.Proofs.Ytejmipoolbodgaa.G Go.Proofs.Ytejmipoolbodgaa.Pal
theorem or_add (i x y : Nat) (hy : y < 2 ^ i) : 2 ^ i * x ||| y = 2 ^ i * x + y := (Nat.two_pow_add_eq_or_of_lt hy x).symm
theorem word_is (c l : Nat) (hc : c < 256) (hl : l < 1048576) : ip6Word (c : Int) (l : Int) = ((1610612736 + c * 1048576 + l : Nat) : Int) := by
  unfold ip6Word
  rw [show wrap64 ((c : Int) * 1048576) = ((c * 1048576 : Nat) : Int) by unfold wrap64; omega]
  have e1 : (1610612736 ||| c * 1048576 : Nat) = 1610612736 + c * 1048576 := or_add 28 6 (c * 1048576) (by omega)
  have e2 : (1610612736 + c * 1048576) ||| l = 1610612736 + c * 1048576 + l := by
    have := or_add 20 (1536 + c) l (by omega)
    rw [show 2 ^ 20 * (1536 + c) = 1610612736 + c * 1048576 by omega] at this
    exact this
  have h1 := i64_or 1610612736 (c * 1048576) (by decide) (by omega)
  rw [e1] at h1
  rw [show Go.bits .or .i64 1610612736 ((c * 1048576 : Nat) : Int) = ((1610612736 + c * 1048576 : Nat) : Int) from h1]
  rw [i64_or _ _ (by omega) (by omega), e2]
  omega
theorem low8 (x : Int) : Go.bits .and .i64 x 255 = x % 256 := by
  have e : Go.bits .and .i64 x 255 = IntKind.i64.wrap (((x % 18446744073709551616).toNat &&& 255 : Nat) : Int) := by
    show IntKind.i64.wrap (((BitVec.ofInt 64 x &&& BitVec.ofInt 64 255).toNat : Nat) : Int) = _
    rw [BitVec.toNat_and, BitVec.toNat_ofInt, show (BitVec.ofInt 64 255).toNat = 255 from rfl]
    rfl
  rw [e, Nat.and_two_pow_sub_one_eq_mod _ 8, IntKind.wrap_i64]; omega
theorem low20 (x : Int) : Go.bits .and .i64 x 1048575 = x % 1048576 := by
  have e : Go.bits .and .i64 x 1048575 = IntKind.i64.wrap (((x % 18446744073709551616).toNat &&& 1048575 : Nat) : Int) := by
    show IntKind.i64.wrap (((BitVec.ofInt 64 x &&& BitVec.ofInt 64 1048575).toNat : Nat) : Int) = _
    rw [BitVec.toNat_and, BitVec.toNat_ofInt, show (BitVec.ofInt 64 1048575).toNat = 1048575 from rfl]
    rfl
  rw [e, Nat.and_two_pow_sub_one_eq_mod _ 20, IntKind.wrap_i64]; omega
/-- What may be a header. -/
def ok6 (c l n h : Int) (s d : ByteArray) : Prop := (0 ≤ c ∧ c < 256) ∧ (0 ≤ l ∧ l < 1048576) ∧ (0 ≤ n ∧ n < 256) ∧ (0 ≤ h ∧ h < 256) ∧ s.size = 16 ∧ d.size = 16
theorem check6_yes {c l n h : Int} {s d : ByteArray} (k : ok6 c l n h s d) : ip6_Check.f c l n h s d = some 0 := by
  obtain ⟨hc, hl, hn, hh, hs, hd⟩ := k
  unfold ip6_Check.f
  rw [low8, low20, low8, low8, show c % 256 = c by omega, show l % 1048576 = l by omega, show n % 256 = n by omega, show h % 256 = h by omega]
  rw [if_neg (by simp), if_pos (by omega), if_pos (by omega)]
theorem check6_no {c l n h : Int} {s d : ByteArray} (k : ¬ ok6 c l n h s d) : ip6_Check.f c l n h s d = some 1 := by
  unfold ip6_Check.f
  rw [low8, low20, low8, low8]
  split
  · rfl
  · rename_i h0
    simp at h0
    by_cases hs : (s.size : Int) = 16
    · rw [if_pos hs]
      by_cases hd : (d.size : Int) = 16
      · exact absurd ⟨by omega, by omega, by omega, by omega, by omega, by omega⟩ k
      · rw [if_neg hd]
    · rw [if_neg hs]
theorem seg (x : ByteArray) (A B C : List UInt8) (i j : Nat) (hx : bl x = A ++ B ++ C) (hA : A.length = i) (hB : A.length + B.length = j) : bl (x.extract i j) = B := by
  rw [bl_extract, hx, List.take_left' (by rw [List.length_append]; exact hB), List.drop_left' hA]
theorem parts6 {x s d p : ByteArray} {A B C D : List UInt8} (hx : bl x = A ++ B ++ C ++ D ++ bl (s ++ d ++ p)) (hA : A.length = 4) (hB : B.length = 2) (hC : C.length = 1) (hD : D.length = 1) (hs : s.size = 16) (hd : d.size = 16) :
    x.size = 40 + p.size ∧ bl (x.extract 0 4) = A ∧ bl (x.extract 4 6) = B ∧ bl (x.extract 6 7) = C ∧ bl (x.extract 7 8) = D ∧ x.extract 8 24 = s ∧ x.extract 24 40 = d ∧ x.extract 40 x.size = p := by
  rw [bl_append, bl_append] at hx
  have ls := bl_length s
  have ld := bl_length d
  have lp := bl_length p
  have hsz : x.size = 40 + p.size := by rw [← bl_length, hx]; simp only [List.length_append]; omega
  refine ⟨hsz, seg x [] A (B ++ C ++ D ++ (bl s ++ bl d ++ bl p)) 0 4 (by rw [hx]; simp [List.append_assoc]) rfl (by simp [hA]),
    seg x A B (C ++ D ++ (bl s ++ bl d ++ bl p)) 4 6 (by rw [hx]; simp [List.append_assoc]) hA (by omega),
    seg x (A ++ B) C (D ++ (bl s ++ bl d ++ bl p)) 6 7 (by rw [hx]; simp [List.append_assoc]) (by simp [hA, hB]) (by simp [hA, hB, hC]),
    seg x (A ++ B ++ C) D (bl s ++ bl d ++ bl p) 7 8 (by rw [hx]) (by simp [hA, hB, hC]) (by simp [hA, hB, hC, hD]),
    bl_inj (seg x (A ++ B ++ C ++ D) (bl s) (bl d ++ bl p) 8 24 (by rw [hx]; simp [List.append_assoc]) (by simp [hA, hB, hC, hD]) (by simp [hA, hB, hC, hD, ls, hs])),
    bl_inj (seg x (A ++ B ++ C ++ D ++ bl s) (bl d) (bl p) 24 40 (by rw [hx]; simp [List.append_assoc]) (by simp [hA, hB, hC, hD, ls, hs]) (by simp [hA, hB, hC, hD, ls, hs, ld, hd])),
    bl_inj (seg x (A ++ B ++ C ++ D ++ bl s ++ bl d) (bl p) [] 40 x.size (by rw [hx]; simp [List.append_assoc]) (by simp [hA, hB, hC, hD, ls, hs, ld, hd]) (by simp only [List.length_append]; omega))⟩
theorem put6_ok {c l n h : Int} {s d p : ByteArray} (k : ok6 c l n h s d) (hp : p.size ≤ 65535) : ip6_Put.f c l n h s d p = some (⟨(ip6Bytes c l n h s d p).toArray⟩, 0) := by
  unfold ip6_Put.f
  rw [check6_yes k, Option.bind_some, if_neg (by decide), if_pos ⟨k.2.2.2.2.1, k.2.2.2.2.2⟩, if_neg (by omega)]
theorem put6_no {c l n h : Int} {s d p : ByteArray} (k : ¬ ok6 c l n h s d) : ip6_Put.f c l n h s d p = some (empty, 1) := by
  unfold ip6_Put.f
  rw [check6_no k, Option.bind_some, if_pos (by decide)]
theorem put6_big {c l n h : Int} {s d p : ByteArray} (k : ok6 c l n h s d) (hp : ¬ p.size ≤ 65535) : ip6_Put.f c l n h s d p = some (empty, 4) := by
  unfold ip6_Put.f
  rw [check6_yes k, Option.bind_some, if_neg (by decide), if_pos ⟨k.2.2.2.2.1, k.2.2.2.2.2⟩, if_pos (by omega)]
theorem get_put6 {c l n h : Int} {s d p x : ByteArray} (k : ok6 c l n h s d) (hp : p.size ≤ 65535) (hx : bl x = ip6Bytes c l n h s d p) : ip6_Get.f x = some (c, l, n, h, s, d, p, 0) := by
  obtain ⟨⟨c0, c1⟩, ⟨l0, l1⟩, ⟨n0, n1⟩, ⟨h0, h1⟩, hs, hd⟩ := k
  obtain ⟨c, rfl⟩ := Int.eq_ofNat_of_zero_le c0
  obtain ⟨l, rfl⟩ := Int.eq_ofNat_of_zero_le l0
  obtain ⟨z, q1, q2, q3, q4, q5, q6, q7⟩ := parts6 hx (nb_length _ _) (nb_length _ _) (nb_length _ _) (nb_length _ _) hs hd
  have w1 : be (bl (x.extract 0 4)) = 1610612736 + c * 1048576 + l := by
    rw [q1, be_nb, word_is c l (by omega) (by omega), u64n_of (by omega) (by omega), Int.toNat_natCast]
    exact Nat.mod_eq_of_lt (by omega)
  have w2 : ((be (bl (x.extract 4 6)) : Nat) : Int) = (p.size : Int) := by rw [q2]; exact be_nb2 (by unfold in16; omega)
  have one : ∀ v : Int, 0 ≤ v → v < 256 → ((be (nb 1 (u64n v)) : Nat) : Int) = v := fun v a b => by rw [be_nb, u64n_of a (by omega)]; omega
  have he : ip6Err x = 0 := by
    unfold ip6Err
    rw [if_neg (by omega), if_pos (by omega), if_pos (by omega)]
  unfold ip6_Get.f
  rw [if_pos (by omega), if_pos he, low8, low20, w1, q3, q4, q5, q6, q7, one n n0 n1, one h h0 h1]
  rw [show ((1610612736 + c * 1048576 + l : Nat) : Int) / 1048576 % 256 = (c : Int) by omega, show ((1610612736 + c * 1048576 + l : Nat) : Int) % 1048576 = (l : Int) by omega]
end Go.Proofs.Ytejmipoolbodgaa.Pure
