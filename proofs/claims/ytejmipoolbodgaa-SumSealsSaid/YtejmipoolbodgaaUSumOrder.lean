/- Plain law of SumOrder: parts of even lengths in any order sum alike; sealed parts are right. -/
import Derived.Test.YtejmipoolbodgaaGSumOrder
namespace Go.Proofs.Ytejmipoolbodgaa.Pure
open Go.RowKit Go.Proofs.YtejmipoolbodgaaW.PrintWords Go.Proofs.YtejmipoolbodgaaW.PrintLast Go.Proofs.Ytejmipoolbodgaa.G Go.Proofs.Ytejmipoolbodgaa.Pal

theorem tot_even {a : List UInt8} (h : odd a = false) (b : List UInt8) (o : Bool) : tot o (a ++ b) = tot o a + tot o b := by
  rw [tot_append, h]; cases o <;> rfl
theorem odd_of {s : ByteArray} (h : s.size % 2 = 0) : odd (bl s) = false := by
  unfold odd; rw [bl_length, h]; rfl
theorem sum_some (l : List ByteArray) (h : (cat l).length ≤ 1099511627776) : sum_Sum.f l = some ((csum (cat l) : Nat) : Int) := by
  unfold sum_Sum.f; rw [if_pos h]
theorem right_some (l : List ByteArray) (h : (cat l).length ≤ 1099511627776) : sum_Right.f l = some (csum (cat l) == 0) := by
  unfold sum_Right.f; rw [sum_some l h]
  show some (((csum (cat l) : Nat) : Int) == 0) = _
  congr 1
  rw [Bool.eq_iff_iff]; simp
theorem bl_of (x y : Nat) (_ : x < 256) (_ : y < 256) : bl (strOfNums [(x : Int), (y : Int)]) = [UInt8.ofNat x, UInt8.ofNat y] := by
  simp [bl, strOfNums]
theorem awake02 : palanquinlaw02_awake.f = some true := by
  unfold palanquinlaw02_awake.f
  rw [sum_some _ (by decide), sum_some _ (by decide), show csum (cat [(⟨#[69, 0]⟩ : ByteArray)]) = 47871 by decide +kernel, show csum (cat []) = 65535 by decide +kernel]
  rw [Option.bind_some, if_pos (by decide), Option.bind_some]
  rfl
theorem tot2 (n : Nat) (h : n ≤ 65535) : tot false [UInt8.ofNat (n / 256), UInt8.ofNat (n % 256)] = n := by
  simp only [tot]
  rw [UInt8.toNat_ofNat_of_lt' (by show n / 256 < 256; omega), UInt8.toNat_ofNat_of_lt' (by show n % 256 < 256; omega)]
  omega
theorem fold_le (n : Nat) : fold16 n ≤ 65535 := fold16_le n
theorem csum_le (l : List UInt8) : csum l ≤ 65535 := by unfold csum; omega
/-- A text with its own checksum behind it folds to 65535. -/
theorem sealed (n : Nat) : fold16 (n + (65535 - fold16 n)) = 65535 := by
  unfold fold16; split <;> split <;> omega

theorem SumOrder : palanquinlaw02_SumOrder.Pure := by
  intro a b c ha hb hc
  unfold palanquinlaw02_SumOrder.f
  refine ⟨0 + 1, ?_⟩
  rw [awake02, Option.bind_some, if_pos rfl]
  by_cases e1 : (a.size : Int) % 2 = 1
  · rw [if_pos e1]; rfl
  rw [if_neg e1]
  by_cases e2 : (b.size : Int) % 2 = 1
  · rw [if_pos e2]; rfl
  rw [if_neg e2]
  have hw : wrap64 ((wrap64 ((a.size : Int) + (b.size : Int))) + (c.size : Int)) = ((a.size + b.size + c.size : Nat) : Int) := by unfold wrap64; omega
  rw [hw]
  by_cases e3 : ((a.size + b.size + c.size : Nat) : Int) > 6000
  · rw [decide_eq_true e3]; rfl
  rw [decide_eq_false e3]
  have h3 : a.size + b.size + c.size ≤ 6000 := by omega
  have oa := odd_of (s := a) (by omega)
  have ob := odd_of (s := b) (by omega)
  have la := bl_length a
  have lb := bl_length b
  have lc := bl_length c
  rw [palanquinlaw02_SumOrder.j0]
  rw [if_neg (by decide)]
  rw [sum_some [a] (by simp [cat]; omega)]
  obtain ⟨n, hn⟩ : ∃ n, n = csum (cat [a]) := ⟨_, rfl⟩
  have hn' : n ≤ 65535 := hn ▸ csum_le _
  rw [← hn]
  rw [Option.bind_some]
  rw [show ((n : Int) / 256) % 256 = ((n / 256 : Nat) : Int) by omega, show (n : Int) % 256 = ((n % 256 : Nat) : Int) by omega]
  rw [Option.bind_some]
  obtain ⟨z, hz⟩ : ∃ z, z = strOfNums [((n / 256 : Nat) : Int), ((n % 256 : Nat) : Int)] := ⟨_, rfl⟩
  have bz : bl z = [UInt8.ofNat (n / 256), UInt8.ofNat (n % 256)] := hz ▸ bl_of _ _ (by omega) (by omega)
  have lz : (bl z).length = 2 := by rw [bz]; rfl
  have sz : z.size = 2 := by rw [← bl_length, bz]; rfl
  rw [← hz]
  have oaz : odd (bl a ++ bl z) = false := by unfold odd; rw [List.length_append, la, bl_length, sz]; have : (a.size + 2) % 2 = 0 := by omega
                                              rw [this]; rfl
  have tz : tot false (bl z) = n := by rw [bz]; exact tot2 n hn'
  rw [if_pos (by rw [sz]; omega)]
  rw [sum_some [a, b, c] (by simp [cat]; omega), sum_some [b, a, c] (by simp [cat]; omega)]
  have c1 : csum (cat [a, b, c]) = csum (cat [b, a, c]) := by
    unfold csum
    simp only [cat_cons, cat_nil, List.append_nil]
    rw [tot_even oa, tot_even ob, tot_even ob, tot_even oa]
    congr 2; omega
  rw [Option.bind_some, Option.bind_some, if_pos (by rw [c1]), Option.bind_some]
  rw [if_pos (by omega), if_pos (by rw [ByteArray.size_append]; omega), sum_some _ (by simp [cat, bl_append]; omega)]
  rw [Option.bind_some, if_pos (by
    congr 1
    simp only [cat_cons, cat_nil, List.append_nil, bl_append]
    unfold csum
    rw [tot_even ob, tot_even oa, List.append_assoc, tot_even oa, tot_even ob]
    congr 2; omega)]
  have hs : fold16 (tot false (bl a) + n) = 65535 := by
    rw [hn]
    unfold csum
    simp only [cat_cons, cat_nil, List.append_nil]
    exact sealed _
  have tn : tot false (bl (a ++ z)) = tot false (bl a) + n := by rw [bl_append, tot_even oa, tz]
  have oz : odd (bl (a ++ z)) = false := by rw [bl_append]; exact oaz
  rw [right_some _ (by simp [cat, bl_append]; omega), Option.bind_some, if_pos (by
    simp only [cat_cons, cat_nil, List.append_nil]
    unfold csum
    rw [tot_even oz, tn]
    have := hs
    unfold fold16 at this ⊢
    split at this
    · omega
    · split <;> simp <;> omega)]
  rw [if_pos (by rw [ByteArray.size_append, sz]; omega)]
  rw [right_some _ (by simp [cat, bl_append]; omega), Option.bind_some, sum_some [c] (by simp [cat]; omega), Option.bind_some]
  have key : csum (cat [a ++ z ++ c]) = 0 ↔ csum (cat [c]) = 0 ∨ csum (cat [c]) = 65535 := by
    simp only [cat_cons, cat_nil, List.append_nil]
    rw [bl_append (a ++ z) c]
    unfold csum
    rw [tot_even oz, tn]
    have := hs
    unfold fold16 at this ⊢
    split at this
    · omega
    · split <;> split <;> omega
  by_cases k0 : csum (cat [c]) = 0
  · rw [if_pos (by rw [k0]; rfl), key.mpr (.inl k0)]; rfl
  · rw [if_neg (by omega)]
    by_cases k1 : csum (cat [c]) = 65535
    · rw [key.mpr (.inr k1), k1]; rfl
    · have k2 : ¬ csum (cat [a ++ z ++ c]) = 0 := fun h => (key.mp h).elim k0 k1
      rw [show (csum (cat [a ++ z ++ c]) == 0) = false from beq_eq_false_iff_ne.mpr k2]
      rw [Option.bind_some]
      rw [show (((csum (cat [c]) : Nat) : Int) == 65535) = false from beq_eq_false_iff_ne.mpr (by omega)]
      rfl
end Go.Proofs.Ytejmipoolbodgaa.Pure
