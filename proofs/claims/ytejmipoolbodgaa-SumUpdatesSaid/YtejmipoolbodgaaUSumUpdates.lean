/- Plain law of SumUpdates: a sum that is updated is that of the text with the other number in its place, as long as neither text is all 0. -/
import Derived.Test.YtejmipoolbodgaaGSumUpdates
import Derived.Test.YtejmipoolbodgaaUSumTells
namespace Go.Proofs.Ytejmipoolbodgaa.Pure
open Go.RowKit Go.Proofs.YtejmipoolbodgaaW.PrintWords Go.Proofs.YtejmipoolbodgaaW.PrintLast Go.Proofs.Ytejmipoolbodgaa.G Go.Proofs.Ytejmipoolbodgaa.Pal
/-- The update of a checksum of a nonzero total, by numbers: T = R + o becomes R + f. -/
theorem upd_is (R o f : Nat) (ho : o ≤ 65535) (hf : f ≤ 65535) (h0 : R + o ≠ 0) (h1 : R + f ≠ 0) :
    upd ((65535 - fold16 (R + o) : Nat) : Int) (o : Int) (f : Int) = 65535 - fold16 (R + f) := by
  unfold upd
  have hx := fold16_le (R + o)
  rw [show (((65535 - fold16 (R + o) : Nat) : Int) % 65536).toNat = 65535 - fold16 (R + o) by omega, show ((o : Int) % 65536).toNat = o by omega, show ((f : Int) % 65536).toNat = f by omega]
  rw [show 65535 - (65535 - fold16 (R + o)) = fold16 (R + o) by omega]
  congr 1
  unfold fold16
  rw [if_neg h0, if_neg h1]
  split
  · omega
  · omega
theorem tot_put (l : List UInt8) (i : Nat) (hi : i % 2 = 0) (h : i + 2 ≤ l.length) (x y : UInt8) :
    ∃ R, tot false l = R + ((l[i]'(by omega)).toNat * 256 + (l[i + 1]'(by omega)).toNat) ∧ tot false (l.take i ++ [x, y] ++ l.drop (i + 2)) = R + (x.toNat * 256 + y.toNat) := by
  have ho : odd (l.take i) = false := by
    unfold odd; rw [List.length_take, Nat.min_eq_left (by omega), hi]; rfl
  have ho2 : ∀ a b : UInt8, odd (l.take i ++ [a, b]) = false := fun a b => by
    unfold odd; rw [List.length_append, List.length_take, Nat.min_eq_left (by omega)]; have : (i + [a, b].length) % 2 = 0 := by simp; omega
    rw [this]; rfl
  have key : ∀ a b : UInt8, tot false (l.take i ++ [a, b] ++ l.drop (i + 2)) = (tot false (l.take i) + tot false (l.drop (i + 2))) + (a.toNat * 256 + b.toNat) := fun a b => by
    rw [tot_even (ho2 a b), tot_even ho]; simp only [tot]; omega
  refine ⟨tot false (l.take i) + tot false (l.drop (i + 2)), ?_, key x y⟩
  have e : l = l.take i ++ [l[i], l[i + 1]] ++ l.drop (i + 2) := by
    conv => lhs; rw [← List.take_append_drop i l]
    rw [List.append_assoc]
    congr 1
    rw [List.drop_eq_getElem_cons (by omega), List.drop_eq_getElem_cons (by omega)]
    rfl
  conv => lhs; rw [e]
  exact key _ _
theorem tot_zero : ∀ (l : List UInt8) (o : Bool), tot o l = 0 → l = List.replicate l.length 0
  | [], _, _ => rfl
  | x :: l, o, h => by
    have hx : x = 0 ∧ ∃ o', tot o' l = 0 := by
      cases o <;> simp only [tot] at h
      · exact ⟨UInt8.toNat.inj (by show x.toNat = 0; omega), true, by omega⟩
      · exact ⟨UInt8.toNat.inj (by show x.toNat = 0; omega), false, by omega⟩
    obtain ⟨rfl, o', h'⟩ := hx
    rw [List.length_cons, List.replicate_succ, ← tot_zero l o' h']
theorem bl_nums (xs : List Int) : bl (strOfNums xs) = xs.map fun n => UInt8.ofNat n.toNat := by simp [bl, strOfNums]
theorem or_is (x y : Nat) (hx : x < 256) (hy : y < 256) : Go.bits .or .i64 ((x * 256 : Nat) : Int) (y : Int) = ((x * 256 + y : Nat) : Int) := by
  rw [i64_or _ _ (by omega) (by omega)]
  congr 1
  have e := Nat.two_pow_add_eq_or_of_lt (i := 8) (b := y) hy x
  rw [show 2 ^ 8 * x = x * 256 by omega] at e
  exact e.symm
theorem bl_cut (s : ByteArray) (n m : Nat) : bl (s.extract n m) = ((bl s).take m).drop n := by
  simp [bl, ByteArray.data_extract, List.drop_take]
theorem w_small (x : Nat) (h : x ≤ 70000) : wrap64 (x : Int) = (x : Int) := by unfold wrap64; omega
theorem w_256 (x : Nat) (h : x < 256) : wrap64 ((x : Int) * 256) = ((x * 256 : Nat) : Int) := by unfold wrap64; omega
theorem o_small (x y : Nat) (hx : x < 256) (hy : y < 256) : x * 256 + y ≤ 65535 := by omega
theorem in_u16' {a : Int} (h : (Lit.int .u16 a).wf = true) : 0 ≤ a ∧ a ≤ 65535 := by
  simp [Lit.wf] at h; exact h
theorem SumUpdates : palanquinlaw02_SumUpdates.Pure := by
  intro s at' f hs wa wf
  have hf := in_u16' wf
  refine ⟨1 + 1, ?_⟩
  unfold palanquinlaw02_SumUpdates.f
  rw [awake02, Option.bind_some, if_pos rfl]
  by_cases h1 : (s.size : Int) % 2 = 1
  · rw [if_pos h1, palanquinlaw02_SumUpdates.j0, if_pos rfl]
  rw [if_neg h1]
  by_cases h2 : (s.size : Int) > 5000
  · rw [if_pos h2, palanquinlaw02_SumUpdates.j0, if_pos rfl]
  rw [if_neg h2]
  by_cases h3 : at' < 0
  · rw [if_pos h3, palanquinlaw02_SumUpdates.j0, if_pos rfl]
  rw [if_neg h3, show wrap64 ((s.size : Int) / 2) = (s.size : Int) / 2 by unfold wrap64; omega]
  by_cases h4 : at' ≥ (s.size : Int) / 2
  · rw [decide_eq_true h4, palanquinlaw02_SumUpdates.j0, if_pos rfl]
  rw [decide_eq_false h4, palanquinlaw02_SumUpdates.j0, if_neg (by decide)]
  obtain ⟨i, hi⟩ : ∃ i : Nat, 2 * at' = (i : Int) := ⟨(2 * at').toNat, by omega⟩
  obtain ⟨m, rfl⟩ : ∃ m : Nat, f = (m : Int) := ⟨f.toNat, by omega⟩
  have hm : m ≤ 65535 := by omega
  have hie : i % 2 = 0 := by omega
  have his : i + 2 ≤ s.size := by omega
  rw [show wrap64 (2 * at') = (i : Int) by rw [hi]; unfold wrap64; omega, show wrap64 ((i : Int) + 2) = ((i + 2 : Nat) : Int) by unfold wrap64; omega]
  simp only [Int.toNat_natCast, Option.bind_some]
  rw [show ((m : Int) / 256) % 256 = ((m / 256 : Nat) : Int) by omega, show (m : Int) % 256 = ((m % 256 : Nat) : Int) by omega]
  obtain ⟨z, hz⟩ : ∃ z, z = strOfNums [((m / 256 : Nat) : Int), ((m % 256 : Nat) : Int)] := ⟨_, rfl⟩
  have bz : bl z = [UInt8.ofNat (m / 256), UInt8.ofNat (m % 256)] := by rw [hz, bl_nums]; rfl
  have sz : z.size = 2 := by rw [← bl_length, bz]; rfl
  rw [← hz]
  obtain ⟨t, ht⟩ : ∃ t, t = s.extract 0 i ++ z ++ s.extract (i + 2) s.size := ⟨_, rfl⟩
  have bt' : bl t = (bl s).take i ++ [UInt8.ofNat (m / 256), UInt8.ofNat (m % 256)] ++ (bl s).drop (i + 2) := by
    rw [ht, bl_append, bl_append, bz, bl_cut, bl_cut, List.drop_zero, List.take_of_length_le (l := bl s) (i := s.size) (Nat.le_of_eq (bl_length s))]
  have se : (s.extract 0 i).size = i := by simp only [ByteArray.size_extract]; omega
  have se2 : (s.extract (i + 2) s.size).size = s.size - (i + 2) := by simp only [ByteArray.size_extract]; omega
  rw [← ht, if_pos (by omega), if_pos (by omega), if_pos (by omega), if_pos (by omega), if_pos (by omega), if_pos (by omega), if_pos (by omega), if_pos (by rw [ByteArray.size_append]; omega)]
  obtain ⟨R, r1, r2⟩ := tot_put (bl s) i hie (by rw [bl_length]; omega) (UInt8.ofNat (m / 256)) (UInt8.ofNat (m % 256))
  rw [← bt', UInt8.toNat_ofNat_of_lt' (show m / 256 < 256 by omega), UInt8.toNat_ofNat_of_lt' (show m % 256 < 256 by omega), show m / 256 * 256 + m % 256 = m by omega] at r2
  have st : t.size = s.size := by rw [ht, ByteArray.size_append, ByteArray.size_append]; omega
  have zeros : ∀ u : ByteArray, u.size = s.size → tot false (bl u) = 0 → u.toList = (strOfNums (List.replicate s.size 0)).toList := fun u hu h0 => by
    have e : u = strOfNums (List.replicate s.size 0) := by
      apply bl_inj'
      rw [bl_nums, List.map_replicate, tot_zero (bl u) false h0, bl_length, hu]
      rfl
    rw [e]
  by_cases hz1 : s.toList = (strOfNums (List.replicate s.size 0)).toList
  · rw [if_pos hz1, palanquinlaw02_SumUpdates.j1, if_pos rfl]
  rw [if_neg hz1]
  by_cases hz2 : t.toList = (strOfNums (List.replicate s.size 0)).toList
  · rw [beq_iff_eq.mpr hz2, palanquinlaw02_SumUpdates.j1, if_pos rfl]
  rw [beq_eq_false_iff_ne.mpr hz2, palanquinlaw02_SumUpdates.j1, if_neg (by decide)]
  have n1 : tot false (bl s) ≠ 0 := fun h => hz1 (zeros s rfl h)
  have n2 : tot false (bl t) ≠ 0 := fun h => hz2 (zeros t st h)
  have q1 : (0 : Int) ≤ (i : Int) := by omega
  have q2 : (i : Int) < (s.size : Int) := by omega
  have q3 : (0 : Int) ≤ ((i + 1 : Nat) : Int) := by omega
  have q4 : ((i + 1 : Nat) : Int) < (s.size : Int) := by omega
  have hlen : s.size ≤ 5000 := by omega
  have l1 : (cat [s]).length ≤ 1099511627776 := by simp only [cat_cons, cat_nil, List.append_nil, bl_length]; omega
  have l2 : (cat [t]).length ≤ 1099511627776 := by simp only [cat_cons, cat_nil, List.append_nil, bl_length]; omega
  have hl0 : i < (bl s).length := by rw [bl_length]; omega
  have hl1 : i + 1 < (bl s).length := by rw [bl_length]; omega
  have g0 : bt s (i : Int) = (((bl s)[i].toNat : Nat) : Int) := bt_bl s i (by omega)
  have g1 : bt s ((i + 1 : Nat) : Int) = (((bl s)[i + 1].toNat : Nat) : Int) := bt_bl s (i + 1) (by omega)
  have b0 := (bl s)[i].toNat_lt
  have b1 := (bl s)[i + 1].toNat_lt
  rw [show wrap64 (2 * at') = (i : Int) by rw [hi]; unfold wrap64; omega, show wrap64 ((i : Int) + 1) = ((i + 1 : Nat) : Int) by unfold wrap64; omega, g0, g1]
  generalize (bl s)[i].toNat = x at b0 r1 ⊢
  generalize (bl s)[i + 1].toNat = y at b1 r1 ⊢
  have b0 : x < 256 := b0
  have b1 : y < 256 := b1
  have ex := w_small x (Nat.le_trans (Nat.le_of_lt b0) (by decide))
  have ey := w_small y (Nat.le_trans (Nat.le_of_lt b1) (by decide))
  have exx := w_256 x b0
  have em := w_small m (Nat.le_trans hm (by decide))
  rw [ex, ey, exx, em, or_is x y b0 b1]
  obtain ⟨o, ho⟩ : ∃ o, o = x * 256 + y := ⟨_, rfl⟩
  have ho2 : o ≤ 65535 := ho ▸ o_small x y b0 b1
  clear h1 h2 h3 h4 hi wa hs wf
  rw [← ho] at r1 ⊢
  have c1 : csum (cat [s]) = 65535 - fold16 (R + o) := by simp only [cat_cons, cat_nil, List.append_nil]; unfold csum; rw [r1]
  have c2 : csum (cat [t]) = 65535 - fold16 (R + m) := by simp only [cat_cons, cat_nil, List.append_nil]; unfold csum; rw [r2]
  rw [r1] at n1
  rw [r2] at n2
  rw [if_pos q1, if_pos q2, if_pos q3, if_pos q4]
  rw [sum_some [s] l1, sum_some [t] l2, c1, c2, Option.bind_some, sum_upd, Option.bind_some, Option.bind_some, upd_is R o m ho2 hm n1 n2, if_pos rfl, sum_upd, Option.bind_some, Option.bind_some, upd_is R m o hm ho2 n2 n1]
  simp
end Go.Proofs.Ytejmipoolbodgaa.Pure
