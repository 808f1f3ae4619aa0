/- Plain law of HashParts: a number hangs on the bytes, not on how they are cut; ports alone make other texts. -/
import Derived.Test.YtejmipoolbodgaaGHashParts
import Derived.Test.YtejmipoolbodgaaPHash
namespace Go.Proofs.Ytejmipoolbodgaa.Pure
open Go.RowKit Go.Proofs.YtejmipoolbodgaaW.PrintWords Go.Proofs.YtejmipoolbodgaaW.PrintLast Go.Proofs.Ytejmipoolbodgaa.G Go.Proofs.Ytejmipoolbodgaa.Pal
theorem hbl_cut (s : ByteArray) (n m : Nat) : bl (s.extract n m) = ((bl s).take m).drop n := by simp [bl, ByteArray.data_extract, List.drop_take]
theorem HashParts (x : ByteArray) (c : Int) (p : Int) (s d : ByteArray) (a b : Int) (q : Int) (hx : x.size ≤ 140737488351232) (_ : (Lit.int .i64 c).wf = true) (_ : (Lit.int .i64 p).wf = true) (_ : s.size ≤ maxLen) (_ : d.size ≤ maxLen) (_ : (Lit.int .i64 a).wf = true) (_ : (Lit.int .i64 b).wf = true) (hq : (Lit.int .u16 q).wf = true) :
    ∃ k, palanquinlaw20_HashParts.f k x c p s d a b q = some true := by
  refine ⟨1 + 1, ?_⟩
  have hq' : 0 ≤ q ∧ q ≤ 65535 := by simp [Lit.wf] at hq; exact hq
  unfold palanquinlaw20_HashParts.f
  rw [awake20, Option.bind_some, if_pos rfl]
  have skip : palanquinlaw20_HashParts.j0 (1 + 1) x c q true p s d a b = some true := by rw [palanquinlaw20_HashParts.j0, if_pos rfl]
  by_cases h1 : (x.size : Int) > 5000
  · rw [if_pos h1]; exact skip
  rw [if_neg h1]
  by_cases h2 : c < 0
  · rw [if_pos h2]; exact skip
  rw [if_neg h2]
  by_cases h3 : c > (x.size : Int)
  · rw [if_pos h3]; exact skip
  rw [if_neg h3]
  obtain ⟨t, ht, ok⟩ := right_flow p s d a b
  rw [ht, Option.bind_some]
  cases t
  · exact skip
  replace ok := ok rfl
  have z : s.size + d.size ≤ 1000 := by have := ok.2.1; have := ok.2.2.1; omega
  show palanquinlaw20_HashParts.j0 (1 + 1) x c q false p s d a b = some true
  rw [palanquinlaw20_HashParts.j0, if_neg (by decide), text_is _ _ _ _ _ z, Option.bind_some, text_is _ _ _ _ _ z, Option.bind_some, if_pos (by omega), if_pos (by omega), show wrap64 q = q by unfold wrap64; omega]
  have e1 : cat [x.extract 0 c.toNat, x.extract c.toNat x.size] = bl x := by
    rw [cat_cons, cat_cons, cat_nil, List.append_nil, hbl_cut, hbl_cut, List.take_of_length_le (l := bl x) (i := x.size) (by rw [bl_length]; exact Nat.le_refl _), List.drop_zero, List.take_append_drop]
  have e2 : cat [x, (⟨#[]⟩ : ByteArray)] = bl x := by
    rw [cat_cons, cat_cons, cat_nil, List.append_nil]
    show bl x ++ [] = bl x
    rw [List.append_nil]
  have lx : (bl x).length ≤ 1099511627776 := by rw [bl_length]; omega
  rw [hsum_is _ (by rw [e1]; exact lx), e1, Option.bind_some, hsum_one x (by omega), Option.bind_some, if_pos rfl, hsum_is _ (by rw [e2]; exact lx), e2, Option.bind_some, Option.bind_some, if_pos rfl]
  obtain ⟨X, hX⟩ : ∃ X : ByteArray, X = ⟨(flowText p s d a b).toArray⟩ := ⟨_, rfl⟩
  obtain ⟨Y, hY⟩ : ∃ Y : ByteArray, Y = ⟨(flowText p s d q b).toArray⟩ := ⟨_, rfl⟩
  have sX : X.size = 5 + s.size + d.size := by rw [hX]; exact text_size _ _ _ _ _
  have sY : Y.size = 5 + s.size + d.size := by rw [hY]; exact text_size _ _ _ _ _
  have bX : bl X = flowText p s d a b := by rw [hX]; exact hbl_mk _
  have bY : bl Y = flowText p s d q b := by rw [hY]; exact hbl_mk _
  rw [← hX, ← hY, if_pos (by omega)]
  have w4 : wrap64 ((X.size : Int) - 4) = ((1 + s.size + d.size : Nat) : Int) := by unfold wrap64; omega
  have v4 : wrap64 ((Y.size : Int) - 4) = ((1 + s.size + d.size : Nat) : Int) := by unfold wrap64; omega
  have w2 : wrap64 ((X.size : Int) - 2) = ((3 + s.size + d.size : Nat) : Int) := by unfold wrap64; omega
  have v2 : wrap64 ((Y.size : Int) - 2) = ((3 + s.size + d.size : Nat) : Int) := by unfold wrap64; omega
  rw [w4, v4, w2, v2]
  simp only [Int.toNat_natCast, toList_bl]
  rw [if_pos (by omega), if_pos (by omega), if_pos (by omega), if_pos (by omega)]
  have front : ∀ u : Int, ((flowText p s d u b).take (1 + s.size + d.size)) = nb 1 (u64n p) ++ bl (s ++ d) := fun u => by
    unfold flowText
    rw [List.append_assoc, List.take_left' (by simp only [List.length_append, nb_length, bl_length, ByteArray.size_append]; omega)]
  have back : ∀ u : Int, ((flowText p s d u b).drop (3 + s.size + d.size)) = nb 2 (u64n b) := fun u => by
    unfold flowText
    rw [List.drop_left' (by simp only [List.length_append, nb_length, bl_length, ByteArray.size_append]; omega)]
  rw [if_pos (by rw [hbl_cut, hbl_cut, bX, bY, List.drop_zero, List.drop_zero, front, front]), if_pos (by omega), if_pos (by omega), if_pos (by omega), if_pos (by omega)]
  have tX : (bl X).take X.size = bl X := List.take_of_length_le (by rw [bl_length]; exact Nat.le_refl _)
  have tY : (bl Y).take Y.size = bl Y := List.take_of_length_le (by rw [bl_length]; exact Nat.le_refl _)
  rw [if_pos (by rw [hbl_cut, hbl_cut, tX, tY, bX, bY, back, back])]
  rw [bX, bY]
  congr 1
  by_cases e : a = q
  · subst e; simp
  · have n1 : flowText p s d a b ≠ flowText p s d q b := fun h => e (flowText_inj ok ⟨ok.1, ok.2.1, ok.2.2.1, hq', ok.2.2.2.2⟩ h).2.2.2.1
    rw [beq_eq_false_iff_ne.mpr n1, beq_eq_false_iff_ne.mpr e]; rfl
end Go.Proofs.Ytejmipoolbodgaa.Pure
