/- Plain law of TcpMSS: an MSS stands where it is told; another number in its place is told then; ahead of it stands none. -/
import Derived.Test.YtejmipoolbodgaaGTcpMSS
import Derived.Test.YtejmipoolbodgaaPRef01
import Derived.Test.YtejmipoolbodgaaPLaw07
namespace Go.Proofs.Ytejmipoolbodgaa.Pure
open Go.RowKit Go.Proofs.YtejmipoolbodgaaW.PrintWords Go.Proofs.YtejmipoolbodgaaW.PrintLast Go.Proofs.Ytejmipoolbodgaa.G Go.Proofs.Ytejmipoolbodgaa.Pal
theorem ahead_of {l : List UInt8} {L1 L2 : List (Nat × Nat)} {q : Nat} (hW : W l 0 = some (L1 ++ (q, 4) :: L2)) : W (l.take q) 0 = some L1 ∧ ∀ p ∈ L1, p.1 + p.2 ≤ q ∧ 1 ≤ p.2 := by
  have h := W_take l L2 q 4 0 L1 hW
  refine ⟨h, fun p hp => ?_⟩
  have hm := W_mem 0 L1 h p hp
  rw [List.length_take] at hm
  omega
theorem is_like {l l' : List UInt8} {p : Nat × Nat} (h : l'.getD p.1 0 = l.getD p.1 0) : isMSS l' p = isMSS l p := by unfold isMSS; rw [h]
theorem put_both {l l' : List UInt8} {L1 L2 : List (Nat × Nat)} {q : Nat} (hW : W l 0 = some (L1 ++ (q, 4) :: L2)) (hl : l'.length = l.length) (hag : ∀ j, j < q + 2 ∨ q + 4 ≤ j → l'.getD j 0 = l.getD j 0) (h2 : l.getD q 0 = 2) (hno : ∀ p ∈ L1, isMSS l p = false) :
    rightO l' = true ∧ mssOf l' = some (mssAt l' (q, 4)) := by
  have h := W_put l l' hl q hag 0 _ hW (by simp)
  obtain ⟨_, hb⟩ := ahead_of hW
  refine ⟨rightO_of h, ?_⟩
  rw [mssOf_of h, List.find?_append, List.find?_eq_none.mpr (fun p hp => by
    rw [is_like (hag p.1 (by have := hb p hp; omega)), hno p hp]; decide), List.find?_cons, show isMSS l' (q, 4) = true by rw [is_like (hag q (by omega))]; unfold isMSS; rw [h2]; rfl]
  rfl
theorem take_none {l : List UInt8} {L1 L2 : List (Nat × Nat)} {q : Nat} (hW : W l 0 = some (L1 ++ (q, 4) :: L2)) (hno : ∀ p ∈ L1, isMSS l p = false) : rightO (l.take q) = true ∧ mssOf (l.take q) = none := by
  obtain ⟨h, hb⟩ := ahead_of hW
  refine ⟨rightO_of h, ?_⟩
  rw [mssOf_of h, List.find?_eq_none.mpr (fun p hp => by
    rw [is_like (l := l) (by have := hb p hp; simp [List.getD_eq_getElem?_getD, show p.1 < q by omega]), hno p hp]; decide)]
  rfl
theorem btM (s : ByteArray) (i : Nat) (h : i < s.size) : bt s (i : Int) = (((bl s).getD i 0).toNat : Int) := by
  rw [bt_bl s i h]
  simp [List.getD_eq_getElem?_getD, List.getElem?_eq_getElem (show i < (bl s).length by rw [bl_length]; exact h)]
theorem or_two (a b : Nat) (ha : a < 256) (hb : b < 256) : Go.bits .or .i64 (wrap64 (wrap64 (a : Int) * 256)) (wrap64 (b : Int)) = ((a * 256 + b : Nat) : Int) := by
  rw [show wrap64 (wrap64 (a : Int) * 256) = ((a * 256 : Nat) : Int) by unfold wrap64; omega, show wrap64 (b : Int) = ((b : Nat) : Int) by unfold wrap64; omega, i64_or (a * 256) b (by omega) (by omega)]
  have := (Nat.two_pow_add_eq_or_of_lt (i := 8) (b := b) hb a)
  rw [show (2 : Nat) ^ 8 = 256 from rfl] at this
  rw [Nat.mul_comm a 256, this]
theorem bl_of2 (x y : Nat) (_ : x < 256) (_ : y < 256) : bl (strOfNums [(x : Int), (y : Int)]) = [UInt8.ofNat x, UInt8.ofNat y] := by
  simp [bl, strOfNums]
theorem two_bytes (y : Nat) (hy : y ≤ 65535) : bl (strOfNums [((y : Int) / 256) % 256, (y : Int) % 256]) = [UInt8.ofNat (y / 256), UInt8.ofNat (y % 256)] := by
  rw [show ((y : Int) / 256) % 256 = ((y / 256 : Nat) : Int) by omega, show (y : Int) % 256 = ((y % 256 : Nat) : Int) by omega]
  exact bl_of2 _ _ (by omega) (by omega)
theorem two_back (y : Nat) (hy : y ≤ 65535) : (UInt8.ofNat (y / 256)).toNat * 256 + (UInt8.ofNat (y % 256)).toNat = y := by
  simp only [UInt8.toNat_ofNat']
  omega
theorem cutM (s : ByteArray) (n m : Nat) : bl (s.extract n m) = ((bl s).take m).drop n := by simp [bl, ByteArray.data_extract, List.drop_take]
set_option maxHeartbeats 1000000 in
theorem fresh_law (o : ByteArray) (ho : o.size ≤ 1000) (y : Nat) (hy : y ≤ 65535) (n a : Nat) (hm : mssOf (bl o) = some (n, a)) : palanquinlaw07_TcpMSS.j0 1 o (y : Int) (a : Int) false = some true := by
  obtain ⟨L1, L2, q, hW, rfl, hq, h2, h4, hn, hno⟩ := mssOf_some hm
  have hb := bl_length o
  rw [hb] at hq
  obtain ⟨z, hz⟩ : ∃ z, z = strOfNums [((y : Int) / 256) % 256, (y : Int) % 256] := ⟨_, rfl⟩
  have bz : bl z = [UInt8.ofNat (y / 256), UInt8.ofNat (y % 256)] := by rw [hz]; exact two_bytes y hy
  have sz : z.size = 2 := by rw [← bl_length, bz]; rfl
  have w1 : wrap64 (((q + 2 : Nat) : Int) + 2) = ((q + 4 : Nat) : Int) := by unfold wrap64; omega
  have w2 : wrap64 (((q + 2 : Nat) : Int) - 2) = ((q : Nat) : Int) := by unfold wrap64; omega
  have w3 : wrap64 (y : Int) = (y : Int) := by unfold wrap64; omega
  obtain ⟨t, ht⟩ : ∃ t, t = o.extract 0 (q + 2) ++ z ++ o.extract (q + 4) o.size := ⟨_, rfl⟩
  have bt' : bl t = (bl o).take (q + 2) ++ [UInt8.ofNat (y / 256), UInt8.ofNat (y % 256)] ++ (bl o).drop (q + 4) := by
    rw [ht, bl_append, bl_append, cutM, cutM, bz, List.drop_zero, List.take_of_length_le (l := bl o) (i := o.size) (by omega)]
  have lt : (bl t).length = (bl o).length := by rw [bt']; simp only [List.length_append, List.length_take, List.length_drop, List.length_cons, List.length_nil]; omega
  have st : t.size = o.size := by rw [← bl_length, lt, hb]
  have l1 : ((bl o).take (q + 2)).length = q + 2 := by rw [List.length_take]; omega
  have hag : ∀ j, j < q + 2 ∨ q + 4 ≤ j → (bl t).getD j 0 = (bl o).getD j 0 := fun j hj => by
    rw [bt']
    rcases hj with hj | hj
    · rw [List.append_assoc]
      simp [List.getD_eq_getElem?_getD, List.getElem?_append_left (show j < ((bl o).take (q + 2)).length by omega), hj]
    · rw [List.getD_eq_getElem?_getD, List.getElem?_append_right (by rw [List.length_append, l1]; simp; omega), List.length_append, l1, List.getElem?_drop, List.getD_eq_getElem?_getD]
      congr 2
      simp only [List.length_cons, List.length_nil]; omega
  have e2 : (bl t).getD (q + 2) 0 = UInt8.ofNat (y / 256) := by
    rw [bt', List.append_assoc, List.getD_eq_getElem?_getD, List.getElem?_append_right (by omega), l1, Nat.sub_self]
    rfl
  have e3 : (bl t).getD (q + 3) 0 = UInt8.ofNat (y % 256) := by
    rw [bt', List.append_assoc, List.getD_eq_getElem?_getD, List.getElem?_append_right (by omega), l1, show q + 3 - (q + 2) = 1 by omega]
    rfl
  obtain ⟨r1, r2⟩ := put_both hW lt hag h2 hno
  obtain ⟨r3, r4⟩ := take_none hW hno
  have bq : bl (o.extract 0 q) = (bl o).take q := by rw [cutM, List.drop_zero]
  have sq : (o.extract 0 q).size = q := by simp only [ByteArray.size_extract]; omega
  have hat : mssAt (bl t) (q, 4) = (y, q + 2) := by
    unfold mssAt
    dsimp only
    rw [e2, e3]
    rw [two_back y hy]
  rw [palanquinlaw07_TcpMSS.j0, if_neg (by decide), if_pos (by omega), if_pos (by omega), Option.bind_some, ← hz, Int.toNat_natCast, w1, Int.toNat_natCast, w2, Int.toNat_natCast, ← ht]
  rw [if_pos (by simp only [ByteArray.size_extract]; omega), if_pos (by omega), if_pos (by omega), if_pos (by simp only [ByteArray.size_append, ByteArray.size_extract]; omega), mss_is t (by omega), Option.bind_some, if_pos (by omega), if_pos (by omega), mss_is _ (by omega), Option.bind_some, right_is t (by omega), Option.bind_some, r1, if_pos rfl, bq, r2, r4, hat, w3]
  rw [right_is (o.extract 0 q) (by omega), bq, r3]
  simp [mssR]
theorem TcpMSS : palanquinlaw07_TcpMSS.Pure := by
  intro o x ho hx
  have hx' : 0 ≤ x ∧ x ≤ 65535 := by simp [Lit.wf] at hx; exact hx
  obtain ⟨y, rfl⟩ := Int.eq_ofNat_of_zero_le hx'.1
  refine ⟨1, ?_⟩
  unfold palanquinlaw07_TcpMSS.f
  rw [awake07, Option.bind_some, if_pos rfl]
  by_cases h : (o.size : Int) > 1000
  · rw [if_pos h]
  rw [if_neg h, mss_is o ho, Option.bind_some]
  cases hm : mssOf (bl o) with
  | none =>
    rfl
  | some r =>
    obtain ⟨n, a⟩ := r
    have hfl := fresh_law o (by omega) y (by omega) n a hm
    obtain ⟨L1, L2, q, hW, rfl, hq, h2, h4, hn, hno⟩ := mssOf_some hm
    have hb := bl_length o
    rw [hb] at hq
    have b2 := UInt8.toNat_lt ((bl o).getD (q + 2) 0)
    have b3 := UInt8.toNat_lt ((bl o).getD (q + 3) 0)
    rw [show mssR (some (n, q + 2)) = ((n : Int), ((q + 2 : Nat) : Int), true) from rfl]
    dsimp only
    rw [if_pos rfl, if_neg (by omega), show wrap64 (((q + 2 : Nat) : Int) + 2) = ((q + 4 : Nat) : Int) by unfold wrap64; omega, if_neg (by omega), show wrap64 (((q + 2 : Nat) : Int) - 2) = ((q : Nat) : Int) by unfold wrap64; omega, if_pos (by omega), if_pos (by omega), btM o q (by omega), h2, if_pos (by rfl),
      show wrap64 (((q + 2 : Nat) : Int) - 1) = ((q + 1 : Nat) : Int) by unfold wrap64; omega, if_pos (by omega), if_pos (by omega), btM o (q + 1) (by omega), h4, if_pos (by rfl), if_pos (by omega), if_pos (by omega), show wrap64 (((q + 2 : Nat) : Int) + 1) = ((q + 3 : Nat) : Int) by unfold wrap64; omega, if_pos (by omega), if_pos (by omega), btM o (q + 2) (by omega), btM o (q + 3) (by omega), or_two _ _ b2 b3, hn]
    rw [show ((((((bl o).getD (q + 2) 0).toNat * 256 + ((bl o).getD (q + 3) 0).toNat : Nat) : Int)) != ((((bl o).getD (q + 2) 0).toNat * 256 + ((bl o).getD (q + 3) 0).toNat : Nat) : Int)) = false by simp]
    exact hfl
end Go.Proofs.Ytejmipoolbodgaa.Pure
