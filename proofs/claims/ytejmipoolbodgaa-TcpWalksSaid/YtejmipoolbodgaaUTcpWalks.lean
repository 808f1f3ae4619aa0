/- Plain law of TcpWalks: options that are right stay so with bytes 1 ahead, with a byte 0 and anything behind, and with right ones behind. -/
import Derived.Test.YtejmipoolbodgaaGTcpWalks
import Derived.Test.YtejmipoolbodgaaPTcpF
import Derived.Test.YtejmipoolbodgaaPLaw07
import Derived.Test.YtejmipoolbodgaaPRef01
namespace Go.Proofs.Ytejmipoolbodgaa.Pure
open Go.RowKit Go.Proofs.YtejmipoolbodgaaW.PrintWords Go.Proofs.YtejmipoolbodgaaW.PrintLast Go.Proofs.Ytejmipoolbodgaa.G Go.Proofs.Ytejmipoolbodgaa.Pal
theorem one_W (l : List UInt8) : W (1 :: l) 0 = (W l 0).map fun L => (0, 1) :: L.map fun p => (p.1 + 1, p.2) := by
  have h := W_shift (l := l) (l' := 1 :: l) 1 (by simp) 0 (fun j _ => by simp)
  have o : optLen (1 :: l) 0 = some 1 := by unfold optLen; rw [if_pos (by rfl)]
  rw [W_step ⟨by simp, by simp⟩, o, Option.bind_some, h]
  cases W l 0 <;> rfl
theorem one_right (l : List UInt8) (h : rightO l = true) : rightO (1 :: l) = true := by
  obtain ⟨L, hL⟩ := rightO_some h
  exact rightO_of (by rw [one_W, hL]; rfl)
theorem one_mss (l : List UInt8) (h : rightO l = true) : mssOf (1 :: l) = (mssOf l).map fun r => (r.1, r.2 + 1) := by
  obtain ⟨L, hL⟩ := rightO_some h
  have e : W (1 :: l) 0 = some ((0, 1) :: L.map fun p => (p.1 + 1, p.2)) := by rw [one_W, hL]; rfl
  rw [mssOf_of e, mssOf_of hL, List.find?_cons]
  have e2 : isMSS (1 :: l) (0, 1) = false := rfl
  rw [e2]
  refine find_like 1 fun p _ => ⟨by simp, fun _ => ⟨by rw [show p.1 + 1 + 2 = (p.1 + 2) + 1 by omega, List.getD_cons_succ], by rw [show p.1 + 1 + 3 = (p.1 + 3) + 1 by omega, List.getD_cons_succ]⟩⟩
theorem getD_left (a b : List UInt8) (j : Nat) (h : j < a.length) : (a ++ b).getD j 0 = a.getD j 0 := by simp [List.getD_eq_getElem?_getD, List.getElem?_append_left h]
theorem getD_right (a b : List UInt8) (j : Nat) : (a ++ b).getD (j + a.length) 0 = b.getD j 0 := by simp [List.getD_eq_getElem?_getD, List.getElem?_append_right]
theorem left_like {a b : List UInt8} {L : List (Nat × Nat)} (hL : W a 0 = some L) : (L.find? (isMSS (a ++ b))).map (mssAt (a ++ b)) = (L.find? (isMSS a)).map (mssAt a) := by
  have h := find_like (l := a) (l' := a ++ b) (L := L) 0 fun p hp => by
    have hm := W_mem 0 _ hL p hp
    refine ⟨getD_left a b _ (by omega), fun hx => ?_⟩
    have h4 : p.2 = 4 := by have : a.getD p.1 0 = 2 ∧ p.2 = 4 := by simpa [isMSS] using hx
                            exact this.2
    exact ⟨getD_left a b _ (by omega), getD_left a b _ (by omega)⟩
  have e : (fun p : Nat × Nat => (p.1 + 0, p.2)) = id := by funext p; rfl
  have e2 : (fun p : Nat × Nat => (p.1, p.2 + 0)) = id := by funext p; rfl
  rw [e, e2, List.map_id, Option.map_id] at h
  exact h
theorem zero_both (a j : List UInt8) (h : rightO a = true) : rightO (a ++ 0 :: j) = true ∧ mssOf (a ++ 0 :: j) = mssOf a := by
  obtain ⟨L, hL⟩ := rightO_some h
  have e : W (a ++ 0 :: j) 0 = some L := by
    rcases W_append a (0 :: j) 0 L (Nat.zero_le _) hL with ⟨_, e⟩ | e
    · exact e
    · rw [e, W_end (by rw [show a.length = 0 + a.length by omega, getD_right]; simp)]
      simp
  exact ⟨rightO_of e, by rw [mssOf_of e, mssOf_of hL, left_like hL]⟩
theorem two_both (a b : List UInt8) (h : rightO a = true) (h' : rightO b = true) (hz : ∀ j, j < a.length → a.getD j 0 ≠ 0) :
    rightO (a ++ b) = true ∧ mssOf (a ++ b) = match mssOf a with | some r => some r | none => (mssOf b).map fun r => (r.1, r.2 + a.length) := by
  obtain ⟨L, hL⟩ := rightO_some h
  obtain ⟨M, hM⟩ := rightO_some h'
  have sh := W_shift (l := b) (l' := a ++ b) a.length (by rw [List.length_append]; omega) 0 (fun j _ => getD_right a b j)
  rw [Nat.zero_add, hM] at sh
  have e : W (a ++ b) 0 = some (L ++ M.map fun p => (p.1 + a.length, p.2)) := by
    rcases W_append a b 0 L (Nat.zero_le _) hL with ⟨⟨j, _, h1, h2⟩, _⟩ | e
    · exact absurd h2 (hz j h1)
    · rw [e, sh]; rfl
  refine ⟨rightO_of e, ?_⟩
  rw [mssOf_of e, mssOf_of hL, mssOf_of hM, List.find?_append]
  have e1 := left_like (b := b) hL
  have e2 := find_like (l := b) (l' := a ++ b) (L := M) a.length fun p _ => ⟨getD_right a b _, fun _ => ⟨by rw [show p.1 + a.length + 2 = (p.1 + 2) + a.length by omega, getD_right], by rw [show p.1 + a.length + 3 = (p.1 + 3) + a.length by omega, getD_right]⟩⟩
  cases hf : L.find? (isMSS (a ++ b)) with
  | some p => rw [hf] at e1; rw [← e1]; rfl
  | none =>
    rw [hf] at e1
    rw [← e1]
    exact e2
theorem walks_loop (a b : ByteArray) (ha : a.size ≤ 500) (hb : b.size ≤ 500) (h : rightO (bl a) = true) (h' : rightO (bl b) = true) : ∀ (m i k : Nat) (z : Bool), i + m = a.size → m < k → (z = false → ∀ j, j < i → (bl a).getD j 0 ≠ 0) →
    palanquinlaw07_TcpWalks.l0 k a b (mssR (mssOf (bl a))).1 (mssR (mssOf (bl a))).2.2 z (i : Int) = some true
  | 0, i, k + 1, z, hi, _, hz => by
    rw [palanquinlaw07_TcpWalks.l0, if_neg (by omega)]
    cases z
    case true => rw [if_pos rfl]
    obtain ⟨r1, r2⟩ := two_both (bl a) (bl b) h h' (fun j hj => hz rfl j (by rw [bl_length] at hj; omega))
    rw [if_neg (by decide), if_pos (by omega), mss_is _ (by rw [ByteArray.size_append]; omega), Option.bind_some, mss_is _ (by omega), Option.bind_some, right_is _ (by rw [ByteArray.size_append]; omega), bl_append, r1, r2]
    cases hm : mssOf (bl a) with
    | some r => simp [mssR]
    | none =>
      cases hm2 : mssOf (bl b) with
      | some r => simp [mssR]
      | none => simp [mssR]
  | m + 1, i, k + 1, z, hi, hk, hz => by
    have hlt : i < a.size := by omega
    rw [palanquinlaw07_TcpWalks.l0, if_pos (by omega), if_pos (by omega), bt_bl a i hlt, show wrap64 ((i : Int) + 1) = ((i + 1 : Nat) : Int) by unfold wrap64; omega]
    have hg : (bl a).getD i 0 = (bl a)[i]'(by rw [bl_length]; exact hlt) := by simp [List.getD_eq_getElem?_getD, List.getElem?_eq_getElem (show i < (bl a).length by rw [bl_length]; exact hlt)]
    by_cases h0 : (((bl a)[i]'(by rw [bl_length]; exact hlt)).toNat : Int) = 0
    · rw [if_pos h0]
      exact walks_loop a b ha hb h h' m (i + 1) k true (by omega) (by omega) (fun h => absurd h (by decide))
    · rw [if_neg h0]
      refine walks_loop a b ha hb h h' m (i + 1) k z (by omega) (by omega) (fun hz0 j hj => ?_)
      by_cases hji : j = i
      · subst hji
        rw [hg]; intro he; apply h0; rw [he]; rfl
      · exact hz hz0 j (by omega)
theorem TcpWalks : palanquinlaw07_TcpWalks.Pure := by
  intro a b c ha hb hc
  refine ⟨600 + 1 + 1 + 1, ?_⟩
  have skip : palanquinlaw07_TcpWalks.j0 (600 + 1 + 1 + 1) a b c true = some true := by rw [palanquinlaw07_TcpWalks.j0, if_pos rfl]
  unfold palanquinlaw07_TcpWalks.f
  rw [awake07, Option.bind_some, if_pos rfl]
  by_cases h1 : (a.size : Int) > 500
  · rw [if_pos h1]; exact skip
  rw [if_neg h1]
  by_cases h2 : (b.size : Int) > 500
  · rw [if_pos h2]; exact skip
  rw [if_neg h2]
  by_cases h3 : (c.size : Int) > 500
  · rw [if_pos h3]; exact skip
  rw [if_neg h3, right_is a ha, Option.bind_some]
  cases hr : rightO (bl a)
  · rw [if_neg (by decide)]; exact skip
  rw [if_pos rfl, right_is b hb, Option.bind_some]
  cases hr' : rightO (bl b)
  · exact skip
  show palanquinlaw07_TcpWalks.j0 (600 + 1 + 1 + 1) a b c false = some true
  have s1 : ((⟨#[1]⟩ : ByteArray) ++ a).size = 1 + a.size := by rw [ByteArray.size_append]; rfl
  have s0 : (⟨#[0]⟩ : ByteArray).size = 1 := rfl
  have b1 : bl ((⟨#[1]⟩ : ByteArray) ++ a) = 1 :: bl a := by rw [bl_append]; rfl
  have b2 : bl (a ++ (⟨#[0]⟩ : ByteArray) ++ c) = bl a ++ 0 :: bl c := by rw [bl_append, bl_append, List.append_assoc]; rfl
  rw [palanquinlaw07_TcpWalks.j0, if_neg (by decide), mss_is a ha, Option.bind_some, if_pos (by omega), mss_is _ (by omega), Option.bind_some, right_is _ (by omega), Option.bind_some, b1, one_right _ hr, if_pos rfl, one_mss _ hr]
  obtain ⟨z1, z2⟩ := zero_both (bl a) (bl c) hr
  have j2 : palanquinlaw07_TcpWalks.j2 (600 + 1) a b (mssR (mssOf (bl a))).1 (mssR (mssOf (bl a))).2.2 false = some true := by
    rw [palanquinlaw07_TcpWalks.j2, if_neg (by decide)]
    exact walks_loop a b (by omega) (by omega) hr hr' a.size 0 600 false (by omega) (by omega) (fun _ j hj => absurd hj (by omega))
  have j1 : palanquinlaw07_TcpWalks.j1 (600 + 1 + 1) a b c (mssR (mssOf (bl a))).1 (mssR (mssOf (bl a))).2.2 false = some true := by
    rw [palanquinlaw07_TcpWalks.j1, if_neg (by decide), if_pos (by omega), if_pos (by rw [ByteArray.size_append]; omega), mss_is _ (by rw [ByteArray.size_append, ByteArray.size_append]; omega), Option.bind_some, right_is _ (by rw [ByteArray.size_append, ByteArray.size_append]; omega), Option.bind_some, b2, z1, z2, if_pos rfl, if_neg (by simp)]
    rw [show ((mssR (mssOf (bl a))).1 != (mssR (mssOf (bl a))).1) = false by simp]
    exact j2
  cases hm : mssOf (bl a) with
  | none =>
    rw [hm] at j1
    rw [if_pos (by rfl), if_neg (by decide), if_neg (by decide)]
    exact j1
  | some r =>
    rw [hm] at j1
    have hb : r.2 ≤ 600 := by
      obtain ⟨_, _, q, _, h4, h5, _⟩ := mssOf_some (n := r.1) (a := r.2) hm
      rw [bl_length] at h5; omega
    rw [if_pos (by rfl), if_neg (by simp [mssR]), if_pos (by rfl)]
    show palanquinlaw07_TcpWalks.j1 (600 + 1 + 1) a b c _ _ (((r.2 + 1 : Nat) : Int) != wrap64 ((r.2 : Int) + 1)) = some true
    rw [show wrap64 ((r.2 : Int) + 1) = ((r.2 + 1 : Nat) : Int) by unfold wrap64; omega, show ((((r.2 + 1 : Nat) : Int)) != ((r.2 + 1 : Nat) : Int)) = false by simp]
    exact j1
end Go.Proofs.Ytejmipoolbodgaa.Pure
