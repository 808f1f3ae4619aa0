/- Plain theory: the document's Walk and MSS are the options' walk. -/
import Derived.Test.YtejmipoolbodgaaGref07
import Derived.Test.YtejmipoolbodgaaPRef01
import Derived.Test.YtejmipoolbodgaaPTcpF
namespace Go.Proofs.Ytejmipoolbodgaa.Pure
open Go.RowKit Go.Proofs.YtejmipoolbodgaaW.PrintWords Go.Proofs.YtejmipoolbodgaaW.PrintLast Go.Proofs.Ytejmipoolbodgaa.G Go.Proofs.Ytejmipoolbodgaa.Pal
set_option linter.unusedVariables false
theorem btD (s : ByteArray) (i : Nat) (h : i < s.size) : bt s (i : Int) = (((bl s).getD i 0).toNat : Int) := by
  rw [bt_bl s i h]
  simp [List.getD_eq_getElem?_getD, List.getElem?_eq_getElem (show i < (bl s).length by rw [bl_length]; exact h)]
theorem byte_eq (b : UInt8) (n : Nat) (hn : n < 256) : ((b.toNat : Int) = (n : Int)) ↔ b = UInt8.ofNat n := by
  constructor
  · intro h; apply UInt8.toNat_inj.1; simp only [UInt8.toNat_ofNat']; omega
  · intro h; rw [h]; simp only [UInt8.toNat_ofNat']; omega
theorem byte_two (b : UInt8) : ((b.toNat : Int) = 2) ↔ b = 2 := byte_eq b 2 (by decide)
theorem mss_arith (a b : Nat) (ha : a < 256) (hb : b < 256) : wrap64 (wrap64 (wrap64 (a : Int) * 256) + wrap64 (b : Int)) = ((a * 256 + b : Nat) : Int) := by unfold wrap64; omega
theorem W_count {l : List UInt8} : ∀ i L, W l i = some L → L.length + i ≤ max l.length i := by
  refine W_ind (P := fun i => ∀ L, W l i = some L → L.length + i ≤ max l.length i) l fun i ih L h => ?_
  rcases W_cons h with ⟨c, rfl⟩ | ⟨c, n, L', ho, hw, rfl⟩
  · simp; omega
  · have hb := optLen_bound c.1 ho
    have := ih n hb.1 c.1 L' hw
    rw [List.length_cons]
    omega
def posns (L : List (Nat × Nat)) : List Int := L.map fun p => (p.1 : Int)
theorem walk07 (s : ByteArray) (hs : s.size ≤ 10000000000) : ∀ (m i k : Nat) (out : List Int), s.size ≤ m + i → i ≤ s.size → 2 * m + 2 ≤ k → out.length ≤ i →
    palanquinref07_Walk.l0 k s out (i : Int) = some (match W (bl s) i with | some L => (out ++ posns L, true) | none => ([], false)) := by
  intro m
  induction m with
  | zero =>
    intro i k out h1 h2 h3 h4
    obtain ⟨k, rfl⟩ : ∃ k', k = k' + 2 := ⟨k - 2, by omega⟩
    rw [palanquinref07_Walk.l0, if_neg (by omega), palanquinref07_Walk.j1, if_neg (by decide), W_end (by rw [bl_length]; omega)]
    simp [posns]
  | succ m ih =>
    intro i k out h1 h2 h3 h4
    obtain ⟨k, rfl⟩ : ∃ k', k = k' + 2 := ⟨k - 2, by omega⟩
    by_cases hi : i < s.size
    case neg =>
      rw [palanquinref07_Walk.l0, if_neg (by omega), palanquinref07_Walk.j1, if_neg (by decide), W_end (by rw [bl_length]; omega)]
      simp [posns]
    rw [palanquinref07_Walk.l0, if_pos (by omega), if_pos (by omega), btD s i hi]
    by_cases h0 : (bl s).getD i 0 = 0
    · rw [h0, W_end (fun h => h.2 h0), palanquinref07_Walk.j1, if_neg (by decide)]
      simp [posns]
    have hne : (((((bl s).getD i 0).toNat : Int)) != 0) = true := by
      rw [bne_iff_ne]; intro h; exact h0 (by rw [show (0 : Int) = ((0 : Nat) : Int) from rfl] at h; exact (byte_eq _ 0 (by decide)).mp h)
    have hc : i < (bl s).length ∧ (bl s).getD i 0 ≠ 0 := ⟨by rw [bl_length]; exact hi, h0⟩
    rw [hne, palanquinref07_Walk.j1, if_pos rfl, if_pos (by omega), Option.bind_some, if_pos (by omega), if_pos (by omega), btD s i hi, W_step hc]
    by_cases h1' : (bl s).getD i 0 = 1
    · rw [h1', if_pos (by rfl), show wrap64 ((i : Int) + 1) = ((i + 1 : Nat) : Int) by unfold wrap64; omega,
        ih (i + 1) k (out ++ [(i : Int)]) (by omega) (by omega) (by omega) (by rw [List.length_append, List.length_singleton]; omega), show optLen (bl s) i = some 1 by unfold optLen; rw [if_pos h1'], Option.bind_some]
      cases W (bl s) (i + 1) <;> simp [posns]
    have hn1 : ¬ ((((bl s).getD i 0).toNat : Int)) = 1 := fun h => h1' ((byte_eq _ 1 (by decide)).mp h)
    rw [if_neg hn1, show wrap64 ((s.size : Int) - (i : Int)) = ((s.size - i : Nat) : Int) by unfold wrap64; omega]
    by_cases he : i + 1 = s.size
    · rw [if_pos (by omega), show optLen (bl s) i = none by unfold optLen; rw [if_neg h1', if_pos (.inl (by rw [bl_length]; exact he))], Option.bind_none]
    have hb := UInt8.toNat_lt ((bl s).getD (i + 1) 0)
    rw [if_neg (by omega), show wrap64 ((i : Int) + 1) = ((i + 1 : Nat) : Int) by unfold wrap64; omega, if_pos (by omega), if_pos (by omega), btD s (i + 1) (by omega), show wrap64 ((((bl s).getD (i + 1) 0).toNat : Int)) = ((((bl s).getD (i + 1) 0).toNat : Int)) by unfold wrap64; omega]
    by_cases h2' : ((bl s).getD (i + 1) 0).toNat < 2
    · rw [if_pos (by omega), show optLen (bl s) i = none by unfold optLen; rw [if_neg h1', if_pos (.inr (.inl h2'))], Option.bind_none]
    rw [if_neg (by omega)]
    by_cases h3' : (bl s).length < i + ((bl s).getD (i + 1) 0).toNat
    · rw [if_pos (by rw [bl_length] at h3'; omega), show optLen (bl s) i = none by unfold optLen; rw [if_neg h1', if_pos (.inr (.inr h3'))], Option.bind_none]
    have h3'' := h3'
    rw [bl_length] at h3''
    rw [if_neg (by omega), show wrap64 ((i : Int) + ((((bl s).getD (i + 1) 0).toNat : Int))) = ((i + ((bl s).getD (i + 1) 0).toNat : Nat) : Int) by unfold wrap64; omega,
      ih (i + ((bl s).getD (i + 1) 0).toNat) k (out ++ [(i : Int)]) (by omega) (by omega) (by omega) (by rw [List.length_append, List.length_singleton]; omega),
      show optLen (bl s) i = some ((bl s).getD (i + 1) 0).toNat by unfold optLen; rw [if_neg h1', if_neg (fun h => h.elim (fun h => he (by rw [bl_length] at h; exact h)) (fun h => h.elim h2' h3'))], Option.bind_some]
    cases W (bl s) (i + ((bl s).getD (i + 1) 0).toNat) <;> simp [posns]
def walkR (s : ByteArray) : List Int × Bool := match W (bl s) 0 with | some L => (posns L, true) | none => ([], false)
theorem walkR_snd (s : ByteArray) : (walkR s).2 = rightO (bl s) := by unfold walkR rightO; cases W (bl s) 0 <;> rfl
theorem walk07_is (s : ByteArray) (k : Nat) (hs : s.size ≤ 10000000000) (hk : 2 * s.size + 2 ≤ k) : palanquinref07_Walk.f k s = some (walkR s) := by
  have h := walk07 s hs s.size 0 k [] (by omega) (by omega) hk (by simp)
  unfold palanquinref07_Walk.f
  rw [show (0 : Int) = ((0 : Nat) : Int) from rfl, h]
  unfold walkR
  cases W (bl s) 0 <;> simp
theorem rd_posns (L : List (Nat × Nat)) (j : Nat) (h : j < L.length) : rd (posns L) (j : Int) = ((L[j].1 : Nat) : Int) := by
  unfold rd posns
  simp [h]
theorem mss07 (s : ByteArray) (hs : s.size ≤ 10000000000) (L : List (Nat × Nat)) (hL : ∀ p ∈ L, p.1 + p.2 ≤ (bl s).length ∧ 1 ≤ p.2 ∧ optLen (bl s) p.1 = some p.2) (hlen : L.length ≤ 10000000000) : ∀ (m j k : Nat), L.length ≤ m + j → m + 1 ≤ k →
    palanquinref07_MSS.l0 k s (posns L) (j : Int) = some (match ((L.drop j).find? (isMSS (bl s))).map (mssAt (bl s)) with | some r => (((r.1 : Nat) : Int), ((r.2 : Nat) : Int), true) | none => (0, 0, false)) := by
  have hpl : (posns L).length = L.length := by simp [posns]
  intro m
  induction m with
  | zero =>
    intro j k h1 h2
    obtain ⟨k, rfl⟩ : ∃ k', k = k' + 1 := ⟨k - 1, by omega⟩
    rw [palanquinref07_MSS.l0, if_neg (by omega), List.drop_eq_nil_of_le (by omega)]
    rfl
  | succ m ih =>
    intro j k h1 h2
    obtain ⟨k, rfl⟩ : ∃ k', k = k' + 1 := ⟨k - 1, by omega⟩
    by_cases hj : j < L.length
    case neg =>
      rw [palanquinref07_MSS.l0, if_neg (by omega), List.drop_eq_nil_of_le (by omega)]
      rfl
    obtain ⟨hp1, hp2, hp3⟩ := hL L[j] (List.getElem_mem hj)
    have hbl := bl_length s
    rw [palanquinref07_MSS.l0, if_pos (by omega), if_pos (by omega), rd_posns L j hj, List.drop_eq_getElem_cons hj, List.find?_cons]
    rcases hLj : L[j] with ⟨q, n⟩
    rw [hLj] at hp1 hp2 hp3
    dsimp only at hp1 hp2 hp3 ⊢
    have next := ih (j + 1) k (by omega) (by omega)
    rw [if_pos (by omega), if_pos (by omega), btD s q (by omega)]
    by_cases h2' : (bl s).getD q 0 = 2
    case neg =>
      rw [if_neg (fun h => h2' ((byte_two _).mp h)), show isMSS (bl s) (q, n) = false by show ((bl s).getD q 0 == 2 && n == 4) = false; rw [beq_eq_false_iff_ne.mpr h2', Bool.false_and], show wrap64 ((j : Int) + 1) = ((j + 1 : Nat) : Int) by unfold wrap64; omega]
      exact next
    have hn : n = ((bl s).getD (q + 1) 0).toNat ∧ q + 1 < s.size := by
      unfold optLen at hp3
      rw [if_neg (by rw [h2']; decide)] at hp3
      split at hp3
      · exact absurd hp3 (by simp)
      · rename_i hx
        exact ⟨(Option.some.inj hp3).symm, by rw [hbl] at hx; omega⟩
    rw [if_pos ((byte_two _).mpr h2'), show wrap64 ((q : Int) + 1) = ((q + 1 : Nat) : Int) by unfold wrap64; omega, if_pos (by omega), if_pos (by omega), btD s (q + 1) hn.2]
    by_cases h4 : n = 4
    case neg =>
      rw [if_neg (by omega), show isMSS (bl s) (q, n) = false by show ((bl s).getD q 0 == 2 && n == 4) = false; rw [beq_eq_false_iff_ne.mpr h4, Bool.and_false], show wrap64 ((j : Int) + 1) = ((j + 1 : Nat) : Int) by unfold wrap64; omega]
      exact next
    have l2 : ((bl s).getD (q + 2) 0).toNat < 256 := UInt8.toNat_lt ((bl s).getD (q + 2) 0)
    have l3 : ((bl s).getD (q + 3) 0).toNat < 256 := UInt8.toNat_lt ((bl s).getD (q + 3) 0)
    rw [if_pos (by omega), show wrap64 ((q : Int) + 2) = ((q + 2 : Nat) : Int) by unfold wrap64; omega, if_pos (by omega), if_pos (by omega), show wrap64 ((q : Int) + 3) = ((q + 3 : Nat) : Int) by unfold wrap64; omega, if_pos (by omega), if_pos (by omega), btD s (q + 2) (by omega), btD s (q + 3) (by omega), show isMSS (bl s) (q, n) = true by show ((bl s).getD q 0 == 2 && n == 4) = true; rw [h2', h4]; rfl]
    simp only [Option.map_some, mssAt]
    rw [mss_arith _ _ l2 l3]
theorem mss07_is (s : ByteArray) (k : Nat) (hs : s.size ≤ 1000000) (hk : 2 * s.size + 2 ≤ k) : palanquinref07_MSS.f k s = some (mssR (mssOf (bl s))) := by
  unfold palanquinref07_MSS.f
  rw [walk07_is s k (by omega) hk, Option.bind_some]
  unfold mssOf walkR
  cases hW : W (bl s) 0 with
  | none =>
    have h := mss07 s (by omega) [] (fun p hp => absurd hp (by simp)) (by simp) 0 0 k (by simp) (by omega)
    exact h
  | some L =>
    have hm := W_mem 0 L hW
    have hlen : L.length ≤ s.size := by
      have := W_count 0 L hW
      rw [bl_length] at this; omega
    have h := mss07 s (by omega) L (fun p hp => (hm p hp).2) (by omega) L.length 0 k (by omega) (by omega)
    rw [List.drop_zero] at h
    refine h.trans ?_
    rw [Option.bind_some]
    cases (L.find? (isMSS (bl s))).map (mssAt (bl s)) <;> rfl
end Go.Proofs.Ytejmipoolbodgaa.Pure
