/- Plain facts of hash.Text, hash.Flow, hash.Port, hash.Point as functions. -/
import Derived.Test.YtejmipoolbodgaaGhash
import Derived.Test.YtejmipoolbodgaaGlaw20
import Derived.Test.YtejmipoolbodgaaHHash
namespace Go.Proofs.Ytejmipoolbodgaa.Pure
open Go.RowKit Go.Proofs.YtejmipoolbodgaaW.PrintWords Go.Proofs.YtejmipoolbodgaaW.PrintLast Go.Proofs.Ytejmipoolbodgaa.G Go.Proofs.Ytejmipoolbodgaa.Pal
theorem hbl_inj {a b : ByteArray} (h : bl a = bl b) : a = b := ByteArray.ext (Array.toList_inj.mp h)
theorem hbl_mk (l : List UInt8) : bl ⟨l.toArray⟩ = l := by simp [bl]
theorem toList_bl (s : ByteArray) : s.toList = bl s := ByteArray.toList_eq s
theorem hsum_is (l : List ByteArray) (h : (cat l).length ≤ 1099511627776) : hash_Sum.f l = some ((fnv (cat l) : Nat) : Int) := by
  unfold hash_Sum.f; rw [if_pos h]
theorem hsum_one (t : ByteArray) (h : t.size ≤ 1099511627776) : hash_Sum.f [t] = some ((fnv (bl t) : Nat) : Int) := by
  have e : cat [t] = bl t := by rw [cat_cons, cat_nil, List.append_nil]
  rw [hsum_is _ (by rw [e, bl_length]; exact h), e]
theorem awake20 : palanquinlaw20_awake.f = some true := by
  unfold palanquinlaw20_awake.f
  rw [hsum_one _ (by decide), Option.bind_some, show fnv (bl ⟨#[97]⟩) = 12638187200555641996 from by decide +kernel]
  rfl
/-- What may be a packet's flow. -/
def okFlow (p : Int) (s d : ByteArray) (a b : Int) : Prop := (p = 6 ∨ p = 17) ∧ (s.size = 4 ∨ s.size = 16) ∧ d.size = s.size ∧ (0 ≤ a ∧ a ≤ 65535) ∧ (0 ≤ b ∧ b ≤ 65535)
theorem right_flow (p : Int) (s d : ByteArray) (a b : Int) : ∃ t, palanquinlaw20_right.f p s d a b = some t ∧ (t = true → okFlow p s d a b) := by
  have tail : ∀ (P : Prop), (P → (p = 6 ∨ p = 17) ∧ (s.size = 4 ∨ s.size = 16)) → P → ∃ t, (if (d.size : Int) = (s.size : Int) then (if a ≥ 0 then (if a ≤ 65535 then (if b ≥ 0 then (some (decide (b ≤ 65535))) else (some false)) else (some false)) else (some false)) else (some false)) = some t ∧ (t = true → okFlow p s d a b) := fun P h hP => by
    split
    · split
      · split
        · split
          · exact ⟨_, rfl, fun h5 => ⟨(h hP).1, (h hP).2, by omega, by omega, by have := of_decide_eq_true h5; omega⟩⟩
          · exact ⟨_, rfl, fun h => absurd h (by decide)⟩
        · exact ⟨_, rfl, fun h => absurd h (by decide)⟩
      · exact ⟨_, rfl, fun h => absurd h (by decide)⟩
    · exact ⟨_, rfl, fun h => absurd h (by decide)⟩
  unfold palanquinlaw20_right.f
  by_cases h6 : p = 6
  · rw [if_pos h6]
    by_cases h4 : (s.size : Int) = 4
    · rw [if_pos h4]; exact tail True (fun _ => ⟨.inl h6, .inl (by omega)⟩) trivial
    · rw [if_neg h4]
      by_cases h16 : (s.size : Int) = 16
      · rw [if_pos h16]; exact tail True (fun _ => ⟨.inl h6, .inr (by omega)⟩) trivial
      · rw [if_neg h16]; exact ⟨_, rfl, fun h => absurd h (by decide)⟩
  · rw [if_neg h6]
    by_cases h17 : p = 17
    · rw [if_pos h17]
      by_cases h4 : (s.size : Int) = 4
      · rw [if_pos h4]; exact tail True (fun _ => ⟨.inr h17, .inl (by omega)⟩) trivial
      · rw [if_neg h4]
        by_cases h16 : (s.size : Int) = 16
        · rw [if_pos h16]; exact tail True (fun _ => ⟨.inr h17, .inr (by omega)⟩) trivial
        · rw [if_neg h16]; exact ⟨_, rfl, fun h => absurd h (by decide)⟩
    · rw [if_neg h17]; exact ⟨_, rfl, fun h => absurd h (by decide)⟩
theorem flowText_length (p : Int) (s d : ByteArray) (a b : Int) : (flowText p s d a b).length = 5 + s.size + d.size := by
  unfold flowText; simp only [List.length_append, nb_length, bl_length, ByteArray.size_append]; omega
theorem text_is (p : Int) (s d : ByteArray) (a b : Int) (h : s.size + d.size ≤ 1000) : hash_Text.f p s d a b = some ⟨(flowText p s d a b).toArray⟩ := by
  unfold hash_Text.f; rw [if_pos (by omega)]
theorem text_size (p : Int) (s d : ByteArray) (a b : Int) : (⟨(flowText p s d a b).toArray⟩ : ByteArray).size = 5 + s.size + d.size := by
  rw [← bl_length, hbl_mk, flowText_length]
theorem flow_is (p : Int) (s d : ByteArray) (a b : Int) (h : s.size + d.size ≤ 1000) : hash_Flow.f p s d a b = some ((fnv (flowText p s d a b) : Nat) : Int) := by
  unfold hash_Flow.f
  rw [text_is _ _ _ _ _ h, Option.bind_some, hsum_one _ (by rw [text_size]; omega), hbl_mk]
  rfl
theorem port_num (n : Nat) (h : n < 18446744073709551616) : wrap64 (49152 + wrap64 (Int.tmod (n : Int) 16384)) = ((49152 + n % 16384 : Nat) : Int) := by
  rw [Int.tmod_eq_emod_of_nonneg (by omega), show ((n : Int) % 16384) = ((n % 16384 : Nat) : Int) by omega]
  have : n % 16384 < 16384 := Nat.mod_lt _ (by decide)
  generalize n % 16384 = m at this ⊢
  unfold wrap64; omega
theorem port_is (p : Int) (s d : ByteArray) (a b : Int) (h : s.size + d.size ≤ 1000) : hash_Port.f p s d a b = some ((49152 + fnv (flowText p s d a b) % 16384 : Nat) : Int) := by
  unfold hash_Port.f
  rw [flow_is _ _ _ _ _ h, Option.bind_some, port_num _ (fnv_lt _)]
theorem nb_inj {m : Nat} {x y : Nat} (h : nb m x = nb m y) (hx : x < 256 ^ m) (hy : y < 256 ^ m) : x = y := by
  have := congrArg be h
  rwa [be_nb, be_nb, Nat.mod_eq_of_lt hx, Nat.mod_eq_of_lt hy] at this
theorem u64n_of' {a : Int} (h0 : 0 ≤ a) (h1 : a ≤ 18446744073709551615) : u64n a = a.toNat := by
  unfold u64n; rw [IntKind.wrap_u64]; omega
/-- Unlike flows have unlike texts. -/
theorem flowText_inj {p p' : Int} {s d s' d' : ByteArray} {a b a' b' : Int} (h : okFlow p s d a b) (h' : okFlow p' s' d' a' b') (e : flowText p s d a b = flowText p' s' d' a' b') : p = p' ∧ s = s' ∧ d = d' ∧ a = a' ∧ b = b' := by
  obtain ⟨hp, hs, hd, ha, hb⟩ := h
  obtain ⟨hp', hs', hd', ha', hb'⟩ := h'
  have hl := congrArg List.length e
  rw [flowText_length, flowText_length] at hl
  have sz : s.size = s'.size := by omega
  unfold flowText at e
  obtain ⟨e, eb⟩ := List.append_inj e (by simp only [List.length_append, nb_length, bl_length, ByteArray.size_append]; omega)
  obtain ⟨e, ea⟩ := List.append_inj e (by simp only [List.length_append, nb_length, bl_length, ByteArray.size_append]; omega)
  obtain ⟨ep, e⟩ := List.append_inj e (by simp only [nb_length])
  rw [bl_append, bl_append] at e
  obtain ⟨es, ed⟩ := List.append_inj e (by simp only [bl_length]; exact sz)
  rw [u64n_of' (by omega) (by omega), u64n_of' (by omega) (by omega)] at eb ea ep
  have q1 := nb_inj eb (by omega) (by omega)
  have q2 := nb_inj ea (by omega) (by omega)
  have q3 := nb_inj ep (by omega) (by omega)
  exact ⟨by omega, hbl_inj es, hbl_inj ed, by omega, by omega⟩
end Go.Proofs.Ytejmipoolbodgaa.Pure
