/- Plain theory: what a walk over options yields, one behind the other. No program in it. -/
import Derived.Test.YtejmipoolbodgaaPTcpF
namespace Go.Proofs.Ytejmipoolbodgaa.Pal
/-- What is yielded from i on: each option's place and bytes; -1 where they aren't right. -/
def itemsF : Nat → ByteArray → Nat → List (Int × ByteArray)
  | 0, _, _ => []
  | k + 1, s, i => if i < (bl s).length ∧ (bl s).getD i 0 ≠ 0 then (match optLen (bl s) i with | none => [(-1, ⟨#[]⟩)] | some n => ((i : Int), s.extract i (i + n)) :: itemsF k s (i + n)) else []
theorem itemsF_fuel (s : ByteArray) : ∀ (k k' i : Nat), (bl s).length < k + i → (bl s).length < k' + i → itemsF k s i = itemsF k' s i
  | 0, 0, _, _, _ => rfl
  | 0, k' + 1, i, h, _ => by rw [itemsF, itemsF, if_neg (by omega)]
  | k + 1, 0, i, _, h => by rw [itemsF, itemsF, if_neg (by omega)]
  | k + 1, k' + 1, i, h, h' => by
    rw [itemsF, itemsF]
    by_cases c : i < (bl s).length ∧ (bl s).getD i 0 ≠ 0
    · rw [if_pos c, if_pos c]
      cases ho : optLen (bl s) i with
      | none => rfl
      | some n =>
        have hb := optLen_bound c.1 ho
        simp only
        rw [itemsF_fuel s k k' (i + n) (by omega) (by omega)]
    · rw [if_neg c, if_neg c]
def items (s : ByteArray) (i : Nat) : List (Int × ByteArray) := itemsF ((bl s).length + 1) s i
theorem items_end {s : ByteArray} {i : Nat} (h : ¬ (i < (bl s).length ∧ (bl s).getD i 0 ≠ 0)) : items s i = [] := by unfold items; rw [itemsF, if_neg h]
theorem items_bad {s : ByteArray} {i : Nat} (h : i < (bl s).length ∧ (bl s).getD i 0 ≠ 0) (ho : optLen (bl s) i = none) : items s i = [(-1, ⟨#[]⟩)] := by unfold items; rw [itemsF, if_pos h, ho]
theorem items_step {s : ByteArray} {i n : Nat} (h : i < (bl s).length ∧ (bl s).getD i 0 ≠ 0) (ho : optLen (bl s) i = some n) : items s i = ((i : Int), s.extract i (i + n)) :: items s (i + n) := by
  have hb := optLen_bound h.1 ho
  unfold items
  rw [itemsF, if_pos h, ho]
  simp only
  rw [itemsF_fuel s (bl s).length ((bl s).length + 1) (i + n) (by omega) (by omega)]
def itemOf (s : ByteArray) (p : Nat × Nat) : Int × ByteArray := ((p.1 : Int), s.extract p.1 (p.1 + p.2))
/-- Options that are right are yielded as they are walked. -/
theorem items_right (s : ByteArray) : ∀ i L, W (bl s) i = some L → items s i = L.map (itemOf s) := by
  refine W_ind (P := fun i => ∀ L, W (bl s) i = some L → items s i = L.map (itemOf s)) (bl s) fun i ih L h => ?_
  rcases W_cons h with ⟨c, rfl⟩ | ⟨c, n, L', ho, hw, rfl⟩
  · exact items_end c
  · have hb := optLen_bound c.1 ho
    rw [items_step c ho, ih n hb.1 c.1 L' hw]; rfl
theorem items_wrong (s : ByteArray) : ∀ i, W (bl s) i = none → ∃ L : List (Nat × Nat), items s i = L.map (itemOf s) ++ [(-1, ⟨#[]⟩)] := by
  refine W_ind (P := fun i => W (bl s) i = none → ∃ L : List (Nat × Nat), items s i = L.map (itemOf s) ++ [(-1, ⟨#[]⟩)]) (bl s) fun i ih h => ?_
  by_cases c : i < (bl s).length ∧ (bl s).getD i 0 ≠ 0
  · cases ho : optLen (bl s) i with
    | none => exact ⟨[], items_bad c ho⟩
    | some n =>
      have hb := optLen_bound c.1 ho
      rw [W_step c, ho, Option.bind_some] at h
      obtain ⟨L, hL⟩ := ih n hb.1 c.1 (by cases hw : W (bl s) (i + n) with | none => rfl | some M => rw [hw] at h; exact absurd h (by simp))
      exact ⟨(i, n) :: L, by rw [items_step c ho, hL]; rfl⟩
  · rw [W_end c] at h; exact absurd h (by simp)
/-- Right: none of what is yielded has a place below 0. -/
theorem items_all (s : ByteArray) : rightO (bl s) = true ↔ ∀ x ∈ items s 0, ¬ x.1 < 0 := by
  unfold rightO
  cases hw : W (bl s) 0 with
  | some L =>
    rw [items_right s 0 L hw]
    refine ⟨fun _ x hx => ?_, fun _ => rfl⟩
    obtain ⟨p, _, rfl⟩ := List.mem_map.mp hx
    unfold itemOf; dsimp only; omega
  | none =>
    obtain ⟨L, hL⟩ := items_wrong s 0 hw
    rw [hL]
    refine ⟨fun h => absurd h (by simp), fun h => absurd (h (-1, ⟨#[]⟩) (by simp)) (by decide)⟩
end Go.Proofs.Ytejmipoolbodgaa.Pal
