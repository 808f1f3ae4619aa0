/- Plain theory of TCP options: where each one begins, and how long it is. No program in it. -/
import Derived.Test.YtejmipoolbodgaaPNum
namespace Go.Proofs.Ytejmipoolbodgaa.Pal
/-- How long the option is that begins at i; none: it isn't right. -/
def optLen (l : List UInt8) (i : Nat) : Option Nat :=
  if l.getD i 0 = 1 then some 1 else if i + 1 = l.length ∨ (l.getD (i + 1) 0).toNat < 2 ∨ l.length < i + (l.getD (i + 1) 0).toNat then none else some (l.getD (i + 1) 0).toNat
/-- The options from i on, by so many steps: where each begins, how long it is; none: they aren't right. -/
def walkO : Nat → List UInt8 → Nat → Option (List (Nat × Nat))
  | 0, _, _ => some []
  | k + 1, l, i => if i < l.length ∧ l.getD i 0 ≠ 0 then (optLen l i).bind fun n => (walkO k l (i + n)).map ((i, n) :: ·) else some []
theorem optLen_bound {l : List UInt8} {i n : Nat} (hi : i < l.length) (h : optLen l i = some n) : 1 ≤ n ∧ i + n ≤ l.length := by
  unfold optLen at h
  split at h
  · obtain rfl := Option.some.inj h; omega
  · split at h
    · exact absurd h (by simp)
    · rename_i h1
      obtain rfl := Option.some.inj h
      omega
theorem walkO_fuel (l : List UInt8) : ∀ (k k' i : Nat), l.length < k + i → l.length < k' + i → walkO k l i = walkO k' l i
  | 0, 0, _, _, _ => rfl
  | 0, k' + 1, i, h, _ => by rw [walkO, walkO, if_neg (by omega)]
  | k + 1, 0, i, _, h => by rw [walkO, walkO, if_neg (by omega)]
  | k + 1, k' + 1, i, h, h' => by
    rw [walkO, walkO]
    by_cases c : i < l.length ∧ l.getD i 0 ≠ 0
    · rw [if_pos c, if_pos c]
      cases ho : optLen l i with
      | none => rfl
      | some n =>
        have hb := optLen_bound c.1 ho
        rw [Option.bind_some, Option.bind_some, walkO_fuel l k k' (i + n) (by omega) (by omega)]
    · rw [if_neg c, if_neg c]
def W (l : List UInt8) (i : Nat) : Option (List (Nat × Nat)) := walkO (l.length + 1) l i
theorem W_end {l : List UInt8} {i : Nat} (h : ¬ (i < l.length ∧ l.getD i 0 ≠ 0)) : W l i = some [] := by unfold W; rw [walkO, if_neg h]
theorem W_step {l : List UInt8} {i : Nat} (h : i < l.length ∧ l.getD i 0 ≠ 0) : W l i = (optLen l i).bind fun n => (W l (i + n)).map ((i, n) :: ·) := by
  unfold W
  rw [walkO, if_pos h]
  cases ho : optLen l i with
  | none => rfl
  | some n =>
    have hb := optLen_bound h.1 ho
    rw [Option.bind_some, Option.bind_some, walkO_fuel l l.length (l.length + 1) (i + n) (by omega) (by omega)]
/-- By what is left. -/
theorem W_ind {P : Nat → Prop} (l : List UInt8) (h : ∀ i, (∀ n, 1 ≤ n → i < l.length → P (i + n)) → P i) : ∀ i, P i := by
  have : ∀ (m i : Nat), l.length ≤ m + i → P i := by
    intro m
    induction m with
    | zero => intro i hi; exact h i fun n _ hl => absurd hl (by omega)
    | succ m ih => intro i hi; exact h i fun n hn hl => ih (i + n) (by omega)
  exact fun i => this l.length i (by omega)
/-- A walk that is right, step by step. -/
theorem W_cons {l : List UInt8} {i : Nat} {L : List (Nat × Nat)} (h : W l i = some L) :
    (¬ (i < l.length ∧ l.getD i 0 ≠ 0) ∧ L = []) ∨ ((i < l.length ∧ l.getD i 0 ≠ 0) ∧ ∃ n L', optLen l i = some n ∧ W l (i + n) = some L' ∧ L = (i, n) :: L') := by
  by_cases c : i < l.length ∧ l.getD i 0 ≠ 0
  · rw [W_step c] at h
    cases ho : optLen l i with
    | none => rw [ho] at h; exact absurd h (by simp)
    | some n =>
      rw [ho, Option.bind_some] at h
      cases hw : W l (i + n) with
      | none => rw [hw] at h; exact absurd h (by simp)
      | some L' =>
        rw [hw] at h
        exact .inr ⟨c, n, L', rfl, hw, (Option.some.inj h).symm⟩
  · rw [W_end c] at h
    exact .inl ⟨c, (Option.some.inj h).symm⟩
/-- What is told of an option hangs on its bytes alone. -/
theorem optLen_like {l l' : List UInt8} {i j n : Nat} (ho : optLen l i = some n) (h0 : l'.getD j 0 = l.getD i 0) (h1 : 2 ≤ n → l'.getD (j + 1) 0 = l.getD (i + 1) 0) (hn : j + n ≤ l'.length) (hj : j < l'.length) : optLen l' j = some n := by
  unfold optLen at ho ⊢
  rw [h0]
  split at ho
  · rename_i h; rw [if_pos h]; exact ho
  · rename_i h
    rw [if_neg h]
    split at ho
    · exact absurd ho (by simp)
    · rename_i h2
      have e := Option.some.inj ho
      rw [h1 (by omega), if_neg (by omega)]
      exact ho
theorem optLen_none_like {l l' : List UInt8} {i j : Nat} (ho : optLen l i = none) (h0 : l'.getD j 0 = l.getD i 0) (h1 : i + 1 < l.length → l'.getD (j + 1) 0 = l.getD (i + 1) 0) (hl : l'.length + i = l.length + j) (hi : i < l.length) : optLen l' j = none := by
  unfold optLen at ho ⊢
  rw [h0]
  split at ho
  · exact absurd ho (by simp)
  · rename_i h
    rw [if_neg h]
    split at ho
    · rename_i h2
      rw [if_pos ?_]
      by_cases h3 : i + 1 = l.length
      · exact .inl (by omega)
      · rw [h1 (by omega)]; omega
    · exact absurd ho (by simp)
/-- The same bytes from there on, to the end: the same options. -/
theorem W_shift {l l' : List UInt8} (d : Nat) (hl : l'.length = l.length + d) : ∀ i, (∀ j, i ≤ j → l'.getD (j + d) 0 = l.getD j 0) → W l' (i + d) = (W l i).map (·.map fun p => (p.1 + d, p.2)) := by
  refine W_ind l fun i ih h => ?_
  by_cases c : i < l.length ∧ l.getD i 0 ≠ 0
  · have c' : i + d < l'.length ∧ l'.getD (i + d) 0 ≠ 0 := ⟨by omega, by rw [h i (Nat.le_refl i)]; exact c.2⟩
    rw [W_step c, W_step c']
    cases ho : optLen l i with
    | none =>
      rw [optLen_none_like ho (h i (Nat.le_refl i)) (fun _ => by rw [← h (i + 1) (by omega)]; congr 1; omega) (by omega) c.1]
      rfl
    | some n =>
      have hb := optLen_bound c.1 ho
      rw [optLen_like ho (h i (Nat.le_refl i)) (fun _ => by rw [← h (i + 1) (by omega)]; congr 1; omega) (by omega) c'.1]
      rw [Option.bind_some, Option.bind_some, show i + d + n = i + n + d by omega, ih n hb.1 c.1 (fun j hj => h j (by omega))]
      cases W l (i + n) <;> rfl
  · have c' : ¬ (i + d < l'.length ∧ l'.getD (i + d) 0 ≠ 0) := fun hh => c ⟨by have := hh.1; omega, by rw [← h i (Nat.le_refl i)]; exact hh.2⟩
    rw [W_end c, W_end c']; rfl
/-- Options that are right, and more behind them. -/
theorem W_append (a b : List UInt8) : ∀ i L, i ≤ a.length → W a i = some L →
    ((∃ j, i ≤ j ∧ j < a.length ∧ a.getD j 0 = 0) ∧ W (a ++ b) i = some L) ∨ W (a ++ b) i = (W (a ++ b) a.length).map (L ++ ·) := by
  refine W_ind (P := fun i => ∀ L, i ≤ a.length → W a i = some L → ((∃ j, i ≤ j ∧ j < a.length ∧ a.getD j 0 = 0) ∧ W (a ++ b) i = some L) ∨ W (a ++ b) i = (W (a ++ b) a.length).map (L ++ ·)) a fun i ih L hi h => ?_
  have g : ∀ j, j < a.length → (a ++ b).getD j 0 = a.getD j 0 := fun j hj => by simp [List.getD_eq_getElem?_getD, List.getElem?_append_left hj]
  rcases W_cons h with ⟨c, rfl⟩ | ⟨c, n, L', ho, hw, rfl⟩
  · by_cases he : i < a.length
    · have h0 : a.getD i 0 = 0 := by
        by_cases h0 : a.getD i 0 = 0
        · exact h0
        · exact absurd ⟨he, h0⟩ c
      exact .inl ⟨⟨i, Nat.le_refl i, he, h0⟩, W_end (by rw [g i he]; exact fun h => h.2 h0)⟩
    · obtain rfl : i = a.length := by omega
      right
      cases W (a ++ b) a.length <;> rfl
  · have hb := optLen_bound c.1 ho
    have ho' : optLen (a ++ b) i = some n := optLen_like ho (g i c.1) (fun h2 => g (i + 1) (by omega)) (by rw [List.length_append]; omega) (by rw [List.length_append]; omega)
    have st := W_step (l := a ++ b) (i := i) ⟨by rw [List.length_append]; omega, by rw [g i c.1]; exact c.2⟩
    rw [ho', Option.bind_some] at st
    rcases ih n hb.1 c.1 L' (by omega) hw with ⟨⟨j, h1, h2, h3⟩, e⟩ | e
    · exact .inl ⟨⟨j, by omega, h2, h3⟩, by rw [st, e]; rfl⟩
    · right
      rw [st, e]
      cases W (a ++ b) a.length <;> rfl
/-- Where an option begins, the ones behind it begin behind its end. -/
theorem W_mem {l : List UInt8} : ∀ i L, W l i = some L → ∀ p ∈ L, i ≤ p.1 ∧ p.1 + p.2 ≤ l.length ∧ 1 ≤ p.2 ∧ optLen l p.1 = some p.2 := by
  refine W_ind (P := fun i => ∀ L, W l i = some L → ∀ p ∈ L, i ≤ p.1 ∧ p.1 + p.2 ≤ l.length ∧ 1 ≤ p.2 ∧ optLen l p.1 = some p.2) l fun i ih L h p hp => ?_
  rcases W_cons h with ⟨c, rfl⟩ | ⟨c, n, L', ho, hw, rfl⟩
  · exact absurd hp (by simp)
  · have hb := optLen_bound c.1 ho
    rcases List.mem_cons.1 hp with rfl | hp
    · exact ⟨Nat.le_refl _, hb.2, hb.1, ho⟩
    · have := ih n hb.1 c.1 L' hw p hp
      exact ⟨by omega, this.2⟩
/-- Cut off ahead of an option, the ones ahead of it are right. -/
theorem W_take (l : List UInt8) (L2 : List (Nat × Nat)) (q m : Nat) : ∀ i L1, W l i = some (L1 ++ (q, m) :: L2) → W (l.take q) i = some L1 := by
  refine W_ind (P := fun i => ∀ L1, W l i = some (L1 ++ (q, m) :: L2) → W (l.take q) i = some L1) l fun i ih L1 h => ?_
  have hq := W_mem i _ h (q, m) (by simp)
  have lt : (l.take q).length = q := by rw [List.length_take]; omega
  rcases W_cons h with ⟨c, e⟩ | ⟨c, n, L', ho, hw, e⟩
  · exact absurd e (by simp)
  · cases L1 with
    | nil =>
      obtain ⟨e1, e2⟩ := List.cons.inj e
      obtain ⟨rfl, rfl⟩ := Prod.mk.inj e1
      exact W_end (by rw [lt]; omega)
    | cons p L1 =>
      obtain ⟨rfl, e2⟩ := List.cons.inj e
      have hb := optLen_bound c.1 ho
      subst e2
      have hq' := W_mem (i + n) _ hw (q, m) (by simp)
      have g : ∀ j, j < q → (l.take q).getD j 0 = l.getD j 0 := fun j hj => by simp [List.getD_eq_getElem?_getD, List.getElem?_take, hj]
      dsimp only at hq hq'
      have ho' : optLen (l.take q) i = some n := optLen_like ho (g i (by omega)) (fun h2 => g (i + 1) (by omega)) (by omega) (by omega)
      rw [W_step (l := l.take q) (i := i) ⟨by omega, by rw [g i (by omega)]; exact c.2⟩, ho', Option.bind_some, ih n hb.1 c.1 L1 hw]
      rfl
/-- Another number in an option of four bytes changes nothing of where they begin. -/
theorem W_put (l l' : List UInt8) (hl : l'.length = l.length) (q : Nat) (hag : ∀ j, j < q + 2 ∨ q + 4 ≤ j → l'.getD j 0 = l.getD j 0) : ∀ i L, W l i = some L → (q, 4) ∈ L → W l' i = some L := by
  refine W_ind (P := fun i => ∀ L, W l i = some L → (q, 4) ∈ L → W l' i = some L) l fun i ih L h hm => ?_
  rcases W_cons h with ⟨c, rfl⟩ | ⟨c, n, L', ho, hw, rfl⟩
  · exact absurd hm (by simp)
  · have hb := optLen_bound c.1 ho
    have hq := W_mem i _ h (q, 4) hm
    dsimp only at hq
    rcases List.mem_cons.1 hm with e | hm'
    · obtain ⟨rfl, rfl⟩ := Prod.mk.inj e
      have ho' : optLen l' q = some 4 := optLen_like ho (hag q (by omega)) (fun _ => hag (q + 1) (by omega)) (by omega) (by omega)
      have e2 : W l' (q + 4) = W l (q + 4) := by
        have := W_shift (l := l) (l' := l') 0 hl (q + 4) (fun j hj => hag j (by omega))
        rw [Nat.add_zero] at this
        rw [this]
        cases W l (q + 4) <;> simp
      rw [W_step (l := l') (i := q) ⟨by omega, by rw [hag q (by omega)]; exact c.2⟩, ho', Option.bind_some, e2, hw]
      rfl
    · have hq' := W_mem (i + n) _ hw (q, 4) hm'
      dsimp only at hq'
      have ho' : optLen l' i = some n := optLen_like ho (hag i (by omega)) (fun _ => hag (i + 1) (by omega)) (by omega) (by omega)
      rw [W_step (l := l') (i := i) ⟨by omega, by rw [hag i (by omega)]; exact c.2⟩, ho', Option.bind_some, ih n hb.1 c.1 L' hw hm']
      rfl
/-- Is that option an MSS? -/
def isMSS (l : List UInt8) (p : Nat × Nat) : Bool := l.getD p.1 0 == 2 && p.2 == 4
/-- The number of an MSS, and where it stands. -/
def mssAt (l : List UInt8) (p : Nat × Nat) : Nat × Nat := ((l.getD (p.1 + 2) 0).toNat * 256 + (l.getD (p.1 + 3) 0).toNat, p.1 + 2)
def mssOf (l : List UInt8) : Option (Nat × Nat) := (W l 0).bind fun L => (L.find? (isMSS l)).map (mssAt l)
def rightO (l : List UInt8) : Bool := (W l 0).isSome
end Go.Proofs.Ytejmipoolbodgaa.Pal
