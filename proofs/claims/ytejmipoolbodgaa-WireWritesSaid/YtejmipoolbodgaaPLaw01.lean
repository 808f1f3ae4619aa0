/- Plain: law01's printed helpers: few, stops, answers; the document's Read is 'reads'. -/
import Derived.Test.YtejmipoolbodgaaPReads
import Derived.Test.YtejmipoolbodgaaPRef01
import Derived.Test.YtejmipoolbodgaaGlaw01
import Derived.Test.YtejmipoolbodgaaGref01q1
namespace Go.Proofs.Ytejmipoolbodgaa.Pure
open Go.RowKit Go.Proofs.YtejmipoolbodgaaW.PrintWords Go.Proofs.YtejmipoolbodgaaW.PrintLast Go.Proofs.Ytejmipoolbodgaa.G Go.Proofs.Ytejmipoolbodgaa.Pal
set_option linter.unusedVariables false
theorem few_loop (l : List S87) : ∀ (m i k : Nat) (n : Int), i + m = 101 → m < k → ∃ b, palanquinlaw01_few.l0 k l n (i : Int) = some b ∧ (b = true → l.length ≤ 101)
  | 0, i, k + 1, n, hi, _ => by
    rw [palanquinlaw01_few.l0]
    by_cases h : (i : Int) < (l.length : Int)
    · rw [if_pos h, if_pos (by omega)]
      split
      · exact ⟨_, rfl, by simp⟩
      · rw [if_pos (by omega)]
        exact ⟨_, rfl, by simp⟩
    · rw [if_neg h]
      exact ⟨_, rfl, fun _ => by omega⟩
  | m + 1, i, k + 1, n, hi, hk => by
    rw [palanquinlaw01_few.l0]
    by_cases h : (i : Int) < (l.length : Int)
    · rw [if_pos h, if_pos (by omega)]
      split
      · exact ⟨_, rfl, by simp⟩
      · rw [if_neg (by omega), show wrap64 ((i : Int) + 1) = ((i + 1 : Nat) : Int) by unfold wrap64; omega]
        exact few_loop l m (i + 1) k _ (by omega) (by omega)
    · rw [if_neg h]
      exact ⟨_, rfl, fun _ => by omega⟩
theorem few_is (l : List S87) (k : Nat) (hk : 101 < k) : ∃ b, palanquinlaw01_few.f k l = some b ∧ (b = true → l.length ≤ 101) := few_loop l 101 0 k 0 (by omega) hk
theorem few_loop2 (l : List S87) (hb : ∀ c ∈ l, c.f3.size ≤ 140737488351232) : ∀ (m i k n : Nat), i + m = 101 → m < k → n ≤ 5000 → ∃ b, palanquinlaw01_few.l0 k l (n : Int) (i : Int) = some b ∧ (b = true → l.length ≤ 101 ∧ ∀ c ∈ l.drop i, c.f3.size ≤ 5000)
  | 0, i, k + 1, n, hi, _, _ => by
    rw [palanquinlaw01_few.l0]
    by_cases h : (i : Int) < (l.length : Int)
    · rw [if_pos h, if_pos (by omega)]
      split
      · exact ⟨_, rfl, by simp⟩
      · rw [if_pos (by omega)]
        exact ⟨_, rfl, by simp⟩
    · rw [if_neg h]
      exact ⟨_, rfl, fun _ => ⟨by omega, by rw [List.drop_eq_nil_of_le (by omega)]; simp⟩⟩
  | m + 1, i, k + 1, n, hi, hk, hn => by
    rw [palanquinlaw01_few.l0]
    by_cases h : (i : Int) < (l.length : Int)
    · have hlt : i < l.length := by omega
      have hs := hb _ (List.getElem_mem hlt)
      have e : rd_T87 l (i : Int) = l[i] := by simp [rd_T87, List.getD_eq_getElem?_getD, hlt]
      rw [if_pos h, if_pos (by omega), e]
      have hw : wrap64 ((n : Int) + (l[i].f3.size : Int)) = ((n + l[i].f3.size : Nat) : Int) := by unfold wrap64; omega
      rw [hw]
      split
      · exact ⟨_, rfl, by simp⟩
      · rename_i h5
        rw [if_neg (by omega), show wrap64 ((i : Int) + 1) = ((i + 1 : Nat) : Int) by unfold wrap64; omega]
        obtain ⟨b, hb1, hB⟩ := few_loop2 l hb m (i + 1) k (n + l[i].f3.size) (by omega) (by omega) (by omega)
        refine ⟨b, hb1, fun ht => ⟨(hB ht).1, ?_⟩⟩
        rw [List.drop_eq_getElem_cons hlt]
        intro c hc
        rcases List.mem_cons.1 hc with rfl | hc
        · omega
        · exact (hB ht).2 c hc
    · rw [if_neg h]
      exact ⟨_, rfl, fun _ => ⟨by omega, by rw [List.drop_eq_nil_of_le (by omega)]; simp⟩⟩
theorem few_is2 (l : List S87) (hb : ∀ c ∈ l, c.f3.size ≤ 140737488351232) (k : Nat) (hk : 101 < k) : ∃ b, palanquinlaw01_few.f k l = some b ∧ (b = true → l.length ≤ 101 ∧ ∀ c ∈ l, c.f3.size ≤ 5000) := few_loop2 l hb 101 0 k 0 (by omega) hk (by omega)
theorem rd_getElem (l : List S87) (j : Nat) (hj : j < l.length) : rd_T87 l (j : Int) = l[j] := by simp [rd_T87, List.getD_eq_getElem?_getD, hj]
theorem stops_loop (l : List S87) (hl : l.length ≤ 101) : ∀ (m i k : Nat), i + m = l.length → m < k → ∃ b, palanquinlaw01_stops.l0 k l (i : Int) = some b ∧ (b = false → ∀ j, i ≤ j → j < l.length → (rd_T87 l (j : Int)).f0 < 0 ∨ 5 < (rd_T87 l (j : Int)).f0 → (rd_T87 l (j : Int)).f1 ≠ 0)
  | 0, i, k + 1, hi, _ => by
    rw [palanquinlaw01_stops.l0, if_neg (by omega)]
    exact ⟨_, rfl, fun _ j h1 h2 => by omega⟩
  | m + 1, i, k + 1, hi, hk => by
    obtain ⟨b, hb, hB⟩ := stops_loop l hl m (i + 1) k (by omega) (by omega)
    rw [palanquinlaw01_stops.l0, if_pos (by omega), if_pos (by omega), show wrap64 ((i : Int) + 1) = ((i + 1 : Nat) : Int) by unfold wrap64; omega, hb]
    have go : ((rd_T87 l (i : Int)).f0 < 0 ∨ 5 < (rd_T87 l (i : Int)).f0 → (rd_T87 l (i : Int)).f1 ≠ 0) → (b = false → ∀ j, i ≤ j → j < l.length → (rd_T87 l (j : Int)).f0 < 0 ∨ 5 < (rd_T87 l (j : Int)).f0 → (rd_T87 l (j : Int)).f1 ≠ 0) := fun h0 hbb j h1 h2 h3 => by
      by_cases e : j = i
      · subst e; exact h0 h3
      · exact hB hbb j (by omega) h2 h3
    split
    · split
      · exact ⟨_, rfl, by simp⟩
      · rename_i h
        exact ⟨_, rfl, go (fun _ => h)⟩
    · split
      · split
        · exact ⟨_, rfl, by simp⟩
        · rename_i h
          exact ⟨_, rfl, go (fun _ => h)⟩
      · rename_i h1 h2
        exact ⟨_, rfl, go (fun h => by omega)⟩
theorem stops_is (l : List S87) (hl : l.length ≤ 101) (k : Nat) (hk : 101 < k) : ∃ b, palanquinlaw01_stops.f k l = some b ∧ (b = false → noOK l) := by
  obtain ⟨b, hb, h⟩ := stops_loop l hl l.length 0 k (by omega) (by omega)
  refine ⟨b, hb, fun e c hc hbad => ?_⟩
  obtain ⟨j, hj, rfl⟩ := List.getElem_of_mem hc
  rw [← rd_getElem l j hj] at hbad ⊢
  exact h e j (Nat.zero_le _) hj hbad
theorem answers_loop (l : List S90) : ∀ (m i k : Nat), i + m = l.length → m < k → l.length ≤ 1000 → palanquinlaw01_answers.l0 k l l (i : Int) = some true
  | 0, i, k + 1, hi, _, _ => by rw [palanquinlaw01_answers.l0, if_neg (by omega)]
  | m + 1, i, k + 1, hi, hk, hl => by
    rw [palanquinlaw01_answers.l0, if_pos (by omega), if_pos (by omega), if_pos (by omega), show wrap64 ((i : Int) + 1) = ((i + 1 : Nat) : Int) by unfold wrap64; omega, answers_loop l m (i + 1) k (by omega) (by omega) hl]
    simp
theorem answers_is (l : List S90) (hl : l.length ≤ 1000) (k : Nat) (hk : l.length < k) : palanquinlaw01_answers.f k l l = some true := by
  unfold palanquinlaw01_answers.f
  rw [if_pos rfl]
  exact answers_loop l l.length 0 k (by omega) hk hl

/-! The document's Read. -/
theorem j3_num (k : Nat) (s : ByteArray) (l : List S87) (out : List S90) (n j z : Nat) (f0 f1 f2 : Int) (f3 : ByteArray) (hs : s.size ≤ 140737488351232) (ho : out.length ≤ 1000) (hj : j ≤ 1000) (hz : n + z ≤ s.size) (h8 : z ≤ 8) (h0 : 0 ≤ f0) (h3 : f0 ≤ 3) (hk : 9 < k) :
    palanquinref01_Read.j3 (k + 1) s l out (n : Int) (j : Int) (z : Int) false f0 f1 f2 f3 0 ⟨#[]⟩ 0 0 = palanquinref01_Read.l0 k s l (out ++ [⟨(be (bl (s.extract n (n + z))) : Nat), ⟨#[]⟩, ((n + z : Nat) : Int), (s.size : Int) - ((n + z : Nat) : Int)⟩]) ((n + z : Nat) : Int) ((j + 1 : Nat) : Int) := by
  have e1 : wrap64 ((n : Int) + (z : Int)) = ((n + z : Nat) : Int) := by unfold wrap64; omega
  have e2 : wrap64 ((s.size : Int) - ((n + z : Nat) : Int)) = (s.size : Int) - ((n + z : Nat) : Int) := by unfold wrap64; omega
  have e3 : wrap64 ((j : Int) + 1) = ((j + 1 : Nat) : Int) := by unfold wrap64; omega
  have hv := value_is (s.extract n (n + z)) (by simp only [ByteArray.size_extract]; omega) k (by simp only [ByteArray.size_extract]; omega)
  rw [palanquinref01_Read.j3, if_neg (by decide), e1, e2, e3, if_pos (by omega), if_pos (by omega), if_pos (by omega), if_pos (by omega), if_pos (by omega), Int.toNat_natCast, Int.toNat_natCast, hv, Option.bind_some, if_pos (by omega)]
theorem j3_txt (k : Nat) (s : ByteArray) (l : List S87) (out : List S90) (n j z : Nat) (f0 f1 f2 : Int) (f3 : ByteArray) (hs : s.size ≤ 140737488351232) (ho : out.length ≤ 1000) (hj : j ≤ 1000) (hz : n + z ≤ s.size) (h0 : f0 < 0 ∨ 3 < f0) :
    palanquinref01_Read.j3 (k + 1) s l out (n : Int) (j : Int) (z : Int) false f0 f1 f2 f3 0 ⟨#[]⟩ 0 0 = palanquinref01_Read.l0 k s l (out ++ [⟨0, s.extract n (n + z), ((n + z : Nat) : Int), (s.size : Int) - ((n + z : Nat) : Int)⟩]) ((n + z : Nat) : Int) ((j + 1 : Nat) : Int) := by
  have e1 : wrap64 ((n : Int) + (z : Int)) = ((n + z : Nat) : Int) := by unfold wrap64; omega
  have e2 : wrap64 ((s.size : Int) - ((n + z : Nat) : Int)) = (s.size : Int) - ((n + z : Nat) : Int) := by unfold wrap64; omega
  have e3 : wrap64 ((j : Int) + 1) = ((j + 1 : Nat) : Int) := by unfold wrap64; omega
  rw [palanquinref01_Read.j3, if_neg (by decide), e1, e2, e3, if_pos (by omega), if_pos (by omega), if_pos (by omega), Int.toNat_natCast, Int.toNat_natCast]
  by_cases h : f0 ≥ 0
  · rw [if_pos h, if_neg (by omega), if_pos (by omega)]
  · rw [if_neg h, if_pos (by omega)]
theorem j2_no (k : Nat) (s : ByteArray) (l : List S87) (out : List S90) (n j : Nat) (x f0 f1 f2 : Int) (f3 : ByteArray) (hs : s.size ≤ 140737488351232) (hn : n ≤ s.size) (hx : x < 0 ∨ (s.size : Int) - n < x) :
    palanquinref01_Read.j2 (k + 2) s l out (n : Int) (j : Int) x f0 f1 f2 f3 0 ⟨#[]⟩ 0 0 = some (out, 2) := by
  have e2 : wrap64 ((s.size : Int) - (n : Int)) = (s.size : Int) - (n : Int) := by unfold wrap64; omega
  rw [palanquinref01_Read.j2, e2]
  by_cases h : x < 0
  · rw [if_pos h, palanquinref01_Read.j3, if_pos rfl]
  · rw [if_neg h, decide_eq_true (show x > (s.size : Int) - (n : Int) by omega), palanquinref01_Read.j3, if_pos rfl]
theorem j2_yes (k : Nat) (s : ByteArray) (l : List S87) (out : List S90) (n j z : Nat) (f0 f1 f2 : Int) (f3 : ByteArray) (hs : s.size ≤ 140737488351232) (hz : n + z ≤ s.size) :
    palanquinref01_Read.j2 (k + 1) s l out (n : Int) (j : Int) (z : Int) f0 f1 f2 f3 0 ⟨#[]⟩ 0 0 = palanquinref01_Read.j3 k s l out (n : Int) (j : Int) (z : Int) false f0 f1 f2 f3 0 ⟨#[]⟩ 0 0 := by
  have e2 : wrap64 ((s.size : Int) - (n : Int)) = (s.size : Int) - (n : Int) := by unfold wrap64; omega
  rw [palanquinref01_Read.j2, e2, if_neg (by omega), decide_eq_false (show ¬ ((z : Int) > (s.size : Int) - (n : Int)) by omega)]
/-- One call of the document's Read. -/
theorem read_step (k : Nat) (s : ByteArray) (l : List S87) (out : List S90) (n j : Nat) (hs : s.size ≤ 140737488351232) (hn : n ≤ s.size) (hj : j < l.length) (hl : l.length ≤ 101) (ho : out.length ≤ j) (hk : 9 < k) (h2 : 0 ≤ (rd_T87 l (j : Int)).f2) :
    palanquinref01_Read.l0 (k + 4) s l out (n : Int) (j : Int) = match told s n (rd_T87 l (j : Int)) with
      | .ok a m => palanquinref01_Read.l0 k s l (out ++ [a]) (m : Int) ((j + 1 : Nat) : Int)
      | .stop e => some (out, e) := by
  rw [palanquinref01_Read.l0, if_pos (by omega), if_pos (by omega)]
  generalize rd_T87 l (j : Int) = q at h2 ⊢
  have num : ∀ z : Nat, z ≤ 8 → 0 ≤ q.f0 → q.f0 ≤ 3 → palanquinref01_Read.j2 (k + 2) s l out (n : Int) (j : Int) (z : Int) q.f0 q.f1 q.f2 q.f3 0 ⟨#[]⟩ 0 0 = match numT s n z with
      | .ok a m => palanquinref01_Read.l0 k s l (out ++ [a]) (m : Int) ((j + 1 : Nat) : Int)
      | .stop e => some (out, e) := by
    intro z h8 h0 h3
    by_cases hz : n + z ≤ s.size
    · rw [numT_ok hz, j2_yes _ _ _ _ _ _ _ _ _ _ _ hs hz, j3_num _ _ _ _ _ _ _ _ _ _ _ hs (by omega) (by omega) hz h8 h0 h3 hk]
    · rw [numT_no (by omega), j2_no _ _ _ _ _ _ _ _ _ _ _ hs hn (by omega)]
  by_cases k0 : q.f0 = 0
  · rw [told_0 k0, if_pos (by omega), decide_eq_true (by omega), palanquinref01_Read.j1, if_pos rfl, palanquinref01_Size.f, if_pos k0, Option.bind_some]
    exact num 1 (by omega) (by omega) (by omega)
  by_cases k1 : q.f0 = 1
  · rw [told_1 k1, if_pos (by omega), decide_eq_true (by omega), palanquinref01_Read.j1, if_pos rfl, palanquinref01_Size.f, if_neg k0, if_pos k1, Option.bind_some]
    exact num 2 (by omega) (by omega) (by omega)
  by_cases k2 : q.f0 = 2
  · rw [told_2 k2, if_pos (by omega), decide_eq_true (by omega), palanquinref01_Read.j1, if_pos rfl, palanquinref01_Size.f, if_neg k0, if_neg k1, if_pos k2, Option.bind_some]
    exact num 4 (by omega) (by omega) (by omega)
  by_cases k3 : q.f0 = 3
  · rw [told_3 k3, if_pos (by omega), decide_eq_true (by omega), palanquinref01_Read.j1, if_pos rfl, palanquinref01_Size.f, if_neg k0, if_neg k1, if_neg k2, Option.bind_some]
    exact num 8 (by omega) (by omega) (by omega)
  have hx : (if q.f0 ≥ 0 then palanquinref01_Read.j1 (k + 3) s l out (n : Int) (j : Int) 0 (decide (q.f0 ≤ 3)) q.f0 q.f1 q.f2 q.f3 0 ⟨#[]⟩ 0 0 else palanquinref01_Read.j1 (k + 3) s l out (n : Int) (j : Int) 0 false q.f0 q.f1 q.f2 q.f3 0 ⟨#[]⟩ 0 0) = palanquinref01_Read.j1 (k + 3) s l out (n : Int) (j : Int) 0 false q.f0 q.f1 q.f2 q.f3 0 ⟨#[]⟩ 0 0 := by
    by_cases h : q.f0 ≥ 0
    · rw [if_pos h, decide_eq_false (by omega)]
    · rw [if_neg h]
  rw [hx, palanquinref01_Read.j1, if_neg (by decide)]
  have txt : ∀ z : Nat, n + z ≤ s.size → palanquinref01_Read.j2 (k + 2) s l out (n : Int) (j : Int) (z : Int) q.f0 q.f1 q.f2 q.f3 0 ⟨#[]⟩ 0 0 = palanquinref01_Read.l0 k s l (out ++ [⟨0, s.extract n (n + z), ((n + z : Nat) : Int), (s.size : Int) - ((n + z : Nat) : Int)⟩]) ((n + z : Nat) : Int) ((j + 1 : Nat) : Int) := by
    intro z hz
    rw [j2_yes _ _ _ _ _ _ _ _ _ _ _ hs hz, j3_txt _ _ _ _ _ _ _ _ _ _ _ hs (by omega) (by omega) hz (by omega)]
  by_cases k4 : q.f0 = 4
  · rw [if_pos k4]
    by_cases hz : q.f1 < 0 ∨ (s.size : Int) < n + q.f1
    · rw [told_4n k4 hz, j2_no _ _ _ _ _ _ _ _ _ _ _ hs hn (by omega)]
    · obtain ⟨i, hi⟩ := Int.eq_ofNat_of_zero_le (show 0 ≤ q.f1 by omega)
      rw [told_4 k4 i hi (by omega), hi]
      have := txt i (by omega)
      rw [hi] at this
      exact this
  by_cases k5 : q.f0 = 5
  · rw [if_neg k4, if_pos k5, told_5 k5, show wrap64 ((s.size : Int) - (n : Int)) = ((s.size - n : Nat) : Int) by unfold wrap64; omega, txt (s.size - n) (by omega), show n + (s.size - n) = s.size by omega]
  rw [if_neg k4, if_neg k5]
  by_cases k7 : Int.tmod q.f2 2 = 0
  · rw [if_neg (by omega), told_6 (by omega) k7]
    have := txt 0 (by omega)
    simp only [Nat.add_zero] at this
    rw [show s.extract n n = ⟨#[]⟩ by apply ByteArray.ext; simp] at this
    exact this
  · have : Int.tmod q.f2 2 = 1 := by rw [Int.tmod_eq_emod_of_nonneg h2] at k7 ⊢; omega
    rw [if_pos this, told_6n (by omega) k7]
theorem read_loop (s : ByteArray) (l : List S87) (hs : s.size ≤ 140737488351232) (hl : l.length ≤ 101) (h2 : ∀ j, j < l.length → 0 ≤ (rd_T87 l (j : Int)).f2) (outs : List S90) (e : Int) : ∀ (m j k n : Nat) (out : List S90), j + m = l.length → 4 * m + 12 < k → n ≤ s.size → out.length ≤ j → RdRest s n (l.drop j) out outs e → palanquinref01_Read.l0 k s l out (n : Int) (j : Int) = some (outs, e)
  | 0, j, k + 1, n, out, hj, _, _, _, hr => by
    have h := hr.done (by omega)
    rw [palanquinref01_Read.l0, if_neg (by omega), h.1, h.2]
  | m + 1, j, k, n, out, hj, hk, hn, ho, hr => by
    obtain ⟨k, rfl⟩ : ∃ q, k = q + 4 := ⟨k - 4, by omega⟩
    rw [read_step k s l out n j hs hn (by omega) hl ho (by omega) (h2 j (by omega))]
    cases hto : told s n (rd_T87 l (j : Int)) with
    | ok a m' => exact read_loop s l hs hl h2 outs e m (j + 1) k m' (out ++ [a]) (by omega) (by omega) (told_at hn hto).2.2 (by rw [List.length_append]; simp; omega) (hr.step (by omega) hto)
    | stop e' =>
      have h := hr.stop (by omega) hto
      rw [← h.1, ← h.2]
theorem read_is (s : ByteArray) (l : List S87) (hs : s.size ≤ 140737488351232) (hl : l.length ≤ 101) (h2 : ∀ c ∈ l, 0 ≤ c.f2) (k : Nat) (hk : 500 < k) : palanquinref01_Read.f k s l = some (reads s 0 l) :=
  read_loop s l hs hl (fun j hj => by rw [rd_getElem l j hj]; exact h2 _ (List.getElem_mem hj)) (reads s 0 l).1 (reads s 0 l).2 l.length 0 k 0 [] (by omega) (by omega) (by omega) (by simp) ⟨by rw [List.drop_zero], by rw [List.drop_zero]; rfl⟩
theorem reads_len (s : ByteArray) : ∀ (l : List S87) (n : Nat), (reads s n l).1.length ≤ l.length
  | [], n => by simp [reads]
  | c :: l, n => by
    cases h : told s n c with
    | ok a m => rw [reads_ok h]; have := reads_len s l m; simp; omega
    | stop e => rw [reads_stop h]; simp
end Go.Proofs.Ytejmipoolbodgaa.Pure
