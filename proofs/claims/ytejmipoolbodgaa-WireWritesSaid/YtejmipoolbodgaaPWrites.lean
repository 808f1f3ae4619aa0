/- Plain: what calls write; the document's Write is that. -/
import Derived.Test.YtejmipoolbodgaaPLaw01
import Derived.Test.YtejmipoolbodgaaHWireW
namespace Go.Proofs.Ytejmipoolbodgaa.Pure
open Go.RowKit Go.Proofs.YtejmipoolbodgaaW.PrintWords Go.Proofs.YtejmipoolbodgaaW.PrintLast Go.Proofs.Ytejmipoolbodgaa.G Go.Proofs.Ytejmipoolbodgaa.Pal
set_option linter.unusedVariables false
def wcall (c : S87) : List UInt8 := if c.f0 = 0 then nb 1 c.f2.toNat else if c.f0 = 1 then nb 2 c.f2.toNat else if c.f0 = 2 then nb 4 c.f2.toNat else if c.f0 = 3 then nb 8 c.f2.toNat else bl c.f3
def wcat (l : List S87) : List UInt8 := (l.map wcall).flatten
/-- Calls as they may be: few, their numbers of 64 bits, their texts short. -/
def okS (l : List S87) : Prop := l.length ≤ 101 ∧ ∀ c ∈ l, (0 ≤ c.f2 ∧ c.f2 < 18446744073709551616) ∧ c.f3.size ≤ 5000
instance (l : List S87) : Decidable (okS l) := by unfold okS; infer_instance
theorem wcall_0 {c : S87} (h : c.f0 = 0) : wcall c = nb 1 c.f2.toNat := if_pos h
theorem wcall_1 {c : S87} (h : c.f0 = 1) : wcall c = nb 2 c.f2.toNat := by unfold wcall; rw [if_neg (by omega), if_pos h]
theorem wcall_2 {c : S87} (h : c.f0 = 2) : wcall c = nb 4 c.f2.toNat := by unfold wcall; rw [if_neg (by omega), if_neg (by omega), if_pos h]
theorem wcall_3 {c : S87} (h : c.f0 = 3) : wcall c = nb 8 c.f2.toNat := by unfold wcall; rw [if_neg (by omega), if_neg (by omega), if_neg (by omega), if_pos h]
theorem wcall_4 {c : S87} (h0 : c.f0 ≠ 0) (h1 : c.f0 ≠ 1) (h2 : c.f0 ≠ 2) (h3 : c.f0 ≠ 3) : wcall c = bl c.f3 := by unfold wcall; rw [if_neg h0, if_neg h1, if_neg h2, if_neg h3]
theorem wcall_len {c : S87} (h : c.f3.size ≤ 5000) : (wcall c).length ≤ 5000 := by
  unfold wcall
  repeat' split
  all_goals first
    | (rw [nb_length]; omega)
    | (rw [bl_length]; exact h)
theorem wcat_len : ∀ {l : List S87}, (∀ c ∈ l, c.f3.size ≤ 5000) → (wcat l).length ≤ 5000 * l.length
  | [], _ => by simp [wcat]
  | c :: l, h => by
    have h1 := wcall_len (h c List.mem_cons_self)
    have h2 := wcat_len (l := l) (fun x hx => h x (List.mem_cons_of_mem _ hx))
    unfold wcat at h2 ⊢
    simp only [List.map_cons, List.flatten_cons, List.length_append, List.length_cons]
    omega
theorem wcat_take {l : List S87} {j : Nat} (hj : j < l.length) : wcat (l.take (j + 1)) = wcat (l.take j) ++ wcall (rd_T87 l (j : Int)) := by
  rw [rd_getElem l j hj]
  unfold wcat
  rw [List.take_succ_eq_append_getElem hj, List.map_append, List.flatten_append]
  simp
theorem wcat_take_len {l : List S87} (h : okS l) (j : Nat) : (wcat (l.take j)).length ≤ 505000 := by
  have := wcat_len (l := l.take j) (fun c hc => (h.2 c (List.mem_of_mem_take hc)).2)
  rw [List.length_take] at this
  have := h.1
  omega
theorem okS_at {l : List S87} (h : okS l) {j : Nat} (hj : j < l.length) : (0 ≤ (rd_T87 l (j : Int)).f2 ∧ (rd_T87 l (j : Int)).f2 < 18446744073709551616) ∧ (rd_T87 l (j : Int)).f3.size ≤ 5000 := by
  rw [rd_getElem l j hj]
  exact h.2 _ (List.getElem_mem hj)
theorem wcall_num {c : S87} (h0 : 0 ≤ c.f0) (h3 : c.f0 ≤ 3) (k : Nat) (hk : 8 < k) (h2 : 0 ≤ c.f2 ∧ c.f2 < 18446744073709551616) : ∃ z r, palanquinref01_Size.f c.f0 = some z ∧ palanquinref01_Bytes.f k c.f2 z = some r ∧ bl r = wcall c := by
  obtain ⟨x, hx⟩ := Int.eq_ofNat_of_zero_le h2.1
  have go : ∀ n : Nat, n ≤ 8 → ∃ r, palanquinref01_Bytes.f k c.f2 (n : Int) = some r ∧ bl r = nb n c.f2.toNat := fun n hn => by
    rw [hx, Int.toNat_natCast]
    exact bytes_is n hn x (by omega) k (by omega)
  unfold palanquinref01_Size.f
  by_cases k0 : c.f0 = 0
  · obtain ⟨r, h, e⟩ := go 1 (by omega)
    exact ⟨1, r, if_pos k0, h, by rw [wcall_0 k0]; exact e⟩
  by_cases k1 : c.f0 = 1
  · obtain ⟨r, h, e⟩ := go 2 (by omega)
    exact ⟨2, r, by rw [if_neg k0, if_pos k1], h, by rw [wcall_1 k1]; exact e⟩
  by_cases k2 : c.f0 = 2
  · obtain ⟨r, h, e⟩ := go 4 (by omega)
    exact ⟨4, r, by rw [if_neg k0, if_neg k1, if_pos k2], h, by rw [wcall_2 k2]; exact e⟩
  · obtain ⟨r, h, e⟩ := go 8 (by omega)
    exact ⟨8, r, by rw [if_neg k0, if_neg k1, if_neg k2], h, by rw [wcall_3 (by omega)]; exact e⟩
theorem write_loop (l : List S87) (hl : okS l) : ∀ (m j k : Nat) (t : ByteArray), j + m = l.length → 2 * m + 20 < k → bl t = wcat (l.take j) → ∃ r, palanquinref01_Write.l0 k l t (j : Int) = some r ∧ bl r = wcat l
  | 0, j, k + 1, t, hj, _, ht => by
    rw [palanquinref01_Write.l0, if_neg (by omega)]
    exact ⟨t, rfl, by rw [ht, List.take_of_length_le (by omega)]⟩
  | m + 1, j, k, t, hj, hk, ht => by
    obtain ⟨k, rfl⟩ : ∃ q, k = q + 2 := ⟨k - 2, by omega⟩
    have hlt : j < l.length := by omega
    have h101 := hl.1
    have hq := okS_at hl hlt
    have htl : t.size ≤ 505000 := by rw [← bl_length, ht]; exact wcat_take_len hl j
    have e3 : wrap64 ((j : Int) + 1) = ((j + 1 : Nat) : Int) := by unfold wrap64; omega
    have next : ∀ r, bl r = wcall (rd_T87 l (j : Int)) → ∃ r', palanquinref01_Write.l0 k l (t ++ r) ((j + 1 : Nat) : Int) = some r' ∧ bl r' = wcat l := fun r hr =>
      write_loop l hl m (j + 1) k (t ++ r) (by omega) (by omega) (by rw [bl_append, ht, hr, wcat_take hlt])
    rw [palanquinref01_Write.l0, if_pos (by omega), if_pos (by omega)]
    by_cases h : 0 ≤ (rd_T87 l (j : Int)).f0 ∧ (rd_T87 l (j : Int)).f0 ≤ 3
    · obtain ⟨z, r, h1, h2, h3⟩ := wcall_num h.1 h.2 k (by omega) hq.1
      have hrl : r.size ≤ 5000 := by rw [← bl_length, h3]; exact wcall_len hq.2
      rw [if_pos h.1, decide_eq_true h.2, palanquinref01_Write.j1, if_pos rfl, if_pos (by omega), if_pos (by omega), h1, Option.bind_some, h2, Option.bind_some, if_pos (by omega), e3]
      exact next r h3
    · have hx : (if (rd_T87 l (j : Int)).f0 ≥ 0 then palanquinref01_Write.j1 (k + 1) l t (j : Int) (decide ((rd_T87 l (j : Int)).f0 ≤ 3)) else palanquinref01_Write.j1 (k + 1) l t (j : Int) false) = palanquinref01_Write.j1 (k + 1) l t (j : Int) false := by
        by_cases h0 : (rd_T87 l (j : Int)).f0 ≥ 0
        · rw [if_pos h0, decide_eq_false (by omega)]
        · rw [if_neg h0]
      rw [hx, palanquinref01_Write.j1, if_neg (by decide), if_pos (by omega), if_pos (by omega), if_pos (by omega), e3]
      exact next _ (wcall_4 (by omega) (by omega) (by omega) (by omega)).symm
/-- The bytes l as a text. -/
def txt (l : List UInt8) : ByteArray := ⟨l.toArray⟩
theorem txt_bl (t : ByteArray) : txt (bl t) = t := by apply ByteArray.ext; simp [txt, bl]
theorem bl_txt (l : List UInt8) : bl (txt l) = l := by simp [txt, bl]
theorem txt_size (l : List UInt8) : (txt l).size = l.length := by rw [← bl_length, bl_txt]
theorem write_is (l : List S87) (hl : okS l) (k : Nat) (hk : 300 < k) : palanquinref01_Write.f k l = some (txt (wcat l)) := by
  obtain ⟨r, h1, h2⟩ := write_loop l hl l.length 0 k ⟨#[]⟩ (by omega) (by have := hl.1; omega) (by simp [bl, wcat])
  unfold palanquinref01_Write.f
  rw [show (0 : Int) = ((0 : Nat) : Int) from rfl, h1, ← h2, txt_bl]
end Go.Proofs.Ytejmipoolbodgaa.Pure
