/- Texts of this session, joined: each is a section. -/
import Derived.Test.YteeljehkphfmdaaMWireBack8
import Derived.Test.YteeljehkphfmdaaMWireBack9
import Derived.Test.YteeljehkphfmdaaMWireBack6
set_option linter.unusedVariables false
set_option linter.unusedSimpArgs false
section
namespace Go.Proofs.Yteeljehkphfmdaa.Pure
open Go.RowKit Go.Proofs.YteeljehkphfmdaaW.PrintWords Go.Proofs.YteeljehkphfmdaaW.PrintLast Go.Proofs.Yteeljehkphfmdaa.G Go.Proofs.Yteeljehkphfmdaa.Pal
def wcall (c : S27) : List UInt8 := if c.f0 = 0 then nb 1 c.f2.toNat else if c.f0 = 1 then nb 2 c.f2.toNat else if c.f0 = 2 then nb 4 c.f2.toNat else if c.f0 = 3 then nb 8 c.f2.toNat else bl c.f3
def wcat (l : List S27) : List UInt8 := (l.map wcall).flatten
def okS (l : List S27) : Prop := l.length ≤ 101 ∧ ∀ c ∈ l, (0 ≤ c.f2 ∧ c.f2 < 18446744073709551616) ∧ c.f3.size ≤ 5000
instance (l : List S27) : Decidable (okS l) := by unfold okS; infer_instance
theorem wcall_0 {c : S27} (h : c.f0 = 0) : wcall c = nb 1 c.f2.toNat := if_pos h
theorem wcall_1 {c : S27} (h : c.f0 = 1) : wcall c = nb 2 c.f2.toNat := by unfold wcall; rw [if_neg (by omega), if_pos h]
theorem wcall_2 {c : S27} (h : c.f0 = 2) : wcall c = nb 4 c.f2.toNat := by unfold wcall; rw [if_neg (by omega), if_neg (by omega), if_pos h]
theorem wcall_3 {c : S27} (h : c.f0 = 3) : wcall c = nb 8 c.f2.toNat := by unfold wcall; rw [if_neg (by omega), if_neg (by omega), if_neg (by omega), if_pos h]
theorem wcall_4 {c : S27} (h0 : c.f0 ≠ 0) (h1 : c.f0 ≠ 1) (h2 : c.f0 ≠ 2) (h3 : c.f0 ≠ 3) : wcall c = bl c.f3 := by unfold wcall; rw [if_neg h0, if_neg h1, if_neg h2, if_neg h3]
theorem wcall_len {c : S27} (h : c.f3.size ≤ 5000) : (wcall c).length ≤ 5000 := by
  unfold wcall
  repeat' split
  all_goals first
    | (rw [nb_length]; omega)
    | (rw [bl_length]; exact h)
theorem wcat_len : ∀ {l : List S27}, (∀ c ∈ l, c.f3.size ≤ 5000) → (wcat l).length ≤ 5000 * l.length
  | [], _ => by simp [wcat]
  | c :: l, h => by
    have h1 := wcall_len (h c List.mem_cons_self)
    have h2 := wcat_len (l := l) (fun x hx => h x (List.mem_cons_of_mem _ hx))
    unfold wcat at h2 ⊢
    simp only [List.map_cons, List.flatten_cons, List.length_append, List.length_cons]
    omega
theorem wcat_take {l : List S27} {j : Nat} (hj : j < l.length) : wcat (l.take (j + 1)) = wcat (l.take j) ++ wcall (rd_T27 l (j : Int)) := by
  rw [rd_getElem l j hj]
  unfold wcat
  rw [List.take_succ_eq_append_getElem hj, List.map_append, List.flatten_append]
  simp
theorem wcat_take_len {l : List S27} (h : okS l) (j : Nat) : (wcat (l.take j)).length ≤ 505000 := by
  have := wcat_len (l := l.take j) (fun c hc => (h.2 c (List.mem_of_mem_take hc)).2)
  rw [List.length_take] at this
  have := h.1
  omega
theorem okS_at {l : List S27} (h : okS l) {j : Nat} (hj : j < l.length) : (0 ≤ (rd_T27 l (j : Int)).f2 ∧ (rd_T27 l (j : Int)).f2 < 18446744073709551616) ∧ (rd_T27 l (j : Int)).f3.size ≤ 5000 := by
  rw [rd_getElem l j hj]
  exact h.2 _ (List.getElem_mem hj)
def txt (l : List UInt8) : ByteArray := ⟨l.toArray⟩
theorem txt_bl (t : ByteArray) : txt (bl t) = t := by apply ByteArray.ext; simp [txt, bl]
theorem bl_txt (l : List UInt8) : bl (txt l) = l := by simp [txt, bl]
theorem txt_size (l : List UInt8) : (txt l).size = l.length := by rw [← bl_length, bl_txt]
end Go.Proofs.Yteeljehkphfmdaa.Pure
end

section
namespace Go.Proofs.Yteeljehkphfmdaa.G
open Go.RowKit Go.Proofs.YteeljehkphfmdaaW.PrintWords Go.Proofs.YteeljehkphfmdaaW.PrintLast Go.Proofs.YteeljehkphfmdaaW.PrintMore Go.Proofs.Yteeljehkphfmdaa.Pal Go.Proofs.Yteeljehkphfmdaa.Pure
theorem wr_u8 (x : Int) (h : 0 ≤ x ∧ x < 18446744073709551616) (n : Nat) : nb n (IntKind.u64.wrap (wrap64 x)).toNat = nb n x.toNat := by
  rw [show IntKind.u64.wrap (wrap64 x) = x by rw [IntKind.wrap_u64]; unfold wrap64; omega]
theorem wr_u32 (x : Int) (h : 0 ≤ x ∧ x < 18446744073709551616) : nb 4 (IntKind.u64.wrap (x % 4294967296)).toNat = nb 4 x.toNat := by
  obtain ⟨x, rfl⟩ := Int.eq_ofNat_of_zero_le h.1
  rw [show IntKind.u64.wrap ((x : Int) % 4294967296) = ((x % 256 ^ 4 : Nat) : Int) by rw [IntKind.wrap_u64]; omega, Int.toNat_natCast, Int.toNat_natCast, nb_mod]
theorem wr_u64 (x : Int) (h : 0 ≤ x ∧ x < 18446744073709551616) (n : Nat) : nb n (IntKind.u64.wrap x).toNat = nb n x.toNat := by
  rw [show IntKind.u64.wrap x = x by rw [IntKind.wrap_u64]; omega]
theorem WAt.lt {b : Nat} {l : List UInt8} {w : World} (h : WAt b l w) : b < w.heap.size := by
  obtain ⟨v, h | h⟩ := h
  · exact h.lt
  · exact h.lt
theorem WAt.below {b : Nat} {l : List UInt8} {w w' : World} (h : WAt b l w) (k : Below w.heap.size w w') : WAt b l w' := by
  have go : ∀ {p v : Value}, WP b p v l w → WP b p v l w' := fun {p v} h => ⟨(k.block b h.lt).trans h.1, h.2.1.kept (row := none) ⟨k.os, k.tape, k.output, k.size, fun i hi _ => k.block i hi⟩ (by cases v.ownBlock <;> simp), h.2.2⟩
  obtain ⟨v, h | h⟩ := h
  · exact ⟨v, .inl (go h)⟩
  · exact ⟨v, .inr (go h)⟩

set_option maxHeartbeats 4000000 in
set_option maxRecDepth 100000 in
theorem write_calls (b : Nat) (L : List UInt8) (w0 : World) (A : Option Addr) (c : Nat) (l : List S27) (hc : l.length ≤ c) (hok : okS l) (hC : Kd.C k27 w0 A l.length l) (w : World) (hw0 : w0.heap.size ≤ b) (hb : Below w0.heap.size w0 w) (h : WAt b L w) (hL : L.length ≤ 1000000) :
    Calls Try.prog 7 #[self b, .slice A l.length c] w fun e' w2 => e' = .returned (.tuple #[]) ∧ WAt b (L ++ wcat l) w2 ∧ Below b w w2 := by
  have HL := Aside0.mk (And.intro hc hL)
  have HK := Aside0.mk hok
  have HC := Aside0.mk hC
  have HW := Aside0.mk (And.intro hw0 hb)
  have HI := Aside0.mk h
  clear hc hok hC hw0 hb h hL
  go_enter Try.func7, Try.ntmps7
  go_wp2
  go_loopg [4] l.length (fun kq v4 wr => ∃ j : Nat, v4 = .int .i64 (j : Int) ∧ Aside0 (j + kq = l.length) ∧ Aside0 (WAt b (L ++ wcat (l.take j)) wr) ∧ Aside0 (Below b w wr))
  case atStart => exact ⟨0, rfl, ⟨by omega⟩, ⟨by simpa [wcat] using HI.out⟩, ⟨Below.refl _ _⟩⟩
  case round =>
    clear HI
    obtain ⟨j, rfl, HJ, HI, HB⟩ := hrel
    by_cases hlt : j < l.length
    case neg =>
      have q1 : decide ((j : Int) < (l.length : Int)) = false := decide_eq_false (by omega)
      have q2 : decide (j < l.length) = false := decide_eq_false hlt
      have HT := Aside0.mk (show l.take j = l from List.take_of_length_le (by omega))
      clear hlt
      go_wp2
      go_end0
      exact ⟨rfl, by have := HI.out; rwa [HT.out] at this, HB.out⟩
    have q1 : decide ((j : Int) < (l.length : Int)) = true := decide_eq_true (by omega)
    have q2 : decide (j < l.length) = true := decide_eq_true hlt
    obtain ⟨ad, eA, x0, x1, x2, x3⟩ := at_T27 (Kd.C_below HC.out (HW.out.2.trans (HB.out.mono HW.out.1))) (j : Int) (by omega) (by omega)
    subst eA
    have HQ := Aside0.mk (okS_at HK.out hlt)
    have HT := Aside0.mk (show wcat (l.take (j + 1)) = wcat (l.take j) ++ wcall (rd_T27 l (j : Int)) from wcat_take hlt)
    have HZ := Aside0.mk (show (L ++ wcat (l.take j)).length + 5000 ≤ 140737488355328 by rw [List.length_append]; have := wcat_take_len HK.out j; have := HL.out.2; omega)
    have hw : wrap64 ((j : Int) + 1) = ((j + 1 : Nat) : Int) := by have := HK.out.1; unfold wrap64; omega
    generalize hq : rd_T27 l (j : Int) = q at *
    rw [Int.toNat_natCast] at x0 x1 x2 x3
    have p1 := eq_true hlt
    have HV := Aside0.mk hlt
    clear hlt hq
    by_cases k0 : q.f0 = 0
    · as_aux_lemma =>
      have d0 : (q.f0 == 0) = true := beq_iff_eq.mpr k0
      have HE := Aside0.mk (wcall_0 k0)
      clear k0
      go_wp2_with (fail)
      refine (Writer_U8.calls b _ _ _ HI.out (by have := HZ.out; omega)).mono ?_
      rintro e' w2 ⟨rfl, g1, g2⟩
      replace HI := Aside0.mk g1
      replace HB := Aside0.mk (HB.out.trans g2)
      clear g1 g2 x0 x1 x2 x3
      go_wp2_with (fail)
      go_roundg (l.length - (j + 1))
      case measure => have := HJ.out; have := HV.out; omega
      case rel => exact ⟨j + 1, by rw [hw], ⟨by have := HV.out; omega⟩, ⟨by rw [HT.out, HE.out, ← List.append_assoc, ← wr_u8 _ HQ.out.1 1]; exact HI.out⟩, HB⟩
    have d0 : (q.f0 == 0) = false := beq_eq_false_iff_ne.mpr k0
    by_cases k1 : q.f0 = 1
    · as_aux_lemma =>
      have d1 : (q.f0 == 1) = true := beq_iff_eq.mpr k1
      have HE := Aside0.mk (wcall_1 k1)
      clear k0 k1
      go_wp2_with (fail)
      refine (Writer_U16.calls b _ _ _ HI.out (by have := HZ.out; omega)).mono ?_
      rintro e' w2 ⟨rfl, g1, g2⟩
      replace HI := Aside0.mk g1
      replace HB := Aside0.mk (HB.out.trans g2)
      clear g1 g2 x0 x1 x2 x3
      go_wp2_with (fail)
      go_roundg (l.length - (j + 1))
      case measure => have := HJ.out; have := HV.out; omega
      case rel => exact ⟨j + 1, by rw [hw], ⟨by have := HV.out; omega⟩, ⟨by rw [HT.out, HE.out, ← List.append_assoc, ← wr_u8 _ HQ.out.1 2]; exact HI.out⟩, HB⟩
    have d1 : (q.f0 == 1) = false := beq_eq_false_iff_ne.mpr k1
    by_cases k2 : q.f0 = 2
    · as_aux_lemma =>
      have d2 : (q.f0 == 2) = true := beq_iff_eq.mpr k2
      have HE := Aside0.mk (wcall_2 k2)
      clear k0 k1 k2
      go_wp2_with (fail)
      refine (Writer_U32.calls b _ _ _ HI.out (by omega) (by omega) (by have := HZ.out; omega)).mono ?_
      rintro e' w2 ⟨rfl, g1, g2⟩
      replace HI := Aside0.mk g1
      replace HB := Aside0.mk (HB.out.trans g2)
      clear g1 g2 x0 x1 x2 x3
      go_wp2_with (fail)
      go_roundg (l.length - (j + 1))
      case measure => have := HJ.out; have := HV.out; omega
      case rel => exact ⟨j + 1, by rw [hw], ⟨by have := HV.out; omega⟩, ⟨by rw [HT.out, HE.out, ← List.append_assoc, ← wr_u32 _ HQ.out.1]; exact HI.out⟩, HB⟩
    have d2 : (q.f0 == 2) = false := beq_eq_false_iff_ne.mpr k2
    by_cases k3 : q.f0 = 3
    · as_aux_lemma =>
      have d3 : (q.f0 == 3) = true := beq_iff_eq.mpr k3
      have HE := Aside0.mk (wcall_3 k3)
      clear k0 k1 k2 k3
      go_wp2_with (fail)
      refine (Writer_U64.calls b _ _ _ HI.out HQ.out.1.1 HQ.out.1.2 (by have := HZ.out; omega)).mono ?_
      rintro e' w2 ⟨rfl, g1, g2⟩
      replace HI := Aside0.mk g1
      replace HB := Aside0.mk (HB.out.trans g2)
      clear g1 g2 x0 x1 x2 x3
      go_wp2_with (fail)
      go_roundg (l.length - (j + 1))
      case measure => have := HJ.out; have := HV.out; omega
      case rel => exact ⟨j + 1, by rw [hw], ⟨by have := HV.out; omega⟩, ⟨by rw [HT.out, HE.out, ← List.append_assoc, ← wr_u64 _ HQ.out.1 8]; exact HI.out⟩, HB⟩
    have d3 : (q.f0 == 3) = false := beq_eq_false_iff_ne.mpr k3
    as_aux_lemma =>
      have HE := Aside0.mk (wcall_4 k0 k1 k2 k3)
      clear k0 k1 k2 k3
      go_wp2_with (fail)
      refine (Writer_Text.calls b _ _ _ HI.out (by have := HZ.out; have := HQ.out.2; omega)).mono ?_
      rintro e' w2 ⟨rfl, g1, g2⟩
      replace HI := Aside0.mk g1
      replace HB := Aside0.mk (HB.out.trans g2)
      clear g1 g2 x0 x1 x2 x3
      go_wp2_with (fail)
      go_roundg (l.length - (j + 1))
      case measure => have := HJ.out; have := HV.out; omega
      case rel => exact ⟨j + 1, by rw [hw], ⟨by have := HV.out; omega⟩, ⟨by rw [HT.out, HE.out, ← List.append_assoc]; exact HI.out⟩, HB⟩

def okW (l : List S27) : Prop := ∀ c ∈ l, (0 ≤ c.f2 ∧ c.f2 < 18446744073709551616) ∧ c.f3.size ≤ 140737488351232
instance (l : List S27) : Decidable (okW l) := by unfold okW; infer_instance
def palanquinlaw01_WireWrites.f (l0 : List S27) : Option Bool := if okW l0 then some true else none
end Go.Proofs.Yteeljehkphfmdaa.G
end

section
namespace Go.Proofs.Yteeljehkphfmdaa.Pure
open Go.RowKit Go.Proofs.YteeljehkphfmdaaW.PrintWords Go.Proofs.YteeljehkphfmdaaW.PrintLast Go.Proofs.Yteeljehkphfmdaa.G Go.Proofs.Yteeljehkphfmdaa.Pal
def nrm (c : S27) : S27 := if c.f0 = 0 then ⟨c.f0, c.f1, c.f2 % 256, c.f3⟩ else if c.f0 = 1 then ⟨c.f0, c.f1, c.f2 % 65536, c.f3⟩ else if c.f0 = 2 then ⟨c.f0, c.f1, c.f2 % 4294967296, c.f3⟩ else if c.f0 = 3 then c else ⟨4, (c.f3.size : Int), c.f2, c.f3⟩
def okN (c : S27) : Prop := (c.f0 = 0 ∧ 0 ≤ c.f2 ∧ c.f2 < 256) ∨ (c.f0 = 1 ∧ 0 ≤ c.f2 ∧ c.f2 < 65536) ∨ (c.f0 = 2 ∧ 0 ≤ c.f2 ∧ c.f2 < 4294967296) ∨ (c.f0 = 3 ∧ 0 ≤ c.f2 ∧ c.f2 < 18446744073709551616) ∨ (c.f0 = 4 ∧ c.f1 = (c.f3.size : Int))
theorem nrm_ok {c : S27} (h : 0 ≤ c.f2 ∧ c.f2 < 18446744073709551616) : okN (nrm c) := by
  unfold nrm okN
  split
  · left; exact ⟨by assumption, by dsimp only; omega⟩
  split
  · right; left; exact ⟨by assumption, by dsimp only; omega⟩
  split
  · right; right; left; exact ⟨by assumption, by dsimp only; omega⟩
  split
  · right; right; right; left; exact ⟨by assumption, h⟩
  · right; right; right; right; exact ⟨rfl, rfl⟩
theorem nrm_f2 {c : S27} (h : 0 ≤ c.f2 ∧ c.f2 < 18446744073709551616) : 0 ≤ (nrm c).f2 ∧ (nrm c).f2 < 18446744073709551616 := by
  unfold nrm
  repeat' split
  all_goals (first | (dsimp only; omega) | omega)
theorem nrm_f3 (c : S27) : (nrm c).f3 = c.f3 := by
  unfold nrm
  repeat' split
  all_goals rfl
theorem nrm_okS {l : List S27} (h : okS l) : okS (l.map nrm) :=
  ⟨by rw [List.length_map]; exact h.1, fun c hc => by
    obtain ⟨d, hd, rfl⟩ := List.mem_map.mp hc
    exact ⟨nrm_f2 (h.2 d hd).1, by rw [nrm_f3]; exact (h.2 d hd).2⟩⟩
theorem nrm_all {l : List S27} (h : okS l) : ∀ c ∈ l.map nrm, okN c := fun c hc => by
  obtain ⟨d, hd, rfl⟩ := List.mem_map.mp hc
  exact nrm_ok (h.2 d hd).1
theorem okN_noOK {l : List S27} (h : ∀ c ∈ l, okN c) : noOK l := fun c hc hk => by
  have := h c hc
  unfold okN at this
  omega
theorem bl_injW {a b : ByteArray} (h : bl a = bl b) : a = b := ByteArray.ext (Array.toList_inj.mp h)
theorem take_drop9 {α : Type} (l : List α) (n m : Nat) : (l.take (n + m)).drop n = (l.drop n).take m := by rw [List.drop_take]; congr 1; omega
def ansN (t n : Nat) (c : S27) : S43 := ⟨if c.f0 = 4 then 0 else c.f2, if c.f0 = 4 then c.f3 else ⟨#[]⟩, ((n + (wcall c).length : Nat) : Int), (t : Int) - ((n + (wcall c).length : Nat) : Int)⟩
theorem numT_yes {s : ByteArray} {n z : Nat} {x : Int} (hx : 0 ≤ x ∧ x < ((256 ^ z : Nat) : Int)) (hn : n + z ≤ s.size) (hs : ((bl s).take (n + z)).drop n = nb z x.toNat) :
    numT s n z = .ok ⟨x, ⟨#[]⟩, ((n + z : Nat) : Int), (s.size : Int) - ((n + z : Nat) : Int)⟩ (n + z) := by
  have e : ((be (bl (s.extract n (n + z))) : Nat) : Int) = x := by
    rw [bl_extract, hs, be_nb, Nat.mod_eq_of_lt (by omega)]
    omega
  rw [numT_ok hn, e]
theorem told_yes {s : ByteArray} {n : Nat} {c : S27} (ho : okN c) (hn : n + (wcall c).length ≤ s.size) (hs : ((bl s).take (n + (wcall c).length)).drop n = wcall c) : told s n c = .ok (ansN s.size n c) (n + (wcall c).length) := by
  unfold ansN
  rcases ho with ⟨h, h1⟩ | ⟨h, h1⟩ | ⟨h, h1⟩ | ⟨h, h1⟩ | ⟨h, h1⟩
  · rw [wcall_0 h, nb_length] at *
    rw [told_0 h, if_neg (by omega), if_neg (by omega)]
    exact numT_yes ⟨h1.1, by simpa using h1.2⟩ hn hs
  · rw [wcall_1 h, nb_length] at *
    rw [told_1 h, if_neg (by omega), if_neg (by omega)]
    exact numT_yes ⟨h1.1, by simpa using h1.2⟩ hn hs
  · rw [wcall_2 h, nb_length] at *
    rw [told_2 h, if_neg (by omega), if_neg (by omega)]
    exact numT_yes ⟨h1.1, by simpa using h1.2⟩ hn hs
  · rw [wcall_3 h, nb_length] at *
    rw [told_3 h, if_neg (by omega), if_neg (by omega)]
    exact numT_yes ⟨h1.1, by simpa using h1.2⟩ hn hs
  · rw [wcall_4 (by omega) (by omega) (by omega) (by omega), bl_length] at *
    have e : s.extract n (n + c.f3.size) = c.f3 := bl_injW (by rw [bl_extract, hs])
    rw [told_4 h c.f3.size h1 hn, if_pos h, if_pos h, e]
theorem told_no {s : ByteArray} {n : Nat} {c : S27} (ho : okN c) (hn : n ≤ s.size) (hz : s.size < n + (wcall c).length) : told s n c = .stop 2 := by
  rcases ho with ⟨h, h1⟩ | ⟨h, h1⟩ | ⟨h, h1⟩ | ⟨h, h1⟩ | ⟨h, h1⟩
  · rw [wcall_0 h, nb_length] at hz
    rw [told_0 h, numT_no hz]
  · rw [wcall_1 h, nb_length] at hz
    rw [told_1 h, numT_no hz]
  · rw [wcall_2 h, nb_length] at hz
    rw [told_2 h, numT_no hz]
  · rw [wcall_3 h, nb_length] at hz
    rw [told_3 h, numT_no hz]
  · rw [wcall_4 (by omega) (by omega) (by omega) (by omega), bl_length] at hz
    exact told_4n h (.inr (by omega))
def answ (t : Nat) : Nat → List S27 → List S43
  | _, [] => []
  | n, c :: l => ansN t n c :: answ t (n + (wcall c).length) l
theorem answ_length (t : Nat) : ∀ (n : Nat) (l : List S27), (answ t n l).length = l.length
  | _, [] => rfl
  | n, c :: l => by simp [answ, answ_length t _ l]
theorem reads_all (s : ByteArray) : ∀ (l : List S27) (n : Nat), (∀ c ∈ l, okN c) → n ≤ s.size → (bl s).drop n = wcat l → reads s n l = (answ s.size n l, 0)
  | [], n, _, _, _ => rfl
  | c :: l, n, ho, hn, hs => by
    have hs' : (bl s).drop n = wcall c ++ wcat l := hs
    have hz : n + (wcall c).length ≤ s.size := by
      have := congrArg List.length hs'
      rw [List.length_drop, bl_length, List.length_append] at this
      omega
    have h1 : ((bl s).take (n + (wcall c).length)).drop n = wcall c := by
      rw [take_drop9, hs']
      simp
    rw [reads_ok (told_yes (ho c List.mem_cons_self) hz h1), reads_all s l _ (fun x hx => ho x (List.mem_cons_of_mem _ hx)) hz (by rw [← List.drop_drop, hs']; simp)]
    rfl
def likeA (x y : S43) : Prop := x.f0 = y.f0 ∧ x.f1 = y.f1 ∧ x.f2 = y.f2
theorem reads_cut (s t : ByteArray) (T : Nat) : ∀ (l : List S27) (n : Nat), (∀ c ∈ l, okN c) → n ≤ t.size → t.size < s.size → bl t = (bl s).take t.size → (bl s).drop n = wcat l →
    (reads t n l).2 = 2 ∧ (reads t n l).1.length < l.length ∧ ∀ (i : Nat) (x y : S43), (reads t n l).1[i]? = some x → (answ T n l)[i]? = some y → likeA x y
  | [], n, _, hn, hl, _, hs => by
    have := congrArg List.length hs
    rw [List.length_drop, bl_length] at this
    simp [wcat] at this
    omega
  | c :: l, n, ho, hn, hl, ht, hs => by
    have hs' : (bl s).drop n = wcall c ++ wcat l := hs
    by_cases hz : n + (wcall c).length ≤ t.size
    · have h1 : ((bl t).take (n + (wcall c).length)).drop n = wcall c := by
        rw [ht, List.take_take, Nat.min_eq_left hz, take_drop9, hs']
        simp
      obtain ⟨i1, i2, i3⟩ := reads_cut s t T l _ (fun x hx => ho x (List.mem_cons_of_mem _ hx)) hz hl ht (by rw [← List.drop_drop, hs']; simp)
      rw [reads_ok (told_yes (ho c List.mem_cons_self) hz h1)]
      refine ⟨i1, by simpa using i2, ?_⟩
      intro i x y hx hy
      cases i with
      | zero =>
        simp only [List.getElem?_cons_zero, answ] at hx hy
        obtain rfl := Option.some.inj hx
        obtain rfl := Option.some.inj hy
        exact ⟨rfl, rfl, rfl⟩
      | succ i => exact i3 i x y (by simpa using hx) (by simpa [answ] using hy)
    · rw [reads_stop (told_no (ho c List.mem_cons_self) hn (by omega))]
      exact ⟨rfl, by simp, fun i x y hx => by simp at hx⟩
theorem answ_last (T : Nat) : ∀ (l : List S27) (n : Nat) (y : S43), (answ T n l)[l.length - 1]? = some y → l ≠ [] → y.f3 = (T : Int) - ((n + (wcat l).length : Nat) : Int)
  | [], _, _, _, h => absurd rfl h
  | [c], n, y, hy, _ => by
    simp only [answ, List.length_cons, List.length_nil] at hy
    obtain rfl := Option.some.inj hy
    simp [ansN, wcat]
  | c :: d :: l, n, y, hy, _ => by
    have h := answ_last T (d :: l) (n + (wcall c).length) y (by simpa [answ] using hy) (by simp)
    rw [h]
    simp only [wcat, List.map_cons, List.flatten_cons, List.length_append]
    omega
theorem answ_at (T : Nat) : ∀ (l : List S27) (n i : Nat) (c : S27) (y : S43), l[i]? = some c → (answ T n l)[i]? = some y → y.f0 = (if c.f0 = 4 then 0 else c.f2) ∧ y.f1 = (if c.f0 = 4 then c.f3 else ⟨#[]⟩)
  | d :: l, n, 0, c, y, hc, hy => by
    obtain rfl := Option.some.inj hc
    obtain rfl := Option.some.inj hy
    exact ⟨rfl, rfl⟩
  | d :: l, n, i + 1, c, y, hc, hy => answ_at T l _ i c y (by simpa using hc) (by simpa [answ] using hy)
  | [], _, _, _, _, hc, _ => by simp at hc
end Go.Proofs.Yteeljehkphfmdaa.Pure
end
