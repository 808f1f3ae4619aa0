/- Texts of this session, joined: each is a section. -/
import Derived.Test.YtcmalglippmocaaMClampTells2
import Derived.Lib.Builder
import Derived.Lib.FrozenHead2
import Derived.Lib.UnsafeStr
import Derived.Laws.Externs
import Derived.Lib.Hide
import Derived.RegionTactic
import Derived.StillTailTactics
import Derived.Shelf.Strings.BuilderX
import Derived.WalkLawsBesides
import Derived.Deep.RegionWith
import Derived.Laws.Rows
import Derived.BigQuiet
import Derived.RangeFuncNested
import Derived.RangeFuncBound
import Derived.RangeFuncCalls
import Derived.RangeFuncLeaves
import Derived.RangeFuncFrom
import Derived.Shelf.Abstract
import Derived.Shelf.RegionOpen
import Derived.WalkKit
import Derived.OwnWalkIn
import Derived.TacticsInMore
import Derived.LoopNIn
import Derived.LoopIn
import Derived.Laws.Strings2
import Derived.Laws.Strings
set_option linter.unusedVariables false
set_option linter.unusedSimpArgs false
section
namespace Go.Proofs.Ytcmalglippmocaa.G
open Go.RowKit Go.Proofs.YtcmalglippmocaaW.PrintWords Go.Proofs.YtcmalglippmocaaW.PrintLast Go.Proofs.YtcmalglippmocaaW.PrintMore Go.Proofs.Ytcmalglippmocaa.Pal

theorem infoU8 : (Try.prog.info? 5).map (fun i => (i.zero, i.size, i.bytes)) = some (some (.int .u8 0), 1, 1) := by kernel_rfl
theorem sizeBuilder : (Try.prog.info? 115).map (·.size) = some 2 := by kernel_rfl
theorem liesWriter : liesAt Try.prog Try.prog.depth 117 (2 / Try.prog.cellsOf 117) 0 115 1 = true := by kernel_rfl

def WP (b : Nat) (p v : Value) (l : List UInt8) (w : World) : Prop :=
  w.heap[b]? = some (.cells #[p, v] 117 (0, 0)) ∧ w.ownsRowF b 5 1 v l.length (Lib.byteCells l) ∧ v.ownBlock ≠ some b ∧ (l = [] → v = .slice none 0 0)
def self (b : Nat) : Value := .pointer (some ⟨b, 0, none⟩)
def WAt (b : Nat) (l : List UInt8) (w : World) : Prop := ∃ v, WP b (.pointer none) v l w ∨ WP b (self b) v l w

theorem WP.shape {b : Nat} {p v : Value} {l : List UInt8} {w : World} (h : WP b p v l w) : w.shape? b = some (117, 2) := by
  have hb := h.1
  simp [World.shape?, hb]
theorem WP.lt {b : Nat} {p v : Value} {l : List UInt8} {w : World} (h : WP b p v l w) : b < w.heap.size := lt_of_block h.1
theorem WP.used {b : Nat} {p v : Value} {l : List UInt8} {w : World} (h : WP b p v l w) (q : Value) : WP b q v l (w.setCell ⟨b, 0, none⟩ q) := by
  obtain ⟨hb, hown, hne, hn⟩ := h
  refine ⟨?_, ?_, hne, hn⟩
  · simp [World.setCell, Array.getElem?_modify, hb]
  · exact hown.kept (row := some b) ⟨rfl, rfl, rfl, by simp [World.setCell], fun k _ hk => Below.heap_setCell _ _ _ _ (fun e => hk (by simp [e]))⟩ (Or.inr hne)
theorem WP.put {b : Nat} {p v v' : Value} {l : List UInt8} {w : World} (hb : w.heap[b]? = some (.cells #[p, v] 117 (0, 0))) (hown : w.ownsRowF b 5 1 v' l.length (Lib.byteCells l)) (hn : l = [] → v' = .slice none 0 0) :
    WP b p v' l (w.setCell ⟨b, 1, none⟩ v') := by
  have hne := Lib.ownBlock_neF hown hb (by decide)
  refine ⟨?_, ?_, hne, hn⟩
  · simp [World.setCell, Array.getElem?_modify, hb]
  · exact hown.kept (row := some b) ⟨rfl, rfl, rfl, by simp [World.setCell], fun k _ hk => Below.heap_setCell _ _ _ _ (fun e => hk (by simp [e]))⟩ (Or.inr hne)

set_option maxHeartbeats 1000000 in
set_option maxRecDepth 100000 in
theorem copyCheck_used (b : Nat) (w : World) (h0 : w.cell? ⟨b, 0, none⟩ = some (self b)) :
    Calls Try.prog 86 #[self b] w fun e w' => e = .returned (.tuple #[]) ∧ w' = w := by
  obtain ⟨j, hj, _⟩ := Option.map_eq_some_iff.1 sizeBuilder
  unfold self at h0 ⊢
  go_enter Try.func86, Try.ntmps86
  go_wp2
  rw [Lib.run_neq_ptr_same w _ Try.underlying113 hj]
  go_wp2
  go_end0
  exact ⟨rfl, rfl⟩

set_option maxHeartbeats 1000000 in
set_option maxRecDepth 100000 in
theorem copyCheck_fresh (b : Nat) (w : World) (h0 : w.cell? ⟨b, 0, none⟩ = some (.pointer none)) (hsh : w.shape? b = some (117, 2)) (hfz : w.frozen? ⟨b, 0, none⟩ = false) :
    Calls Try.prog 86 #[self b] w fun e w' => e = .returned (.tuple #[]) ∧ w' = w.setCell ⟨b, 0, none⟩ (self b) := by
  obtain ⟨j, hj, hjs⟩ := Option.map_eq_some_iff.1 sizeBuilder
  unfold self
  go_enter Try.func86, Try.ntmps86
  go_wp2
  rw [Lib.run_to_unsafe w ⟨b, 0, none⟩ Try.underlying113 Try.underlying142 hj (by rw [hjs]; decide) hsh (Nat.zero_lt_succ 1)]
  simp only [Result.andThen]
  rw [Oper.upon_value]
  go_wp2
  rw [run_callFunc_extern Try.func87 (by kernel_rfl) (by kernel_rfl) (by kernel_rfl) (e := Extern.AbiNoEscape.same) (by kernel_rfl)]
  rw [Lib.run_noEscape]
  simp only [Result.andThen]
  rw [Oper.upon_value]
  go_wp2
  rw [Lib.run_from_unsafe w ⟨b, 0, none⟩ Try.underlying142 Try.underlying113 hj hsh liesWriter]
  simp only [Result.andThen]
  rw [Oper.upon_value]
  go_wp2
  go_end0
  exact ⟨rfl, rfl⟩

theorem copyCheck_any (b : Nat) (l : List UInt8) (w : World) (h : WAt b l w) :
    Calls Try.prog 86 #[self b] w fun e w' => e = .returned (.tuple #[]) ∧ (∃ v, WP b (self b) v l w') ∧ Below b w w' := by
  obtain ⟨v, h | h⟩ := h
  · refine (copyCheck_fresh b w (by rw [Lib.cell_of_heap h.1]; rfl) h.shape (Lib.frozen_of_heap h.1 0)).mono ?_
    rintro e w' ⟨rfl, rfl⟩
    exact ⟨rfl, ⟨v, h.used _⟩, (Below.refl b w).setCell (p := ⟨b, 0, none⟩) (Nat.le_refl _) _⟩
  · refine (copyCheck_used b w (by rw [Lib.cell_of_heap h.1]; rfl)).mono ?_
    rintro e w' ⟨rfl, rfl⟩
    exact ⟨rfl, ⟨v, h⟩, Below.refl b _⟩

set_option maxHeartbeats 2000000 in
set_option maxRecDepth 100000 in
theorem WriteByte_calls (b : Nat) (l : List UInt8) (c : UInt8) (w : World) (h : WAt b l w) (hlen : l.length + 1 ≤ 140737488355328) :
    Calls Try.prog 85 #[self b, .int .u8 (c.toNat : Int)] w fun e w' => e = .returned .nilIface ∧ WAt b (l ++ [c]) w' ∧ Below b w w' := by
  obtain ⟨i0, hi, hz0, hz1, hz2⟩ := info_parts infoU8
  unfold self
  go_enter Try.func85, Try.ntmps85
  go_wp2_with fail
  refine (copyCheck_any b l _ h).mono ?_
  rintro e w1 ⟨rfl, ⟨v, h1⟩, hb1⟩
  obtain ⟨hbk, hown, hne, hnil⟩ := h1
  have c0 : w1.cell? ⟨b, 0, none⟩ = some (.pointer (some ⟨b, 0, none⟩)) := by rw [Lib.cell_of_heap hbk]; rfl
  have c1 : w1.cell? ⟨b, 1, none⟩ = some v := by rw [Lib.cell_of_heap hbk]; rfl
  have HN := Aside0.mk hnil
  have hlt := lt_of_block hbk
  have hsz := hb1.size
  clear hnil h
  go_wp2_with (at_builtin; refine wpList_append_ownF _ rfl _ _ 31 rfl b 5 i0 (.int .u8 0) 1 1 Try.underlying31 hi hz0 hz1 hz2 rfl (by decide) _ _ _ rfl (hown.alloc _) ⟨w1.heap.size, 0, none⟩ 1 1 [.int .u8 (c.toNat : Int)] rfl rfl ?c1 ?c2 ?c3 ?c4 ?c5 ?_)
  case c1 =>
    intro j u hj
    match j, hj with
    | 0, hj => simp at hj; subst hj; simp [Addr.add]
  case c2 => intro u hu; simp at hu; subst hu; rfl
  case c3 => unfold maxLen; omega
  case c4 => omega
  case c5 => simp; omega
  intro v' w2 hown' hgrow _
  have hb2 : w2.heap[b]? = some (.cells #[.pointer (some ⟨b, 0, none⟩), v] 117 (0, 0)) := by
    rw [hgrow.block b (by simp; omega) (fun e => hne e.symm), Lib.alloc_old w1 _ b hlt]
    exact hbk
  have d0 : w2.cell? ⟨b, 0, none⟩ = some (.pointer (some ⟨b, 0, none⟩)) := by rw [Lib.cell_of_heap hb2]; rfl
  have d1 : w2.cell? ⟨b, 1, none⟩ = some v := by rw [Lib.cell_of_heap hb2]; rfl
  have f1 : w2.frozen? ⟨b, 1, none⟩ = false := Lib.frozen_of_heap hb2 1
  obtain ⟨g, cap, rfl⟩ : ∃ g cap, v' = .slice (some ⟨g, 0, none⟩) (l.length + 1) cap := by
    rcases hown'.2 with ⟨_, h0⟩ | ⟨g, cap, cur, fz, hv, _⟩
    · omega
    · exact ⟨g, cap, hv⟩
  go_wp2
  go_ret
  refine ⟨rfl, ⟨_, .inr (WP.put (l := l ++ [c]) hb2 (by simpa [Lib.byteCells] using hown') (fun h => by simp at h))⟩, ?_⟩
  exact ((hb1.alloc (by omega) _).grown hgrow (by simp; omega) (fun k hk => (hown.lt k hk).1)).setCell (p := ⟨b, 1, none⟩) (Nat.le_refl _) _


set_option maxHeartbeats 1000000 in
set_option maxRecDepth 100000 in
theorem BString_some (b : Nat) (l : List UInt8) (w : World) (h : WAt b l w) (h0 : l ≠ []) :
    Calls Try.prog 81 #[self b] w fun e w' => e = .returned (.string ⟨l.toArray⟩) ∧ WAt b l w' ∧ Below b w w' := by
  obtain ⟨p, v, hp, hbk, hown, hne, hnil⟩ : ∃ p v, (p = .pointer none ∨ p = self b) ∧ WP b p v l w := by
    obtain ⟨v, h | h⟩ := h
    · exact ⟨_, v, .inl rfl, h⟩
    · exact ⟨_, v, .inr rfl, h⟩
  have hl0 : l.length ≠ 0 := by simpa using h0
  obtain ⟨g, cap, cur, fz, rfl, hbg, hg, hfz, hnc, hcm, hcs, htake⟩ : ∃ g cap cur fz, v = .slice (some ⟨g, 0, none⟩) l.length cap ∧ b ≤ g ∧ w.heap[g]? = some (.cells cur 5 fz) ∧ fz.2 ≤ l.length * 1 ∧ l.length ≤ cap ∧ cap ≤ maxLen ∧ cur.size = cap * 1 ∧ cur.toList.take (l.length * 1) = Lib.byteCells l := by
    rcases hown.2 with ⟨_, hz⟩ | ⟨g, cap, cur, fz, hv, r⟩
    · exact absurd hz hl0
    · exact ⟨g, cap, cur, fz, hv, r⟩
  have c1 : w.drew.cell? ⟨b, 1, none⟩ = some (.slice (some ⟨g, 0, none⟩) l.length cap) := by
    have : w.drew.heap[b]? = some (.cells #[p, .slice (some ⟨g, 0, none⟩) l.length cap] 117 (0, 0)) := hbk
    rw [Lib.cell_of_heap this]; rfl
  have hSD : (Builtin.unsafeSliceData_ #[31] 141 #[.slice (some ⟨g, 0, none⟩) l.length cap]).run Try.prog w.drew = .ok (.pointer (some ⟨g, 0, none⟩)) w.drew :=
    Lib.run_unsafeSliceData_row _ _ _ _ _ _ (by omega)
  have hUS : (Builtin.unsafeString_ #[141, 3] 9 #[.pointer (some ⟨g, 0, none⟩), .int .i64 l.length]).run Try.prog w.drew = .ok (.string ⟨l.toArray⟩) (w.drew.freeze ⟨g, 0, none⟩ l.length) := by
    refine Lib.run_unsafeString_row w.drew 141 3 9 5 Try.underlying141 (by kernel_rfl) g cur.size (by have hg' : w.drew.heap[g]? = some (.cells cur 5 fz) := hg; simp [World.shape?, hg']) l h0 (by omega) (by unfold maxLen at hcm; omega) ?_
    intro j x hx
    have := hown.cells (g := g) rfl j (.int .u8 x.toNat) (by simp [Lib.byteCells, hx])
    exact this
  have hkeep : WAt b l (w.drew.freeze ⟨g, 0, none⟩ l.length) := by
    have hA : Lib.BuilderAtF 117 5 b b p (Lib.byteCells l) w.drew := ⟨Nat.le_refl _, _, hbk, by rw [Lib.byteCells_length]; exact hown, hne⟩
    have hF := hA.froze (g := g) (cap := cap) (by rw [Lib.byteCells_length]; exact c1)
    rw [Lib.byteCells_length] at hF
    obtain ⟨_, v2, f1, f2, f3⟩ := hF
    rw [Lib.byteCells_length] at f2
    rcases hp with rfl | rfl
    · exact ⟨v2, .inl ⟨f1, f2, f3, fun e => absurd e h0⟩⟩
    · exact ⟨v2, .inr ⟨f1, f2, f3, fun e => absurd e h0⟩⟩
  have HK := Lib.hid hkeep
  have hkB : Below b w (w.drew.freeze ⟨g, 0, none⟩ l.length) := Lib.below_freeze (Below.drew (Below.refl b w)) (p := ⟨g, 0, none⟩) hbg _
  have HKB := Lib.hid hkB
  clear hkeep hkB hown hnil hne hp hfz hnc hcm hcs htake hbk hg h
  unfold self
  go_enter Try.func81, Try.ntmps81
  go_wp2
  go_region
  all_goals (go_wp2; go_ret; exact ⟨rfl, HK.out, HKB.out⟩)

set_option maxHeartbeats 1000000 in
set_option maxRecDepth 100000 in
theorem BString_none (b : Nat) (w : World) (h : WAt b [] w) :
    Calls Try.prog 81 #[self b] w fun e w' => e = .returned (.string ⟨#[]⟩) ∧ WAt b [] w' ∧ Below b w w' := by
  obtain ⟨p, v, hp, hbk, hown, hne, hnil⟩ : ∃ p v, (p = .pointer none ∨ p = self b) ∧ WP b p v [] w := by
    obtain ⟨v, h | h⟩ := h
    · exact ⟨_, v, .inl rfl, h⟩
    · exact ⟨_, v, .inr rfl, h⟩
  obtain rfl := hnil rfl
  have c1 : w.drew.cell? ⟨b, 1, none⟩ = some (.slice none 0 0) := by
    have : w.drew.heap[b]? = some (.cells #[p, .slice none 0 0] 117 (0, 0)) := hbk
    rw [Lib.cell_of_heap this]; rfl
  have hSD : (Builtin.unsafeSliceData_ #[31] 141 #[.slice none 0 0]).run Try.prog w.drew = .ok (.pointer none) w.drew := rfl
  have hUS : (Builtin.unsafeString_ #[141, 3] 9 #[.pointer none, .int .i64 0]).run Try.prog w.drew = .ok (.string ⟨#[]⟩) w.drew := Lib.run_unsafeString_none w.drew _ _ _ none
  have HK := Lib.hid h
  clear hown hnil hne hp hbk h
  unfold self
  go_enter Try.func81, Try.ntmps81
  go_wp2
  go_region
  all_goals (go_wp2; go_ret; exact ⟨rfl, HK.out, (Below.refl b w).drew⟩)

theorem BString_calls (b : Nat) (l : List UInt8) (w : World) (h : WAt b l w) :
    Calls Try.prog 81 #[self b] w fun e w' => e = .returned (.string ⟨l.toArray⟩) ∧ WAt b l w' ∧ Below b w w' := by
  cases l with
  | nil => exact BString_none b w h
  | cons x r => exact BString_some b (x :: r) w h (by simp)



set_option maxHeartbeats 400000 in
theorem Writer_String.calls (b : Nat) (l : List UInt8) (w : World) (h : WAt b l w) :
    Calls Try.prog 61 #[self b] w fun e w' => e = .returned (.string ⟨l.toArray⟩) ∧ WAt b l w' ∧ Below b w w' := by
  unfold self
  go_enter Try.func61, Try.ntmps61
  go_wp2_with fail
  refine (BString_calls b l w h).mono ?_
  rintro e w1 ⟨rfl, h1, h2⟩
  have H1 := Lib.hid h1
  have H2 := Lib.hid h2
  clear h1 h2 h
  go_wp2
  go_ret
  exact ⟨rfl, H1.out, H2.out⟩


theorem byte_at (n k : Nat) : IntKind.u8.wrap ((n : Int) / 2 ^ (8 * (k : Int)).toNat) = ((UInt8.ofNat (n / 256 ^ k)).toNat : Int) := by
  have e1 : (8 * (k : Int)).toNat = 8 * k := by omega
  rw [e1, show ((2 : Int) ^ (8 * k)) = ((2 ^ (8 * k) : Nat) : Int) from by simp, Nat.pow_mul, IntKind.wrap_u8]
  simp
set_option maxHeartbeats 800000 in
set_option maxRecDepth 100000 in
theorem Writer_number.calls (b : Nat) (l : List UInt8) (n m : Nat) (w : World) (h : WAt b l w) (hn : n < 18446744073709551616) (hm : m ≤ 8) (hlen : l.length + m ≤ 140737488355328) :
    Calls Try.prog 80 #[self b, .int .u64 (n : Int), .int .i64 (m : Int)] w fun e w' => e = .returned (.tuple #[]) ∧ WAt b (l ++ nb m n) w' ∧ Below b w w' := by
  have H := Lib.hid h
  clear h
  unfold self
  go_enter Try.func80, Try.ntmps80
  go_wp2
  go_loopg [6] m (fun kq v6 wr => ∃ j : Nat, v6 = .int .i64 ((m : Int) - 1 - j) ∧ Aside0 (j + kq = m) ∧ Hid (WAt b (l ++ (nb m n).take j) wr) ∧ Hid (Below b w wr))
  case atStart => exact ⟨0, by simp, ⟨by omega⟩, by rw [List.take_zero, List.append_nil]; exact H, Lib.hid (Below.refl _ _)⟩
  case round =>
    obtain ⟨j, rfl, HK, HW, HB⟩ := hrel
    by_cases hlt : j < m
    · rw [show ((m : Int) - 1 - j) = ((m - 1 - j : Nat) : Int) from by omega]
      have HT : Aside0 ((nb m n).take (j + 1) = (nb m n).take j ++ [UInt8.ofNat (n / 256 ^ (m - 1 - j))]) := ⟨nb_take_succ m j n hlt⟩
      have HKK : Aside0 (m - 1 - j + j + 1 = m) := ⟨by omega⟩
      have hk7 : m - 1 - j ≤ 7 := by omega
      generalize m - 1 - j = k at HT HKK hk7 ⊢
      have hw8 : IntKind.i64.wrap (8 * (k : Int)) = 8 * (k : Int) := wraps_i64 _ (by omega) (by omega)
      go_wp2_with fail
      go_still_tail 8, (by kernel_rfl)
      change wpList _ _ _ _ _ wr.drew
      rw [byte_at n k]
      generalize UInt8.ofNat (n / 256 ^ k) = c at HT ⊢
      have hW1 : WAt b (l ++ (nb m n).take j) wr.drew := HW.out
      have hlen1 : (l ++ (nb m n).take j).length + 1 ≤ 140737488355328 := by rw [List.length_append, List.length_take, nb_length]; omega
      go_wp2_with fail
      refine (WriteByte_calls b _ c _ hW1 hlen1).mono ?_
      rintro e w1 ⟨rfl, h1, h2⟩
      have H1 := Lib.hid h1
      have H2 := Lib.hid h2
      clear h1 h2 hW1 hlen1 hw8
      go_wp2
      go_roundg k
      case measure => have := HK.out; have := HKK.out; omega
      case rel => exact ⟨j + 1, by rw [show ((m : Int) - 1 - ((j + 1 : Nat) : Int)) = (k : Int) - 1 from by have := HKK.out; omega], ⟨by have := HKK.out; omega⟩, by rw [HT.out, ← List.append_assoc]; exact H1, Lib.hid ((HB.out.drew).trans H2.out)⟩
    · have HT : Aside0 ((nb m n).take j = nb m n) := ⟨List.take_of_length_le (by rw [nb_length]; omega)⟩
      rw [HT.out] at HW
      go_wp2
      go_end0
      exact ⟨rfl, HW.out, HB.out⟩

set_option maxHeartbeats 400000 in
theorem Writer_U16.calls (b : Nat) (l : List UInt8) (x : Int) (w : World) (h : WAt b l w) (hlen : l.length + 2 ≤ 140737488355328) :
    Calls Try.prog 60 #[self b, .int .i64 x] w fun e w' => e = .returned (.tuple #[]) ∧ WAt b (l ++ nb 2 (IntKind.u64.wrap x).toNat) w' ∧ Below b w w' := by
  obtain ⟨n, hn, e1⟩ : ∃ n : Nat, n < 18446744073709551616 ∧ IntKind.u64.wrap x = (n : Int) := ⟨(IntKind.u64.wrap x).toNat, by rw [IntKind.wrap_u64]; omega, by rw [IntKind.wrap_u64]; omega⟩
  unfold self
  rw [e1, Int.toNat_natCast]
  go_enter Try.func60, Try.ntmps60
  go_wp2_with fail
  refine (Writer_number.calls b l n 2 _ h hn (by decide) hlen).mono ?_
  rintro e w1 ⟨rfl, h1, h2⟩
  have H1 := Lib.hid h1
  have H2 := Lib.hid h2
  clear h1 h2 h
  go_wp2
  go_end0
  exact ⟨rfl, H1.out, H2.out⟩

def u64n (x : Int) : Nat := (IntKind.u64.wrap x).toNat
theorem WAt.new (w : World) : WAt w.heap.size [] (w.alloc (.cells #[.pointer none, .slice none 0 0] 117)) :=
  ⟨.slice none 0 0, .inl ⟨heap_alloc_new w _, ⟨by simp [Lib.byteCells], .inl ⟨rfl, rfl⟩⟩, by simp [Value.ownBlock], fun _ => rfl⟩⟩
theorem WAt.drew {b : Nat} {l : List UInt8} {w : World} (h : WAt b l w) : WAt b l w.drew := h
theorem WAt.drewN {b : Nat} {l : List UInt8} {w : World} (h : WAt b l w) (n : Nat) : WAt b l (w.drewN n) := h
def WS (B a b : Nat) (w w1 : World) (T : TypeId) (cs : Array Value) (l : List UInt8) : Prop := (WAt b l w1 ∧ Blk w1 a T cs ∧ Below B w w1) ∧ a < b ∧ B ≤ b
theorem WS.next {B a b : Nat} {w w1 w2 : World} {T : TypeId} {cs : Array Value} {l l' : List UInt8} (h : WS B a b w w1 T cs l) (h1 : WAt b l' w2) (h2 : Below b w1 w2) : WS B a b w w2 T cs l' :=
  ⟨⟨h1, h.1.2.1.below h2 h.2.1, h.1.2.2.trans (h2.mono h.2.2)⟩, h.2⟩
theorem WS.startAt {B a : Nat} {w w1 : World} {T : TypeId} {cs : Array Value} (h : Blk w1 a T cs) (hB : Below B w w1) (hs : B ≤ w1.heap.size) : WS B a w1.heap.size w (w1.alloc (.cells #[.pointer none, .slice none 0 0] 117)) T cs [] :=
  ⟨⟨WAt.new w1, h.alloc _, hB.alloc hs _⟩, h.lt, hs⟩
theorem WS.start (w : World) (T : TypeId) (cs : Array Value) : WS w.heap.size w.heap.size (w.heap.size + 1) w ((w.alloc (.cells cs T)).alloc (.cells #[.pointer none, .slice none 0 0] 117)) T cs [] := by
  have h := WS.startAt (Blk.new w T cs) ((Below.refl _ _).alloc (Nat.le_refl _) _) (by simp)
  rwa [World.size_alloc] at h
end Go.Proofs.Ytcmalglippmocaa.G
end

section
namespace Go.Proofs.Ytcmalglippmocaa.G
open Go.RowKit Go.Proofs.YtcmalglippmocaaW.PrintWords Go.Proofs.YtcmalglippmocaaW.PrintLast Go.Proofs.YtcmalglippmocaaW.PrintMore Go.Proofs.Ytcmalglippmocaa.Pal

def in16 (x : Int) : Prop := 0 ≤ x ∧ x ≤ 65535
instance (x : Int) : Decidable (in16 x) := by unfold in16; infer_instance
def empty : ByteArray := ⟨#[]⟩
def UG (k : Nat) (s : ByteArray) (w w1 : World) (n : Nat) (cs : Array Value) (x : Int) : Prop :=
  Rd w1 (k + 5) s n ∧ Hp w1 [(k, 9, #[.string s]), (k + 1, 73, #[.int .i64 0, .int .i64 0, .string ⟨#[]⟩]), (k + 2, 73, cs), (k + 3, 3, #[.int .i64 x]), (k + 4, 25, #[.int .i64 0])] ∧ Below k w w1
theorem UG.went {k : Nat} {s : ByteArray} {w w1 w2 : World} {n m : Nat} {cs : Array Value} {x : Int} (h : UG k s w w1 n cs x) (hw : Went w1 w2 (k + 5) s m) : UG k s w w2 m cs x :=
  ⟨hw.2, h.2.1.grown hw.1 (by simp), h.2.2.trans (below_of_grown hw.1 (by have := h.1.1.lt; omega) (by omega))⟩
theorem UG.put {k : Nat} {s : ByteArray} {w w1 : World} {n : Nat} {cs : Array Value} {x : Int} (h : UG k s w w1 n cs x) (j : Nat) (v : Value) : UG k s w (w1.setCell ⟨k + 2, j, none⟩ v) n (cs.setIfInBounds j v) x :=
  ⟨⟨h.1.1.other _ (by simp) _, h.1.2⟩, h.2.1.set (l1 := [_, _]) (l2 := [_, _]) j v (by simp) (by simp), h.2.2.setCell (by simp) _⟩
theorem UG.drew {k : Nat} {s : ByteArray} {w w1 : World} {n : Nat} {cs : Array Value} {x : Int} (h : UG k s w w1 n cs x) : UG k s w w1.drew n cs x := ⟨h.1, h.2.1, h.2.2.drew⟩
theorem UG.facts {k : Nat} {s : ByteArray} {w w1 : World} {n : Nat} {cs : Array Value} {x : Int} (h : UG k s w w1 n cs x) :
    w1.cell? ⟨k, 0, none⟩ = some (.string s) ∧ (∀ j, w1.frozen? ⟨k + 2, j, none⟩ = false) ∧ (∀ j, w1.cell? ⟨k + 2, j, none⟩ = cs[j]?) :=
  ⟨h.2.1.head.cell 0 _ rfl, h.2.1.tail.tail.head.frees, h.2.1.tail.tail.head.cells⟩

theorem panicOut {P : Program} {fn : Func} {R : Ending → World → Prop} {ch : List PanicEntry} {a : Act} {w : World} (h : wpAny P .any #[] (fun _ a w => bodyPost P fn R (.panic ch) a w) 0 #[] a w) : bodyPost P fn R (.panic ch) a w := h.2
def udpErr (s : ByteArray) : Int := if s.size < 8 then 2 else if be (bl (s.extract 4 6)) = s.size then 0 else 4

set_option maxHeartbeats 1000000 in
set_option maxRecDepth 100000 in
theorem udp_Get1.len (k : Nat) (s : ByteArray) (w w1 : World) (h : UG k s w w1 0 #[.int .i64 0, .int .i64 0, .string ⟨#[]⟩] 0) (h8 : 8 ≤ s.size) (hne : ¬ be (bl (s.extract 4 6)) = s.size) :
    Calls Try.prog 77 #[.pointer (some ⟨k + 5, 0, none⟩), .pointer (some ⟨k, 0, none⟩), .pointer (some ⟨k + 2, 0, none⟩), .pointer (some ⟨k + 3, 0, none⟩)] w1 fun e w2 => e = stopped 4 ∧ ∃ n cs x, UG k s w w2 n cs x := by
  have HG := Aside0.mk h
  obtain ⟨c0, c1, c2⟩ := h.facts
  have d1 : decide ((8 : Int) ≤ (s.size : Int)) = true := decide_eq_true (by omega)
  clear h
  go_enter Try.func77, Try.ntmps77
  go_wp2_with fail
  refine (Reader_Need.yes _ _ _).mono ?_
  rintro e w2 ⟨rfl, rfl⟩
  go_wp2_with fail
  refine (Reader_U16.yes _ _ _ _ HG.out.1 (by omega)).mono ?_
  rintro e w2 ⟨rfl, g1⟩
  replace HG := Aside0.mk (HG.out.went g1)
  clear g1 c0 c1 c2
  go_wp2_with fail
  refine (Reader_U16.yes _ _ _ _ HG.out.1 (by omega)).mono ?_
  rintro e w2 ⟨rfl, g1⟩
  replace HG := Aside0.mk (HG.out.went g1)
  clear g1
  obtain ⟨c0, c1, c2⟩ := HG.out.facts
  go_wp2_with fail
  replace HG := Aside0.mk ((HG.out.put 0 (.int .i64 (be (bl (s.extract 0 2)) : Nat))).put 1 (.int .i64 (be (bl (s.extract 2 4)) : Nat)))
  clear c0 c1 c2
  generalize (w2.setCell ⟨k + 2, 0, none⟩ (.int .i64 (be (bl (s.extract 0 2)) : Nat))).setCell ⟨k + 2, 1, none⟩ (.int .i64 (be (bl (s.extract 2 4)) : Nat)) = wa at HG ⊢
  obtain ⟨c0, c1, c2⟩ := HG.out.facts
  clear c1 c2
  have d2 : (((be (bl (s.extract 4 6)) : Nat) : Int) == (s.size : Int)) = false := by rw [beq_eq_false_iff_ne]; omega
  have d3 : ((be (bl (s.extract 4 6))) == s.size) = false := by rw [beq_eq_false_iff_ne]; exact hne
  clear hne
  go_region_with ((first
      | (go_at_call 69; refine (Reader_U16.yes _ _ 4 _ HG.out.drew.1 ?_).mono ?_; omega; rintro e w3 ⟨rfl, g1⟩; have HG3 := Aside0.mk (HG.out.drew.went g1); have c3 := HG3.out.facts.1; clear g1)
      | (go_at_call 67; refine (Reader_Need.no _ _ _).mono ?_; rintro e w4 ⟨rfl, rfl⟩; refine panicOut ?_)))
  all_goals exact ⟨rfl, rfl, _, _, _, HG3.out⟩

theorem UG.putSum {k : Nat} {s : ByteArray} {w w1 : World} {n : Nat} {cs : Array Value} {x : Int} (h : UG k s w w1 n cs x) (y : Int) : UG k s w (w1.setCell ⟨k + 3, 0, none⟩ (.int .i64 y)) n cs y :=
  ⟨⟨h.1.1.other _ (by simp) _, h.1.2⟩, h.2.1.set (l1 := [_, _, _]) (l2 := [_]) 0 (.int .i64 y) (by simp) (by simp), h.2.2.setCell (by simp) _⟩
theorem UG.sumFree {k : Nat} {s : ByteArray} {w w1 : World} {n : Nat} {cs : Array Value} {x : Int} (h : UG k s w w1 n cs x) :
    w1.cell? ⟨k + 3, 0, none⟩ = some (.int .i64 x) ∧ w1.frozen? ⟨k + 3, 0, none⟩ = false :=
  ⟨h.2.1.tail.tail.tail.head.cell 0 _ rfl, h.2.1.tail.tail.tail.head.free 0⟩

set_option maxHeartbeats 1000000 in
set_option maxRecDepth 100000 in
theorem udp_Get1.short (k : Nat) (s : ByteArray) (w w1 : World) (h : UG k s w w1 0 #[.int .i64 0, .int .i64 0, .string ⟨#[]⟩] 0) (h8 : s.size < 8) :
    Calls Try.prog 77 #[.pointer (some ⟨k + 5, 0, none⟩), .pointer (some ⟨k, 0, none⟩), .pointer (some ⟨k + 2, 0, none⟩), .pointer (some ⟨k + 3, 0, none⟩)] w1 fun e w2 => e = stopped 2 ∧ ∃ n cs x, UG k s w w2 n cs x := by
  have HG := Aside0.mk h
  obtain ⟨c0, c1, c2⟩ := h.facts
  have d1 : decide ((8 : Int) ≤ (s.size : Int)) = false := decide_eq_false (by omega)
  clear h
  go_enter Try.func77, Try.ntmps77
  go_wp2_with fail
  refine (Reader_Need.no _ _ _).mono ?_
  rintro e w2 ⟨rfl, rfl⟩
  exact ⟨rfl, rfl, _, _, _, HG.out⟩

set_option maxHeartbeats 1000000 in
set_option maxRecDepth 100000 in
theorem udp_Get1.ok (k : Nat) (s : ByteArray) (w w1 : World) (h : UG k s w w1 0 #[.int .i64 0, .int .i64 0, .string ⟨#[]⟩] 0) (h8 : 8 ≤ s.size) (heq : be (bl (s.extract 4 6)) = s.size) :
    Calls Try.prog 77 #[.pointer (some ⟨k + 5, 0, none⟩), .pointer (some ⟨k, 0, none⟩), .pointer (some ⟨k + 2, 0, none⟩), .pointer (some ⟨k + 3, 0, none⟩)] w1 fun e w2 => e = .returned (.tuple #[]) ∧
      UG k s w w2 s.size #[.int .i64 (be (bl (s.extract 0 2)) : Nat), .int .i64 (be (bl (s.extract 2 4)) : Nat), .string (s.extract 8 s.size)] (be (bl (s.extract 6 8)) : Nat) := by
  have HG := Aside0.mk h
  obtain ⟨c0, c1, c2⟩ := h.facts
  have d1 : decide ((8 : Int) ≤ (s.size : Int)) = true := decide_eq_true (by omega)
  clear h
  go_enter Try.func77, Try.ntmps77
  go_wp2_with fail
  refine (Reader_Need.yes _ _ _).mono ?_
  rintro e w2 ⟨rfl, rfl⟩
  go_wp2_with fail
  refine (Reader_U16.yes _ _ _ _ HG.out.1 (by omega)).mono ?_
  rintro e w2 ⟨rfl, g1⟩
  replace HG := Aside0.mk (HG.out.went g1)
  clear g1 c0 c1 c2
  go_wp2_with fail
  refine (Reader_U16.yes _ _ _ _ HG.out.1 (by omega)).mono ?_
  rintro e w2 ⟨rfl, g1⟩
  replace HG := Aside0.mk (HG.out.went g1)
  clear g1
  obtain ⟨c0, c1, c2⟩ := HG.out.facts
  go_wp2_with fail
  replace HG := Aside0.mk ((HG.out.put 0 (.int .i64 (be (bl (s.extract 0 2)) : Nat))).put 1 (.int .i64 (be (bl (s.extract 2 4)) : Nat)))
  clear c0 c1 c2
  generalize (w2.setCell ⟨k + 2, 0, none⟩ (.int .i64 (be (bl (s.extract 0 2)) : Nat))).setCell ⟨k + 2, 1, none⟩ (.int .i64 (be (bl (s.extract 2 4)) : Nat)) = wa at HG ⊢
  obtain ⟨c0, c1, c2⟩ := HG.out.facts
  clear c1 c2
  have d2 : (((be (bl (s.extract 4 6)) : Nat) : Int) == (s.size : Int)) = true := by rw [heq]; exact beq_self_eq_true _
  have d3 : ((be (bl (s.extract 4 6))) == s.size) = true := by rw [heq]; exact beq_self_eq_true _
  clear heq
  go_region_with ((first
      | (go_at_call 69; refine (Reader_U16.yes _ _ 4 _ HG.out.drew.1 ?_).mono ?_; omega; rintro e w3 ⟨rfl, g1⟩; have HG3 := Aside0.mk (HG.out.drew.went g1); have c3 := HG3.out.facts.1; clear g1)
      | (go_at_call 67; refine (Reader_Need.yes _ _ _).mono ?_; rintro e w4 ⟨rfl, rfl⟩)))
  all_goals
    clear c3 c0
    go_wp2_with fail
    refine (Reader_U16.yes _ _ _ _ HG3.out.1 (by omega)).mono ?_
    rintro e w5 ⟨rfl, g1⟩
    replace HG := Aside0.mk (HG3.out.went g1)
    clear g1 HG3
    go_wp2_with fail
    refine (Reader_Rest.calls _ _ _ _ HG.out.1).mono ?_
    rintro e w6 ⟨rfl, g1⟩
    replace HG := Aside0.mk (HG.out.went g1)
    clear g1
    obtain ⟨c0, c1, c2⟩ := HG.out.facts
    obtain ⟨c3, c4⟩ := HG.out.sumFree
    go_wp2
    go_end0
    exact ⟨rfl, (HG.out.putSum _).put 2 _⟩

def udp_Get.f (s : ByteArray) : Option (Int × Int × ByteArray × Int × Int) :=
  if s.size ≤ 140737488351232 then some (if udpErr s = 0 then ((be (bl (s.extract 0 2)) : Nat), (be (bl (s.extract 2 4)) : Nat), s.extract 8 s.size, (be (bl (s.extract 6 8)) : Nat), 0) else (0, 0, empty, 0, udpErr s)) else none

def UR (k : Nat) (s : ByteArray) (w w1 : World) : Prop :=
  ∃ cs x, Hp w1 [(k, 9, #[.string s]), (k + 1, 73, #[.int .i64 0, .int .i64 0, .string ⟨#[]⟩]), (k + 2, 73, cs), (k + 3, 3, #[.int .i64 x])] ∧ Below k w w1 ∧
    (udpErr s = 0 → cs = #[.int .i64 (be (bl (s.extract 0 2)) : Nat), .int .i64 (be (bl (s.extract 2 4)) : Nat), .string (s.extract 8 s.size)] ∧ x = (be (bl (s.extract 6 8)) : Nat))
theorem UG.done {k : Nat} {s : ByteArray} {w w1 w2 : World} {n : Nat} {cs : Array Value} {x : Int} (h : UG k s w w1 n cs x) (hw : w1.grownBy w2 (some (k + 4)))
    (hx : udpErr s = 0 → cs = #[.int .i64 (be (bl (s.extract 0 2)) : Nat), .int .i64 (be (bl (s.extract 2 4)) : Nat), .string (s.extract 8 s.size)] ∧ x = (be (bl (s.extract 6 8)) : Nat)) : UR k s w w2 :=
  ⟨cs, x, Hp.grown (R := k + 4) (fun y hy => h.2.1 y (by simp at hy ⊢; rcases hy with rfl | rfl | rfl | rfl <;> simp)) hw (by simp), h.2.2.trans (below_of_grown hw (by have := h.1.1.lt; omega) (by omega)), hx⟩

set_option maxRecDepth 100000 in
theorem udp_Get.reads (s : ByteArray) (hs : s.size ≤ 140737488351232) (w : World) :
    Calls Try.prog 65 #[.string s, .func (.func 77) #[] #[.pointer (some ⟨w.heap.size, 0, none⟩), .pointer (some ⟨w.heap.size + 1 + 1, 0, none⟩), .pointer (some ⟨w.heap.size + 1 + 1 + 1, 0, none⟩)]]
      ((((w.alloc (.cells #[.string s] 9)).alloc (.cells #[.int .i64 0, .int .i64 0, .string ⟨#[]⟩] 73)).alloc (.cells #[.int .i64 0, .int .i64 0, .string ⟨#[]⟩] 73)).alloc (.cells #[.int .i64 0] 3))
      fun e w' => e = .returned (.int .i64 (udpErr s)) ∧ UR w.heap.size s w w' := by
  obtain ⟨W, hW⟩ : ∃ W, W = ((((w.alloc (.cells #[.string s] 9)).alloc (.cells #[.int .i64 0, .int .i64 0, .string ⟨#[]⟩] 73)).alloc (.cells #[.int .i64 0, .int .i64 0, .string ⟨#[]⟩] 73)).alloc (.cells #[.int .i64 0] 3)) := ⟨_, rfl⟩
  have hk : W.heap.size = w.heap.size + 4 := by rw [hW]; simp
  have b0 : Blk W w.heap.size 9 #[.string s] := by rw [hW]; exact (((Blk.new w _ _).alloc _).alloc _).alloc _
  have b1 : Blk W (w.heap.size + 1) 73 #[.int .i64 0, .int .i64 0, .string ⟨#[]⟩] := by
    rw [hW]
    have := Blk.new (w.alloc (.cells #[.string s] 9)) 73 #[.int .i64 0, .int .i64 0, .string ⟨#[]⟩]
    rw [World.size_alloc] at this
    exact (this.alloc _).alloc _
  have b2 : Blk W (w.heap.size + 2) 73 #[.int .i64 0, .int .i64 0, .string ⟨#[]⟩] := by
    rw [hW]
    have := Blk.new ((w.alloc (.cells #[.string s] 9)).alloc (.cells #[.int .i64 0, .int .i64 0, .string ⟨#[]⟩] 73)) 73 #[.int .i64 0, .int .i64 0, .string ⟨#[]⟩]
    rw [World.size_alloc, World.size_alloc] at this
    exact this.alloc _
  have b3 : Blk W (w.heap.size + 3) 3 #[.int .i64 0] := by
    rw [hW]
    have := Blk.new (((w.alloc (.cells #[.string s] 9)).alloc (.cells #[.int .i64 0, .int .i64 0, .string ⟨#[]⟩] 73)).alloc (.cells #[.int .i64 0, .int .i64 0, .string ⟨#[]⟩] 73)) 3 #[.int .i64 0]
    rw [World.size_alloc, World.size_alloc, World.size_alloc] at this
    exact this
  have hb : Below w.heap.size w W := by
    rw [hW]
    exact ((((Below.refl _ _).alloc (Nat.le_refl _) _).alloc (by simp) _).alloc (by simp; omega) _).alloc (by simp; omega) _
  rw [← hW]
  clear hW
  have hrd := readW_rd W s hs
  have hres := readW_res W s
  have hbl := readW_below W s
  rw [hk] at hrd hres hbl
  have hG : UG w.heap.size s w (readW W s) 0 #[.int .i64 0, .int .i64 0, .string ⟨#[]⟩] 0 :=
    ⟨hrd, .cons (b0.below hbl (by omega)) (.cons (b1.below hbl (by omega)) (.cons (b2.below hbl (by omega)) (.cons (b3.below hbl (by omega)) (.cons hres (.nil _))))), hb.trans (hbl.mono (by omega))⟩
  have hrd' : ∀ Q : World → Prop, Calls Try.prog 77 (#[.pointer (some ⟨W.heap.size + 1, 0, none⟩)] ++ #[.pointer (some ⟨w.heap.size, 0, none⟩), .pointer (some ⟨w.heap.size + 1 + 1, 0, none⟩), .pointer (some ⟨w.heap.size + 1 + 1 + 1, 0, none⟩)]) (readW W s) (fun e w2 => e = did (udpErr s) ∧ Blk w2 W.heap.size 25 #[.int .i64 0] ∧ Q w2) →
      Calls Try.prog 65 #[.string s, .func (.func 77) #[] #[.pointer (some ⟨w.heap.size, 0, none⟩), .pointer (some ⟨w.heap.size + 1 + 1, 0, none⟩), .pointer (some ⟨w.heap.size + 1 + 1 + 1, 0, none⟩)]] W
        fun e w' => e = .returned (.int .i64 (udpErr s)) ∧ ∃ w2, Q w2 ∧ w2.grownBy w' (some W.heap.size) :=
    fun Q h => Read_calls 77 _ s (udpErr s) W Q (fun _ _ => rfl) h
  rw [hk] at hrd'
  clear hrd hres hbl b0 b1 b2 b3 hb
  by_cases h8 : s.size < 8
  · have he : udpErr s = 2 := if_pos h8
    rw [he] at hrd' ⊢
    refine (hrd' (fun w2 => ∃ n cs x, UG w.heap.size s w w2 n cs x) ?_).mono ?_
    · refine (udp_Get1.short w.heap.size s w (readW W s) hG h8).mono ?_
      rintro e w2 ⟨rfl, n, cs, x, hu⟩
      exact ⟨rfl, hu.2.1.tail.tail.tail.tail.head, n, cs, x, hu⟩
    · rintro e w' ⟨rfl, w2, ⟨n, cs, x, hu⟩, hg⟩
      exact ⟨rfl, hu.done hg (fun h0 => absurd (he.symm.trans h0) (by decide))⟩
  · by_cases heq : be (bl (s.extract 4 6)) = s.size
    · have he : udpErr s = 0 := by unfold udpErr; rw [if_neg h8, if_pos heq]
      rw [he] at hrd' ⊢
      refine (hrd' (fun w2 => UG w.heap.size s w w2 s.size #[.int .i64 (be (bl (s.extract 0 2)) : Nat), .int .i64 (be (bl (s.extract 2 4)) : Nat), .string (s.extract 8 s.size)] (be (bl (s.extract 6 8)) : Nat)) ?_).mono ?_
      · refine (udp_Get1.ok w.heap.size s w (readW W s) hG (by omega) heq).mono ?_
        rintro e w2 ⟨rfl, hu⟩
        exact ⟨rfl, hu.2.1.tail.tail.tail.tail.head, hu⟩
      · rintro e w' ⟨rfl, w2, hu, hg⟩
        exact ⟨rfl, hu.done hg (fun _ => ⟨rfl, rfl⟩)⟩
    · have he : udpErr s = 4 := by unfold udpErr; rw [if_neg h8, if_neg heq]
      rw [he] at hrd' ⊢
      refine (hrd' (fun w2 => ∃ n cs x, UG w.heap.size s w w2 n cs x) ?_).mono ?_
      · refine (udp_Get1.len w.heap.size s w (readW W s) hG (by omega) heq).mono ?_
        rintro e w2 ⟨rfl, n, cs, x, hu⟩
        exact ⟨rfl, hu.2.1.tail.tail.tail.tail.head, n, cs, x, hu⟩
      · rintro e w' ⟨rfl, w2, ⟨n, cs, x, hu⟩, hg⟩
        exact ⟨rfl, hu.done hg (fun h0 => absurd (he.symm.trans h0) (by decide))⟩

set_option maxHeartbeats 1000000 in
set_option maxRecDepth 100000 in
theorem udp_Get.calls (s : ByteArray) (r1 r2 : Int) (r3 : ByteArray) (r4 r5 : Int) (w : World) (h : udp_Get.f s = some (r1, r2, r3, r4, r5)) :
    Calls Try.prog 50 #[.string s] w fun e w' => e = .returned (.tuple #[.agg #[.int .i64 r1, .int .i64 r2, .string r3], .int .i64 r4, .int .i64 r5]) ∧ Below w.heap.size w w' := by
  unfold udp_Get.f at h
  by_cases hs : s.size ≤ 140737488351232
  case neg => rw [if_neg hs] at h; exact absurd h (by simp)
  rw [if_pos hs] at h
  have hmf : ∀ (fn : Fn) (first cap : Array Value) (w : World), (Instr.makeFunc fn first cap).run Try.prog w = .ok (.func fn first cap) w := fun _ _ _ _ => rfl
  have hu := Try.underlying73
  have HS := Aside0.mk hs
  clear hs
  by_cases h0 : udpErr s = 0
  · rw [if_pos h0] at h
    obtain ⟨rfl, rfl, rfl, rfl, rfl⟩ : (be (bl (s.extract 0 2)) : Nat) = r1 ∧ (be (bl (s.extract 2 4)) : Nat) = r2 ∧ s.extract 8 s.size = r3 ∧ (be (bl (s.extract 6 8)) : Nat) = r4 ∧ 0 = r5 := by
      have h := Option.some.inj h; simp only [Prod.mk.injEq] at h; exact h
    have d1 : (udpErr s != 0) = false := bne_eq_false_iff_eq.mpr h0
    replace h := Aside0.mk h0
    clear h0
    go_enter Try.func50, Try.ntmps50
    go_wp2_with fail
    refine (udp_Get.reads s HS.out w).mono ?_
    rintro e w2 ⟨rfl, cs, x, hp, hb, hx⟩
    obtain ⟨rfl, rfl⟩ := hx h.out
    have HB := Aside0.mk hb
    have c1 := hp.tail.head.cells
    have c2 := hp.tail.head.frees
    have c3 := hp.tail.tail.head.cells
    have c4 := hp.tail.tail.tail.head.cell 0 _ rfl
    have HK := Aside0.mk hp.tail.head
    clear hp hb hx
    go_wp2_with fail
    go_region
    all_goals
      have c5 := (((HK.out.set 0 (.int .i64 (be (bl (s.extract 0 2)) : Nat))).set 1 (.int .i64 (be (bl (s.extract 2 4)) : Nat))).set 2 (.string (s.extract 8 s.size))).drew.cells
      simp only [List.setIfInBounds_toArray, List.set_cons_zero, List.set_cons_succ] at c5
      clear c1 c2 c3 c4
      go_wp2
      refine ⟨rfl, _, ?_, rfl, ?_⟩
      rotate_left
      · exact (((HB.out.setCell (by simp) _).setCell (by simp) _).setCell (by simp) _).drew
      simp [results, Try.results50, go_sem, hu, c5]
  · rw [if_neg h0] at h
    obtain ⟨rfl, rfl, rfl, rfl, rfl⟩ : 0 = r1 ∧ 0 = r2 ∧ empty = r3 ∧ 0 = r4 ∧ udpErr s = r5 := by
      have h := Option.some.inj h; simp only [Prod.mk.injEq] at h; exact h
    have d1 : (udpErr s != 0) = true := bne_iff_ne.mpr h0
    clear h h0
    go_enter Try.func50, Try.ntmps50
    go_wp2_with fail
    refine (udp_Get.reads s HS.out w).mono ?_
    rintro e w2 ⟨rfl, cs, x, hp, hb, hx⟩
    have HB := Aside0.mk hb
    have c1 := hp.tail.head.cells
    have c2 := hp.tail.head.frees
    have HK := Aside0.mk hp.tail.head
    clear hp hb hx
    go_wp2
    have c5 := (((HK.out.set 0 (.int .i64 0)).set 1 (.int .i64 0)).set 2 (.string ⟨#[]⟩)).cells
    simp only [List.setIfInBounds_toArray, List.set_cons_zero, List.set_cons_succ] at c5
    clear c1 c2
    refine ⟨rfl, _, ?_, rfl, ?_⟩
    rotate_left
    · exact ((HB.out.setCell (by simp) _).setCell (by simp) _).setCell (by simp) _
    simp [results, Try.results50, go_sem, hu, c5]
    rfl
end Go.Proofs.Ytcmalglippmocaa.G
end

section
namespace Go.Proofs.Ytcmalglippmocaa.G
open Go.RowKit Go.Proofs.YtcmalglippmocaaW.PrintWords Go.Proofs.YtcmalglippmocaaW.PrintLast Go.Proofs.YtcmalglippmocaaW.PrintMore Go.Proofs.Ytcmalglippmocaa.Pal

theorem Reader_Take.went (R : Nat) (s : ByteArray) (n m : Nat) (w : World) (h : Rd w R s n) (hm : n + m ≤ s.size) :
    Calls Try.prog 70 #[.pointer (some ⟨R, 0, none⟩), .int .i64 (m : Int)] w fun e w' => e = .returned (.string (s.extract n (n + m))) ∧ Went w w' R s (n + m) := by
  refine (Reader_Take.yes R s n m w h hm).mono ?_
  rintro e w' ⟨rfl, k, j, rfl⟩
  exact ⟨rfl, grown_drewN (World.grownBy.trans (grown_drewN (grown_refl w _) k) (grown_setCell _ _ _ _)) j, (((h.1.drewN k).set 1 (.int .i64 ((n + m : Nat) : Int))).drewN j), hm, h.2.2⟩
def VG (k : Nat) (s : ByteArray) (w w1 : World) (n : Nat) (cs : Array Value) (x : ByteArray) : Prop :=
  Rd w1 (k + 5) s n ∧ Hp w1 [(k, 9, #[.string s]), (k + 1, 53, #[.int .i64 0, .int .i64 0, .int .i64 0, .int .i64 0, .string ⟨#[]⟩, .string ⟨#[]⟩]), (k + 2, 53, cs), (k + 3, 9, #[.string x]), (k + 4, 25, #[.int .i64 0])] ∧ Below k w w1
theorem VG.went {k : Nat} {s : ByteArray} {w w1 w2 : World} {n m : Nat} {cs : Array Value} {x : ByteArray} (h : VG k s w w1 n cs x) (hw : Went w1 w2 (k + 5) s m) : VG k s w w2 m cs x :=
  ⟨hw.2, h.2.1.grown hw.1 (by simp), h.2.2.trans (below_of_grown hw.1 (by have := h.1.1.lt; omega) (by omega))⟩
theorem VG.put {k : Nat} {s : ByteArray} {w w1 : World} {n : Nat} {cs : Array Value} {x : ByteArray} (h : VG k s w w1 n cs x) (j : Nat) (v : Value) : VG k s w (w1.setCell ⟨k + 2, j, none⟩ v) n (cs.setIfInBounds j v) x :=
  ⟨⟨h.1.1.other _ (by simp) _, h.1.2⟩, h.2.1.set (l1 := [_, _]) (l2 := [_, _]) j v (by simp) (by simp), h.2.2.setCell (by simp) _⟩
theorem VG.putSum {k : Nat} {s : ByteArray} {w w1 : World} {n : Nat} {cs : Array Value} {x : ByteArray} (h : VG k s w w1 n cs x) (y : ByteArray) : VG k s w (w1.setCell ⟨k + 3, 0, none⟩ (.string y)) n cs y :=
  ⟨⟨h.1.1.other _ (by simp) _, h.1.2⟩, h.2.1.set (l1 := [_, _, _]) (l2 := [_]) 0 (.string y) (by simp) (by simp), h.2.2.setCell (by simp) _⟩
theorem VG.drew {k : Nat} {s : ByteArray} {w w1 : World} {n : Nat} {cs : Array Value} {x : ByteArray} (h : VG k s w w1 n cs x) : VG k s w w1.drew n cs x := ⟨h.1, h.2.1, h.2.2.drew⟩
theorem VG.drewN {k : Nat} {s : ByteArray} {w w1 : World} {n : Nat} {cs : Array Value} {x : ByteArray} (h : VG k s w w1 n cs x) (j : Nat) : VG k s w (w1.drewN j) n cs x := ⟨h.1, h.2.1, pw_below_drewN h.2.2 j⟩
theorem VG.facts {k : Nat} {s : ByteArray} {w w1 : World} {n : Nat} {cs : Array Value} {x : ByteArray} (h : VG k s w w1 n cs x) :
    w1.cell? ⟨k, 0, none⟩ = some (.string s) ∧ (∀ j, w1.frozen? ⟨k + 2, j, none⟩ = false) ∧ (∀ j, w1.cell? ⟨k + 2, j, none⟩ = cs[j]?) ∧ w1.cell? ⟨k + 3, 0, none⟩ = some (.string x) ∧ w1.frozen? ⟨k + 3, 0, none⟩ = false :=
  ⟨h.2.1.head.cell 0 _ rfl, h.2.1.tail.tail.head.frees, h.2.1.tail.tail.head.cells, h.2.1.tail.tail.tail.head.cell 0 _ rfl, h.2.1.tail.tail.tail.head.free 0⟩
def zero6 : Array Value := #[.int .i64 0, .int .i64 0, .int .i64 0, .int .i64 0, .string ⟨#[]⟩, .string ⟨#[]⟩]
def ip6Err (s : ByteArray) : Int := if s.size < 40 then 2 else if be (bl (s.extract 0 4)) / 268435456 = 6 then (if (be (bl (s.extract 4 6)) : Int) = (s.size : Int) - 40 then 0 else 4) else 3

set_option maxHeartbeats 1000000 in
set_option maxRecDepth 100000 in
theorem ip6_Get1.short (k : Nat) (s : ByteArray) (w w1 : World) (h : VG k s w w1 0 zero6 ⟨#[]⟩) (h8 : s.size < 40) :
    Calls Try.prog 72 #[.pointer (some ⟨k + 5, 0, none⟩), .pointer (some ⟨k, 0, none⟩), .pointer (some ⟨k + 2, 0, none⟩), .pointer (some ⟨k + 3, 0, none⟩)] w1 fun e w2 => e = stopped 2 ∧ ∃ n cs x, VG k s w w2 n cs x := by
  have HG := Aside0.mk h
  have d1 : decide ((40 : Int) ≤ (s.size : Int) - ((0 : Nat) : Int)) = false := decide_eq_false (by omega)
  have d2 : decide ((40 : Int) ≤ (s.size : Int)) = false := decide_eq_false (by omega)
  clear h
  go_enter Try.func72, Try.ntmps72
  go_wp2_with fail
  refine (Reader_Left.calls _ _ _ _ HG.out.1).mono ?_
  rintro e w2 ⟨rfl, j, rfl⟩
  go_wp2_with fail
  refine (Reader_Need.no _ _ _).mono ?_
  rintro e w3 ⟨rfl, rfl⟩
  exact ⟨rfl, rfl, _, _, _, HG.out.drewN j⟩

set_option maxHeartbeats 1000000 in
set_option maxRecDepth 100000 in
theorem ip6_Get1.vers (k : Nat) (s : ByteArray) (w w1 : World) (h : VG k s w w1 0 zero6 ⟨#[]⟩) (h8 : 40 ≤ s.size) (hv : ¬ be (bl (s.extract 0 4)) / 268435456 = 6) :
    Calls Try.prog 72 #[.pointer (some ⟨k + 5, 0, none⟩), .pointer (some ⟨k, 0, none⟩), .pointer (some ⟨k + 2, 0, none⟩), .pointer (some ⟨k + 3, 0, none⟩)] w1 fun e w2 => e = stopped 3 ∧ ∃ n cs x, VG k s w w2 n cs x := by
  have HG := Aside0.mk h
  have d1 : decide ((40 : Int) ≤ (s.size : Int) - ((0 : Nat) : Int)) = true := decide_eq_true (by omega)
  have d2 : decide ((40 : Int) ≤ (s.size : Int)) = true := decide_eq_true (by omega)
  have hw : wrap64 ((be (bl (s.extract 0 4)) : Nat) : Int) = ((be (bl (s.extract 0 4)) : Nat) : Int) := by have hb : be (bl (s.extract 0 4)) < 4294967296 := be_small_U32 s 0; unfold wrap64; omega
  have v1 : (((be (bl (s.extract 0 4)) : Nat) : Int) / 268435456 == 6) = false := by rw [beq_eq_false_iff_ne]; omega
  have v2 : ((be (bl (s.extract 0 4))) / 268435456 == 6) = false := by rw [beq_eq_false_iff_ne]; exact hv
  clear h
  go_enter Try.func72, Try.ntmps72
  go_wp2_with fail
  refine (Reader_Left.calls _ _ _ _ HG.out.1).mono ?_
  rintro e w2 ⟨rfl, j, rfl⟩
  go_wp2_with fail
  refine (Reader_Need.yes _ _ _).mono ?_
  rintro e w3 ⟨rfl, rfl⟩
  go_wp2_with fail
  refine (Reader_U32.yes _ _ _ _ (HG.out.drewN j).1 (by omega)).mono ?_
  rintro e w2 ⟨rfl, g1⟩
  replace HG := Aside0.mk ((HG.out.drewN j).went g1)
  clear g1
  go_wp2_with fail
  refine (Reader_Need.no _ _ _).mono ?_
  rintro e w4 ⟨rfl, rfl⟩
  exact ⟨rfl, rfl, _, _, _, HG.out⟩

set_option maxHeartbeats 1000000 in
set_option maxRecDepth 100000 in
theorem ip6_Get1.len (k : Nat) (s : ByteArray) (w w1 : World) (h : VG k s w w1 0 zero6 ⟨#[]⟩) (h8 : 40 ≤ s.size) (hv : be (bl (s.extract 0 4)) / 268435456 = 6) (hl : ¬ ((be (bl (s.extract 4 6)) : Nat) : Int) = (s.size : Int) - 40) :
    Calls Try.prog 72 #[.pointer (some ⟨k + 5, 0, none⟩), .pointer (some ⟨k, 0, none⟩), .pointer (some ⟨k + 2, 0, none⟩), .pointer (some ⟨k + 3, 0, none⟩)] w1 fun e w2 => e = stopped 4 ∧ ∃ n cs x, VG k s w w2 n cs x := by
  have HG := Aside0.mk h
  have d1 : decide ((40 : Int) ≤ (s.size : Int) - ((0 : Nat) : Int)) = true := decide_eq_true (by omega)
  have d2 : decide ((40 : Int) ≤ (s.size : Int)) = true := decide_eq_true (by omega)
  have hw : wrap64 ((be (bl (s.extract 0 4)) : Nat) : Int) = ((be (bl (s.extract 0 4)) : Nat) : Int) := by have hb : be (bl (s.extract 0 4)) < 4294967296 := be_small_U32 s 0; unfold wrap64; omega
  have v1 : (((be (bl (s.extract 0 4)) : Nat) : Int) / 268435456 == 6) = true := by rw [beq_iff_eq]; omega
  have v2 : ((be (bl (s.extract 0 4))) / 268435456 == 6) = true := by rw [beq_iff_eq]; exact hv
  clear h
  go_enter Try.func72, Try.ntmps72
  go_wp2_with fail
  refine (Reader_Left.calls _ _ _ _ HG.out.1).mono ?_
  rintro e w2 ⟨rfl, j, rfl⟩
  go_wp2_with fail
  refine (Reader_Need.yes _ _ _).mono ?_
  rintro e w3 ⟨rfl, rfl⟩
  go_wp2_with fail
  refine (Reader_U32.yes _ _ _ _ (HG.out.drewN j).1 (by omega)).mono ?_
  rintro e w2 ⟨rfl, g1⟩
  replace HG := Aside0.mk ((HG.out.drewN j).went g1)
  clear g1
  go_wp2_with fail
  refine (Reader_Need.yes _ _ _).mono ?_
  rintro e w4 ⟨rfl, rfl⟩
  go_wp2_with fail
  have c0 := HG.out.facts.1
  have l1 : (((be (bl (s.extract 4 6)) : Nat) : Int) == (s.size : Int) - 40) = false := by rw [beq_eq_false_iff_ne]; exact hl
  have l2 : (((be (bl (s.extract 4 6)) : Nat) : Int) == wrap64 ((s.size : Int) - 40)) = false := by rw [show wrap64 ((s.size : Int) - 40) = (s.size : Int) - 40 by unfold wrap64; have := HG.out.1.2.2; omega]; exact l1
  have l3 : (((be (bl (s.extract 4 6)) : Nat) : Int) == IntKind.i64.wrap ((s.size : Int) - 40)) = false := by rw [show IntKind.i64.wrap ((s.size : Int) - 40) = (s.size : Int) - 40 by rw [IntKind.wrap_i64]; have := HG.out.1.2.2; omega]; exact l1
  clear hl
  go_region_with ((first
      | (go_at_call 69; refine (Reader_U16.yes _ _ 4 _ HG.out.drew.1 ?_).mono ?_; omega; rintro e w5 ⟨rfl, g1⟩; have HG3 := Aside0.mk (HG.out.drew.went g1); have c3 := HG3.out.facts.1; clear g1)
      | (go_at_call 67; refine (Reader_Need.no _ _ _).mono ?_; rintro e w6 ⟨rfl, rfl⟩; refine panicOut ?_)))
  all_goals exact ⟨rfl, rfl, _, _, _, HG3.out⟩

set_option maxHeartbeats 1000000 in
set_option maxRecDepth 100000 in
theorem ip6_Get1.ok (k : Nat) (s : ByteArray) (w w1 : World) (h : VG k s w w1 0 zero6 ⟨#[]⟩) (h8 : 40 ≤ s.size) (hv : be (bl (s.extract 0 4)) / 268435456 = 6) (hl : ((be (bl (s.extract 4 6)) : Nat) : Int) = (s.size : Int) - 40) :
    Calls Try.prog 72 #[.pointer (some ⟨k + 5, 0, none⟩), .pointer (some ⟨k, 0, none⟩), .pointer (some ⟨k + 2, 0, none⟩), .pointer (some ⟨k + 3, 0, none⟩)] w1 fun e w2 => e = .returned (.tuple #[]) ∧ ∃ n, VG k s w w2 n #[.int .i64 (Go.bits .and .i64 (((be (bl (s.extract 0 4)) : Nat) : Int) / 1048576) 255), .int .i64 (Go.bits .and .i64 ((be (bl (s.extract 0 4)) : Nat) : Int) 1048575), .int .i64 (be (bl (s.extract 6 7)) : Nat), .int .i64 (be (bl (s.extract 7 8)) : Nat), .string (s.extract 8 24), .string (s.extract 24 40)] (s.extract 40 s.size) := by
  have HG := Aside0.mk h
  have d1 : decide ((40 : Int) ≤ (s.size : Int) - ((0 : Nat) : Int)) = true := decide_eq_true (by omega)
  have d2 : decide ((40 : Int) ≤ (s.size : Int)) = true := decide_eq_true (by omega)
  have hw : wrap64 ((be (bl (s.extract 0 4)) : Nat) : Int) = ((be (bl (s.extract 0 4)) : Nat) : Int) := by have hb : be (bl (s.extract 0 4)) < 4294967296 := be_small_U32 s 0; unfold wrap64; omega
  have v1 : (((be (bl (s.extract 0 4)) : Nat) : Int) / 268435456 == 6) = true := by rw [beq_iff_eq]; omega
  have v2 : ((be (bl (s.extract 0 4))) / 268435456 == 6) = true := by rw [beq_iff_eq]; exact hv
  clear h
  go_enter Try.func72, Try.ntmps72
  go_wp2_with fail
  refine (Reader_Left.calls _ _ _ _ HG.out.1).mono ?_
  rintro e w2 ⟨rfl, j, rfl⟩
  go_wp2_with fail
  refine (Reader_Need.yes _ _ _).mono ?_
  rintro e w3 ⟨rfl, rfl⟩
  go_wp2_with fail
  refine (Reader_U32.yes _ _ _ _ (HG.out.drewN j).1 (by omega)).mono ?_
  rintro e w2 ⟨rfl, g1⟩
  replace HG := Aside0.mk ((HG.out.drewN j).went g1)
  clear g1
  go_wp2_with fail
  refine (Reader_Need.yes _ _ _).mono ?_
  rintro e w4 ⟨rfl, rfl⟩
  go_wp2_with fail
  have c0 := HG.out.facts.1
  have l1 : (((be (bl (s.extract 4 6)) : Nat) : Int) == (s.size : Int) - 40) = true := by rw [beq_iff_eq]; exact hl
  have l2 : (((be (bl (s.extract 4 6)) : Nat) : Int) == wrap64 ((s.size : Int) - 40)) = true := by rw [show wrap64 ((s.size : Int) - 40) = (s.size : Int) - 40 by unfold wrap64; have := HG.out.1.2.2; omega]; exact l1
  have l3 : (((be (bl (s.extract 4 6)) : Nat) : Int) == IntKind.i64.wrap ((s.size : Int) - 40)) = true := by rw [show IntKind.i64.wrap ((s.size : Int) - 40) = (s.size : Int) - 40 by rw [IntKind.wrap_i64]; have := HG.out.1.2.2; omega]; exact l1
  clear hl
  go_region_with ((first
      | (go_at_call 69; refine (Reader_U16.yes _ _ 4 _ HG.out.drew.1 ?_).mono ?_; omega; rintro e w5 ⟨rfl, g1⟩; have HG3 := Aside0.mk (HG.out.drew.went g1); have c3 := HG3.out.facts.1; clear g1)
      | (go_at_call 67; refine (Reader_Need.yes _ _ _).mono ?_; rintro e w6 ⟨rfl, rfl⟩)))
  all_goals
    clear c0 c3 l1 l2 l3 v1 v2 d1 d2 hw
    replace HG := HG3
    clear HG3
    go_wp2_with fail
    refine (Reader_U8.yes _ _ _ _ HG.out.1 (by omega)).mono ?_
    rintro e w7 ⟨rfl, g1⟩
    replace HG := Aside0.mk (HG.out.went g1)
    clear g1
    go_wp2_with fail
    refine (Reader_U8.yes _ _ _ _ HG.out.1 (by omega)).mono ?_
    rintro e w8 ⟨rfl, g1⟩
    replace HG := Aside0.mk (HG.out.went g1)
    clear g1
    go_wp2_with fail
    refine (Reader_Take.went _ _ _ 16 _ HG.out.1 (by omega)).mono ?_
    rintro e w9 ⟨rfl, g1⟩
    replace HG := Aside0.mk (HG.out.went g1)
    clear g1
    go_wp2_with fail
    refine (Reader_Take.went _ _ _ 16 _ HG.out.1 (by omega)).mono ?_
    rintro e w10 ⟨rfl, g1⟩
    replace HG := Aside0.mk (HG.out.went g1)
    clear g1
    obtain ⟨c0, c1, c2, c3, c4⟩ := HG.out.facts
    simp only [zero6] at c2
    go_wp2_with fail
    replace HG := Aside0.mk ((((((HG.out.put 0 (.int .i64 (Go.bits .and .i64 (((be (bl (s.extract 0 4)) : Nat) : Int) / 1048576) 255))).put 1 (.int .i64 (Go.bits .and .i64 ((be (bl (s.extract 0 4)) : Nat) : Int) 1048575))).put 2 (.int .i64 (be (bl (s.extract 6 7)) : Nat))).put 3 (.int .i64 (be (bl (s.extract 7 8)) : Nat))).put 4 (.string (s.extract 8 24))).put 5 (.string (s.extract 24 40)))
    clear c0 c1 c2 c3 c4
    refine (Reader_Rest.calls _ _ _ _ HG.out.1).mono ?_
    rintro e w11 ⟨rfl, g1⟩
    replace HG := Aside0.mk (HG.out.went g1)
    clear g1
    obtain ⟨c0, c1, c2, c3, c4⟩ := HG.out.facts
    clear c0 c1 c2
    go_wp2
    go_end0
    exact ⟨rfl, _, HG.out.putSum _⟩
def VR (k : Nat) (s : ByteArray) (w w1 : World) : Prop :=
  ∃ cs x, Hp w1 [(k, 9, #[.string s]), (k + 1, 53, #[.int .i64 0, .int .i64 0, .int .i64 0, .int .i64 0, .string ⟨#[]⟩, .string ⟨#[]⟩]), (k + 2, 53, cs), (k + 3, 9, #[.string x])] ∧ Below k w w1 ∧
    (ip6Err s = 0 → cs = #[(.int .i64 (Go.bits .and .i64 (((be (bl (s.extract 0 4)) : Nat) : Int) / 1048576) 255)), (.int .i64 (Go.bits .and .i64 ((be (bl (s.extract 0 4)) : Nat) : Int) 1048575)), (.int .i64 (be (bl (s.extract 6 7)) : Nat)), (.int .i64 (be (bl (s.extract 7 8)) : Nat)), (.string (s.extract 8 24)), (.string (s.extract 24 40))] ∧ x = s.extract 40 s.size)
theorem VG.done {k : Nat} {s : ByteArray} {w w1 w2 : World} {n : Nat} {cs : Array Value} {x : ByteArray} (h : VG k s w w1 n cs x) (hw : w1.grownBy w2 (some (k + 4)))
    (hx : ip6Err s = 0 → cs = #[(.int .i64 (Go.bits .and .i64 (((be (bl (s.extract 0 4)) : Nat) : Int) / 1048576) 255)), (.int .i64 (Go.bits .and .i64 ((be (bl (s.extract 0 4)) : Nat) : Int) 1048575)), (.int .i64 (be (bl (s.extract 6 7)) : Nat)), (.int .i64 (be (bl (s.extract 7 8)) : Nat)), (.string (s.extract 8 24)), (.string (s.extract 24 40))] ∧ x = s.extract 40 s.size) : VR k s w w2 :=
  ⟨cs, x, Hp.grown (R := k + 4) (fun y hy => h.2.1 y (by simp at hy ⊢; rcases hy with rfl | rfl | rfl | rfl <;> simp)) hw (by simp), h.2.2.trans (below_of_grown hw (by have := h.1.1.lt; omega) (by omega)), hx⟩

set_option maxRecDepth 100000 in
theorem ip6_Get.reads (s : ByteArray) (hs : s.size ≤ 140737488351232) (w : World) :
    Calls Try.prog 65 #[.string s, .func (.func 72) #[] #[.pointer (some ⟨w.heap.size, 0, none⟩), .pointer (some ⟨w.heap.size + 1 + 1, 0, none⟩), .pointer (some ⟨w.heap.size + 1 + 1 + 1, 0, none⟩)]]
      ((((w.alloc (.cells #[.string s] 9)).alloc (.cells #[.int .i64 0, .int .i64 0, .int .i64 0, .int .i64 0, .string ⟨#[]⟩, .string ⟨#[]⟩] 53)).alloc (.cells #[.int .i64 0, .int .i64 0, .int .i64 0, .int .i64 0, .string ⟨#[]⟩, .string ⟨#[]⟩] 53)).alloc (.cells #[.string ⟨#[]⟩] 9))
      fun e w' => e = .returned (.int .i64 (ip6Err s)) ∧ VR w.heap.size s w w' := by
  obtain ⟨W, hW⟩ : ∃ W, W = ((((w.alloc (.cells #[.string s] 9)).alloc (.cells #[.int .i64 0, .int .i64 0, .int .i64 0, .int .i64 0, .string ⟨#[]⟩, .string ⟨#[]⟩] 53)).alloc (.cells #[.int .i64 0, .int .i64 0, .int .i64 0, .int .i64 0, .string ⟨#[]⟩, .string ⟨#[]⟩] 53)).alloc (.cells #[.string ⟨#[]⟩] 9)) := ⟨_, rfl⟩
  have hk : W.heap.size = w.heap.size + 4 := by rw [hW]; simp
  have b0 : Blk W w.heap.size 9 #[.string s] := by rw [hW]; exact (((Blk.new w _ _).alloc _).alloc _).alloc _
  have b1 : Blk W (w.heap.size + 1) 53 #[.int .i64 0, .int .i64 0, .int .i64 0, .int .i64 0, .string ⟨#[]⟩, .string ⟨#[]⟩] := by
    rw [hW]
    have := Blk.new (w.alloc (.cells #[.string s] 9)) 53 #[.int .i64 0, .int .i64 0, .int .i64 0, .int .i64 0, .string ⟨#[]⟩, .string ⟨#[]⟩]
    rw [World.size_alloc] at this
    exact (this.alloc _).alloc _
  have b2 : Blk W (w.heap.size + 2) 53 #[.int .i64 0, .int .i64 0, .int .i64 0, .int .i64 0, .string ⟨#[]⟩, .string ⟨#[]⟩] := by
    rw [hW]
    have := Blk.new ((w.alloc (.cells #[.string s] 9)).alloc (.cells #[.int .i64 0, .int .i64 0, .int .i64 0, .int .i64 0, .string ⟨#[]⟩, .string ⟨#[]⟩] 53)) 53 #[.int .i64 0, .int .i64 0, .int .i64 0, .int .i64 0, .string ⟨#[]⟩, .string ⟨#[]⟩]
    rw [World.size_alloc, World.size_alloc] at this
    exact this.alloc _
  have b3 : Blk W (w.heap.size + 3) 9 #[.string ⟨#[]⟩] := by
    rw [hW]
    have := Blk.new (((w.alloc (.cells #[.string s] 9)).alloc (.cells #[.int .i64 0, .int .i64 0, .int .i64 0, .int .i64 0, .string ⟨#[]⟩, .string ⟨#[]⟩] 53)).alloc (.cells #[.int .i64 0, .int .i64 0, .int .i64 0, .int .i64 0, .string ⟨#[]⟩, .string ⟨#[]⟩] 53)) 9 #[.string ⟨#[]⟩]
    rw [World.size_alloc, World.size_alloc, World.size_alloc] at this
    exact this
  have hb : Below w.heap.size w W := by
    rw [hW]
    exact ((((Below.refl _ _).alloc (Nat.le_refl _) _).alloc (by simp) _).alloc (by simp; omega) _).alloc (by simp; omega) _
  rw [← hW]
  clear hW
  have hrd := readW_rd W s hs
  have hres := readW_res W s
  have hbl := readW_below W s
  rw [hk] at hrd hres hbl
  have hG : VG w.heap.size s w (readW W s) 0 zero6 ⟨#[]⟩ :=
    ⟨hrd, .cons (b0.below hbl (by omega)) (.cons (b1.below hbl (by omega)) (.cons (b2.below hbl (by omega)) (.cons (b3.below hbl (by omega)) (.cons hres (.nil _))))), hb.trans (hbl.mono (by omega))⟩
  have hrd' : ∀ Q : World → Prop, Calls Try.prog 72 (#[.pointer (some ⟨W.heap.size + 1, 0, none⟩)] ++ #[.pointer (some ⟨w.heap.size, 0, none⟩), .pointer (some ⟨w.heap.size + 1 + 1, 0, none⟩), .pointer (some ⟨w.heap.size + 1 + 1 + 1, 0, none⟩)]) (readW W s) (fun e w2 => e = did (ip6Err s) ∧ Blk w2 W.heap.size 25 #[.int .i64 0] ∧ Q w2) →
      Calls Try.prog 65 #[.string s, .func (.func 72) #[] #[.pointer (some ⟨w.heap.size, 0, none⟩), .pointer (some ⟨w.heap.size + 1 + 1, 0, none⟩), .pointer (some ⟨w.heap.size + 1 + 1 + 1, 0, none⟩)]] W
        fun e w' => e = .returned (.int .i64 (ip6Err s)) ∧ ∃ w2, Q w2 ∧ w2.grownBy w' (some W.heap.size) :=
    fun Q h => Read_calls 72 _ s (ip6Err s) W Q (fun _ _ => rfl) h
  rw [hk] at hrd'
  clear hrd hres hbl b0 b1 b2 b3 hb
  by_cases h8 : s.size < 40
  · have he : ip6Err s = 2 := if_pos h8
    rw [he] at hrd' ⊢
    refine (hrd' (fun w2 => ∃ n cs x, VG w.heap.size s w w2 n cs x) ?_).mono ?_
    · refine (ip6_Get1.short w.heap.size s w (readW W s) hG h8).mono ?_
      rintro e w2 ⟨rfl, n, cs, x, hu⟩
      exact ⟨rfl, hu.2.1.tail.tail.tail.tail.head, n, cs, x, hu⟩
    · rintro e w' ⟨rfl, w2, ⟨n, cs, x, hu⟩, hg⟩
      exact ⟨rfl, hu.done hg (fun h0 => absurd (he.symm.trans h0) (by decide))⟩
  by_cases hv : be (bl (s.extract 0 4)) / 268435456 = 6
  case neg =>
    have he : ip6Err s = 3 := by unfold ip6Err; rw [if_neg h8, if_neg hv]
    rw [he] at hrd' ⊢
    refine (hrd' (fun w2 => ∃ n cs x, VG w.heap.size s w w2 n cs x) ?_).mono ?_
    · refine (ip6_Get1.vers w.heap.size s w (readW W s) hG (by omega) hv).mono ?_
      rintro e w2 ⟨rfl, n, cs, x, hu⟩
      exact ⟨rfl, hu.2.1.tail.tail.tail.tail.head, n, cs, x, hu⟩
    · rintro e w' ⟨rfl, w2, ⟨n, cs, x, hu⟩, hg⟩
      exact ⟨rfl, hu.done hg (fun h0 => absurd (he.symm.trans h0) (by decide))⟩
  by_cases hl : ((be (bl (s.extract 4 6)) : Nat) : Int) = (s.size : Int) - 40
  case neg =>
    have he : ip6Err s = 4 := by unfold ip6Err; rw [if_neg h8, if_pos hv, if_neg hl]
    rw [he] at hrd' ⊢
    refine (hrd' (fun w2 => ∃ n cs x, VG w.heap.size s w w2 n cs x) ?_).mono ?_
    · refine (ip6_Get1.len w.heap.size s w (readW W s) hG (by omega) hv hl).mono ?_
      rintro e w2 ⟨rfl, n, cs, x, hu⟩
      exact ⟨rfl, hu.2.1.tail.tail.tail.tail.head, n, cs, x, hu⟩
    · rintro e w' ⟨rfl, w2, ⟨n, cs, x, hu⟩, hg⟩
      exact ⟨rfl, hu.done hg (fun h0 => absurd (he.symm.trans h0) (by decide))⟩
  have he : ip6Err s = 0 := by unfold ip6Err; rw [if_neg h8, if_pos hv, if_pos hl]
  rw [he] at hrd' ⊢
  refine (hrd' (fun w2 => ∃ n, VG w.heap.size s w w2 n #[(.int .i64 (Go.bits .and .i64 (((be (bl (s.extract 0 4)) : Nat) : Int) / 1048576) 255)), (.int .i64 (Go.bits .and .i64 ((be (bl (s.extract 0 4)) : Nat) : Int) 1048575)), (.int .i64 (be (bl (s.extract 6 7)) : Nat)), (.int .i64 (be (bl (s.extract 7 8)) : Nat)), (.string (s.extract 8 24)), (.string (s.extract 24 40))] (s.extract 40 s.size)) ?_).mono ?_
  · refine (ip6_Get1.ok w.heap.size s w (readW W s) hG (by omega) hv hl).mono ?_
    rintro e w2 ⟨rfl, n, hu⟩
    exact ⟨rfl, hu.2.1.tail.tail.tail.tail.head, n, hu⟩
  · rintro e w' ⟨rfl, w2, ⟨n, hu⟩, hg⟩
    exact ⟨rfl, hu.done hg (fun _ => ⟨rfl, rfl⟩)⟩

def ip6_Get.f (s : ByteArray) : Option (Int × Int × Int × Int × ByteArray × ByteArray × ByteArray × Int) :=
  if s.size ≤ 140737488351232 then some (if ip6Err s = 0 then (Go.bits .and .i64 (((be (bl (s.extract 0 4)) : Nat) : Int) / 1048576) 255, Go.bits .and .i64 ((be (bl (s.extract 0 4)) : Nat) : Int) 1048575, ((be (bl (s.extract 6 7)) : Nat) : Int), ((be (bl (s.extract 7 8)) : Nat) : Int), s.extract 8 24, s.extract 24 40, s.extract 40 s.size, 0) else (0, 0, 0, 0, empty, empty, empty, ip6Err s)) else none

set_option maxHeartbeats 1000000 in
set_option maxRecDepth 100000 in
theorem ip6_Get.calls (s : ByteArray) (r1 r2 r3 r4 : Int) (r5 r6 r7 : ByteArray) (r8 : Int) (w : World) (h : ip6_Get.f s = some (r1, r2, r3, r4, r5, r6, r7, r8)) :
    Calls Try.prog 48 #[.string s] w fun e w' => e = .returned (.tuple #[.agg #[.int .i64 r1, .int .i64 r2, .int .i64 r3, .int .i64 r4, .string r5, .string r6], .string r7, .int .i64 r8]) ∧ Below w.heap.size w w' := by
  unfold ip6_Get.f at h
  by_cases hs : s.size ≤ 140737488351232
  case neg => rw [if_neg hs] at h; exact absurd h (by simp)
  rw [if_pos hs] at h
  have hmf : ∀ (fn : Fn) (first cap : Array Value) (w : World), (Instr.makeFunc fn first cap).run Try.prog w = .ok (.func fn first cap) w := fun _ _ _ _ => rfl
  have hu := Try.underlying53
  have HS := Aside0.mk hs
  clear hs
  by_cases h0 : ip6Err s = 0
  · rw [if_pos h0] at h
    replace h := Option.some.inj h
    simp only [Prod.mk.injEq] at h
    obtain ⟨rfl, rfl, rfl, rfl, rfl, rfl, rfl, rfl⟩ := h
    have d1 : (ip6Err s != 0) = false := bne_eq_false_iff_eq.mpr h0
    have h := Aside0.mk h0
    clear h0
    go_enter Try.func48, Try.ntmps48
    go_wp2_with fail
    refine (ip6_Get.reads s HS.out w).mono ?_
    rintro e w2 ⟨rfl, cs, x, hp, hb, hx⟩
    obtain ⟨rfl, rfl⟩ := hx h.out
    have HB := Aside0.mk hb
    have c1 := hp.tail.head.cells
    have c2 := hp.tail.head.frees
    have c3 := hp.tail.tail.head.cells
    have c4 := hp.tail.tail.tail.head.cell 0 _ rfl
    have HK := Aside0.mk hp.tail.head
    clear hp hb hx
    go_wp2_with fail
    go_region
    all_goals
      have c5 := (((((((HK.out.set 0 (.int .i64 (Go.bits .and .i64 (((be (bl (s.extract 0 4)) : Nat) : Int) / 1048576) 255))).set 1 (.int .i64 (Go.bits .and .i64 ((be (bl (s.extract 0 4)) : Nat) : Int) 1048575))).set 2 (.int .i64 (be (bl (s.extract 6 7)) : Nat))).set 3 (.int .i64 (be (bl (s.extract 7 8)) : Nat))).set 4 (.string (s.extract 8 24))).set 5 (.string (s.extract 24 40)))).drew.cells
      simp only [List.setIfInBounds_toArray, List.set_cons_zero, List.set_cons_succ] at c5
      clear c1 c2 c3 c4
      go_wp2
      refine ⟨rfl, _, ?_, rfl, ?_⟩
      rotate_left
      · exact ((((((HB.out.setCell (by simp) _).setCell (by simp) _).setCell (by simp) _).setCell (by simp) _).setCell (by simp) _).setCell (by simp) _).drew
      simp [results, Try.results48, go_sem, hu, c5]
  · rw [if_neg h0] at h
    replace h := Option.some.inj h
    simp only [Prod.mk.injEq] at h
    obtain ⟨rfl, rfl, rfl, rfl, rfl, rfl, rfl, rfl⟩ := h
    have d1 : (ip6Err s != 0) = true := bne_iff_ne.mpr h0
    clear h0
    go_enter Try.func48, Try.ntmps48
    go_wp2_with fail
    refine (ip6_Get.reads s HS.out w).mono ?_
    rintro e w2 ⟨rfl, cs, x, hp, hb, hx⟩
    have HB := Aside0.mk hb
    have c1 := hp.tail.head.cells
    have c2 := hp.tail.head.frees
    have HK := Aside0.mk hp.tail.head
    clear hp hb hx
    go_wp2
    have c5 := (((((((HK.out.set 0 (.int .i64 0)).set 1 (.int .i64 0)).set 2 (.int .i64 0)).set 3 (.int .i64 0)).set 4 (.string ⟨#[]⟩)).set 5 (.string ⟨#[]⟩))).cells
    simp only [List.setIfInBounds_toArray, List.set_cons_zero, List.set_cons_succ] at c5
    clear c1 c2
    refine ⟨rfl, _, ?_, rfl, ?_⟩
    rotate_left
    · exact (((((HB.out.setCell (by simp) _).setCell (by simp) _).setCell (by simp) _).setCell (by simp) _).setCell (by simp) _).setCell (by simp) _
    simp [results, Try.results48, go_sem, hu, c5]
    rfl
end Go.Proofs.Ytcmalglippmocaa.G
end

section
namespace Go.Proofs.Ytcmalglippmocaa.G
open Go.RowKit Go.Proofs.Ytcmalglippmocaa.Pal
def TabAt (w : World) (b : Nat) (l : List Int) : Prop := ∀ j x, l[j]? = some x → w.cell? ⟨b, j, none⟩ = some (.int .i64 x)
theorem TabAt.lt {w : World} {b : Nat} {l : List Int} {x : Int} (h : TabAt w b (x :: l)) : b < w.heap.size := by
  have := h 0 x rfl
  by_cases hb : b < w.heap.size
  · exact hb
  · rw [World.cell?] at this
    simp [Array.getElem?_eq_none (Nat.le_of_not_lt hb)] at this
theorem TabAt.below {w w' : World} {b : Nat} {x : Int} {l : List Int} (h : TabAt w b (x :: l)) (hb : Below w.heap.size w w') : TabAt w' b (x :: l) := fun j y hy =>
  (hb.cell (p := ⟨b, j, none⟩) h.lt).trans (h j y hy)
theorem isEmpty_of {s : ByteArray} (h : s.size = 0) : s.toList.isEmpty = true := by
  have e : s = ⟨#[]⟩ := by apply ByteArray.ext; exact Array.eq_empty_of_size_eq_zero h
  rw [e]; decide +kernel
theorem isEmpty_not {s : ByteArray} (h : ¬ s.size = 0) : s.toList.isEmpty = false := by
  have e : s.toList = s.data.toList := ByteArray.toList_eq s
  rw [e]
  cases hb : s.data.toList with
  | nil => exact absurd (show s.data.size = 0 by rw [← Array.length_toList, hb]; rfl) h
  | cons a l => rfl
theorem results_cell_tmp {P : Program} {fn : Func} {p t : Tmp} {ty : TypeId} (h : fn.results = #[.cell p ty, .tmp t]) (tmps : Array Value) (w : World) (k : Nat) (cs : Array Value) (d : TypeDesc)
    (hp : tmps.getD p undef = .pointer (some ⟨k, 0, none⟩)) (hb : Blk w k ty cs) (hu : P.underlying ty = some d) (hd : (match d with | .struct _ | .array _ _ => true | _ => false) = true) (hi : (P.info? ty).map (·.size) = some cs.size) :
    (results fn tmps).run P w = .ok (.tuple #[.agg cs, tmps.getD t undef]) w := by
  have hp' : tmps[p]?.getD undef = .pointer (some ⟨k, 0, none⟩) := by simpa using hp
  simp [results, h, hp', asAddr, run_loadVar_row w k ty ty cs (0, 0) d hb hu hd hi]
end Go.Proofs.Ytcmalglippmocaa.G
end

section
namespace Go.Proofs.Ytcmalglippmocaa.G
open Go.RowKit Go.Proofs.YtcmalglippmocaaW.PrintWords Go.Proofs.YtcmalglippmocaaW.PrintLast Go.Proofs.YtcmalglippmocaaW.PrintMore Go.Proofs.Ytcmalglippmocaa.Pal
abbrev cs4 (r1 r2 r3 r4 r5 : Int) (r6 r7 : Bool) (r8 r9 r10 : ByteArray) : Array Value := #[.int .i64 r1, .int .i64 r2, .int .i64 r3, .int .i64 r4, .int .i64 r5, .bool r6, .bool r7, .string r8, .string r9, .string r10]
abbrev cs6 (r1 r2 r3 r4 : Int) (r5 r6 : ByteArray) : Array Value := #[.int .i64 r1, .int .i64 r2, .int .i64 r3, .int .i64 r4, .string r5, .string r6]
section
variable (r1 r2 r3 r4 r5 : Int) (r6 r7 : Bool) (r8 r9 r10 : ByteArray)
theorem four_m_proto : ∀ w : World, (method 256 92 (.agg (cs4 r1 r2 r3 r4 r5 r6 r7 r8 r9 r10)) "palanquin/flow.proto").run Try.prog w = .ok (106, .agg (cs4 r1 r2 r3 r4 r5 r6 r7 r8 r9 r10)) w := fun _ => by kernel_rfl
theorem four_m_ends : ∀ w : World, (method 256 92 (.agg (cs4 r1 r2 r3 r4 r5 r6 r7 r8 r9 r10)) "palanquin/flow.ends").run Try.prog w = .ok (104, .agg (cs4 r1 r2 r3 r4 r5 r6 r7 r8 r9 r10)) w := fun _ => by kernel_rfl
theorem four_m_piece : ∀ w : World, (method 256 92 (.agg (cs4 r1 r2 r3 r4 r5 r6 r7 r8 r9 r10)) "palanquin/flow.piece").run Try.prog w = .ok (105, .agg (cs4 r1 r2 r3 r4 r5 r6 r7 r8 r9 r10)) w := fun _ => by kernel_rfl
theorem four_m_bare : ∀ w : World, (method 256 92 (.agg (cs4 r1 r2 r3 r4 r5 r6 r7 r8 r9 r10)) "palanquin/flow.bare").run Try.prog w = .ok (103, .agg (cs4 r1 r2 r3 r4 r5 r6 r7 r8 r9 r10)) w := fun _ => by kernel_rfl
end
section
variable (r1 r2 r3 r4 : Int) (r5 r6 : ByteArray)
theorem six_m_proto : ∀ w : World, (method 256 96 (.agg (cs6 r1 r2 r3 r4 r5 r6)) "palanquin/flow.proto").run Try.prog w = .ok (110, .agg (cs6 r1 r2 r3 r4 r5 r6)) w := fun _ => by kernel_rfl
theorem six_m_ends : ∀ w : World, (method 256 96 (.agg (cs6 r1 r2 r3 r4 r5 r6)) "palanquin/flow.ends").run Try.prog w = .ok (108, .agg (cs6 r1 r2 r3 r4 r5 r6)) w := fun _ => by kernel_rfl
theorem six_m_piece : ∀ w : World, (method 256 96 (.agg (cs6 r1 r2 r3 r4 r5 r6)) "palanquin/flow.piece").run Try.prog w = .ok (109, .agg (cs6 r1 r2 r3 r4 r5 r6)) w := fun _ => by kernel_rfl
theorem six_m_bare : ∀ w : World, (method 256 96 (.agg (cs6 r1 r2 r3 r4 r5 r6)) "palanquin/flow.bare").run Try.prog w = .ok (107, .agg (cs6 r1 r2 r3 r4 r5 r6)) w := fun _ => by kernel_rfl
end
section
variable (r1 r2 r3 r4 r5 : Int) (r6 r7 : Bool) (r8 r9 r10 : ByteArray) (w : World)
set_option maxHeartbeats 1000000 in
theorem four_proto : Calls Try.prog 106 #[.agg (cs4 r1 r2 r3 r4 r5 r6 r7 r8 r9 r10)] w fun e w' => e = .returned (.int .i64 r5) ∧ Below w.heap.size w w' := by
  go_enter Try.func106, Try.ntmps106
  go_wp2
  go_ret
  exact ⟨rfl, (Below.refl _ _).alloc (Nat.le_refl _) _⟩
set_option maxHeartbeats 1000000 in
theorem four_ends : Calls Try.prog 104 #[.agg (cs4 r1 r2 r3 r4 r5 r6 r7 r8 r9 r10)] w fun e w' => e = .returned (.tuple #[.string r8, .string r9]) ∧ Below w.heap.size w w' := by
  go_enter Try.func104, Try.ntmps104
  go_wp2
  go_quiet (fail)
  go_wp2
  go_ret2
  exact ⟨rfl, pw_below_drewN ((Below.refl _ _).alloc (Nat.le_refl _) _) _⟩
set_option maxHeartbeats 1000000 in
theorem four_piece : Calls Try.prog 105 #[.agg (cs4 r1 r2 r3 r4 r5 r6 r7 r8 r9 r10)] w fun e w' => e = .returned (.bool (r3 != 0 || r7)) ∧ Below w.heap.size w w' := by
  cases h : (r3 != 0)
  all_goals
    go_enter Try.func105, Try.ntmps105
    go_wp2
    go_ret
    exact ⟨rfl, (Below.refl _ _).alloc (Nat.le_refl _) _⟩
set_option maxHeartbeats 1000000 in
theorem four_bare : Calls Try.prog 103 #[.agg (cs4 r1 r2 r3 r4 r5 r6 r7 r8 r9 r10)] w fun e w' => e = .returned (.bool true) ∧ Below w.heap.size w w' := by
  go_enter Try.func103, Try.ntmps103
  go_wp2
  go_ret
  exact ⟨rfl, (Below.refl _ _).alloc (Nat.le_refl _) _⟩
end
section
variable (r1 r2 r3 r4 : Int) (r5 r6 : ByteArray) (w : World)
set_option maxHeartbeats 1000000 in
theorem six_proto : Calls Try.prog 110 #[.agg (cs6 r1 r2 r3 r4 r5 r6)] w fun e w' => e = .returned (.int .i64 r3) ∧ Below w.heap.size w w' := by
  go_enter Try.func110, Try.ntmps110
  go_wp2
  go_ret
  exact ⟨rfl, (Below.refl _ _).alloc (Nat.le_refl _) _⟩
set_option maxHeartbeats 1000000 in
theorem six_ends : Calls Try.prog 108 #[.agg (cs6 r1 r2 r3 r4 r5 r6)] w fun e w' => e = .returned (.tuple #[.string r5, .string r6]) ∧ Below w.heap.size w w' := by
  go_enter Try.func108, Try.ntmps108
  go_wp2
  go_quiet (fail)
  go_wp2
  go_ret2
  exact ⟨rfl, pw_below_drewN ((Below.refl _ _).alloc (Nat.le_refl _) _) _⟩
set_option maxHeartbeats 1000000 in
theorem six_piece : Calls Try.prog 109 #[.agg (cs6 r1 r2 r3 r4 r5 r6)] w fun e w' => e = .returned (.bool false) ∧ Below w.heap.size w w' := by
  go_enter Try.func109, Try.ntmps109
  go_wp2
  go_ret
  exact ⟨rfl, (Below.refl _ _).alloc (Nat.le_refl _) _⟩
set_option maxHeartbeats 1000000 in
theorem six_bare : Calls Try.prog 107 #[.agg (cs6 r1 r2 r3 r4 r5 r6)] w fun e w' => e = .returned (.bool false) ∧ Below w.heap.size w w' := by
  go_enter Try.func107, Try.ntmps107
  go_wp2
  go_ret
  exact ⟨rfl, (Below.refl _ _).alloc (Nat.le_refl _) _⟩
end

set_option maxHeartbeats 2000000 in
set_option maxRecDepth 100000 in
theorem open_none (s : ByteArray) (w : World) (h : s.size = 0) : Calls Try.prog 25 #[.string s] w fun e w' => e = .returned (.tuple #[.nilIface, .string ⟨#[]⟩, .int .i64 2]) ∧ Below w.heap.size w w' := by
  have e0 := isEmpty_of h
  clear h
  go_enter Try.func25, Try.ntmps25
  go_wp2
  go_ret3
  exact ⟨rfl, Below.refl _ _⟩
set_option maxHeartbeats 2000000 in
set_option maxRecDepth 100000 in
theorem open_other (s : ByteArray) (w : World) (h : ¬ s.size = 0) (h4 : bt s 0 / 16 ≠ 4) (h6 : bt s 0 / 16 ≠ 6) : Calls Try.prog 25 #[.string s] w fun e w' => e = .returned (.tuple #[.nilIface, .string ⟨#[]⟩, .int .i64 3]) ∧ Below w.heap.size w w' := by
  have e0 := isEmpty_not h
  have hx : ∀ h : 0 < s.size, ((s[0]'h).toNat : Int) = bt s 0 := bt_at s 0
  have q4 : (0 < s.size) = True := eq_true (by omega)
  have d4 : (bt s 0 / 16 == 4) = false := beq_eq_false_iff_ne.mpr h4
  have d6 : (bt s 0 / 16 == 6) = false := beq_eq_false_iff_ne.mpr h6
  clear h h4 h6
  go_enter Try.func25, Try.ntmps25
  go_wp2
  go_ret3
  exact ⟨rfl, Below.refl _ _⟩
set_option maxHeartbeats 2000000 in
set_option maxRecDepth 100000 in
theorem open_four (s : ByteArray) (w : World) (h : ¬ s.size = 0) (h4 : bt s 0 / 16 = 4) {r1 r2 r3 r4 r5 : Int} {r6 r7 : Bool} {r8 r9 r10 r11 : ByteArray} {r12 : Int} (hf : ip4_Get.f s = some (r1, r2, r3, r4, r5, r6, r7, r8, r9, r10, r11, r12)) :
    Calls Try.prog 25 #[.string s] w fun e w' => e = .returned (.tuple #[.iface 92 (.agg (cs4 r1 r2 r3 r4 r5 r6 r7 r8 r9 r10)), .string r11, .int .i64 r12]) ∧ Below w.heap.size w w' := by
  have e0 := isEmpty_not h
  have hx : ∀ h : 0 < s.size, ((s[0]'h).toNat : Int) = bt s 0 := bt_at s 0
  have q4 : (0 < s.size) = True := eq_true (by omega)
  have d4 : (bt s 0 / 16 == 4) = true := beq_iff_eq.mpr h4
  have HF := Aside0.mk hf
  clear h h4 hf
  go_enter Try.func25, Try.ntmps25
  go_wp2_with fail
  refine (ip4_Get.calls _ _ _ _ _ _ _ _ _ _ _ _ _ _ HF.out).mono ?_
  rintro e w2 ⟨rfl, hb⟩
  have HB := Aside0.mk hb
  clear hb e0 hx q4 d4
  go_wp2
  go_ret3
  exact ⟨rfl, below_alloc HB.out _⟩
set_option maxHeartbeats 2000000 in
set_option maxRecDepth 100000 in
theorem open_six (s : ByteArray) (w : World) (h : ¬ s.size = 0) (h4 : bt s 0 / 16 = 6) {r1 r2 r3 r4 : Int} {r5 r6 r7 : ByteArray} {r8 : Int} (hf : ip6_Get.f s = some (r1, r2, r3, r4, r5, r6, r7, r8)) :
    Calls Try.prog 25 #[.string s] w fun e w' => e = .returned (.tuple #[.iface 96 (.agg (cs6 r1 r2 r3 r4 r5 r6)), .string r7, .int .i64 r8]) ∧ Below w.heap.size w w' := by
  have e0 := isEmpty_not h
  have hx : ∀ h : 0 < s.size, ((s[0]'h).toNat : Int) = bt s 0 := bt_at s 0
  have q4 : (0 < s.size) = True := eq_true (by omega)
  have d4 : (bt s 0 / 16 == 4) = false := by rw [h4]; rfl
  have d6 : (bt s 0 / 16 == 6) = true := beq_iff_eq.mpr h4
  have HF := Aside0.mk hf
  clear h h4 hf
  go_enter Try.func25, Try.ntmps25
  go_wp2_with fail
  refine (ip6_Get.calls _ _ _ _ _ _ _ _ _ _ HF.out).mono ?_
  rintro e w2 ⟨rfl, hb⟩
  have HB := Aside0.mk hb
  clear hb e0 hx q4 d4 d6
  go_wp2
  go_ret3
  exact ⟨rfl, below_alloc HB.out _⟩
end Go.Proofs.Ytcmalglippmocaa.G
end

section
namespace Go.Proofs.Ytcmalglippmocaa.Pal
def optLen (l : List UInt8) (i : Nat) : Option Nat :=
  if l.getD i 0 = 1 then some 1 else if i + 1 = l.length ∨ (l.getD (i + 1) 0).toNat < 2 ∨ l.length < i + (l.getD (i + 1) 0).toNat then none else some (l.getD (i + 1) 0).toNat
def walkO : Nat → List UInt8 → Nat → Option (List (Nat × Nat))
  | 0, _, _ => some []
  | k + 1, l, i => if i < l.length ∧ l.getD i 0 ≠ 0 then (optLen l i).bind fun n => (walkO k l (i + n)).map ((i, n) :: ·) else some []
theorem optLen_bound {l : List UInt8} {i n : Nat} (hi : i < l.length) (h : optLen l i = some n) : 1 ≤ n ∧ i + n ≤ l.length := by
  unfold optLen at h
  split at h
  · obtain rfl := Option.some.inj h; omega
  · split at h
    · exact absurd h (by simp)
    · rename_i h1
      obtain rfl := Option.some.inj h
      omega
theorem walkO_fuel (l : List UInt8) : ∀ (k k' i : Nat), l.length < k + i → l.length < k' + i → walkO k l i = walkO k' l i
  | 0, 0, _, _, _ => rfl
  | 0, k' + 1, i, h, _ => by rw [walkO, walkO, if_neg (by omega)]
  | k + 1, 0, i, _, h => by rw [walkO, walkO, if_neg (by omega)]
  | k + 1, k' + 1, i, h, h' => by
    rw [walkO, walkO]
    by_cases c : i < l.length ∧ l.getD i 0 ≠ 0
    · rw [if_pos c, if_pos c]
      cases ho : optLen l i with
      | none => rfl
      | some n =>
        have hb := optLen_bound c.1 ho
        rw [Option.bind_some, Option.bind_some, walkO_fuel l k k' (i + n) (by omega) (by omega)]
    · rw [if_neg c, if_neg c]
def W (l : List UInt8) (i : Nat) : Option (List (Nat × Nat)) := walkO (l.length + 1) l i
theorem W_end {l : List UInt8} {i : Nat} (h : ¬ (i < l.length ∧ l.getD i 0 ≠ 0)) : W l i = some [] := by unfold W; rw [walkO, if_neg h]
theorem W_step {l : List UInt8} {i : Nat} (h : i < l.length ∧ l.getD i 0 ≠ 0) : W l i = (optLen l i).bind fun n => (W l (i + n)).map ((i, n) :: ·) := by
  unfold W
  rw [walkO, if_pos h]
  cases ho : optLen l i with
  | none => rfl
  | some n =>
    have hb := optLen_bound h.1 ho
    rw [Option.bind_some, Option.bind_some, walkO_fuel l l.length (l.length + 1) (i + n) (by omega) (by omega)]
theorem W_ind {P : Nat → Prop} (l : List UInt8) (h : ∀ i, (∀ n, 1 ≤ n → i < l.length → P (i + n)) → P i) : ∀ i, P i := by
  have : ∀ (m i : Nat), l.length ≤ m + i → P i := by
    intro m
    induction m with
    | zero => intro i hi; exact h i fun n _ hl => absurd hl (by omega)
    | succ m ih => intro i hi; exact h i fun n hn hl => ih (i + n) (by omega)
  exact fun i => this l.length i (by omega)
theorem W_cons {l : List UInt8} {i : Nat} {L : List (Nat × Nat)} (h : W l i = some L) :
    (¬ (i < l.length ∧ l.getD i 0 ≠ 0) ∧ L = []) ∨ ((i < l.length ∧ l.getD i 0 ≠ 0) ∧ ∃ n L', optLen l i = some n ∧ W l (i + n) = some L' ∧ L = (i, n) :: L') := by
  by_cases c : i < l.length ∧ l.getD i 0 ≠ 0
  · rw [W_step c] at h
    cases ho : optLen l i with
    | none => rw [ho] at h; exact absurd h (by simp)
    | some n =>
      rw [ho, Option.bind_some] at h
      cases hw : W l (i + n) with
      | none => rw [hw] at h; exact absurd h (by simp)
      | some L' =>
        rw [hw] at h
        exact .inr ⟨c, n, L', rfl, hw, (Option.some.inj h).symm⟩
  · rw [W_end c] at h
    exact .inl ⟨c, (Option.some.inj h).symm⟩
theorem optLen_like {l l' : List UInt8} {i j n : Nat} (ho : optLen l i = some n) (h0 : l'.getD j 0 = l.getD i 0) (h1 : 2 ≤ n → l'.getD (j + 1) 0 = l.getD (i + 1) 0) (hn : j + n ≤ l'.length) (hj : j < l'.length) : optLen l' j = some n := by
  unfold optLen at ho ⊢
  rw [h0]
  split at ho
  · rename_i h; rw [if_pos h]; exact ho
  · rename_i h
    rw [if_neg h]
    split at ho
    · exact absurd ho (by simp)
    · rename_i h2
      have e := Option.some.inj ho
      rw [h1 (by omega), if_neg (by omega)]
      exact ho
theorem optLen_none_like {l l' : List UInt8} {i j : Nat} (ho : optLen l i = none) (h0 : l'.getD j 0 = l.getD i 0) (h1 : i + 1 < l.length → l'.getD (j + 1) 0 = l.getD (i + 1) 0) (hl : l'.length + i = l.length + j) (hi : i < l.length) : optLen l' j = none := by
  unfold optLen at ho ⊢
  rw [h0]
  split at ho
  · exact absurd ho (by simp)
  · rename_i h
    rw [if_neg h]
    split at ho
    · rename_i h2
      rw [if_pos ?_]
      by_cases h3 : i + 1 = l.length
      · exact .inl (by omega)
      · rw [h1 (by omega)]; omega
    · exact absurd ho (by simp)
theorem W_shift {l l' : List UInt8} (d : Nat) (hl : l'.length = l.length + d) : ∀ i, (∀ j, i ≤ j → l'.getD (j + d) 0 = l.getD j 0) → W l' (i + d) = (W l i).map (·.map fun p => (p.1 + d, p.2)) := by
  refine W_ind l fun i ih h => ?_
  by_cases c : i < l.length ∧ l.getD i 0 ≠ 0
  · have c' : i + d < l'.length ∧ l'.getD (i + d) 0 ≠ 0 := ⟨by omega, by rw [h i (Nat.le_refl i)]; exact c.2⟩
    rw [W_step c, W_step c']
    cases ho : optLen l i with
    | none =>
      rw [optLen_none_like ho (h i (Nat.le_refl i)) (fun _ => by rw [← h (i + 1) (by omega)]; congr 1; omega) (by omega) c.1]
      rfl
    | some n =>
      have hb := optLen_bound c.1 ho
      rw [optLen_like ho (h i (Nat.le_refl i)) (fun _ => by rw [← h (i + 1) (by omega)]; congr 1; omega) (by omega) c'.1]
      rw [Option.bind_some, Option.bind_some, show i + d + n = i + n + d by omega, ih n hb.1 c.1 (fun j hj => h j (by omega))]
      cases W l (i + n) <;> rfl
  · have c' : ¬ (i + d < l'.length ∧ l'.getD (i + d) 0 ≠ 0) := fun hh => c ⟨by have := hh.1; omega, by rw [← h i (Nat.le_refl i)]; exact hh.2⟩
    rw [W_end c, W_end c']; rfl
theorem W_mem {l : List UInt8} : ∀ i L, W l i = some L → ∀ p ∈ L, i ≤ p.1 ∧ p.1 + p.2 ≤ l.length ∧ 1 ≤ p.2 ∧ optLen l p.1 = some p.2 := by
  refine W_ind (P := fun i => ∀ L, W l i = some L → ∀ p ∈ L, i ≤ p.1 ∧ p.1 + p.2 ≤ l.length ∧ 1 ≤ p.2 ∧ optLen l p.1 = some p.2) l fun i ih L h p hp => ?_
  rcases W_cons h with ⟨c, rfl⟩ | ⟨c, n, L', ho, hw, rfl⟩
  · exact absurd hp (by simp)
  · have hb := optLen_bound c.1 ho
    rcases List.mem_cons.1 hp with rfl | hp
    · exact ⟨Nat.le_refl _, hb.2, hb.1, ho⟩
    · have := ih n hb.1 c.1 L' hw p hp
      exact ⟨by omega, this.2⟩
theorem W_take (l : List UInt8) (L2 : List (Nat × Nat)) (q m : Nat) : ∀ i L1, W l i = some (L1 ++ (q, m) :: L2) → W (l.take q) i = some L1 := by
  refine W_ind (P := fun i => ∀ L1, W l i = some (L1 ++ (q, m) :: L2) → W (l.take q) i = some L1) l fun i ih L1 h => ?_
  have hq := W_mem i _ h (q, m) (by simp)
  have lt : (l.take q).length = q := by rw [List.length_take]; omega
  rcases W_cons h with ⟨c, e⟩ | ⟨c, n, L', ho, hw, e⟩
  · exact absurd e (by simp)
  · cases L1 with
    | nil =>
      obtain ⟨e1, e2⟩ := List.cons.inj e
      obtain ⟨rfl, rfl⟩ := Prod.mk.inj e1
      exact W_end (by rw [lt]; omega)
    | cons p L1 =>
      obtain ⟨rfl, e2⟩ := List.cons.inj e
      have hb := optLen_bound c.1 ho
      subst e2
      have hq' := W_mem (i + n) _ hw (q, m) (by simp)
      have g : ∀ j, j < q → (l.take q).getD j 0 = l.getD j 0 := fun j hj => by simp [List.getD_eq_getElem?_getD, List.getElem?_take, hj]
      dsimp only at hq hq'
      have ho' : optLen (l.take q) i = some n := optLen_like ho (g i (by omega)) (fun h2 => g (i + 1) (by omega)) (by omega) (by omega)
      rw [W_step (l := l.take q) (i := i) ⟨by omega, by rw [g i (by omega)]; exact c.2⟩, ho', Option.bind_some, ih n hb.1 c.1 L1 hw]
      rfl
theorem W_put (l l' : List UInt8) (hl : l'.length = l.length) (q : Nat) (hag : ∀ j, j < q + 2 ∨ q + 4 ≤ j → l'.getD j 0 = l.getD j 0) : ∀ i L, W l i = some L → (q, 4) ∈ L → W l' i = some L := by
  refine W_ind (P := fun i => ∀ L, W l i = some L → (q, 4) ∈ L → W l' i = some L) l fun i ih L h hm => ?_
  rcases W_cons h with ⟨c, rfl⟩ | ⟨c, n, L', ho, hw, rfl⟩
  · exact absurd hm (by simp)
  · have hb := optLen_bound c.1 ho
    have hq := W_mem i _ h (q, 4) hm
    dsimp only at hq
    rcases List.mem_cons.1 hm with e | hm'
    · obtain ⟨rfl, rfl⟩ := Prod.mk.inj e
      have ho' : optLen l' q = some 4 := optLen_like ho (hag q (by omega)) (fun _ => hag (q + 1) (by omega)) (by omega) (by omega)
      have e2 : W l' (q + 4) = W l (q + 4) := by
        have := W_shift (l := l) (l' := l') 0 hl (q + 4) (fun j hj => hag j (by omega))
        rw [Nat.add_zero] at this
        rw [this]
        cases W l (q + 4) <;> simp
      rw [W_step (l := l') (i := q) ⟨by omega, by rw [hag q (by omega)]; exact c.2⟩, ho', Option.bind_some, e2, hw]
      rfl
    · have hq' := W_mem (i + n) _ hw (q, 4) hm'
      dsimp only at hq'
      have ho' : optLen l' i = some n := optLen_like ho (hag i (by omega)) (fun _ => hag (i + 1) (by omega)) (by omega) (by omega)
      rw [W_step (l := l') (i := i) ⟨by omega, by rw [hag i (by omega)]; exact c.2⟩, ho', Option.bind_some, ih n hb.1 c.1 L' hw hm']
      rfl
def isMSS (l : List UInt8) (p : Nat × Nat) : Bool := l.getD p.1 0 == 2 && p.2 == 4
def mssAt (l : List UInt8) (p : Nat × Nat) : Nat × Nat := ((l.getD (p.1 + 2) 0).toNat * 256 + (l.getD (p.1 + 3) 0).toNat, p.1 + 2)
def mssOf (l : List UInt8) : Option (Nat × Nat) := (W l 0).bind fun L => (L.find? (isMSS l)).map (mssAt l)
def rightO (l : List UInt8) : Bool := (W l 0).isSome
end Go.Proofs.Ytcmalglippmocaa.Pal
end

section
namespace Go.Proofs.Ytcmalglippmocaa.G
open Go.Proofs.Ytcmalglippmocaa.Pal
def tcp_Right.f (s : ByteArray) : Option Bool := if s.size ≤ 140737488351232 then some (rightO (bl s)) else none
def mssR (o : Option (Nat × Nat)) : Int × Int × Bool := match o with | none => (0, 0, false) | some p => ((p.1 : Int), (p.2 : Int), true)
def tcp_MSS.f (s : ByteArray) : Option (Int × Int × Bool) := if s.size ≤ 140737488351232 then some (mssR (mssOf (bl s))) else none
end Go.Proofs.Ytcmalglippmocaa.G
namespace Go.Proofs.Ytcmalglippmocaa.Pure
open Go.Proofs.Ytcmalglippmocaa.Pal Go.Proofs.Ytcmalglippmocaa.G
theorem right_is (s : ByteArray) (h : s.size ≤ 140737488351232) : tcp_Right.f s = some (rightO (bl s)) := by unfold tcp_Right.f; rw [if_pos h]
theorem mss_is (s : ByteArray) (h : s.size ≤ 140737488351232) : tcp_MSS.f s = some (mssR (mssOf (bl s))) := by unfold tcp_MSS.f; rw [if_pos h]
theorem mssOf_not {l : List UInt8} (h : rightO l = false) : mssOf l = none := by
  unfold rightO at h; unfold mssOf
  cases hw : W l 0 with
  | none => rfl
  | some L => rw [hw] at h; exact absurd h (by simp)
theorem mssOf_of {l : List UInt8} {L : List (Nat × Nat)} (h : W l 0 = some L) : mssOf l = (L.find? (isMSS l)).map (mssAt l) := by unfold mssOf; rw [h]; rfl
theorem rightO_of {l : List UInt8} {L : List (Nat × Nat)} (h : W l 0 = some L) : rightO l = true := by unfold rightO; rw [h]; rfl
theorem rightO_some {l : List UInt8} (h : rightO l = true) : ∃ L, W l 0 = some L := by
  unfold rightO at h; exact Option.isSome_iff_exists.mp h
theorem mssOf_some {l : List UInt8} {n a : Nat} (h : mssOf l = some (n, a)) : ∃ L1 L2 q, W l 0 = some (L1 ++ (q, 4) :: L2) ∧ a = q + 2 ∧ q + 4 ≤ l.length ∧ l.getD q 0 = 2 ∧ l.getD (q + 1) 0 = 4 ∧ n = (l.getD (q + 2) 0).toNat * 256 + (l.getD (q + 3) 0).toNat ∧ ∀ p ∈ L1, isMSS l p = false := by
  unfold mssOf at h
  obtain ⟨L, hL, h⟩ := Option.bind_eq_some_iff.mp h
  obtain ⟨p, hp, hf⟩ := Option.map_eq_some_iff.mp h
  obtain ⟨h1, L1, L2, rfl, h2⟩ := List.find?_eq_some_iff_append.mp hp
  obtain ⟨q, m⟩ := p
  have h3 : l.getD q 0 = 2 ∧ m = 4 := by simpa [isMSS] using h1
  obtain ⟨h4, rfl⟩ := h3
  have hm := W_mem 0 _ hL (q, 4) (by simp)
  dsimp only at hm
  unfold mssAt at hf
  obtain ⟨rfl, rfl⟩ := Prod.mk.inj hf
  have ho : l.getD (q + 1) 0 = 4 := by
    have h5 := hm.2.2.2
    unfold optLen at h5
    rw [if_neg (by rw [h4]; decide)] at h5
    split at h5
    · exact absurd h5 (by simp)
    · have h6 := Option.some.inj h5
      exact UInt8.toNat_inj.1 h6
  exact ⟨L1, L2, q, hL, rfl, hm.2.1, h4, ho, rfl, fun p hp => by simpa using h2 p hp⟩
end Go.Proofs.Ytcmalglippmocaa.Pure
end

section
namespace Go.Proofs.Ytcmalglippmocaa.G
open Go.Proofs.Ytcmalglippmocaa.Pal
def tcpOk (src dst flags win urg : Int) (opt : ByteArray) : Prop := in16 src ∧ in16 dst ∧ in16 win ∧ in16 urg ∧ (0 ≤ flags ∧ flags ≤ 255) ∧ opt.size ≤ 40 ∧ opt.size % 4 = 0
instance (src dst flags win urg : Int) (opt : ByteArray) : Decidable (tcpOk src dst flags win urg opt) := by unfold tcpOk; infer_instance
def ht (s : ByteArray) : Nat := be (bl (s.extract 12 13)) / 16 * 4
def tcpErr (s : ByteArray) : Int :=
  if s.size < 20 then 2 else if 20 ≤ ht s ∧ ht s ≤ s.size then (if be (bl (s.extract 12 13)) % 16 = 0 then (if rightO (bl (s.extract 20 (ht s))) = true then 0 else 4) else 9) else 4
def tcp_Get.f (s : ByteArray) : Option (Int × Int × Int × Int × Int × Int × Int × ByteArray × ByteArray × Int × Int) :=
  if s.size ≤ 140737488351232 then some (if tcpErr s = 0 then (((be (bl (s.extract 0 2)) : Nat) : Int), ((be (bl (s.extract 2 4)) : Nat) : Int), ((be (bl (s.extract 4 8)) : Nat) : Int), ((be (bl (s.extract 8 12)) : Nat) : Int), ((be (bl (s.extract 13 14)) : Nat) : Int), ((be (bl (s.extract 14 16)) : Nat) : Int), ((be (bl (s.extract 18 20)) : Nat) : Int), s.extract 20 (ht s), s.extract (ht s) s.size, ((be (bl (s.extract 16 18)) : Nat) : Int), 0) else (0, 0, 0, 0, 0, 0, 0, ⟨#[]⟩, ⟨#[]⟩, 0, tcpErr s)) else none
end Go.Proofs.Ytcmalglippmocaa.G
end

section
namespace Go.Proofs.Ytcmalglippmocaa.Pal
def itemsF : Nat → ByteArray → Nat → List (Int × ByteArray)
  | 0, _, _ => []
  | k + 1, s, i => if i < (bl s).length ∧ (bl s).getD i 0 ≠ 0 then (match optLen (bl s) i with | none => [(-1, ⟨#[]⟩)] | some n => ((i : Int), s.extract i (i + n)) :: itemsF k s (i + n)) else []
theorem itemsF_fuel (s : ByteArray) : ∀ (k k' i : Nat), (bl s).length < k + i → (bl s).length < k' + i → itemsF k s i = itemsF k' s i
  | 0, 0, _, _, _ => rfl
  | 0, k' + 1, i, h, _ => by rw [itemsF, itemsF, if_neg (by omega)]
  | k + 1, 0, i, _, h => by rw [itemsF, itemsF, if_neg (by omega)]
  | k + 1, k' + 1, i, h, h' => by
    rw [itemsF, itemsF]
    by_cases c : i < (bl s).length ∧ (bl s).getD i 0 ≠ 0
    · rw [if_pos c, if_pos c]
      cases ho : optLen (bl s) i with
      | none => rfl
      | some n =>
        have hb := optLen_bound c.1 ho
        simp only
        rw [itemsF_fuel s k k' (i + n) (by omega) (by omega)]
    · rw [if_neg c, if_neg c]
def items (s : ByteArray) (i : Nat) : List (Int × ByteArray) := itemsF ((bl s).length + 1) s i
theorem items_end {s : ByteArray} {i : Nat} (h : ¬ (i < (bl s).length ∧ (bl s).getD i 0 ≠ 0)) : items s i = [] := by unfold items; rw [itemsF, if_neg h]
theorem items_bad {s : ByteArray} {i : Nat} (h : i < (bl s).length ∧ (bl s).getD i 0 ≠ 0) (ho : optLen (bl s) i = none) : items s i = [(-1, ⟨#[]⟩)] := by unfold items; rw [itemsF, if_pos h, ho]
theorem items_step {s : ByteArray} {i n : Nat} (h : i < (bl s).length ∧ (bl s).getD i 0 ≠ 0) (ho : optLen (bl s) i = some n) : items s i = ((i : Int), s.extract i (i + n)) :: items s (i + n) := by
  have hb := optLen_bound h.1 ho
  unfold items
  rw [itemsF, if_pos h, ho]
  simp only
  rw [itemsF_fuel s (bl s).length ((bl s).length + 1) (i + n) (by omega) (by omega)]
def itemOf (s : ByteArray) (p : Nat × Nat) : Int × ByteArray := ((p.1 : Int), s.extract p.1 (p.1 + p.2))
theorem items_right (s : ByteArray) : ∀ i L, W (bl s) i = some L → items s i = L.map (itemOf s) := by
  refine W_ind (P := fun i => ∀ L, W (bl s) i = some L → items s i = L.map (itemOf s)) (bl s) fun i ih L h => ?_
  rcases W_cons h with ⟨c, rfl⟩ | ⟨c, n, L', ho, hw, rfl⟩
  · exact items_end c
  · have hb := optLen_bound c.1 ho
    rw [items_step c ho, ih n hb.1 c.1 L' hw]; rfl
theorem items_wrong (s : ByteArray) : ∀ i, W (bl s) i = none → ∃ L : List (Nat × Nat), items s i = L.map (itemOf s) ++ [(-1, ⟨#[]⟩)] := by
  refine W_ind (P := fun i => W (bl s) i = none → ∃ L : List (Nat × Nat), items s i = L.map (itemOf s) ++ [(-1, ⟨#[]⟩)]) (bl s) fun i ih h => ?_
  by_cases c : i < (bl s).length ∧ (bl s).getD i 0 ≠ 0
  · cases ho : optLen (bl s) i with
    | none => exact ⟨[], items_bad c ho⟩
    | some n =>
      have hb := optLen_bound c.1 ho
      rw [W_step c, ho, Option.bind_some] at h
      obtain ⟨L, hL⟩ := ih n hb.1 c.1 (by cases hw : W (bl s) (i + n) with | none => rfl | some M => rw [hw] at h; exact absurd h (by simp))
      exact ⟨(i, n) :: L, by rw [items_step c ho, hL]; rfl⟩
  · rw [W_end c] at h; exact absurd h (by simp)
theorem items_all (s : ByteArray) : rightO (bl s) = true ↔ ∀ x ∈ items s 0, ¬ x.1 < 0 := by
  unfold rightO
  cases hw : W (bl s) 0 with
  | some L =>
    rw [items_right s 0 L hw]
    refine ⟨fun _ x hx => ?_, fun _ => rfl⟩
    obtain ⟨p, _, rfl⟩ := List.mem_map.mp hx
    unfold itemOf; dsimp only; omega
  | none =>
    obtain ⟨L, hL⟩ := items_wrong s 0 hw
    rw [hL]
    refine ⟨fun h => absurd h (by simp), fun h => absurd (h (-1, ⟨#[]⟩) (by simp)) (by decide)⟩
end Go.Proofs.Ytcmalglippmocaa.Pal
end

section
namespace Go.Proofs.Ytcmalglippmocaa.G
open Go.RowKit Go.Shelf Go.Proofs.YtcmalglippmocaaW.PrintWords Go.Proofs.YtcmalglippmocaaW.PrintLast Go.Proofs.YtcmalglippmocaaW.PrintMore Go.Proofs.Ytcmalglippmocaa.Pal
attribute [local go_sem] Oper.semAt_some

set_option maxRecDepth 100000 in
set_option maxHeartbeats 2000000 in
theorem walk_in (F : Fence) (n : Nat) (hf : F.fn 79) (hro : F.round = none) (s : ByteArray) (w : World) :
    CallsIn F n Try.prog 79 #[.string s] w fun e w' => e = .returned (.func (.func 84) #[] #[.pointer (some ⟨w.heap.size, 0, none⟩)]) ∧ w' = w.alloc (.cells #[.string s] 9) := by
  have hmf : ∀ (fn : Fn) (first cap : Array Value) (w : World), (Instr.makeFunc fn first cap).run Try.prog w = .ok (.func fn first cap) w := fun _ _ _ _ => rfl
  refine callsIn_of_wp Try.func79 rfl hf ?_ hro
  simp only [Try.ntmps79, List.size_toArray, List.length_cons, List.length_nil, Nat.reduceAdd, Nat.reduceSub, Array.replicate_succ, Array.replicate_zero, List.push_toArray, List.append_toArray, List.nil_append, List.cons_append]
  gi_wp2
  go_ret
  exact ⟨rfl, rfl⟩

theorem wr_one (m : Nat) (h : m < 256) : wrap64 (m : Int) = (m : Int) ∧ IntKind.i64.wrap (m : Int) = (m : Int) := by
  refine ⟨by unfold wrap64; omega, by rw [IntKind.wrap_i64]; omega⟩
theorem lt_two {a i m : Nat} (h : a < i + m) : (a : Int) < (i : Int) + (m : Int) := by omega
theorem not_lt_two {a i m : Nat} (h : ¬ a < i + m) : ¬ (a : Int) < (i : Int) + (m : Int) := by omega
theorem le_two (i m : Nat) : (i : Int) ≤ (i : Int) + (m : Int) := by omega
theorem le_two' {a i m : Nat} (h : i + m ≤ a) : (i : Int) + (m : Int) ≤ (a : Int) := by omega
theorem toNat_two (i m : Nat) : ((i : Int) + (m : Int)).toNat = i + m := by omega
theorem less_two {s i m : Nat} (h : 2 ≤ m) (h2 : i < s) : s - ((i : Int) + (m : Int)).toNat < s - (i : Int).toNat := by omega
theorem wr_two (i m : Nat) (h : i + m ≤ 140737488351232 + 256) : wrap64 ((i : Int) + (m : Int)) = (i : Int) + (m : Int) ∧ IntKind.i64.wrap ((i : Int) + (m : Int)) = (i : Int) + (m : Int) := by
  refine ⟨by unfold wrap64; omega, by rw [IntKind.wrap_i64]; omega⟩
set_option maxRecDepth 100000 in
set_option maxHeartbeats 4000000 in
theorem walk1_in (n : Nat) (hn : 1 ≤ n) (l Bn n₀ : Nat) (s : ByteArray) (hs : s.size ≤ 140737488351232) (J Jx : List (Int × ByteArray) → World → Prop)
    (hA : ∀ p W k, J p W → J p (W.drewN k))
    (hY : ∀ pre (x : Int × ByteArray) W, J pre W → pre.length < (items s 0).length → pre ++ [x] <+: items s 0 → YieldAt Fence.wide (n - 1) Try.prog l #[.int .i64 x.1, .string x.2] W fun e W' =>
      (e = .returned (.bool true) ∧ J (pre ++ [x]) W' ∧ Below n₀ W W') ∨ (e = .returned (.bool false) ∧ Jx (pre ++ [x]) W'))
    (W : World) (hB : Bn < n₀) (hBn : W.cell? ⟨Bn, 0, none⟩ = some (.string s)) (h0 : J [] W) :
    CallsIn Fence.wide n Try.prog 84 #[.func (.yield l) #[] #[], .pointer (some ⟨Bn, 0, none⟩)] W fun e W' => (∃ v, e = .returned v) ∧
      ((∃ ys, ys = items s 0 ∧ J ys W') ∨ (∃ pre, pre <+: items s 0 ∧ Jx pre W')) := by
  refine callsIn_of_wp Try.func84 rfl trivial ?_ rfl
  simp only [Try.ntmps84, List.size_toArray, List.length_cons, List.length_nil, Nat.reduceAdd, Nat.reduceSub, Array.replicate_succ, Array.replicate_zero, List.push_toArray, List.append_toArray, List.nil_append, List.cons_append]
  have HS := Aside0.mk hs
  clear hs
  gi_wp2
  gi_loopw [3] (fun p wr => ∃ (i : Nat) (pre : List (Int × ByteArray)), p = .int .i64 (i : Int) ∧ Aside0 (i ≤ s.size) ∧ Aside0 (items s 0 = pre ++ items s i) ∧ J pre wr ∧ wr.cell? ⟨Bn, 0, none⟩ = some (.string s))
    (fun p wr => s.size - (intOf p).toNat)
  case atStart => exact ⟨0, [], rfl, ⟨Nat.zero_le _⟩, ⟨rfl⟩, h0, hBn⟩
  case round =>
    obtain ⟨i, pre, rfl, HI, HT, hJ, hc⟩ := hrel
    by_cases hlt : i < s.size
    case neg =>
      have q1 : decide ((i : Int) < (s.size : Int)) = false := decide_eq_false (by omega)
      have q2 : decide (i < s.size) = false := decide_eq_false hlt
      have he : items s i = [] := items_end (by rw [bl_length]; exact fun h => hlt h.1)
      rw [he, List.append_nil] at HT
      gi_wp2
      go_end0
      exact ⟨⟨_, rfl⟩, .inl ⟨pre, HT.out.symm, hJ⟩⟩
    have q1 : decide ((i : Int) < (s.size : Int)) = true := decide_eq_true (by omega)
    have q2 : decide (i < s.size) = true := decide_eq_true hlt
    have hx : (bl s).getD i 0 = s[i] := by simp [List.getD_eq_getElem?_getD, List.getElem?_eq_getElem (show i < (bl s).length by rw [bl_length]; exact hlt)]; rfl
    by_cases h0 : s[i] = 0
    · have e1 : ((s[i].toNat : Int) != 0) = false := by rw [h0]; rfl
      have e2 : (s[i].toNat != 0) = false := by rw [h0]; rfl
      have he : items s i = [] := items_end (by rw [hx, h0]; exact fun h => h.2 rfl)
      rw [he, List.append_nil] at HT
      gi_wp2
      go_end0
      exact ⟨⟨_, rfl⟩, .inl ⟨pre, HT.out.symm, hJ⟩⟩
    have e1 : ((s[i].toNat : Int) != 0) = true := by rw [bne_iff_ne]; intro h; exact h0 (UInt8.toNat_inj.1 (by show s[i].toNat = 0; omega))
    have e2 : (s[i].toNat != 0) = true := by rw [bne_iff_ne]; intro h; exact h0 (UInt8.toNat_inj.1 h)
    by_cases h1 : s[i] = 1
    · have f1 : ((s[i].toNat : Int) != 1) = false := by rw [h1]; rfl
      have f2 : (s[i].toNat != 1) = false := by rw [h1]; rfl
      have ho : optLen (bl s) i = some 1 := by unfold optLen; rw [hx, if_pos h1]
      have hc' : i < (bl s).length ∧ (bl s).getD i 0 ≠ 0 := ⟨by rw [bl_length]; exact hlt, by rw [hx]; exact h0⟩
      have HE := Aside0.mk (items_step hc' ho)
      have HL := Aside0.mk hlt
      rw [HE.out] at HT
      obtain ⟨fn, tmps, assign, body, hy, hR⟩ := hY pre ((i : Int), s.extract i (i + 1)) wr hJ (by rw [HT.out]; simp) (by rw [HT.out]; simp)
      have HY := Aside0.mk hY
      have w1_ : wrap64 ((i : Int) + 1) = ((i + 1 : Nat) : Int) := by have := HS.out; unfold wrap64; omega
      have w2_ : IntKind.i64.wrap ((i : Int) + 1) = ((i + 1 : Nat) : Int) := by have := HS.out; rw [IntKind.wrap_i64]; omega
      have q3 : ((i : Int) + 1 ≤ (s.size : Int)) = True := eq_true (by omega)
      have q4 : (i + 1 ≤ s.size) = True := eq_true (by omega)
      clear h0 h1 hY hx ho hc' HE
      dsimp only at hy
      have hsl : ∀ wx : World, (Instr.slice 9 (.string s) (some (.int .i64 (i : Int))) (some (.int .i64 ((i : Int) + 1))) none).run Try.prog wx = .ok (.string (s.extract i (i + 1))) wx := fun wx => by
        have := run_slice_string (P := Try.prog) wx 9 s .i64 .i64 (i : Int) ((i : Int) + 1) Try.underlying9 (by omega) (by omega) (by have := HL.out; omega)
        rwa [Int.toNat_natCast, show ((i : Int) + 1).toNat = i + 1 by omega] at this
      gi_wp2
      clear hsl
      refine hR.mono ?_
      rintro e W3 (⟨rfl, hJ3, hk3⟩ | ⟨rfl, hJx3⟩)
      · have hc3 := (hk3.cell (p := ⟨Bn, 0, none⟩) hB).trans hc
        gi_wp2
        go_roundw
        case rel => exact ⟨i + 1, pre ++ [((i : Int), s.extract i (i + 1))], rfl, ⟨by have := HL.out; omega⟩, ⟨by rw [HT.out]; simp⟩, hJ3, hc3⟩
        case measure => have := HL.out; simp [intOf]; omega
      · gi_wp2
        refine bodyPost_ret (results_none rfl _ _ _) rfl ?_
        exact ⟨⟨_, rfl⟩, .inr ⟨pre ++ [((i : Int), s.extract i (i + 1))], ⟨items s (i + 1), by rw [HT.out]; simp⟩, hJx3⟩⟩
    have f1 : ((s[i].toNat : Int) != 1) = true := by rw [bne_iff_ne]; intro h; exact h1 (UInt8.toNat_inj.1 (by show s[i].toNat = 1; omega))
    have f2 : (s[i].toNat != 1) = true := by rw [bne_iff_ne]; intro h; exact h1 (UInt8.toNat_inj.1 h)
    have hmx : Try.prog.follows .mixedOrders = true := by kernel_rfl
    have hc' : i < (bl s).length ∧ (bl s).getD i 0 ≠ 0 := ⟨by rw [bl_length]; exact hlt, by rw [hx]; exact h0⟩
    have w1_ : wrap64 ((i : Int) + 1) = (i : Int) + 1 := by have := HS.out; unfold wrap64; omega
    have w2_ : IntKind.i64.wrap ((i : Int) + 1) = (i : Int) + 1 := by have := HS.out; rw [IntKind.wrap_i64]; omega
    have HL := Aside0.mk hlt
    by_cases hend : i + 1 = s.size
    · have g1 : (((i : Int) + 1) == (s.size : Int)) = true := by rw [beq_iff_eq]; omega
      have g2 : ((i + 1) == s.size) = true := by rw [beq_iff_eq]; exact hend
      have ho : optLen (bl s) i = none := by unfold optLen; rw [hx, if_neg h1, if_pos (.inl (by rw [bl_length]; exact hend))]
      have HE := Aside0.mk (items_bad hc' ho)
      rw [HE.out] at HT
      obtain ⟨fn, tmps, assign, body, hy, hR⟩ := hY pre ((-1 : Int), (⟨#[]⟩ : ByteArray)) wr.drew (hA _ _ 1 hJ) (by rw [HT.out]; simp) (by rw [HT.out]; simp)
      dsimp only at hy
      clear h0 h1 hY hx ho hc' HE hend
      gi_wp2
      refine wpIn_wide.2 ?_
      go_region
      gi_wp2
      refine hR.mono ?_
      rintro e W3 (⟨rfl, hJ3, hk3⟩ | ⟨rfl, hJx3⟩)
      · gi_wp2
        refine bodyPost_ret (results_none rfl _ _ _) rfl ?_
        exact ⟨⟨_, rfl⟩, .inl ⟨pre ++ [(-1, ⟨#[]⟩)], by rw [HT.out], hJ3⟩⟩
      · gi_wp2
        refine bodyPost_ret (results_none rfl _ _ _) rfl ?_
        exact ⟨⟨_, rfl⟩, .inr ⟨pre ++ [(-1, ⟨#[]⟩)], by rw [HT.out]; exact List.prefix_refl _, hJx3⟩⟩
    have hl2 : i + 1 < s.size := by omega
    have g1 : (((i : Int) + 1) == (s.size : Int)) = false := by rw [beq_eq_false_iff_ne]; omega
    have g2 : ((i + 1) == s.size) = false := by rw [beq_eq_false_iff_ne]; exact hend
    obtain ⟨m, hm⟩ : ∃ m : Nat, m = s[i + 1].toNat := ⟨_, rfl⟩
    have hx1 : ((bl s).getD (i + 1) 0).toNat = m := by
      rw [hm]; simp [List.getD_eq_getElem?_getD, List.getElem?_eq_getElem (show i + 1 < (bl s).length by rw [bl_length]; exact hl2)]; rfl
    have HM := Aside0.mk (show m < 256 by rw [hm]; exact s[i + 1].toNat_lt)
    have hix : ∀ wx : World, (Instr.index 9 (.string s) (.int .i64 ((i : Int) + 1))).run Try.prog wx = .ok (.int .u8 (m : Int)) wx := fun wx => by
      rw [run_index_string (P := Try.prog) (w := wx) 9 s .i64 ((i : Int) + 1) Try.underlying9, dif_pos ⟨by omega, by omega⟩, hm]
      congr 1
    have HEND := Aside0.mk hend
    clear hm hend
    by_cases hm2 : m < 2
    · have g3 : decide ((m : Int) < 2) = true := decide_eq_true (by omega)
      have g4 : decide (m < 2) = true := decide_eq_true hm2
      have ho : optLen (bl s) i = none := by unfold optLen; rw [hx, if_neg h1, if_pos (.inr (.inl (by rw [hx1]; exact hm2)))]
      have HE := Aside0.mk (items_bad hc' ho)
      rw [HE.out] at HT
      obtain ⟨fn, tmps, assign, body, hy, hR⟩ := hY pre ((-1 : Int), (⟨#[]⟩ : ByteArray)) wr.drew (hA _ _ 1 hJ) (by rw [HT.out]; simp) (by rw [HT.out]; simp)
      dsimp only at hy
      clear h0 h1 hY hx ho hc' HE hm2 hx1
      gi_wp2
      refine wpIn_wide.2 ?_
      go_region
      gi_wp2
      refine hR.mono ?_
      rintro e W3 (⟨rfl, hJ3, hk3⟩ | ⟨rfl, hJx3⟩)
      · gi_wp2
        refine bodyPost_ret (results_none rfl _ _ _) rfl ?_
        exact ⟨⟨_, rfl⟩, .inl ⟨pre ++ [(-1, ⟨#[]⟩)], by rw [HT.out], hJ3⟩⟩
      · gi_wp2
        refine bodyPost_ret (results_none rfl _ _ _) rfl ?_
        exact ⟨⟨_, rfl⟩, .inr ⟨pre ++ [(-1, ⟨#[]⟩)], by rw [HT.out]; exact List.prefix_refl _, hJx3⟩⟩
    have g3 : decide ((m : Int) < 2) = false := decide_eq_false (by omega)
    have g4 : decide (m < 2) = false := decide_eq_false hm2
    have HQ : i + m ≤ 140737488351232 + 256 := Nat.add_le_add (Nat.le_trans (Nat.le_of_lt HL.out) HS.out) (Nat.le_of_lt HM.out)
    have w5_ := (wr_one m HM.out).1
    have w6_ := (wr_one m HM.out).2
    have w3_ := (wr_two i m HQ).1
    have w4_ := (wr_two i m HQ).2
    by_cases hms : s.size < i + m
    · have g5 : decide ((s.size : Int) < (i : Int) + (m : Int)) = true := decide_eq_true (lt_two hms)
      have g6 : decide (s.size < i + m) = true := decide_eq_true hms
      have ho : optLen (bl s) i = none := by unfold optLen; rw [hx, if_neg h1, if_pos (.inr (.inr (by rw [hx1, bl_length]; exact hms)))]
      have HE := Aside0.mk (items_bad hc' ho)
      rw [HE.out] at HT
      obtain ⟨fn, tmps, assign, body, hy, hR⟩ := hY pre ((-1 : Int), (⟨#[]⟩ : ByteArray)) wr.drew (hA _ _ 1 hJ) (by rw [HT.out]; simp) (by rw [HT.out]; simp)
      dsimp only at hy
      clear h0 h1 hY hx ho hc' HE hm2 hx1 hms
      gi_wp2
      refine wpIn_wide.2 ?_
      go_region
      gi_wp2
      refine hR.mono ?_
      rintro e W3 (⟨rfl, hJ3, hk3⟩ | ⟨rfl, hJx3⟩)
      · gi_wp2
        refine bodyPost_ret (results_none rfl _ _ _) rfl ?_
        exact ⟨⟨_, rfl⟩, .inl ⟨pre ++ [(-1, ⟨#[]⟩)], by rw [HT.out], hJ3⟩⟩
      · gi_wp2
        refine bodyPost_ret (results_none rfl _ _ _) rfl ?_
        exact ⟨⟨_, rfl⟩, .inr ⟨pre ++ [(-1, ⟨#[]⟩)], by rw [HT.out]; exact List.prefix_refl _, hJx3⟩⟩
    have g5 : decide ((s.size : Int) < (i : Int) + (m : Int)) = false := decide_eq_false (not_lt_two hms)
    have g6 : decide (s.size < i + m) = false := decide_eq_false hms
    have ho : optLen (bl s) i = some m := by unfold optLen; rw [hx, if_neg h1, hx1, if_neg (by rw [bl_length]; exact fun h => h.elim HEND.out (fun h => h.elim hm2 hms))]
    have HE := Aside0.mk (items_step hc' ho)
    rw [HE.out] at HT
    obtain ⟨fn, tmps, assign, body, hy, hR⟩ := hY pre ((i : Int), s.extract i (i + m)) wr.drew (hA _ _ 1 hJ) (by rw [HT.out]; simp) (by rw [HT.out]; simp)
    dsimp only at hy
    have HN := Aside0.mk (show 2 ≤ m ∧ i + m ≤ s.size from ⟨Nat.le_of_not_lt hm2, Nat.le_of_not_lt hms⟩)
    have hsl : ∀ wx : World, (Instr.slice 9 (.string s) (some (.int .i64 (i : Int))) (some (.int .i64 ((i : Int) + (m : Int)))) none).run Try.prog wx = .ok (.string (s.extract i (i + m))) wx := fun wx => by
      have := run_slice_string (P := Try.prog) wx 9 s .i64 .i64 (i : Int) ((i : Int) + (m : Int)) Try.underlying9 (Int.natCast_nonneg _) (le_two i m) (le_two' HN.out.2)
      rwa [Int.toNat_natCast, show ((i : Int) + (m : Int)).toNat = i + m from toNat_two i m] at this
    clear h0 h1 hY hx ho hc' HE hm2 hx1 hms
    gi_wp2
    refine wpIn_wide.2 ?_
    go_region
    have hc2 : wr.drew.cell? ⟨Bn, 0, none⟩ = some (.string s) := hc
    gi_wp2
    clear hsl hix
    refine hR.mono ?_
    rintro e W3 (⟨rfl, hJ3, hk3⟩ | ⟨rfl, hJx3⟩)
    · have hc3 := (hk3.cell (p := ⟨Bn, 0, none⟩) hB).trans hc2
      gi_wp2
      go_roundw
      case rel => exact ⟨i + m, pre ++ [((i : Int), s.extract i (i + m))], by simp, ⟨HN.out.2⟩, ⟨by rw [HT.out]; simp⟩, hJ3, hc3⟩
      case measure => simp only [intOf]; exact less_two HN.out.1 HL.out
    · gi_wp2
      refine bodyPost_ret (results_none rfl _ _ _) rfl ?_
      exact ⟨⟨_, rfl⟩, .inr ⟨pre ++ [((i : Int), s.extract i (i + m))], ⟨items s (i + m), by rw [HT.out]; simp⟩, hJx3⟩⟩
abbrev ItemR := { x : Int × ByteArray // 0 < x.2.size }
abbrev encR (x : ItemR) : Array Value := #[.int .i64 x.1.1, .string x.1.2]
abbrev encI (x : Int × ByteArray) : Array Value := #[.int .i64 x.1, .string x.2]
theorem walk_stops (n : Nat) (hn : 1 ≤ n) (Bn n₀ : Nat) (s : ByteArray) (hs : s.size ≤ 140737488351232) (w : World) (hB : Bn < n₀) (hn₀ : n₀ ≤ w.heap.size) (hc : w.cell? ⟨Bn, 0, none⟩ = some (.string s)) :
    SeqStopsK Fence.wide n Try.prog 84 #[.pointer (some ⟨Bn, 0, none⟩)] encI (Below n₀) (fun ys => ys = items s 0) (fun pre => pre <+: items s 0) (items s 0).length w := fun l J Jx W hW hJ _ hY h0 =>
  walk1_in n hn l Bn n₀ s hs J Jx (fun p W k h => hJ p W (W.drewN k) none h (grown_drewN (grown_refl W none) k) (fun r e => by cases e)) (fun pre x W h1 h2 _ => hY pre x W h1 h2) W hB ((hW.cell (p := ⟨Bn, 0, none⟩) (Nat.lt_of_lt_of_le hB hn₀)).trans hc) h0
theorem walk_stopsR (n : Nat) (hn : 1 ≤ n) (Bn n₀ : Nat) (s : ByteArray) (hs : s.size ≤ 140737488351232) (hr : ∀ x ∈ items s 0, 0 < x.2.size) (w : World) (hB : Bn < n₀) (hn₀ : n₀ ≤ w.heap.size) (hc : w.cell? ⟨Bn, 0, none⟩ = some (.string s)) :
    SeqStopsK Fence.wide n Try.prog 84 #[.pointer (some ⟨Bn, 0, none⟩)] encR (Below n₀) (fun ys => ys.map (·.1) = items s 0) (fun pre => pre.map (·.1) <+: items s 0) (items s 0).length w := fun l J Jx W hW hJ _ hY h0 => by
  refine (walk1_in n hn l Bn n₀ s hs (fun pre W => ∃ q : List ItemR, q.map (·.1) = pre ∧ J q W) (fun pre W => ∃ q : List ItemR, q.map (·.1) = pre ∧ Jx q W)
    (fun p W k h => by obtain ⟨q, rfl, h⟩ := h; exact ⟨q, rfl, hJ q W (W.drewN k) none h (grown_drewN (grown_refl W none) k) (fun r e => by cases e)⟩)
    (fun pre x W h1 h2 h3 => ?_) W hB ((hW.cell (p := ⟨Bn, 0, none⟩) (Nat.lt_of_lt_of_le hB hn₀)).trans hc) ⟨[], rfl, h0⟩).mono ?_
  · obtain ⟨q, rfl, h1⟩ := h1
    obtain ⟨fn, tmps, assign, body, hy, hR⟩ := hY q ⟨x, hr x (h3.subset (by simp))⟩ W h1 (by simpa using h2)
    refine ⟨fn, tmps, assign, body, hy, hR.mono ?_⟩
    rintro e W3 (⟨rfl, hJ3, hk3⟩ | ⟨rfl, hJx3⟩)
    · exact .inl ⟨rfl, ⟨_, by simp, hJ3⟩, hk3⟩
    · exact .inr ⟨rfl, _, by simp, hJx3⟩
  · rintro e W' ⟨he, ⟨ys, h1, q, rfl, h2⟩ | ⟨pre, h1, q, rfl, h2⟩⟩
    · exact ⟨he, .inl ⟨q, h1, h2⟩⟩
    · exact ⟨he, .inr ⟨q, h1, h2⟩⟩
end Go.Proofs.Ytcmalglippmocaa.G
end

section
namespace Go.Proofs.Ytcmalglippmocaa.G
open Go.RowKit Go.Shelf Go.Proofs.YtcmalglippmocaaW.PrintWords Go.Proofs.YtcmalglippmocaaW.PrintLast Go.Proofs.YtcmalglippmocaaW.PrintMore Go.Proofs.Ytcmalglippmocaa.Pal
attribute [local go_sem] Oper.semAt_some
def hasNeg (l : List (Int × ByteArray)) : Prop := ∃ x ∈ l, x.1 < 0
def noNeg (l : List (Int × ByteArray)) : Prop := ∀ x ∈ l, ¬ x.1 < 0
set_option maxRecDepth 100000 in
set_option maxHeartbeats 4000000 in
theorem tcp_Right.calls (s : ByteArray) (r : Bool) (w : World) (h : tcp_Right.f s = some r) :
    Calls Try.prog 76 #[.string s] w fun e w' => e = .returned (.bool r) ∧ Below w.heap.size w w' := by
  unfold tcp_Right.f at h
  split at h
  case isFalse => exact absurd h (by simp)
  rename_i hs
  have hr := Option.some.inj h
  clear h
  refine (callsIn_wide (n := 4)).1 ?_
  refine callsIn_of_wp_marks Try.func76 rfl trivial ?_ rfl
  simp only [Try.ntmps76, List.size_toArray, List.length_cons, List.length_nil, Nat.reduceAdd, Nat.reduceSub, Array.replicate_succ, Array.replicate_zero, List.push_toArray, List.append_toArray, List.nil_append, List.cons_append]
  gi_wp2_with (refine ⟨trivial, ?_⟩; gi_at_call 79; refine (walk_in Fence.wide _ trivial rfl s _).mono ?_; rintro e w' ⟨rfl, rfl⟩)
  have hc0 : ((w.alloc (.cells #[.bool false] 4)).alloc (.cells #[.string s] 9)).cell? ⟨w.heap.size + 1, 0, none⟩ = some (.string s) := by
    have := (Blk.new (w.alloc (.cells #[.bool false] 4)) 9 #[.string s]).cell 0 _ rfl
    rwa [World.size_alloc] at this
  have hb0 := (Blk.new w 4 #[.bool false]).alloc (.cells #[.string s] 9)
  have hB0 : Below w.heap.size w ((w.alloc (.cells #[.bool false] 4)).alloc (.cells #[.string s] 9)) := ((Below.refl _ w).alloc (Nat.le_refl _) _).alloc (by simp) _
  refine wpIn_rangeFunc_ownF (α := Int × ByteArray) (encs := encI) rfl (show 1 ≤ 4 by decide) (gf := 84) (lb := #[.pointer (some ⟨w.heap.size + 1, 0, none⟩)]) rfl trivial (enters_of Try.func84 (by kernel_rfl) rfl)
    (walk_stops 3 (by decide) (w.heap.size + 1) (w.heap.size + 2) s hs _ (by omega) (by simp) hc0) belowK_t (belowK_b (by simp)) (Below.refl _ _) (fun _ => rfl)
    (fun pre W => (W.cell? ⟨w.heap.size, 0, none⟩ = some (.bool false) ∧ W.frozen? ⟨w.heap.size, 0, none⟩ = false ∧ noNeg pre) ∧ Below w.heap.size w W)
    (fun c pre W => (c = .ret ∧ W.cell? ⟨w.heap.size, 0, none⟩ = some (.bool false) ∧ hasNeg pre) ∧ Below w.heap.size w W)
    (OwnFrom.and (Own.from (fun s A B row hs hg hr => ⟨cell_kept hs.1 hg hr, (frozen_kept hs.1 hg hr).trans hs.2.1, hs.2.2⟩) _) (ownFrom_below (Nat.le_refl _) (by simp; omega)))
    (fun c => OwnFrom.and (Own.from (fun s A B row hs hg hr => ⟨hs.1, cell_kept hs.2.1 hg hr, hs.2.2⟩) _) (ownFrom_below (Nat.le_refl _) (by simp; omega)))
    ⟨⟨hb0.cell 0 _ rfl, hb0.free 0, fun x hx => absurd hx (by simp)⟩, hB0⟩
    (fun x => { tmps := #[.string s, undef, .pointer (some ⟨w.heap.size, 0, none⟩), .int .i64 x.1, .string s, .func (.func 84) #[] #[.pointer (some ⟨w.heap.size + 1, 0, none⟩)], .int .i64 x.1, .string x.2, undef, undef], defers := [] }) ?assign ?body ?done ?stop
  case assign =>
    intro l x W K hK
    gi_wp2
    exact hK
  case body =>
    rintro l pre x W ⟨⟨hcl, hfr, hall⟩, hB⟩ _
    by_cases hx : x.1 < 0
    · have d1 : decide (x.1 < 0) = true := decide_eq_true hx
      have HX := Aside0.mk (show hasNeg (pre ++ [x]) from ⟨x, by simp, hx⟩)
      clear hx
      gi_wp2
      exact ⟨KeepsOthers.setCell _ _ _, ⟨rfl, World.cell?_setCell_same' _ _ _ (by rw [hcl]; rfl), HX.out⟩, hB.setCell (p := ⟨w.heap.size, 0, none⟩) (Nat.le_refl _) _⟩
    · have d1 : decide (x.1 < 0) = false := decide_eq_false hx
      have HX := Aside0.mk (show noNeg (pre ++ [x]) from fun y hy => by rcases List.mem_append.1 hy with hy | hy; exact hall y hy; rw [List.mem_singleton.1 hy]; exact hx)
      clear hx
      gi_wp2
      exact ⟨KeepsOthers.refl _, Below.refl _ _, ⟨hcl, hfr, HX.out⟩, hB⟩
  case done =>
    rintro D ys W hD rfl ⟨⟨hcl, hfr, hall⟩, hB⟩ hK
    have hrt : rightO (bl s) = true := (items_all s).mpr hall
    gi_wp2
    have hK' := (KeepsOthers.setCell W ⟨w.heap.size, 0, none⟩ (.bool true)).same D _ hK rfl
    refine ⟨by simp, .inl ⟨_, _, rfl, run_takeDeferred hK', ?_⟩⟩
    have hc5 := cell_kept (World.cell?_setCell_same' W ⟨w.heap.size, 0, none⟩ (.bool true) (by rw [hcl]; rfl)) (grownBy_putObj' _ D (.deferred none)) (fun r e => by cases e; exact ⟨_, hK', rfl⟩)
    refine ⟨.bool true, ?_, by rw [← hr, hrt], (hB.setCell (p := ⟨w.heap.size, 0, none⟩) (Nat.le_refl _) _).trans (belowK_b (w := w) (Nat.le_refl _) _ D _ _ (by simp at hD; omega) hK' rfl rfl)⟩
    simp [results, Try.f76, go_sem, hc5]
  case stop =>
    rintro D c pre W hD hSp ⟨⟨rfl, hcl, x, hx, hx0⟩, hB⟩ hK
    have hrt : rightO (bl s) = false := by
      cases hq : rightO (bl s) with
      | false => rfl
      | true => exact absurd hx0 ((items_all s).mp hq x (hSp.subset hx))
    gi_wp2
    refine ⟨by simp, .inl ⟨_, _, rfl, run_takeDeferred hK, ?_⟩⟩
    have hc5 := cell_kept hcl (grownBy_putObj' _ D (.deferred none)) (fun r e => by cases e; exact ⟨_, hK, rfl⟩)
    refine ⟨.bool false, ?_, by rw [← hr, hrt], hB.trans (belowK_b (w := w) (Nat.le_refl _) _ D _ _ (by simp at hD; omega) hK rfl rfl)⟩
    simp [results, Try.f76, go_sem, hc5]
end Go.Proofs.Ytcmalglippmocaa.G
end
