/- Texts of this session, joined: each is a section. -/
import Derived.Test.YteeljehkphfmdaaMWireBack4
import Derived.Lib.Builder
import Derived.Lib.FrozenHead2
import Derived.Lib.UnsafeStr
import Derived.Laws.Externs
import Derived.Lib.Hide
import Derived.RegionTactic
import Derived.StillTailTactics
import Derived.Shelf.Strings.BuilderX
set_option linter.unusedVariables false
set_option linter.unusedSimpArgs false
section
namespace Go.Proofs.Yteeljehkphfmdaa.G
open Go.RowKit Go.Proofs.YteeljehkphfmdaaW.PrintWords Go.Proofs.YteeljehkphfmdaaW.PrintLast Go.Proofs.YteeljehkphfmdaaW.PrintMore Go.Proofs.Yteeljehkphfmdaa.Pal

theorem infoU8 : (Try.prog.info? 5).map (fun i => (i.zero, i.size, i.bytes)) = some (some (.int .u8 0), 1, 1) := by kernel_rfl
theorem sizeBuilder : (Try.prog.info? 32).map (·.size) = some 2 := by kernel_rfl
theorem liesWriter : liesAt Try.prog Try.prog.depth 34 (2 / Try.prog.cellsOf 34) 0 32 1 = true := by kernel_rfl

def WP (b : Nat) (p v : Value) (l : List UInt8) (w : World) : Prop :=
  w.heap[b]? = some (.cells #[p, v] 34 (0, 0)) ∧ w.ownsRowF b 5 1 v l.length (Lib.byteCells l) ∧ v.ownBlock ≠ some b ∧ (l = [] → v = .slice none 0 0)
def self (b : Nat) : Value := .pointer (some ⟨b, 0, none⟩)
def WAt (b : Nat) (l : List UInt8) (w : World) : Prop := ∃ v, WP b (.pointer none) v l w ∨ WP b (self b) v l w

theorem WP.ne {b : Nat} {p v : Value} {l : List UInt8} {w : World} (h : WP b p v l w) (v' : Value) (hn : w.ownsRowF b 5 1 v' l.length (Lib.byteCells l)) : True := trivial
theorem WP.shape {b : Nat} {p v : Value} {l : List UInt8} {w : World} (h : WP b p v l w) : w.shape? b = some (34, 2) := by
  have hb := h.1
  simp [World.shape?, hb]
theorem WP.lt {b : Nat} {p v : Value} {l : List UInt8} {w : World} (h : WP b p v l w) : b < w.heap.size := lt_of_block h.1
theorem WP.used {b : Nat} {p v : Value} {l : List UInt8} {w : World} (h : WP b p v l w) (q : Value) : WP b q v l (w.setCell ⟨b, 0, none⟩ q) := by
  obtain ⟨hb, hown, hne, hn⟩ := h
  refine ⟨?_, ?_, hne, hn⟩
  · simp [World.setCell, Array.getElem?_modify, hb]
  · exact hown.kept (row := some b) ⟨rfl, rfl, rfl, by simp [World.setCell], fun k _ hk => Below.heap_setCell _ _ _ _ (fun e => hk (by simp [e]))⟩ (Or.inr hne)
theorem WP.put {b : Nat} {p v v' : Value} {l : List UInt8} {w : World} (hb : w.heap[b]? = some (.cells #[p, v] 34 (0, 0))) (hown : w.ownsRowF b 5 1 v' l.length (Lib.byteCells l)) (hn : l = [] → v' = .slice none 0 0) :
    WP b p v' l (w.setCell ⟨b, 1, none⟩ v') := by
  have hne := Lib.ownBlock_neF hown hb (by decide)
  refine ⟨?_, ?_, hne, hn⟩
  · simp [World.setCell, Array.getElem?_modify, hb]
  · exact hown.kept (row := some b) ⟨rfl, rfl, rfl, by simp [World.setCell], fun k _ hk => Below.heap_setCell _ _ _ _ (fun e => hk (by simp [e]))⟩ (Or.inr hne)

set_option maxHeartbeats 1000000 in
set_option maxRecDepth 100000 in
theorem copyCheck_used (b : Nat) (w : World) (h0 : w.cell? ⟨b, 0, none⟩ = some (self b)) :
    Calls Try.prog 33 #[self b] w fun e w' => e = .returned (.tuple #[]) ∧ w' = w := by
  obtain ⟨j, hj, _⟩ := Option.map_eq_some_iff.1 sizeBuilder
  unfold self at h0 ⊢
  go_enter Try.func33, Try.ntmps33
  go_wp2
  rw [Lib.run_neq_ptr_same w _ Try.underlying29 hj]
  go_wp2
  go_end0
  exact ⟨rfl, rfl⟩

set_option maxHeartbeats 1000000 in
set_option maxRecDepth 100000 in
theorem copyCheck_fresh (b : Nat) (w : World) (h0 : w.cell? ⟨b, 0, none⟩ = some (.pointer none)) (hsh : w.shape? b = some (34, 2)) (hfz : w.frozen? ⟨b, 0, none⟩ = false) :
    Calls Try.prog 33 #[self b] w fun e w' => e = .returned (.tuple #[]) ∧ w' = w.setCell ⟨b, 0, none⟩ (self b) := by
  obtain ⟨j, hj, hjs⟩ := Option.map_eq_some_iff.1 sizeBuilder
  unfold self
  go_enter Try.func33, Try.ntmps33
  go_wp2
  rw [Lib.run_to_unsafe w ⟨b, 0, none⟩ Try.underlying29 Try.underlying71 hj (by rw [hjs]; decide) hsh (Nat.zero_lt_succ 1)]
  simp only [Result.andThen]
  rw [Oper.upon_value]
  go_wp2
  rw [run_callFunc_extern Try.func34 (by kernel_rfl) (by kernel_rfl) (by kernel_rfl) (e := Extern.AbiNoEscape.same) (by kernel_rfl)]
  rw [Lib.run_noEscape]
  simp only [Result.andThen]
  rw [Oper.upon_value]
  go_wp2
  rw [Lib.run_from_unsafe w ⟨b, 0, none⟩ Try.underlying71 Try.underlying29 hj hsh liesWriter]
  simp only [Result.andThen]
  rw [Oper.upon_value]
  go_wp2
  go_end0
  exact ⟨rfl, rfl⟩

theorem copyCheck_any (b : Nat) (l : List UInt8) (w : World) (h : WAt b l w) :
    Calls Try.prog 33 #[self b] w fun e w' => e = .returned (.tuple #[]) ∧ (∃ v, WP b (self b) v l w') ∧ Below b w w' := by
  obtain ⟨v, h | h⟩ := h
  · refine (copyCheck_fresh b w (by rw [Lib.cell_of_heap h.1]; rfl) h.shape (Lib.frozen_of_heap h.1 0)).mono ?_
    rintro e w' ⟨rfl, rfl⟩
    exact ⟨rfl, ⟨v, h.used _⟩, (Below.refl b w).setCell (p := ⟨b, 0, none⟩) (Nat.le_refl _) _⟩
  · refine (copyCheck_used b w (by rw [Lib.cell_of_heap h.1]; rfl)).mono ?_
    rintro e w' ⟨rfl, rfl⟩
    exact ⟨rfl, ⟨v, h⟩, Below.refl b _⟩

set_option maxHeartbeats 2000000 in
set_option maxRecDepth 100000 in
theorem WriteByte_calls (b : Nat) (l : List UInt8) (c : UInt8) (w : World) (h : WAt b l w) (hlen : l.length + 1 ≤ 140737488355328) :
    Calls Try.prog 32 #[self b, .int .u8 (c.toNat : Int)] w fun e w' => e = .returned .nilIface ∧ WAt b (l ++ [c]) w' ∧ Below b w w' := by
  obtain ⟨i0, hi, hz0, hz1, hz2⟩ := info_parts infoU8
  unfold self
  go_enter Try.func32, Try.ntmps32
  go_wp2_with fail
  refine (copyCheck_any b l _ h).mono ?_
  rintro e w1 ⟨rfl, ⟨v, h1⟩, hb1⟩
  obtain ⟨hbk, hown, hne, hnil⟩ := h1
  have c0 : w1.cell? ⟨b, 0, none⟩ = some (.pointer (some ⟨b, 0, none⟩)) := by rw [Lib.cell_of_heap hbk]; rfl
  have c1 : w1.cell? ⟨b, 1, none⟩ = some v := by rw [Lib.cell_of_heap hbk]; rfl
  have HN := Aside0.mk hnil
  have hlt := lt_of_block hbk
  have hsz := hb1.size
  clear hnil h
  go_wp2_with (at_builtin; refine wpList_append_ownF _ rfl _ _ 30 rfl b 5 i0 (.int .u8 0) 1 1 Try.underlying30 hi hz0 hz1 hz2 rfl (by decide) _ _ _ rfl (hown.alloc _) ⟨w1.heap.size, 0, none⟩ 1 1 [.int .u8 (c.toNat : Int)] rfl rfl ?c1 ?c2 ?c3 ?c4 ?c5 ?_)
  case c1 =>
    intro j u hj
    match j, hj with
    | 0, hj => simp at hj; subst hj; simp [Addr.add]
  case c2 => intro u hu; simp at hu; subst hu; rfl
  case c3 => unfold maxLen; omega
  case c4 => omega
  case c5 => simp; omega
  intro v' w2 hown' hgrow _
  have hb2 : w2.heap[b]? = some (.cells #[.pointer (some ⟨b, 0, none⟩), v] 34 (0, 0)) := by
    rw [hgrow.block b (by simp; omega) (fun e => hne e.symm), Lib.alloc_old w1 _ b hlt]
    exact hbk
  have d0 : w2.cell? ⟨b, 0, none⟩ = some (.pointer (some ⟨b, 0, none⟩)) := by rw [Lib.cell_of_heap hb2]; rfl
  have d1 : w2.cell? ⟨b, 1, none⟩ = some v := by rw [Lib.cell_of_heap hb2]; rfl
  have f1 : w2.frozen? ⟨b, 1, none⟩ = false := Lib.frozen_of_heap hb2 1
  obtain ⟨g, cap, rfl⟩ : ∃ g cap, v' = .slice (some ⟨g, 0, none⟩) (l.length + 1) cap := by
    rcases hown'.2 with ⟨_, h0⟩ | ⟨g, cap, cur, fz, hv, _⟩
    · omega
    · exact ⟨g, cap, hv⟩
  go_wp2
  go_ret
  refine ⟨rfl, ⟨_, .inr (WP.put (l := l ++ [c]) hb2 (by simpa [Lib.byteCells] using hown') (fun h => by simp at h))⟩, ?_⟩
  exact ((hb1.alloc (by omega) _).grown hgrow (by simp; omega) (fun k hk => (hown.lt k hk).1)).setCell (p := ⟨b, 1, none⟩) (Nat.le_refl _) _

set_option maxHeartbeats 2000000 in
set_option maxRecDepth 100000 in
theorem WriteString_calls (b : Nat) (l : List UInt8) (s : ByteArray) (w : World) (h : WAt b l w) (hlen : l.length + s.size ≤ 140737488355328) :
    Calls Try.prog 31 #[self b, .string s] w fun e w' => e = .returned (.tuple #[.int .i64 s.size, .nilIface]) ∧ WAt b (l ++ bl s) w' ∧ Below b w w' := by
  obtain ⟨i0, hi, hz0, hz1, hz2⟩ := info_parts infoU8
  unfold self
  go_enter Try.func31, Try.ntmps31
  go_wp2_with fail
  refine (copyCheck_any b l _ h).mono ?_
  rintro e w1 ⟨rfl, ⟨v, h1⟩, hb1⟩
  obtain ⟨hbk, hown, hne, hnil⟩ := h1
  have c0 : w1.cell? ⟨b, 0, none⟩ = some (.pointer (some ⟨b, 0, none⟩)) := by rw [Lib.cell_of_heap hbk]; rfl
  have c1 : w1.cell? ⟨b, 1, none⟩ = some v := by rw [Lib.cell_of_heap hbk]; rfl
  have HN := Aside0.mk hnil
  have hlt := lt_of_block hbk
  have hsz := hb1.size
  clear hnil h
  go_wp2_with (at_builtin; refine Lib.wpList_append_own_stringF _ rfl _ _ 30 9 rfl b 5 i0 Try.underlying30 Try.underlying9 hi hz0 hz1 hz2 _ _ _ rfl hown s rfl ?c3 ?c4 ?c5 ?_)
  case c3 => unfold maxLen; omega
  case c4 => omega
  case c5 => omega
  intro v' w2 hown' hgrow hvn
  have HV := Aside0.mk hvn
  clear hvn
  have hb2 : w2.heap[b]? = some (.cells #[.pointer (some ⟨b, 0, none⟩), v] 34 (0, 0)) := by
    rw [hgrow.block b hlt (fun e => hne e.symm)]
    exact hbk
  have d0 : w2.cell? ⟨b, 0, none⟩ = some (.pointer (some ⟨b, 0, none⟩)) := by rw [Lib.cell_of_heap hb2]; rfl
  have d1 : w2.cell? ⟨b, 1, none⟩ = some v := by rw [Lib.cell_of_heap hb2]; rfl
  have f1 : w2.frozen? ⟨b, 1, none⟩ = false := Lib.frozen_of_heap hb2 1
  obtain ⟨ao, n', cap, rfl⟩ : ∃ ao n' cap, v' = .slice ao n' cap := by
    rcases hown'.2 with ⟨hv, _⟩ | ⟨g, cap, cur, fz, hv, _⟩
    · exact ⟨_, _, _, hv⟩
    · exact ⟨_, _, _, hv⟩
  go_wp2
  go_ret2
  refine ⟨rfl, ⟨_, .inr (WP.put (l := l ++ bl s) hb2 (by rw [List.length_append, bl_length]; simpa [Lib.byteCells, Lib.strCells, bl] using hown') (fun h => ?_))⟩, ?_⟩
  · obtain ⟨h1, h2⟩ := List.append_eq_nil_iff.1 h
    exact HV.out.2 ⟨HN.out h1, ByteArray.ext (by simpa [bl] using h2)⟩
  exact (hb1.grown hgrow (by omega) (fun k hk => (hown.lt k hk).1)).setCell (p := ⟨b, 1, none⟩) (Nat.le_refl _) _

set_option maxHeartbeats 1000000 in
set_option maxRecDepth 100000 in
theorem BString_some (b : Nat) (l : List UInt8) (w : World) (h : WAt b l w) (h0 : l ≠ []) :
    Calls Try.prog 19 #[self b] w fun e w' => e = .returned (.string ⟨l.toArray⟩) ∧ WAt b l w' ∧ Below b w w' := by
  obtain ⟨p, v, hp, hbk, hown, hne, hnil⟩ : ∃ p v, (p = .pointer none ∨ p = self b) ∧ WP b p v l w := by
    obtain ⟨v, h | h⟩ := h
    · exact ⟨_, v, .inl rfl, h⟩
    · exact ⟨_, v, .inr rfl, h⟩
  have hl0 : l.length ≠ 0 := by simpa using h0
  obtain ⟨g, cap, cur, fz, rfl, hbg, hg, hfz, hnc, hcm, hcs, htake⟩ : ∃ g cap cur fz, v = .slice (some ⟨g, 0, none⟩) l.length cap ∧ b ≤ g ∧ w.heap[g]? = some (.cells cur 5 fz) ∧ fz.2 ≤ l.length * 1 ∧ l.length ≤ cap ∧ cap ≤ maxLen ∧ cur.size = cap * 1 ∧ cur.toList.take (l.length * 1) = Lib.byteCells l := by
    rcases hown.2 with ⟨_, hz⟩ | ⟨g, cap, cur, fz, hv, r⟩
    · exact absurd hz hl0
    · exact ⟨g, cap, cur, fz, hv, r⟩
  have c1 : w.drew.cell? ⟨b, 1, none⟩ = some (.slice (some ⟨g, 0, none⟩) l.length cap) := by
    have : w.drew.heap[b]? = some (.cells #[p, .slice (some ⟨g, 0, none⟩) l.length cap] 34 (0, 0)) := hbk
    rw [Lib.cell_of_heap this]; rfl
  have hSD : (Builtin.unsafeSliceData_ #[30] 68 #[.slice (some ⟨g, 0, none⟩) l.length cap]).run Try.prog w.drew = .ok (.pointer (some ⟨g, 0, none⟩)) w.drew :=
    Lib.run_unsafeSliceData_row _ _ _ _ _ _ (by omega)
  have hUS : (Builtin.unsafeString_ #[68, 3] 9 #[.pointer (some ⟨g, 0, none⟩), .int .i64 l.length]).run Try.prog w.drew = .ok (.string ⟨l.toArray⟩) (w.drew.freeze ⟨g, 0, none⟩ l.length) := by
    refine Lib.run_unsafeString_row w.drew 68 3 9 5 Try.underlying68 (by kernel_rfl) g cur.size (by have hg' : w.drew.heap[g]? = some (.cells cur 5 fz) := hg; simp [World.shape?, hg']) l h0 (by omega) (by unfold maxLen at hcm; omega) ?_
    intro j x hx
    have := hown.cells (g := g) rfl j (.int .u8 x.toNat) (by simp [Lib.byteCells, hx])
    exact this
  have hkeep : WAt b l (w.drew.freeze ⟨g, 0, none⟩ l.length) := by
    have hA : Lib.BuilderAtF 34 5 b b p (Lib.byteCells l) w.drew := ⟨Nat.le_refl _, _, hbk, by rw [Lib.byteCells_length]; exact hown, hne⟩
    have hF := hA.froze (g := g) (cap := cap) (by rw [Lib.byteCells_length]; exact c1)
    rw [Lib.byteCells_length] at hF
    obtain ⟨_, v2, f1, f2, f3⟩ := hF
    rw [Lib.byteCells_length] at f2
    rcases hp with rfl | rfl
    · exact ⟨v2, .inl ⟨f1, f2, f3, fun e => absurd e h0⟩⟩
    · exact ⟨v2, .inr ⟨f1, f2, f3, fun e => absurd e h0⟩⟩
  have HK := Lib.hid hkeep
  have hkB : Below b w (w.drew.freeze ⟨g, 0, none⟩ l.length) := Lib.below_freeze (Below.drew (Below.refl b w)) (p := ⟨g, 0, none⟩) hbg _
  have HKB := Lib.hid hkB
  clear hkeep hkB hown hnil hne hp hfz hnc hcm hcs htake hbk hg h
  unfold self
  go_enter Try.func19, Try.ntmps19
  go_wp2
  go_region
  all_goals (go_wp2; go_ret; exact ⟨rfl, HK.out, HKB.out⟩)

set_option maxHeartbeats 1000000 in
set_option maxRecDepth 100000 in
theorem BString_none (b : Nat) (w : World) (h : WAt b [] w) :
    Calls Try.prog 19 #[self b] w fun e w' => e = .returned (.string ⟨#[]⟩) ∧ WAt b [] w' ∧ Below b w w' := by
  obtain ⟨p, v, hp, hbk, hown, hne, hnil⟩ : ∃ p v, (p = .pointer none ∨ p = self b) ∧ WP b p v [] w := by
    obtain ⟨v, h | h⟩ := h
    · exact ⟨_, v, .inl rfl, h⟩
    · exact ⟨_, v, .inr rfl, h⟩
  obtain rfl := hnil rfl
  have c1 : w.drew.cell? ⟨b, 1, none⟩ = some (.slice none 0 0) := by
    have : w.drew.heap[b]? = some (.cells #[p, .slice none 0 0] 34 (0, 0)) := hbk
    rw [Lib.cell_of_heap this]; rfl
  have hSD : (Builtin.unsafeSliceData_ #[30] 68 #[.slice none 0 0]).run Try.prog w.drew = .ok (.pointer none) w.drew := rfl
  have hUS : (Builtin.unsafeString_ #[68, 3] 9 #[.pointer none, .int .i64 0]).run Try.prog w.drew = .ok (.string ⟨#[]⟩) w.drew := Lib.run_unsafeString_none w.drew _ _ _ none
  have HK := Lib.hid h
  clear hown hnil hne hp hbk h
  unfold self
  go_enter Try.func19, Try.ntmps19
  go_wp2
  go_region
  all_goals (go_wp2; go_ret; exact ⟨rfl, HK.out, (Below.refl b w).drew⟩)

theorem BString_calls (b : Nat) (l : List UInt8) (w : World) (h : WAt b l w) :
    Calls Try.prog 19 #[self b] w fun e w' => e = .returned (.string ⟨l.toArray⟩) ∧ WAt b l w' ∧ Below b w w' := by
  cases l with
  | nil => exact BString_none b w h
  | cons x r => exact BString_some b (x :: r) w h (by simp)


set_option maxHeartbeats 400000 in
theorem Writer_Text.calls (b : Nat) (l : List UInt8) (s : ByteArray) (w : World) (h : WAt b l w) (hlen : l.length + s.size ≤ 140737488355328) :
    Calls Try.prog 18 #[self b, .string s] w fun e w' => e = .returned (.tuple #[]) ∧ WAt b (l ++ bl s) w' ∧ Below b w w' := by
  unfold self
  go_enter Try.func18, Try.ntmps18
  go_wp2_with fail
  refine (WriteString_calls b l s w h hlen).mono ?_
  rintro e w1 ⟨rfl, h1, h2⟩
  have H1 := Lib.hid h1
  have H2 := Lib.hid h2
  clear h1 h2 h
  go_wp2
  go_end0
  exact ⟨rfl, H1.out, H2.out⟩

set_option maxHeartbeats 400000 in
theorem Writer_String.calls (b : Nat) (l : List UInt8) (w : World) (h : WAt b l w) :
    Calls Try.prog 8 #[self b] w fun e w' => e = .returned (.string ⟨l.toArray⟩) ∧ WAt b l w' ∧ Below b w w' := by
  unfold self
  go_enter Try.func8, Try.ntmps8
  go_wp2_with fail
  refine (BString_calls b l w h).mono ?_
  rintro e w1 ⟨rfl, h1, h2⟩
  have H1 := Lib.hid h1
  have H2 := Lib.hid h2
  clear h1 h2 h
  go_wp2
  go_ret
  exact ⟨rfl, H1.out, H2.out⟩


theorem byte_at (n k : Nat) : IntKind.u8.wrap ((n : Int) / 2 ^ (8 * (k : Int)).toNat) = ((UInt8.ofNat (n / 256 ^ k)).toNat : Int) := by
  have e1 : (8 * (k : Int)).toNat = 8 * k := by omega
  rw [e1, show ((2 : Int) ^ (8 * k)) = ((2 ^ (8 * k) : Nat) : Int) from by simp, Nat.pow_mul, IntKind.wrap_u8]
  simp
set_option maxHeartbeats 800000 in
set_option maxRecDepth 100000 in
theorem Writer_number.calls (b : Nat) (l : List UInt8) (n m : Nat) (w : World) (h : WAt b l w) (hn : n < 18446744073709551616) (hm : m ≤ 8) (hlen : l.length + m ≤ 140737488355328) :
    Calls Try.prog 30 #[self b, .int .u64 (n : Int), .int .i64 (m : Int)] w fun e w' => e = .returned (.tuple #[]) ∧ WAt b (l ++ nb m n) w' ∧ Below b w w' := by
  have H := Lib.hid h
  clear h
  unfold self
  go_enter Try.func30, Try.ntmps30
  go_wp2
  go_loopg [6] m (fun kq v6 wr => ∃ j : Nat, v6 = .int .i64 ((m : Int) - 1 - j) ∧ Aside0 (j + kq = m) ∧ Hid (WAt b (l ++ (nb m n).take j) wr) ∧ Hid (Below b w wr))
  case atStart => exact ⟨0, by simp, ⟨by omega⟩, by rw [List.take_zero, List.append_nil]; exact H, Lib.hid (Below.refl _ _)⟩
  case round =>
    obtain ⟨j, rfl, HK, HW, HB⟩ := hrel
    by_cases hlt : j < m
    · rw [show ((m : Int) - 1 - j) = ((m - 1 - j : Nat) : Int) from by omega]
      have HT : Aside0 ((nb m n).take (j + 1) = (nb m n).take j ++ [UInt8.ofNat (n / 256 ^ (m - 1 - j))]) := ⟨nb_take_succ m j n hlt⟩
      have HKK : Aside0 (m - 1 - j + j + 1 = m) := ⟨by omega⟩
      have hk7 : m - 1 - j ≤ 7 := by omega
      generalize m - 1 - j = k at HT HKK hk7 ⊢
      have hw8 : IntKind.i64.wrap (8 * (k : Int)) = 8 * (k : Int) := wraps_i64 _ (by omega) (by omega)
      go_wp2_with fail
      go_still_tail 8, (by kernel_rfl)
      change wpList _ _ _ _ _ wr.drew
      rw [byte_at n k]
      generalize UInt8.ofNat (n / 256 ^ k) = c at HT ⊢
      have hW1 : WAt b (l ++ (nb m n).take j) wr.drew := HW.out
      have hlen1 : (l ++ (nb m n).take j).length + 1 ≤ 140737488355328 := by rw [List.length_append, List.length_take, nb_length]; omega
      go_wp2_with fail
      refine (WriteByte_calls b _ c _ hW1 hlen1).mono ?_
      rintro e w1 ⟨rfl, h1, h2⟩
      have H1 := Lib.hid h1
      have H2 := Lib.hid h2
      clear h1 h2 hW1 hlen1 hw8
      go_wp2
      go_roundg k
      case measure => have := HK.out; have := HKK.out; omega
      case rel => exact ⟨j + 1, by rw [show ((m : Int) - 1 - ((j + 1 : Nat) : Int)) = (k : Int) - 1 from by have := HKK.out; omega], ⟨by have := HKK.out; omega⟩, by rw [HT.out, ← List.append_assoc]; exact H1, Lib.hid ((HB.out.drew).trans H2.out)⟩
    · have HT : Aside0 ((nb m n).take j = nb m n) := ⟨List.take_of_length_le (by rw [nb_length]; omega)⟩
      rw [HT.out] at HW
      go_wp2
      go_end0
      exact ⟨rfl, HW.out, HB.out⟩

set_option maxHeartbeats 400000 in
theorem Writer_U8.calls (b : Nat) (l : List UInt8) (x : Int) (w : World) (h : WAt b l w) (hlen : l.length + 1 ≤ 140737488355328) :
    Calls Try.prog 14 #[self b, .int .i64 x] w fun e w' => e = .returned (.tuple #[]) ∧ WAt b (l ++ nb 1 (IntKind.u64.wrap x).toNat) w' ∧ Below b w w' := by
  obtain ⟨n, hn, e1⟩ : ∃ n : Nat, n < 18446744073709551616 ∧ IntKind.u64.wrap x = (n : Int) := ⟨(IntKind.u64.wrap x).toNat, by rw [IntKind.wrap_u64]; omega, by rw [IntKind.wrap_u64]; omega⟩
  unfold self
  rw [e1, Int.toNat_natCast]
  go_enter Try.func14, Try.ntmps14
  go_wp2_with fail
  refine (Writer_number.calls b l n 1 _ h hn (by decide) hlen).mono ?_
  rintro e w1 ⟨rfl, h1, h2⟩
  have H1 := Lib.hid h1
  have H2 := Lib.hid h2
  clear h1 h2 h
  go_wp2
  go_end0
  exact ⟨rfl, H1.out, H2.out⟩
set_option maxHeartbeats 400000 in
theorem Writer_U16.calls (b : Nat) (l : List UInt8) (x : Int) (w : World) (h : WAt b l w) (hlen : l.length + 2 ≤ 140737488355328) :
    Calls Try.prog 15 #[self b, .int .i64 x] w fun e w' => e = .returned (.tuple #[]) ∧ WAt b (l ++ nb 2 (IntKind.u64.wrap x).toNat) w' ∧ Below b w w' := by
  obtain ⟨n, hn, e1⟩ : ∃ n : Nat, n < 18446744073709551616 ∧ IntKind.u64.wrap x = (n : Int) := ⟨(IntKind.u64.wrap x).toNat, by rw [IntKind.wrap_u64]; omega, by rw [IntKind.wrap_u64]; omega⟩
  unfold self
  rw [e1, Int.toNat_natCast]
  go_enter Try.func15, Try.ntmps15
  go_wp2_with fail
  refine (Writer_number.calls b l n 2 _ h hn (by decide) hlen).mono ?_
  rintro e w1 ⟨rfl, h1, h2⟩
  have H1 := Lib.hid h1
  have H2 := Lib.hid h2
  clear h1 h2 h
  go_wp2
  go_end0
  exact ⟨rfl, H1.out, H2.out⟩
set_option maxHeartbeats 400000 in
theorem Writer_U32.calls (b : Nat) (l : List UInt8) (x : Int) (w : World) (h : WAt b l w) (h0 : 0 ≤ x) (hx : x < 4294967296) (hlen : l.length + 4 ≤ 140737488355328) :
    Calls Try.prog 16 #[self b, .int .u32 x] w fun e w' => e = .returned (.tuple #[]) ∧ WAt b (l ++ nb 4 (IntKind.u64.wrap x).toNat) w' ∧ Below b w w' := by
  obtain ⟨n, hn, e1⟩ : ∃ n : Nat, n < 18446744073709551616 ∧ IntKind.u64.wrap x = (n : Int) := ⟨(IntKind.u64.wrap x).toNat, by rw [IntKind.wrap_u64]; omega, by rw [IntKind.wrap_u64]; omega⟩
  have e2 : x = (n : Int) := by rw [← e1, IntKind.wrap_u64]; omega
  unfold self
  rw [e1, Int.toNat_natCast]
  go_enter Try.func16, Try.ntmps16
  go_wp2_with fail
  rw [e2]
  refine (Writer_number.calls b l n 4 _ h hn (by decide) hlen).mono ?_
  rintro e w1 ⟨rfl, h1, h2⟩
  have H1 := Lib.hid h1
  have H2 := Lib.hid h2
  clear h1 h2 h
  go_wp2
  go_end0
  exact ⟨rfl, H1.out, H2.out⟩
set_option maxHeartbeats 400000 in
theorem Writer_U64.calls (b : Nat) (l : List UInt8) (x : Int) (w : World) (h : WAt b l w) (h0 : 0 ≤ x) (hx : x < 18446744073709551616) (hlen : l.length + 8 ≤ 140737488355328) :
    Calls Try.prog 17 #[self b, .int .u64 x] w fun e w' => e = .returned (.tuple #[]) ∧ WAt b (l ++ nb 8 (IntKind.u64.wrap x).toNat) w' ∧ Below b w w' := by
  obtain ⟨n, hn, e1⟩ : ∃ n : Nat, n < 18446744073709551616 ∧ IntKind.u64.wrap x = (n : Int) := ⟨(IntKind.u64.wrap x).toNat, by rw [IntKind.wrap_u64]; omega, by rw [IntKind.wrap_u64]; omega⟩
  have e2 : x = (n : Int) := by rw [← e1, IntKind.wrap_u64]; omega
  unfold self
  rw [e1, Int.toNat_natCast]
  go_enter Try.func17, Try.ntmps17
  go_wp2_with fail
  rw [e2]
  refine (Writer_number.calls b l n 8 _ h hn (by decide) hlen).mono ?_
  rintro e w1 ⟨rfl, h1, h2⟩
  have H1 := Lib.hid h1
  have H2 := Lib.hid h2
  clear h1 h2 h
  go_wp2
  go_end0
  exact ⟨rfl, H1.out, H2.out⟩

def u64n (x : Int) : Nat := (IntKind.u64.wrap x).toNat
theorem WAt.new (w : World) : WAt w.heap.size [] (w.alloc (.cells #[.pointer none, .slice none 0 0] 34)) :=
  ⟨.slice none 0 0, .inl ⟨heap_alloc_new w _, ⟨by simp [Lib.byteCells], .inl ⟨rfl, rfl⟩⟩, by simp [Value.ownBlock], fun _ => rfl⟩⟩
theorem WAt.drew {b : Nat} {l : List UInt8} {w : World} (h : WAt b l w) : WAt b l w.drew := h
theorem WAt.drewN {b : Nat} {l : List UInt8} {w : World} (h : WAt b l w) (n : Nat) : WAt b l (w.drewN n) := h
def WS (B a b : Nat) (w w1 : World) (T : TypeId) (cs : Array Value) (l : List UInt8) : Prop := (WAt b l w1 ∧ Blk w1 a T cs ∧ Below B w w1) ∧ a < b ∧ B ≤ b
theorem WS.next {B a b : Nat} {w w1 w2 : World} {T : TypeId} {cs : Array Value} {l l' : List UInt8} (h : WS B a b w w1 T cs l) (h1 : WAt b l' w2) (h2 : Below b w1 w2) : WS B a b w w2 T cs l' :=
  ⟨⟨h1, h.1.2.1.below h2 h.2.1, h.1.2.2.trans (h2.mono h.2.2)⟩, h.2⟩
theorem WS.startAt {B a : Nat} {w w1 : World} {T : TypeId} {cs : Array Value} (h : Blk w1 a T cs) (hB : Below B w w1) (hs : B ≤ w1.heap.size) : WS B a w1.heap.size w (w1.alloc (.cells #[.pointer none, .slice none 0 0] 34)) T cs [] :=
  ⟨⟨WAt.new w1, h.alloc _, hB.alloc hs _⟩, h.lt, hs⟩
theorem WS.start (w : World) (T : TypeId) (cs : Array Value) : WS w.heap.size w.heap.size (w.heap.size + 1) w ((w.alloc (.cells cs T)).alloc (.cells #[.pointer none, .slice none 0 0] 34)) T cs [] := by
  have h := WS.startAt (Blk.new w T cs) ((Below.refl _ _).alloc (Nat.le_refl _) _) (by simp)
  rwa [World.size_alloc] at h
end Go.Proofs.Yteeljehkphfmdaa.G
end
