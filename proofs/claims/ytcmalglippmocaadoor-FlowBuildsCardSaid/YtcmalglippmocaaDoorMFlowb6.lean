/- Texts of this session, joined: each is a section. -/
import Derived.Test.YtcmalglippmocaaDoorMFlowb4
import Derived.Test.YtcmalglippmocaaDoorMFlowb5
import Derived.WalkLawsBesides
import Derived.BigQuiet
import Derived.Test.YtcmalglippmocaaDoorMFlowb3
import Derived.Recover
import Derived.Defers
import Derived.WideLaws
import Derived.Lib.Hide
import Derived.Deep.RegionWith
import Derived.StillTailTactics
import Derived.Test.YtcmalglippmocaaDoorMFlowb1
import Derived.RegionTactic
set_option linter.unusedVariables false
set_option linter.unusedSimpArgs false
section
/- By hand: flow's two kinds of packets: their methods; flow.open, whose result is an interface value. -/
namespace Go.Proofs.YtcmalglippmocaaDoor.G
open Go.RowKit Go.Proofs.YtcmalglippmocaaDoorW.PrintWords Go.Proofs.YtcmalglippmocaaDoorW.PrintLast Go.Proofs.YtcmalglippmocaaDoorW.PrintMore Go.Proofs.YtcmalglippmocaaDoor.Pal
set_option linter.unusedVariables false
set_option linter.unusedSimpArgs false
abbrev cs4 (r1 r2 r3 r4 r5 : Int) (r6 r7 : Bool) (r8 r9 r10 : ByteArray) : Array Value := #[.int .i64 r1, .int .i64 r2, .int .i64 r3, .int .i64 r4, .int .i64 r5, .bool r6, .bool r7, .string r8, .string r9, .string r10]
abbrev cs6 (r1 r2 r3 r4 : Int) (r5 r6 : ByteArray) : Array Value := #[.int .i64 r1, .int .i64 r2, .int .i64 r3, .int .i64 r4, .string r5, .string r6]
section
variable (r1 r2 r3 r4 r5 : Int) (r6 r7 : Bool) (r8 r9 r10 : ByteArray)
theorem four_m_proto : ∀ w : World, (method 328 193 (.agg (cs4 r1 r2 r3 r4 r5 r6 r7 r8 r9 r10)) "palanquin/flow.proto").run Tryd.prog w = .ok (169, .agg (cs4 r1 r2 r3 r4 r5 r6 r7 r8 r9 r10)) w := fun _ => by kernel_rfl
theorem four_m_ends : ∀ w : World, (method 328 193 (.agg (cs4 r1 r2 r3 r4 r5 r6 r7 r8 r9 r10)) "palanquin/flow.ends").run Tryd.prog w = .ok (167, .agg (cs4 r1 r2 r3 r4 r5 r6 r7 r8 r9 r10)) w := fun _ => by kernel_rfl
theorem four_m_piece : ∀ w : World, (method 328 193 (.agg (cs4 r1 r2 r3 r4 r5 r6 r7 r8 r9 r10)) "palanquin/flow.piece").run Tryd.prog w = .ok (168, .agg (cs4 r1 r2 r3 r4 r5 r6 r7 r8 r9 r10)) w := fun _ => by kernel_rfl
theorem four_m_bare : ∀ w : World, (method 328 193 (.agg (cs4 r1 r2 r3 r4 r5 r6 r7 r8 r9 r10)) "palanquin/flow.bare").run Tryd.prog w = .ok (166, .agg (cs4 r1 r2 r3 r4 r5 r6 r7 r8 r9 r10)) w := fun _ => by kernel_rfl
end
section
variable (r1 r2 r3 r4 : Int) (r5 r6 : ByteArray)
theorem six_m_proto : ∀ w : World, (method 328 197 (.agg (cs6 r1 r2 r3 r4 r5 r6)) "palanquin/flow.proto").run Tryd.prog w = .ok (173, .agg (cs6 r1 r2 r3 r4 r5 r6)) w := fun _ => by kernel_rfl
theorem six_m_ends : ∀ w : World, (method 328 197 (.agg (cs6 r1 r2 r3 r4 r5 r6)) "palanquin/flow.ends").run Tryd.prog w = .ok (171, .agg (cs6 r1 r2 r3 r4 r5 r6)) w := fun _ => by kernel_rfl
theorem six_m_piece : ∀ w : World, (method 328 197 (.agg (cs6 r1 r2 r3 r4 r5 r6)) "palanquin/flow.piece").run Tryd.prog w = .ok (172, .agg (cs6 r1 r2 r3 r4 r5 r6)) w := fun _ => by kernel_rfl
theorem six_m_bare : ∀ w : World, (method 328 197 (.agg (cs6 r1 r2 r3 r4 r5 r6)) "palanquin/flow.bare").run Tryd.prog w = .ok (170, .agg (cs6 r1 r2 r3 r4 r5 r6)) w := fun _ => by kernel_rfl
end
section
variable (r1 r2 r3 r4 r5 : Int) (r6 r7 : Bool) (r8 r9 r10 : ByteArray) (w : World)
set_option maxHeartbeats 1000000 in
theorem four_proto : Calls Tryd.prog 169 #[.agg (cs4 r1 r2 r3 r4 r5 r6 r7 r8 r9 r10)] w fun e w' => e = .returned (.int .i64 r5) ∧ Below w.heap.size w w' := by
  go_enter Tryd.func169, Tryd.ntmps169
  go_wp2
  go_ret
  exact ⟨rfl, (Below.refl _ _).alloc (Nat.le_refl _) _⟩
set_option maxHeartbeats 1000000 in
theorem four_ends : Calls Tryd.prog 167 #[.agg (cs4 r1 r2 r3 r4 r5 r6 r7 r8 r9 r10)] w fun e w' => e = .returned (.tuple #[.string r8, .string r9]) ∧ Below w.heap.size w w' := by
  go_enter Tryd.func167, Tryd.ntmps167
  go_wp2
  go_quiet (fail)
  go_wp2
  go_ret2
  exact ⟨rfl, pw_below_drewN ((Below.refl _ _).alloc (Nat.le_refl _) _) _⟩
set_option maxHeartbeats 1000000 in
theorem four_piece : Calls Tryd.prog 168 #[.agg (cs4 r1 r2 r3 r4 r5 r6 r7 r8 r9 r10)] w fun e w' => e = .returned (.bool (r3 != 0 || r7)) ∧ Below w.heap.size w w' := by
  cases h : (r3 != 0)
  all_goals
    go_enter Tryd.func168, Tryd.ntmps168
    go_wp2
    go_ret
    exact ⟨rfl, (Below.refl _ _).alloc (Nat.le_refl _) _⟩
set_option maxHeartbeats 1000000 in
theorem four_bare : Calls Tryd.prog 166 #[.agg (cs4 r1 r2 r3 r4 r5 r6 r7 r8 r9 r10)] w fun e w' => e = .returned (.bool true) ∧ Below w.heap.size w w' := by
  go_enter Tryd.func166, Tryd.ntmps166
  go_wp2
  go_ret
  exact ⟨rfl, (Below.refl _ _).alloc (Nat.le_refl _) _⟩
end
section
variable (r1 r2 r3 r4 : Int) (r5 r6 : ByteArray) (w : World)
set_option maxHeartbeats 1000000 in
theorem six_proto : Calls Tryd.prog 173 #[.agg (cs6 r1 r2 r3 r4 r5 r6)] w fun e w' => e = .returned (.int .i64 r3) ∧ Below w.heap.size w w' := by
  go_enter Tryd.func173, Tryd.ntmps173
  go_wp2
  go_ret
  exact ⟨rfl, (Below.refl _ _).alloc (Nat.le_refl _) _⟩
set_option maxHeartbeats 1000000 in
theorem six_ends : Calls Tryd.prog 171 #[.agg (cs6 r1 r2 r3 r4 r5 r6)] w fun e w' => e = .returned (.tuple #[.string r5, .string r6]) ∧ Below w.heap.size w w' := by
  go_enter Tryd.func171, Tryd.ntmps171
  go_wp2
  go_quiet (fail)
  go_wp2
  go_ret2
  exact ⟨rfl, pw_below_drewN ((Below.refl _ _).alloc (Nat.le_refl _) _) _⟩
set_option maxHeartbeats 1000000 in
theorem six_piece : Calls Tryd.prog 172 #[.agg (cs6 r1 r2 r3 r4 r5 r6)] w fun e w' => e = .returned (.bool false) ∧ Below w.heap.size w w' := by
  go_enter Tryd.func172, Tryd.ntmps172
  go_wp2
  go_ret
  exact ⟨rfl, (Below.refl _ _).alloc (Nat.le_refl _) _⟩
set_option maxHeartbeats 1000000 in
theorem six_bare : Calls Tryd.prog 170 #[.agg (cs6 r1 r2 r3 r4 r5 r6)] w fun e w' => e = .returned (.bool false) ∧ Below w.heap.size w w' := by
  go_enter Tryd.func170, Tryd.ntmps170
  go_wp2
  go_ret
  exact ⟨rfl, (Below.refl _ _).alloc (Nat.le_refl _) _⟩
end

set_option maxHeartbeats 2000000 in
set_option maxRecDepth 100000 in
theorem open_none (s : ByteArray) (w : World) (h : s.size = 0) : Calls Tryd.prog 95 #[.string s] w fun e w' => e = .returned (.tuple #[.nilIface, .string ⟨#[]⟩, .int .i64 2]) ∧ Below w.heap.size w w' := by
  have e0 := isEmpty_of h
  clear h
  go_enter Tryd.func95, Tryd.ntmps95
  go_wp2
  go_ret3
  exact ⟨rfl, Below.refl _ _⟩
set_option maxHeartbeats 2000000 in
set_option maxRecDepth 100000 in
theorem open_other (s : ByteArray) (w : World) (h : ¬ s.size = 0) (h4 : bt s 0 / 16 ≠ 4) (h6 : bt s 0 / 16 ≠ 6) : Calls Tryd.prog 95 #[.string s] w fun e w' => e = .returned (.tuple #[.nilIface, .string ⟨#[]⟩, .int .i64 3]) ∧ Below w.heap.size w w' := by
  have e0 := isEmpty_not h
  have hx : ∀ h : 0 < s.size, ((s[0]'h).toNat : Int) = bt s 0 := bt_at s 0
  have q4 : (0 < s.size) = True := eq_true (by omega)
  have d4 : (bt s 0 / 16 == 4) = false := beq_eq_false_iff_ne.mpr h4
  have d6 : (bt s 0 / 16 == 6) = false := beq_eq_false_iff_ne.mpr h6
  clear h h4 h6
  go_enter Tryd.func95, Tryd.ntmps95
  go_wp2
  go_ret3
  exact ⟨rfl, Below.refl _ _⟩
set_option maxHeartbeats 2000000 in
set_option maxRecDepth 100000 in
theorem open_four (s : ByteArray) (w : World) (h : ¬ s.size = 0) (h4 : bt s 0 / 16 = 4) {r1 r2 r3 r4 r5 : Int} {r6 r7 : Bool} {r8 r9 r10 r11 : ByteArray} {r12 : Int} (hf : ip4_Get.f s = some (r1, r2, r3, r4, r5, r6, r7, r8, r9, r10, r11, r12)) :
    Calls Tryd.prog 95 #[.string s] w fun e w' => e = .returned (.tuple #[.iface 193 (.agg (cs4 r1 r2 r3 r4 r5 r6 r7 r8 r9 r10)), .string r11, .int .i64 r12]) ∧ Below w.heap.size w w' := by
  have e0 := isEmpty_not h
  have hx : ∀ h : 0 < s.size, ((s[0]'h).toNat : Int) = bt s 0 := bt_at s 0
  have q4 : (0 < s.size) = True := eq_true (by omega)
  have d4 : (bt s 0 / 16 == 4) = true := beq_iff_eq.mpr h4
  have HF := Aside0.mk hf
  clear h h4 hf
  go_enter Tryd.func95, Tryd.ntmps95
  go_wp2_with fail
  refine (ip4_Get.calls _ _ _ _ _ _ _ _ _ _ _ _ _ _ HF.out).mono ?_
  rintro e w2 ⟨rfl, hb⟩
  have HB := Aside0.mk hb
  clear hb e0 hx q4 d4
  go_wp2
  go_ret3
  exact ⟨rfl, below_alloc HB.out _⟩
set_option maxHeartbeats 2000000 in
set_option maxRecDepth 100000 in
theorem open_six (s : ByteArray) (w : World) (h : ¬ s.size = 0) (h4 : bt s 0 / 16 = 6) {r1 r2 r3 r4 : Int} {r5 r6 r7 : ByteArray} {r8 : Int} (hf : ip6_Get.f s = some (r1, r2, r3, r4, r5, r6, r7, r8)) :
    Calls Tryd.prog 95 #[.string s] w fun e w' => e = .returned (.tuple #[.iface 197 (.agg (cs6 r1 r2 r3 r4 r5 r6)), .string r7, .int .i64 r8]) ∧ Below w.heap.size w w' := by
  have e0 := isEmpty_not h
  have hx : ∀ h : 0 < s.size, ((s[0]'h).toNat : Int) = bt s 0 := bt_at s 0
  have q4 : (0 < s.size) = True := eq_true (by omega)
  have d4 : (bt s 0 / 16 == 4) = false := by rw [h4]; rfl
  have d6 : (bt s 0 / 16 == 6) = true := beq_iff_eq.mpr h4
  have HF := Aside0.mk hf
  clear h h4 hf
  go_enter Tryd.func95, Tryd.ntmps95
  go_wp2_with fail
  refine (ip6_Get.calls _ _ _ _ _ _ _ _ _ _ HF.out).mono ?_
  rintro e w2 ⟨rfl, hb⟩
  have HB := Aside0.mk hb
  clear hb e0 hx q4 d4 d6
  go_wp2
  go_ret3
  exact ⟨rfl, below_alloc HB.out _⟩
end Go.Proofs.YtcmalglippmocaaDoor.G
end

section
/- By hand: ip4.within, ip4.Check, ip4.bit, ip4.header. -/
namespace Go.Proofs.YtcmalglippmocaaDoor.G
open Go.RowKit Go.Proofs.YtcmalglippmocaaDoorW.PrintWords Go.Proofs.YtcmalglippmocaaDoorW.PrintLast Go.Proofs.YtcmalglippmocaaDoorW.PrintMore Go.Proofs.YtcmalglippmocaaDoor.Pal
set_option linter.unusedVariables false
set_option linter.unusedSimpArgs false

/-- Numbers, each within its limit. -/
def okPairs (l : List (Int × Int)) : Prop := ∀ p ∈ l, 0 ≤ p.1 ∧ p.1 ≤ p.2
def oddPanic : Ending := .panicked [{ v := .iface 204 (.agg #[]), recovered := false }]

set_option maxHeartbeats 1000000 in
set_option maxRecDepth 100000 in
theorem within_yes (b c : Nat) (l : List (Int × Int)) (w : World) (hc : ∀ i p, l[i]? = some p → w.cell? ⟨b, i * 2, none⟩ = some (.int .i64 p.1) ∧ w.cell? ⟨b, i * 2 + 1, none⟩ = some (.int .i64 p.2)) (hb : b < w.heap.size) (hl : l.length ≤ 100) (h : okPairs l) :
    Calls Tryd.prog 140 #[.slice (some ⟨b, 0, none⟩) l.length c] w fun e w' => e = .returned (.tuple #[]) ∧ Below w.heap.size w w' := by
  have HC := Aside0.mk hc
  have HO := Aside0.mk h
  have HL := Aside0.mk hl
  have HZ := Aside0.mk hb
  clear hc h hl hb
  go_enter Tryd.func140, Tryd.ntmps140
  go_wp2
  go_loopg [6] l.length (fun kq v6 wr => ∃ i : Nat, v6 = .int .i64 (i : Int) ∧ Aside0 (i + kq = l.length) ∧ Aside0 (Below w.heap.size w wr))
  case atStart => exact ⟨0, rfl, ⟨by omega⟩, ⟨Below.refl _ _⟩⟩
  case round =>
    obtain ⟨i, rfl, HK, HI⟩ := hrel
    by_cases hlt : i < l.length
    · obtain ⟨p, hp⟩ : ∃ p, l[i]? = some p := ⟨_, List.getElem?_eq_getElem hlt⟩
      have g0 := (HC.out i p hp).1
      have g1 := (HC.out i p hp).2
      have hok := HO.out p (List.mem_of_getElem? hp)
      have e0 : wr.cell? ⟨b, i * 2, none⟩ = some (.int .i64 p.1) := (HI.out.cell (p := ⟨b, i * 2, none⟩) HZ.out).trans g0
      have e1 : wr.cell? ⟨b, i * 2 + 1, none⟩ = some (.int .i64 p.2) := (HI.out.cell (p := ⟨b, i * 2 + 1, none⟩) HZ.out).trans g1
      have q2 : ((i : Int) < (l.length : Int)) = True := eq_true (by omega)
      have q3 : (i < l.length) = True := eq_true hlt
      clear g0 g1
      go_wp2
      replace HI := Aside0.mk (HI.out.alloc HI.out.size (.cells #[.int .i64 p.1, .int .i64 p.2] 134))
      have hw : wrap64 ((i : Int) + 1) = ((i + 1 : Nat) : Int) := by have := HL.out; unfold wrap64; omega
      rw [hw]
      go_roundg (l.length - (i + 1))
      case measure => have := HK.out; omega
      case rel => exact ⟨i + 1, rfl, ⟨by omega⟩, HI⟩
    · go_wp2
      go_end0
      exact ⟨rfl, HI.out⟩

set_option maxHeartbeats 1000000 in
set_option maxRecDepth 100000 in
theorem within_no (b c : Nat) (l : List (Int × Int)) (w : World) (hc : ∀ i p, l[i]? = some p → w.cell? ⟨b, i * 2, none⟩ = some (.int .i64 p.1) ∧ w.cell? ⟨b, i * 2 + 1, none⟩ = some (.int .i64 p.2)) (hb : b < w.heap.size) (hl : l.length ≤ 100) (h : ¬ okPairs l) :
    Calls Tryd.prog 140 #[.slice (some ⟨b, 0, none⟩) l.length c] w fun e w' => e = oddPanic ∧ Below w.heap.size w w' := by
  have HC := Aside0.mk hc
  have HO := Aside0.mk h
  have HL := Aside0.mk hl
  have HZ := Aside0.mk hb
  clear hc h hl hb
  go_enter Tryd.func140, Tryd.ntmps140
  go_wp2
  go_loopg [6] l.length (fun kq v6 wr => ∃ i : Nat, v6 = .int .i64 (i : Int) ∧ Aside0 (i + kq = l.length) ∧ Aside0 (okPairs (l.take i)) ∧ Aside0 (Below w.heap.size w wr))
  case atStart => exact ⟨0, rfl, ⟨by omega⟩, ⟨fun p hp => absurd hp (by simp)⟩, ⟨Below.refl _ _⟩⟩
  case round =>
    obtain ⟨i, rfl, HK, HT, HI⟩ := hrel
    by_cases hlt : i < l.length
    · obtain ⟨p, hp⟩ : ∃ p, l[i]? = some p := ⟨_, List.getElem?_eq_getElem hlt⟩
      have g0 := (HC.out i p hp).1
      have g1 := (HC.out i p hp).2
      have e0 : wr.cell? ⟨b, i * 2, none⟩ = some (.int .i64 p.1) := (HI.out.cell (p := ⟨b, i * 2, none⟩) HZ.out).trans g0
      have e1 : wr.cell? ⟨b, i * 2 + 1, none⟩ = some (.int .i64 p.2) := (HI.out.cell (p := ⟨b, i * 2 + 1, none⟩) HZ.out).trans g1
      have q2 : ((i : Int) < (l.length : Int)) = True := eq_true (by omega)
      have q3 : (i < l.length) = True := eq_true hlt
      have HP := Aside0.mk hp
      clear g0 g1 hp
      replace HI := Aside0.mk (HI.out.alloc HI.out.size (.cells #[.int .i64 p.1, .int .i64 p.2] 134))
      by_cases c1 : p.1 < 0
      · have d1 : decide (p.1 < 0) = true := decide_eq_true c1
        clear c1
        go_wp2
        exact ⟨rfl, rfl, HI.out⟩
      have d1 : decide (p.1 < 0) = false := decide_eq_false c1
      by_cases c2 : p.2 < p.1
      · have d2 : decide (p.2 < p.1) = true := decide_eq_true c2
        clear c1 c2
        go_wp2
        exact ⟨rfl, rfl, HI.out⟩
      have d2 : decide (p.2 < p.1) = false := decide_eq_false c2
      have HT' : Aside0 (okPairs (l.take (i + 1))) := ⟨fun x hx => by
        rw [List.take_add_one, HP.out] at hx
        rcases List.mem_append.1 hx with hx | hx
        · exact HT.out x hx
        · obtain rfl : x = p := by simpa using hx
          omega⟩
      have hw : wrap64 ((i : Int) + 1) = ((i + 1 : Nat) : Int) := by have := HL.out; unfold wrap64; omega
      clear c1 c2
      go_wp2
      go_roundg (l.length - (i + 1))
      case measure => have := HK.out; omega
      case rel => exact ⟨i + 1, by rw [hw], ⟨by omega⟩, HT', HI⟩
    · exact absurd (by have := HT.out; rwa [List.take_of_length_le (by omega)] at this) HO.out

theorem odd_is (v : Value) (W : World) : (Instr.typeAssert (.iface 204 v) 20 204 true).run Tryd.prog W = .ok (.tuple #[v, .bool true]) W := by kernel_rfl
theorem odd_not (W : World) : (Instr.typeAssert .nilIface 20 204 true).run Tryd.prog W = .ok (.tuple #[.agg #[], .bool false]) W := by kernel_rfl

set_option maxHeartbeats 1000000 in
set_option maxRecDepth 100000 in
theorem Check1_caught (p : Nat) (w : World) (hc : ∃ x, w.cell? ⟨p, 0, none⟩ = some x) (hz : w.frozen? ⟨p, 0, none⟩ = false) (hp : p < w.heap.size) :
    CallsD Tryd.prog 139 #[.pointer (some ⟨p, 0, none⟩)] (.panicking [{ v := .iface 204 (.agg #[]), recovered := false }]) w fun e1 u' w' =>
      e1 = .returned (.tuple #[]) ∧ u' = .panicking [{ v := .iface 204 (.agg #[]), recovered := true }] ∧ w' = (w.setCell ⟨p, 0, none⟩ (.int .i64 1)).alloc (.cells #[] 204) := by
  have hta : ∀ (v : Value) (W : World), (Instr.typeAssert (.iface 204 v) 20 204 true).run Tryd.prog W = .ok (.tuple #[v, .bool true]) W := odd_is
  obtain ⟨x, hc⟩ := hc
  have hc2 : (w.alloc (.cells #[] 204)).cell? ⟨p, 0, none⟩ = some x := by rw [← hc]; simp [World.cell?, Below.heap_alloc _ _ _ hp]
  have hz2 : (w.alloc (.cells #[] 204)).frozen? ⟨p, 0, none⟩ = false := by rw [← hz]; simp [World.frozen?, Below.heap_alloc _ _ _ hp]
  refine callsD_of_wpS Tryd.func139 rfl fun c₀ cs hu => ?_
  simp only [Tryd.ntmps139, List.size_toArray, List.length_cons, List.length_nil, Nat.reduceAdd, Nat.reduceSub, Array.replicate_succ,
     Array.replicate_zero, List.push_toArray, List.append_toArray, List.nil_append, List.cons_append]
  apply wpS_seq
  apply wpS_region
  simp [wpOpsS, go_sem, recoverD, hu, Exit.thenS]
  apply wpS_of_wp
  go_wp2
  exact ⟨rfl, _, rfl, _, results_none rfl _ _ _, rfl, rfl, rfl⟩

set_option maxHeartbeats 1000000 in
set_option maxRecDepth 100000 in
theorem Check1_idle (p : Nat) (w : World) :
    CallsD Tryd.prog 139 #[.pointer (some ⟨p, 0, none⟩)] .returning w fun e1 u' w' => e1 = .returned (.tuple #[]) ∧ u' = .returning ∧ w' = w.alloc (.cells #[] 204) := by
  have hta : ∀ (W : World), (Instr.typeAssert .nilIface 20 204 true).run Tryd.prog W = .ok (.tuple #[.agg #[], .bool false]) W := odd_not
  refine callsD_of_wpS Tryd.func139 rfl fun c₀ cs hu => ?_
  simp only [Tryd.ntmps139, List.size_toArray, List.length_cons, List.length_nil, Nat.reduceAdd, Nat.reduceSub, Array.replicate_succ,
     Array.replicate_zero, List.push_toArray, List.append_toArray, List.nil_append, List.cons_append]
  apply wpS_seq
  apply wpS_region
  simp [wpOpsS, go_sem, recoverD, hu, Exit.thenS]
  apply wpS_of_wp
  go_wp2
  refine ⟨rfl, .returning, ?_, _, results_none rfl _ _ _, rfl, rfl, rfl⟩
  cases c₀
  simp_all

def ok4 (tos id off ttl proto : Int) (src dst opt : ByteArray) : Prop :=
  (0 ≤ tos ∧ tos ≤ 255) ∧ (0 ≤ id ∧ id ≤ 65535) ∧ (0 ≤ off ∧ off ≤ 8191) ∧ (0 ≤ ttl ∧ ttl ≤ 255) ∧ (0 ≤ proto ∧ proto ≤ 255) ∧ src.size = 4 ∧ dst.size = 4 ∧ opt.size ≤ 40 ∧ opt.size % 4 = 0
instance (tos id off ttl proto : Int) (src dst opt : ByteArray) : Decidable (ok4 tos id off ttl proto src dst opt) := by unfold ok4; infer_instance
def ip4_Check.f (a0_0 a0_1 a0_2 a0_3 a0_4 : Int) (a0_5 a0_6 : Bool) (a0_7 a0_8 a0_9 : ByteArray) : Option Int :=
  if a0_7.size ≤ 1152921504606846976 ∧ a0_8.size ≤ 1152921504606846976 ∧ a0_9.size ≤ 1152921504606846976 then some (if ok4 a0_0 a0_1 a0_2 a0_3 a0_4 a0_7 a0_8 a0_9 then 0 else 1) else none
def pairs1 (tos id off ttl proto : Int) : List (Int × Int) := [(tos, 255), (ttl, 255), (proto, 255), (id, 65535), (off, 8191)]
def pairs2 (src dst opt : ByteArray) : List (Int × Int) := [(Go.bits .xor .i64 (src.size : Int) 4, 0), (Go.bits .xor .i64 (dst.size : Int) 4, 0), ((opt.size : Int), 40), ((opt.size : Int) % 4, 0)]
theorem xor_four (n : Nat) (h : n ≤ 1152921504606846976) : (0 ≤ Go.bits .xor .i64 (n : Int) 4 ∧ Go.bits .xor .i64 (n : Int) 4 ≤ 0) ↔ n = 4 := by
  have e : Go.bits .xor .i64 (n : Int) ((4 : Nat) : Int) = ((n ^^^ 4 : Nat) : Int) := i64_xor n 4 (by omega) (by decide)
  rw [show (4 : Int) = ((4 : Nat) : Int) from rfl, e]
  constructor
  · intro h1
    have h2 : n ^^^ 4 = 0 := by omega
    have h3 := congrArg (· ^^^ 4) h2
    simpa [Nat.xor_assoc] using h3
  · rintro rfl
    simp
theorem ok4_iff {tos id off ttl proto : Int} {src dst opt : ByteArray} (h1 : src.size ≤ 1152921504606846976) (h2 : dst.size ≤ 1152921504606846976) :
    ok4 tos id off ttl proto src dst opt ↔ okPairs (pairs1 tos id off ttl proto) ∧ okPairs (pairs2 src dst opt) := by
  unfold ok4 okPairs pairs1 pairs2
  simp only [List.forall_mem_cons, List.not_mem_nil, false_implies, implies_true, and_true, xor_four _ h1, xor_four _ h2]
  omega

/-- A row of pairs, just made. -/
theorem pairs_cells (w : World) (T : TypeId) (l : List (Int × Int)) (cs : Array Value) (h : ∀ i p, l[i]? = some p → cs[i * 2]? = some (.int .i64 p.1) ∧ cs[i * 2 + 1]? = some (.int .i64 p.2)) :
    ∀ i p, l[i]? = some p → (w.alloc (.cells cs T)).cell? ⟨w.heap.size, i * 2, none⟩ = some (.int .i64 p.1) ∧ (w.alloc (.cells cs T)).cell? ⟨w.heap.size, i * 2 + 1, none⟩ = some (.int .i64 p.2) := fun i p hp =>
  ⟨(Blk.new w T cs).cell _ _ (h i p hp).1, (Blk.new w T cs).cell _ _ (h i p hp).2⟩
theorem cells5 (a b c d e : Int × Int) : ∀ i p, [a, b, c, d, e][i]? = some p → (#[.int .i64 a.1, .int .i64 a.2, .int .i64 b.1, .int .i64 b.2, .int .i64 c.1, .int .i64 c.2, .int .i64 d.1, .int .i64 d.2, .int .i64 e.1, .int .i64 e.2] : Array Value)[i * 2]? = some (.int .i64 p.1) ∧ (#[.int .i64 a.1, .int .i64 a.2, .int .i64 b.1, .int .i64 b.2, .int .i64 c.1, .int .i64 c.2, .int .i64 d.1, .int .i64 d.2, .int .i64 e.1, .int .i64 e.2] : Array Value)[i * 2 + 1]? = some (.int .i64 p.2)
  | 0, _, h => by obtain rfl := Option.some.inj h; exact ⟨rfl, rfl⟩
  | 1, _, h => by obtain rfl := Option.some.inj h; exact ⟨rfl, rfl⟩
  | 2, _, h => by obtain rfl := Option.some.inj h; exact ⟨rfl, rfl⟩
  | 3, _, h => by obtain rfl := Option.some.inj h; exact ⟨rfl, rfl⟩
  | 4, _, h => by obtain rfl := Option.some.inj h; exact ⟨rfl, rfl⟩
  | i + 5, _, h => by simp at h
theorem cells4 (a b c d : Int × Int) : ∀ i p, [a, b, c, d][i]? = some p → (#[.int .i64 a.1, .int .i64 a.2, .int .i64 b.1, .int .i64 b.2, .int .i64 c.1, .int .i64 c.2, .int .i64 d.1, .int .i64 d.2] : Array Value)[i * 2]? = some (.int .i64 p.1) ∧ (#[.int .i64 a.1, .int .i64 a.2, .int .i64 b.1, .int .i64 b.2, .int .i64 c.1, .int .i64 c.2, .int .i64 d.1, .int .i64 d.2] : Array Value)[i * 2 + 1]? = some (.int .i64 p.2)
  | 0, _, h => by obtain rfl := Option.some.inj h; exact ⟨rfl, rfl⟩
  | 1, _, h => by obtain rfl := Option.some.inj h; exact ⟨rfl, rfl⟩
  | 2, _, h => by obtain rfl := Option.some.inj h; exact ⟨rfl, rfl⟩
  | 3, _, h => by obtain rfl := Option.some.inj h; exact ⟨rfl, rfl⟩
  | i + 4, _, h => by simp at h

set_option maxHeartbeats 2000000 in
set_option maxRecDepth 100000 in
theorem ip4_Check.first (a0_0 a0_1 a0_2 a0_3 a0_4 : Int) (a0_5 a0_6 : Bool) (a0_7 a0_8 a0_9 : ByteArray) (w : World) (h1 : ¬ okPairs (pairs1 a0_0 a0_1 a0_2 a0_3 a0_4)) :
    Calls Tryd.prog 116 #[.agg #[.int .i64 a0_0, .int .i64 a0_1, .int .i64 a0_2, .int .i64 a0_3, .int .i64 a0_4, .bool a0_5, .bool a0_6, .string a0_7, .string a0_8, .string a0_9]] w fun e w' => e = .returned (.int .i64 1) ∧ Below w.heap.size w w' := by
  have hu := Tryd.underlying69
  have hmf : ∀ (fn : Fn) (first cap : Array Value) (w : World), (Instr.makeFunc fn first cap).run Tryd.prog w = .ok (.func fn first cap) w := fun _ _ _ _ => rfl
  have H1 := Aside0.mk h1
  clear h1
  have HB := Aside0.mk (((Below.refl w.heap.size w).alloc (Nat.le_refl _) (.cells #[.int .i64 a0_0, .int .i64 a0_1, .int .i64 a0_2, .int .i64 a0_3, .int .i64 a0_4, .bool a0_5, .bool a0_6, .string a0_7, .string a0_8, .string a0_9] 69)).alloc (by simp) (.cells #[.int .i64 0] 24))
  have HH := Aside0.mk ((Blk.new w 69 #[.int .i64 a0_0, .int .i64 a0_1, .int .i64 a0_2, .int .i64 a0_3, .int .i64 a0_4, .bool a0_5, .bool a0_6, .string a0_7, .string a0_8, .string a0_9]).alloc (.cells #[.int .i64 0] 24))
  have he := Blk.new (w.alloc (.cells #[.int .i64 a0_0, .int .i64 a0_1, .int .i64 a0_2, .int .i64 a0_3, .int .i64 a0_4, .bool a0_5, .bool a0_6, .string a0_7, .string a0_8, .string a0_9] 69)) 24 #[.int .i64 0]
  rw [World.size_alloc] at he
  have HE := Aside0.mk he
  have hz : ((w.alloc (.cells #[.int .i64 a0_0, .int .i64 a0_1, .int .i64 a0_2, .int .i64 a0_3, .int .i64 a0_4, .bool a0_5, .bool a0_6, .string a0_7, .string a0_8, .string a0_9] 69)).alloc (.cells #[.int .i64 0] 24)).heap.size = w.heap.size + 1 + 1 := by simp
  have HZ := Aside0.mk hz
  clear hz he
  go_enter_defers Tryd.func116, Tryd.ntmps116
  go_wp2_with fail
  rw [← HZ.out]
  generalize (w.alloc (.cells #[.int .i64 a0_0, .int .i64 a0_1, .int .i64 a0_2, .int .i64 a0_3, .int .i64 a0_4, .bool a0_5, .bool a0_6, .string a0_7, .string a0_8, .string a0_9] 69)).alloc (.cells #[.int .i64 0] 24) = W at HB HH HE HZ ⊢
  have HP := Aside0.mk (pairs_cells W 134 (pairs1 a0_0 a0_1 a0_2 a0_3 a0_4) #[.int .i64 a0_0, .int .i64 255, .int .i64 a0_3, .int .i64 255, .int .i64 a0_4, .int .i64 255, .int .i64 a0_1, .int .i64 65535, .int .i64 a0_2, .int .i64 8191] (cells5 (a0_0, 255) (a0_3, 255) (a0_4, 255) (a0_1, 65535) (a0_2, 8191)))
  replace HB := Aside0.mk (HB.out.alloc HB.out.size (.cells #[.int .i64 a0_0, .int .i64 255, .int .i64 a0_3, .int .i64 255, .int .i64 a0_4, .int .i64 255, .int .i64 a0_1, .int .i64 65535, .int .i64 a0_2, .int .i64 8191] 134))
  replace HH := Aside0.mk (HH.out.alloc (.cells #[.int .i64 a0_0, .int .i64 255, .int .i64 a0_3, .int .i64 255, .int .i64 a0_4, .int .i64 255, .int .i64 a0_1, .int .i64 65535, .int .i64 a0_2, .int .i64 8191] 134))
  replace HE := Aside0.mk (HE.out.alloc (.cells #[.int .i64 a0_0, .int .i64 255, .int .i64 a0_3, .int .i64 255, .int .i64 a0_4, .int .i64 255, .int .i64 a0_1, .int .i64 65535, .int .i64 a0_2, .int .i64 8191] 134))
  refine (within_no W.heap.size 5 (pairs1 a0_0 a0_1 a0_2 a0_3 a0_4) _ HP.out (by simp) (by simp [pairs1]) H1.out).mono ?_
  rintro e w3 ⟨rfl, g1⟩
  replace HB := Aside0.mk (HB.out.trans (g1.mono HB.out.size))
  replace HH := Aside0.mk (HH.out.below g1 HH.out.lt)
  replace HE := Aside0.mk (HE.out.below g1 HE.out.lt)
  clear g1 HP
  generalize W.heap.size = kk at HZ ⊢
  have c0 := HE.out.cell 0 _ rfl
  have c1 := HE.out.free 0
  refine leaves_cons (f := 139) (args := #[.pointer (some ⟨w.heap.size + 1, 0, none⟩)]) (by simp) (by simp [go_sem]) ?_
  refine (Check1_caught (w.heap.size + 1) _ ⟨_, c0⟩ c1 HE.out.lt).mono ?_
  rintro e u' w'' ⟨rfl, rfl, rfl⟩
  have c2 := ((HE.out.set 0 (.int .i64 1)).alloc (.cells #[] 204)).cell 0 _ rfl
  refine ⟨.int .i64 1, ?_, rfl, (HB.out.setCell (by simp) _).alloc (by rw [World.size_setCell]; exact HB.out.size) _⟩
  simp [results, Tryd.results116, go_sem]
  rw [c2]
  rfl

set_option maxHeartbeats 2000000 in
set_option maxRecDepth 100000 in
theorem ip4_Check.second (a0_0 a0_1 a0_2 a0_3 a0_4 : Int) (a0_5 a0_6 : Bool) (a0_7 a0_8 a0_9 : ByteArray) (w : World) (h1 : okPairs (pairs1 a0_0 a0_1 a0_2 a0_3 a0_4)) (h2 : ¬ okPairs (pairs2 a0_7 a0_8 a0_9)) :
    Calls Tryd.prog 116 #[.agg #[.int .i64 a0_0, .int .i64 a0_1, .int .i64 a0_2, .int .i64 a0_3, .int .i64 a0_4, .bool a0_5, .bool a0_6, .string a0_7, .string a0_8, .string a0_9]] w fun e w' => e = .returned (.int .i64 1) ∧ Below w.heap.size w w' := by
  have hu := Tryd.underlying69
  have hmf : ∀ (fn : Fn) (first cap : Array Value) (w : World), (Instr.makeFunc fn first cap).run Tryd.prog w = .ok (.func fn first cap) w := fun _ _ _ _ => rfl
  have H1 := Aside0.mk h1
  have H2 := Aside0.mk h2
  clear h1 h2
  have HB := Aside0.mk (((Below.refl w.heap.size w).alloc (Nat.le_refl _) (.cells #[.int .i64 a0_0, .int .i64 a0_1, .int .i64 a0_2, .int .i64 a0_3, .int .i64 a0_4, .bool a0_5, .bool a0_6, .string a0_7, .string a0_8, .string a0_9] 69)).alloc (by simp) (.cells #[.int .i64 0] 24))
  have HH := Aside0.mk ((Blk.new w 69 #[.int .i64 a0_0, .int .i64 a0_1, .int .i64 a0_2, .int .i64 a0_3, .int .i64 a0_4, .bool a0_5, .bool a0_6, .string a0_7, .string a0_8, .string a0_9]).alloc (.cells #[.int .i64 0] 24))
  have he := Blk.new (w.alloc (.cells #[.int .i64 a0_0, .int .i64 a0_1, .int .i64 a0_2, .int .i64 a0_3, .int .i64 a0_4, .bool a0_5, .bool a0_6, .string a0_7, .string a0_8, .string a0_9] 69)) 24 #[.int .i64 0]
  rw [World.size_alloc] at he
  have HE := Aside0.mk he
  have hz : ((w.alloc (.cells #[.int .i64 a0_0, .int .i64 a0_1, .int .i64 a0_2, .int .i64 a0_3, .int .i64 a0_4, .bool a0_5, .bool a0_6, .string a0_7, .string a0_8, .string a0_9] 69)).alloc (.cells #[.int .i64 0] 24)).heap.size = w.heap.size + 1 + 1 := by simp
  have HZ := Aside0.mk hz
  clear hz he
  go_enter_defers Tryd.func116, Tryd.ntmps116
  go_wp2_with fail
  rw [← HZ.out]
  generalize (w.alloc (.cells #[.int .i64 a0_0, .int .i64 a0_1, .int .i64 a0_2, .int .i64 a0_3, .int .i64 a0_4, .bool a0_5, .bool a0_6, .string a0_7, .string a0_8, .string a0_9] 69)).alloc (.cells #[.int .i64 0] 24) = W at HB HH HE HZ ⊢
  have HP := Aside0.mk (pairs_cells W 134 (pairs1 a0_0 a0_1 a0_2 a0_3 a0_4) #[.int .i64 a0_0, .int .i64 255, .int .i64 a0_3, .int .i64 255, .int .i64 a0_4, .int .i64 255, .int .i64 a0_1, .int .i64 65535, .int .i64 a0_2, .int .i64 8191] (cells5 (a0_0, 255) (a0_3, 255) (a0_4, 255) (a0_1, 65535) (a0_2, 8191)))
  replace HB := Aside0.mk (HB.out.alloc HB.out.size (.cells #[.int .i64 a0_0, .int .i64 255, .int .i64 a0_3, .int .i64 255, .int .i64 a0_4, .int .i64 255, .int .i64 a0_1, .int .i64 65535, .int .i64 a0_2, .int .i64 8191] 134))
  replace HH := Aside0.mk (HH.out.alloc (.cells #[.int .i64 a0_0, .int .i64 255, .int .i64 a0_3, .int .i64 255, .int .i64 a0_4, .int .i64 255, .int .i64 a0_1, .int .i64 65535, .int .i64 a0_2, .int .i64 8191] 134))
  replace HE := Aside0.mk (HE.out.alloc (.cells #[.int .i64 a0_0, .int .i64 255, .int .i64 a0_3, .int .i64 255, .int .i64 a0_4, .int .i64 255, .int .i64 a0_1, .int .i64 65535, .int .i64 a0_2, .int .i64 8191] 134))
  refine (within_yes W.heap.size 5 (pairs1 a0_0 a0_1 a0_2 a0_3 a0_4) _ HP.out (by simp) (by simp [pairs1]) H1.out).mono ?_
  rintro e w3 ⟨rfl, g1⟩
  replace HB := Aside0.mk (HB.out.trans (g1.mono HB.out.size))
  replace HH := Aside0.mk (HH.out.below g1 HH.out.lt)
  replace HE := Aside0.mk (HE.out.below g1 HE.out.lt)
  clear g1 HP
  generalize W.heap.size = kk at HZ ⊢
  have hc := HH.out.cells
  go_wp2_with fail
  clear hc
  have HP := Aside0.mk (pairs_cells w3 134 (pairs2 a0_7 a0_8 a0_9) #[.int .i64 (Go.bits .xor .i64 (a0_7.size : Int) 4), .int .i64 0, .int .i64 (Go.bits .xor .i64 (a0_8.size : Int) 4), .int .i64 0, .int .i64 (a0_9.size : Int), .int .i64 40, .int .i64 ((a0_9.size : Int) % 4), .int .i64 0] (cells4 (Go.bits .xor .i64 (a0_7.size : Int) 4, 0) (Go.bits .xor .i64 (a0_8.size : Int) 4, 0) ((a0_9.size : Int), 40) ((a0_9.size : Int) % 4, 0)))
  replace HB := Aside0.mk (HB.out.alloc HB.out.size (.cells #[.int .i64 (Go.bits .xor .i64 (a0_7.size : Int) 4), .int .i64 0, .int .i64 (Go.bits .xor .i64 (a0_8.size : Int) 4), .int .i64 0, .int .i64 (a0_9.size : Int), .int .i64 40, .int .i64 ((a0_9.size : Int) % 4), .int .i64 0] 134))
  replace HE := Aside0.mk (HE.out.alloc (.cells #[.int .i64 (Go.bits .xor .i64 (a0_7.size : Int) 4), .int .i64 0, .int .i64 (Go.bits .xor .i64 (a0_8.size : Int) 4), .int .i64 0, .int .i64 (a0_9.size : Int), .int .i64 40, .int .i64 ((a0_9.size : Int) % 4), .int .i64 0] 134))
  refine (within_no w3.heap.size 4 (pairs2 a0_7 a0_8 a0_9) _ HP.out (by simp) (by simp [pairs2]) H2.out).mono ?_
  rintro e w4 ⟨rfl, g1⟩
  replace HB := Aside0.mk (HB.out.trans (g1.mono HB.out.size))
  replace HE := Aside0.mk (HE.out.below g1 HE.out.lt)
  clear g1 HP HH
  have c0 := HE.out.cell 0 _ rfl
  have c1 := HE.out.free 0
  refine leaves_cons (f := 139) (args := #[.pointer (some ⟨w.heap.size + 1, 0, none⟩)]) (by simp) (by simp [go_sem]) ?_
  refine (Check1_caught (w.heap.size + 1) _ ⟨_, c0⟩ c1 HE.out.lt).mono ?_
  rintro e u' w'' ⟨rfl, rfl, rfl⟩
  have c2 := ((HE.out.set 0 (.int .i64 1)).alloc (.cells #[] 204)).cell 0 _ rfl
  refine ⟨.int .i64 1, ?_, rfl, (HB.out.setCell (by simp) _).alloc (by rw [World.size_setCell]; exact HB.out.size) _⟩
  simp [results, Tryd.results116, go_sem]
  rw [c2]
  rfl

set_option maxHeartbeats 2000000 in
set_option maxRecDepth 100000 in
theorem ip4_Check.yes (a0_0 a0_1 a0_2 a0_3 a0_4 : Int) (a0_5 a0_6 : Bool) (a0_7 a0_8 a0_9 : ByteArray) (w : World) (h1 : okPairs (pairs1 a0_0 a0_1 a0_2 a0_3 a0_4)) (h2 : okPairs (pairs2 a0_7 a0_8 a0_9)) :
    Calls Tryd.prog 116 #[.agg #[.int .i64 a0_0, .int .i64 a0_1, .int .i64 a0_2, .int .i64 a0_3, .int .i64 a0_4, .bool a0_5, .bool a0_6, .string a0_7, .string a0_8, .string a0_9]] w fun e w' => e = .returned (.int .i64 0) ∧ Below w.heap.size w w' := by
  have hu := Tryd.underlying69
  have hmf : ∀ (fn : Fn) (first cap : Array Value) (w : World), (Instr.makeFunc fn first cap).run Tryd.prog w = .ok (.func fn first cap) w := fun _ _ _ _ => rfl
  have H1 := Aside0.mk h1
  have H2 := Aside0.mk h2
  clear h1 h2
  have HB := Aside0.mk (((Below.refl w.heap.size w).alloc (Nat.le_refl _) (.cells #[.int .i64 a0_0, .int .i64 a0_1, .int .i64 a0_2, .int .i64 a0_3, .int .i64 a0_4, .bool a0_5, .bool a0_6, .string a0_7, .string a0_8, .string a0_9] 69)).alloc (by simp) (.cells #[.int .i64 0] 24))
  have HH := Aside0.mk ((Blk.new w 69 #[.int .i64 a0_0, .int .i64 a0_1, .int .i64 a0_2, .int .i64 a0_3, .int .i64 a0_4, .bool a0_5, .bool a0_6, .string a0_7, .string a0_8, .string a0_9]).alloc (.cells #[.int .i64 0] 24))
  have he := Blk.new (w.alloc (.cells #[.int .i64 a0_0, .int .i64 a0_1, .int .i64 a0_2, .int .i64 a0_3, .int .i64 a0_4, .bool a0_5, .bool a0_6, .string a0_7, .string a0_8, .string a0_9] 69)) 24 #[.int .i64 0]
  rw [World.size_alloc] at he
  have HE := Aside0.mk he
  have hz : ((w.alloc (.cells #[.int .i64 a0_0, .int .i64 a0_1, .int .i64 a0_2, .int .i64 a0_3, .int .i64 a0_4, .bool a0_5, .bool a0_6, .string a0_7, .string a0_8, .string a0_9] 69)).alloc (.cells #[.int .i64 0] 24)).heap.size = w.heap.size + 1 + 1 := by simp
  have HZ := Aside0.mk hz
  clear hz he
  go_enter_defers Tryd.func116, Tryd.ntmps116
  go_wp2_with fail
  rw [← HZ.out]
  generalize (w.alloc (.cells #[.int .i64 a0_0, .int .i64 a0_1, .int .i64 a0_2, .int .i64 a0_3, .int .i64 a0_4, .bool a0_5, .bool a0_6, .string a0_7, .string a0_8, .string a0_9] 69)).alloc (.cells #[.int .i64 0] 24) = W at HB HH HE HZ ⊢
  have HP := Aside0.mk (pairs_cells W 134 (pairs1 a0_0 a0_1 a0_2 a0_3 a0_4) #[.int .i64 a0_0, .int .i64 255, .int .i64 a0_3, .int .i64 255, .int .i64 a0_4, .int .i64 255, .int .i64 a0_1, .int .i64 65535, .int .i64 a0_2, .int .i64 8191] (cells5 (a0_0, 255) (a0_3, 255) (a0_4, 255) (a0_1, 65535) (a0_2, 8191)))
  replace HB := Aside0.mk (HB.out.alloc HB.out.size (.cells #[.int .i64 a0_0, .int .i64 255, .int .i64 a0_3, .int .i64 255, .int .i64 a0_4, .int .i64 255, .int .i64 a0_1, .int .i64 65535, .int .i64 a0_2, .int .i64 8191] 134))
  replace HH := Aside0.mk (HH.out.alloc (.cells #[.int .i64 a0_0, .int .i64 255, .int .i64 a0_3, .int .i64 255, .int .i64 a0_4, .int .i64 255, .int .i64 a0_1, .int .i64 65535, .int .i64 a0_2, .int .i64 8191] 134))
  replace HE := Aside0.mk (HE.out.alloc (.cells #[.int .i64 a0_0, .int .i64 255, .int .i64 a0_3, .int .i64 255, .int .i64 a0_4, .int .i64 255, .int .i64 a0_1, .int .i64 65535, .int .i64 a0_2, .int .i64 8191] 134))
  refine (within_yes W.heap.size 5 (pairs1 a0_0 a0_1 a0_2 a0_3 a0_4) _ HP.out (by simp) (by simp [pairs1]) H1.out).mono ?_
  rintro e w3 ⟨rfl, g1⟩
  replace HB := Aside0.mk (HB.out.trans (g1.mono HB.out.size))
  replace HH := Aside0.mk (HH.out.below g1 HH.out.lt)
  replace HE := Aside0.mk (HE.out.below g1 HE.out.lt)
  clear g1 HP
  generalize W.heap.size = kk at HZ ⊢
  have hc := HH.out.cells
  go_wp2_with fail
  clear hc
  have HP := Aside0.mk (pairs_cells w3 134 (pairs2 a0_7 a0_8 a0_9) #[.int .i64 (Go.bits .xor .i64 (a0_7.size : Int) 4), .int .i64 0, .int .i64 (Go.bits .xor .i64 (a0_8.size : Int) 4), .int .i64 0, .int .i64 (a0_9.size : Int), .int .i64 40, .int .i64 ((a0_9.size : Int) % 4), .int .i64 0] (cells4 (Go.bits .xor .i64 (a0_7.size : Int) 4, 0) (Go.bits .xor .i64 (a0_8.size : Int) 4, 0) ((a0_9.size : Int), 40) ((a0_9.size : Int) % 4, 0)))
  replace HB := Aside0.mk (HB.out.alloc HB.out.size (.cells #[.int .i64 (Go.bits .xor .i64 (a0_7.size : Int) 4), .int .i64 0, .int .i64 (Go.bits .xor .i64 (a0_8.size : Int) 4), .int .i64 0, .int .i64 (a0_9.size : Int), .int .i64 40, .int .i64 ((a0_9.size : Int) % 4), .int .i64 0] 134))
  replace HE := Aside0.mk (HE.out.alloc (.cells #[.int .i64 (Go.bits .xor .i64 (a0_7.size : Int) 4), .int .i64 0, .int .i64 (Go.bits .xor .i64 (a0_8.size : Int) 4), .int .i64 0, .int .i64 (a0_9.size : Int), .int .i64 40, .int .i64 ((a0_9.size : Int) % 4), .int .i64 0] 134))
  refine (within_yes w3.heap.size 4 (pairs2 a0_7 a0_8 a0_9) _ HP.out (by simp) (by simp [pairs2]) H2.out).mono ?_
  rintro e w4 ⟨rfl, g1⟩
  replace HB := Aside0.mk (HB.out.trans (g1.mono HB.out.size))
  replace HE := Aside0.mk (HE.out.below g1 HE.out.lt)
  clear g1 HP HH
  have c0 := HE.out.cell 0 _ rfl
  have c1 := HE.out.free 0
  go_wp2
  refine leaves_cons (f := 139) (args := #[.pointer (some ⟨w.heap.size + 1, 0, none⟩)]) (by simp) (by simp [go_sem]) ?_
  refine (Check1_idle (w.heap.size + 1) _).mono ?_
  rintro e u' w'' ⟨rfl, rfl, rfl⟩
  have c2 := ((HE.out.set 0 (.int .i64 0)).alloc (.cells #[] 204)).cell 0 _ rfl
  refine ⟨.int .i64 0, ?_, rfl, (HB.out.setCell (by simp) _).alloc (by rw [World.size_setCell]; exact HB.out.size) _⟩
  simp [results, Tryd.results116, go_sem]
  rw [c2]
  rfl

theorem ip4_Check.calls (a0_0 a0_1 a0_2 a0_3 a0_4 : Int) (a0_5 a0_6 : Bool) (a0_7 a0_8 a0_9 : ByteArray) (r : Int) (w : World) (h : ip4_Check.f a0_0 a0_1 a0_2 a0_3 a0_4 a0_5 a0_6 a0_7 a0_8 a0_9 = some r) :
    Calls Tryd.prog 116 #[.agg #[.int .i64 a0_0, .int .i64 a0_1, .int .i64 a0_2, .int .i64 a0_3, .int .i64 a0_4, .bool a0_5, .bool a0_6, .string a0_7, .string a0_8, .string a0_9]] w fun e w' => e = .returned (.int .i64 r) ∧ Below w.heap.size w w' := by
  unfold ip4_Check.f at h
  split at h
  case isFalse => exact absurd h (by simp)
  rename_i hs
  obtain rfl := Option.some.inj h
  by_cases h1 : okPairs (pairs1 a0_0 a0_1 a0_2 a0_3 a0_4)
  · by_cases h2 : okPairs (pairs2 a0_7 a0_8 a0_9)
    · rw [if_pos ((ok4_iff hs.1 hs.2.1).mpr ⟨h1, h2⟩)]; exact ip4_Check.yes _ _ _ _ _ _ _ _ _ _ w h1 h2
    · rw [if_neg (fun h => h2 ((ok4_iff hs.1 hs.2.1).mp h).2)]; exact ip4_Check.second _ _ _ _ _ _ _ _ _ _ w h1 h2
  · rw [if_neg (fun h => h1 ((ok4_iff hs.1 hs.2.1).mp h).1)]; exact ip4_Check.first _ _ _ _ _ _ _ _ _ _ w h1
end Go.Proofs.YtcmalglippmocaaDoor.G
end

section
/- By hand: ip4.bit, ip4.header. -/
namespace Go.Proofs.YtcmalglippmocaaDoor.G
open Go.RowKit Go.Proofs.YtcmalglippmocaaDoorW.PrintWords Go.Proofs.YtcmalglippmocaaDoorW.PrintLast Go.Proofs.YtcmalglippmocaaDoorW.PrintMore Go.Proofs.YtcmalglippmocaaDoor.Pal
set_option linter.unusedVariables false
set_option linter.unusedSimpArgs false
set_option maxRecDepth 100000
theorem bit_no (n : Int) (w : World) :
    Calls Tryd.prog 141 #[.bool false, .int .i64 n] w fun e w' => e = .returned (.int .i64 0) ∧ w' = w := by
  go_enter Tryd.func141, Tryd.ntmps141
  go_wp2
  go_ret
  exact ⟨rfl, rfl⟩
/-- A flag's bit. -/
def bit14 (b : Bool) : Int := if b then 16384 else 0
def bit13 (b : Bool) : Int := if b then 8192 else 0
theorem bit_yes14 (w : World) :
    Calls Tryd.prog 141 #[.bool true, .int .i64 14] w fun e w' => e = .returned (.int .i64 16384) ∧ w' = w := by
  go_enter Tryd.func141, Tryd.ntmps141
  go_wp2
  go_ret
  exact ⟨rfl, rfl⟩
theorem bit_any14 (b : Bool) (w : World) :
    Calls Tryd.prog 141 #[.bool b, .int .i64 14] w fun e w' => e = .returned (.int .i64 (bit14 b)) ∧ w' = w := by
  cases b
  · exact bit_no _ w
  · exact bit_yes14 w
theorem bit_yes13 (w : World) :
    Calls Tryd.prog 141 #[.bool true, .int .i64 13] w fun e w' => e = .returned (.int .i64 8192) ∧ w' = w := by
  go_enter Tryd.func141, Tryd.ntmps141
  go_wp2
  go_ret
  exact ⟨rfl, rfl⟩
theorem bit_any13 (b : Bool) (w : World) :
    Calls Tryd.prog 141 #[.bool b, .int .i64 13] w fun e w' => e = .returned (.int .i64 (bit13 b)) ∧ w' = w := by
  cases b
  · exact bit_no _ w
  · exact bit_yes13 w
def bitV (b : Bool) (n : Int) : Int := if n = 14 then bit14 b else bit13 b
theorem bit_gen (b : Bool) (n : Int) (h : n = 14 ∨ n = 13) (w : World) :
    Calls Tryd.prog 141 #[.bool b, .int .i64 n] w fun e w' => e = .returned (.int .i64 (bitV b n)) ∧ w' = w := by
  rcases h with rfl | rfl
  · exact bit_any14 b w
  · exact bit_any13 b w
theorem WS.drew {B a b : Nat} {w w1 : World} {T : TypeId} {cs : Array Value} {l : List UInt8} (h : WS B a b w w1 T cs l) : WS B a b w w1.drew T cs l := ⟨⟨h.1.1, h.1.2.1, h.1.2.2.drew⟩, h.2⟩
def first4 (n : Nat) : Int := Go.bits .or .i64 64 (((20 + n) / 4 : Nat) : Int)
def flags4 (off : Int) (df mf : Bool) : Int := Go.bits .or .i64 (Go.bits .or .i64 (bit14 df) (bit13 mf)) off
def ip4Bytes (tos id off ttl proto : Int) (df mf : Bool) (src dst opt : ByteArray) (total check : Int) : List UInt8 :=
  nb 1 (u64n (first4 opt.size)) ++ nb 1 (u64n tos) ++ nb 2 (u64n total) ++ nb 2 (u64n id) ++ nb 2 (u64n (flags4 off df mf)) ++ nb 1 (u64n ttl) ++ nb 1 (u64n proto) ++ nb 2 (u64n check) ++ bl (src ++ dst ++ opt)
def ip4_header.f (a0_0 a0_1 a0_2 a0_3 a0_4 : Int) (a0_5 a0_6 : Bool) (a0_7 a0_8 a0_9 : ByteArray) (a1 a2 : Int) : Option ByteArray :=
  if a0_7.size + a0_8.size + a0_9.size ≤ 1099511627776 then some ⟨(ip4Bytes a0_0 a0_1 a0_2 a0_3 a0_4 a0_5 a0_6 a0_7 a0_8 a0_9 a1 a2).toArray⟩ else none

set_option maxHeartbeats 2000000 in
set_option maxRecDepth 100000 in
theorem ip4_header.calls (a0_0 a0_1 a0_2 a0_3 a0_4 : Int) (a0_5 a0_6 : Bool) (a0_7 a0_8 a0_9 : ByteArray) (a1 a2 : Int) (r : ByteArray) (w : World) (h : ip4_header.f a0_0 a0_1 a0_2 a0_3 a0_4 a0_5 a0_6 a0_7 a0_8 a0_9 a1 a2 = some r) :
    Calls Tryd.prog 117 #[.agg #[.int .i64 a0_0, .int .i64 a0_1, .int .i64 a0_2, .int .i64 a0_3, .int .i64 a0_4, .bool a0_5, .bool a0_6, .string a0_7, .string a0_8, .string a0_9], .int .i64 a1, .int .i64 a2] w fun e w' => e = .returned (.string r) ∧ Below w.heap.size w w' := by
  unfold ip4_header.f at h
  split at h
  case isFalse => exact absurd h (by simp)
  rename_i hs
  obtain rfl := Option.some.inj h
  clear h
  have hu := Tryd.underlying69
  have HZ := Aside0.mk hs
  have d3 : (9223372036854775807 < a0_7.size + a0_8.size) = False := eq_false (by omega)
  have d4 : (9223372036854775807 < a0_7.size + a0_8.size + a0_9.size) = False := eq_false (by omega)
  have q1 : wrap64 (20 + (a0_9.size : Int)) = 20 + (a0_9.size : Int) := by unfold wrap64; omega
  have q2 : IntKind.i64.wrap (20 + (a0_9.size : Int)) = 20 + (a0_9.size : Int) := by rw [IntKind.wrap_i64]; omega
  have q0 : Int.tdiv (20 + (a0_9.size : Int)) 4 = (((20 + a0_9.size) / 4 : Nat) : Int) := by rw [Int.tdiv_eq_ediv_of_nonneg (by omega)]; omega
  have q3 : wrap64 (Int.tdiv (20 + (a0_9.size : Int)) 4) = (((20 + a0_9.size) / 4 : Nat) : Int) := by rw [q0]; unfold wrap64; omega
  have q4 : IntKind.i64.wrap (Int.tdiv (20 + (a0_9.size : Int)) 4) = (((20 + a0_9.size) / 4 : Nat) : Int) := by rw [q0, IntKind.wrap_i64]; omega
  have q5 : wrap64 ((20 + (a0_9.size : Int)) / 4) = (((20 + a0_9.size) / 4 : Nat) : Int) := by unfold wrap64; omega
  clear hs
  go_enter Tryd.func117, Tryd.ntmps117
  have HS := Aside0.mk (WS.start w 69 #[.int .i64 a0_0, .int .i64 a0_1, .int .i64 a0_2, .int .i64 a0_3, .int .i64 a0_4, .bool a0_5, .bool a0_6, .string a0_7, .string a0_8, .string a0_9])
  have hc := HS.out.1.2.1.cells
  go_wp2_with fail
  rw [q5]
  clear q0 q1 q2 q3 q4 q5
  refine (Writer_U8.calls _ _ _ _ HS.out.1.1 (by simp only [List.length_append, List.length_nil, nb_length]; omega)).mono ?_
  rintro e w2 ⟨rfl, g1, g2⟩
  replace HS := Aside0.mk (HS.out.next g1 g2)
  clear g1 g2 hc
  have hc := HS.out.1.2.1.cells
  go_wp2_with fail
  refine (Writer_U8.calls _ _ _ _ HS.out.1.1 (by simp only [List.length_append, List.length_nil, nb_length]; omega)).mono ?_
  rintro e w3 ⟨rfl, g1, g2⟩
  replace HS := Aside0.mk (HS.out.next g1 g2)
  clear g1 g2 hc
  have hc := HS.out.1.2.1.cells
  go_wp2_with fail
  refine (Writer_U16.calls _ _ _ _ HS.out.1.1 (by simp only [List.length_append, List.length_nil, nb_length]; omega)).mono ?_
  rintro e w4 ⟨rfl, g1, g2⟩
  replace HS := Aside0.mk (HS.out.next g1 g2)
  clear g1 g2 hc
  have hc := HS.out.1.2.1.cells
  go_wp2_with fail
  refine (Writer_U16.calls _ _ _ _ HS.out.1.1 (by simp only [List.length_append, List.length_nil, nb_length]; omega)).mono ?_
  rintro e w5 ⟨rfl, g1, g2⟩
  replace HS := Aside0.mk (HS.out.next g1 g2)
  clear g1 g2 hc
  have hc := HS.out.1.2.1.cells
  go_wp2_with fail
  go_region_with ((first
      | (go_at_call 141; refine (bit_gen _ _ (by decide) _).mono ?_; rintro e wq ⟨rfl, rfl⟩)
      | (go_at_call 85; refine (Writer_U16.calls _ _ _ _ HS.out.drew.1.1 ?_).mono ?_; simp only [List.length_append, List.length_nil, nb_length]; omega; rintro e w6 ⟨rfl, g1, g2⟩; have HS6 := Aside0.mk (HS.out.drew.next g1 g2); clear g1 g2)))
  all_goals
    clear hc HS
    have HS := HS6
    clear HS6
    have hc := HS.out.1.2.1.cells
    go_wp2_with fail
    refine (Writer_U8.calls _ _ _ _ HS.out.1.1 (by simp only [List.length_append, List.length_nil, nb_length]; omega)).mono ?_
    rintro e w7 ⟨rfl, g1, g2⟩
    replace HS := Aside0.mk (HS.out.next g1 g2)
    clear g1 g2 hc
    have hc := HS.out.1.2.1.cells
    go_wp2_with fail
    refine (Writer_U8.calls _ _ _ _ HS.out.1.1 (by simp only [List.length_append, List.length_nil, nb_length]; omega)).mono ?_
    rintro e w8 ⟨rfl, g1, g2⟩
    replace HS := Aside0.mk (HS.out.next g1 g2)
    clear g1 g2 hc
    have hc := HS.out.1.2.1.cells
    go_wp2_with fail
    refine (Writer_U16.calls _ _ _ _ HS.out.1.1 (by simp only [List.length_append, List.length_nil, nb_length]; omega)).mono ?_
    rintro e w9 ⟨rfl, g1, g2⟩
    replace HS := Aside0.mk (HS.out.next g1 g2)
    clear g1 g2 hc
    have hc := HS.out.1.2.1.cells
    go_wp2_with fail
    refine (Writer_Text.calls _ _ _ _ HS.out.1.1 (by have := HZ.out; simp only [List.length_append, List.length_nil, nb_length, ByteArray.size_append]; omega)).mono ?_
    rintro e w10 ⟨rfl, g1, g2⟩
    replace HS := Aside0.mk (HS.out.next g1 g2)
    clear g1 g2 hc
    go_wp2_with fail
    refine (Writer_String.calls _ _ _ HS.out.1.1).mono ?_
    rintro e w11 ⟨rfl, g1, g2⟩
    replace HS := Aside0.mk (HS.out.next g1 g2)
    clear g1 g2
    go_wp2
    go_ret
    exact ⟨by simp [ip4Bytes, u64n, first4, flags4, bitV], HS.out.1.2.2⟩
end Go.Proofs.YtcmalglippmocaaDoor.G
end

section
namespace Go.Proofs.YtcmalglippmocaaDoor.G
open Go.RowKit Go.Proofs.YtcmalglippmocaaDoorW.PrintWords Go.Proofs.YtcmalglippmocaaDoorW.PrintLast Go.Proofs.YtcmalglippmocaaDoorW.PrintMore
set_option linter.unusedVariables false
set_option linter.unusedSimpArgs false

def ip4_Put.f (a0_0 : Int) (a0_1 : Int) (a0_2 : Int) (a0_3 : Int) (a0_4 : Int) (a0_5 : Bool) (a0_6 : Bool) (a0_7 : ByteArray) (a0_8 : ByteArray) (a0_9 : ByteArray) (a1 : ByteArray) : Option (ByteArray × Int) := (ip4_Check.f a0_0 a0_1 a0_2 a0_3 a0_4 a0_5 a0_6 a0_7 a0_8 a0_9).bind fun t417 => (if t417 = 0 then (if (wrap64 ((wrap64 (20 + (a0_9.size : Int))) + (a1.size : Int))) > 65535 then (some ((⟨#[]⟩ : ByteArray), 4)) else ((ip4_header.f a0_0 a0_1 a0_2 a0_3 a0_4 a0_5 a0_6 a0_7 a0_8 a0_9 (wrap64 ((wrap64 (20 + (a0_9.size : Int))) + (a1.size : Int))) 0).bind fun t418 => ((sum_Sum.f (([t418] : List ByteArray))).bind fun t422 => ((ip4_header.f a0_0 a0_1 a0_2 a0_3 a0_4 a0_5 a0_6 a0_7 a0_8 a0_9 (wrap64 ((wrap64 (20 + (a0_9.size : Int))) + (a1.size : Int))) t422).bind fun t423 => (if t423.size + a1.size ≤ 9223372036854775807 then (some (t423 ++ a1, 0)) else (none)))))) else (some ((⟨#[]⟩ : ByteArray), t417)))
def ip4_Put.T7 : Bool × List (List Nat × List Nat) := (true, [([], []), ([], []), ([], []), ([], []), ([2, 3], [2, 3]), ([4], [4]), ([5, 4], [5]), ([0, 1, 6, 6], [0, 1, 6]), ([], []), ([7, 8], [7, 8]), ([9, 7, 0, 1, 2, 3, 4, 5, 6, 7, 8, 9], [9]), ([10, 0, 1, 2, 3, 4, 5, 6, 7, 8, 9, 10], [])])
def ip4_Put.B7 : List Nat := [0, 0, 0, 0, 12, 28, 60, 127, 0, 511, 1023, 2047]
theorem ip4_Put.tab7 : rtab .any (opsOf Tryd.f87 7) = ip4_Put.T7 := by kernel_rfl
theorem ip4_Put.bits7 : waitsOk ip4_Put.T7.2 ip4_Put.B7 = true := by kernel_rfl
set_option maxHeartbeats 8000000 in
set_option maxRecDepth 100000 in
theorem ip4_Put.calls (a0_0 : Int) (a0_1 : Int) (a0_2 : Int) (a0_3 : Int) (a0_4 : Int) (a0_5 : Bool) (a0_6 : Bool) (a0_7 : ByteArray) (a0_8 : ByteArray) (a0_9 : ByteArray) (a1 : ByteArray) (r1 : ByteArray) (r2 : Int) (w : World) (h : ip4_Put.f a0_0 a0_1 a0_2 a0_3 a0_4 a0_5 a0_6 a0_7 a0_8 a0_9 a1 = some (r1, r2)) :
  Calls Tryd.prog 87 #[.agg #[.int .i64 a0_0, .int .i64 a0_1, .int .i64 a0_2, .int .i64 a0_3, .int .i64 a0_4, .bool a0_5, .bool a0_6, .string a0_7, .string a0_8, .string a0_9], .string a1] w fun e w' => e = .returned (.tuple #[.string r1, .int .i64 r2]) ∧ Below w.heap.size w w' := by
 have hu69 := Tryd.underlying69
 have HB := mA (Below.refl w.heap.size w)
 have H : ((ip4_Check.f a0_0 a0_1 a0_2 a0_3 a0_4 a0_5 a0_6 a0_7 a0_8 a0_9).bind fun t417 => (if t417 = 0 then (if (wrap64 ((wrap64 (20 + (a0_9.size : Int))) + (a1.size : Int))) > 65535 then (some ((⟨#[]⟩ : ByteArray), 4)) else ((ip4_header.f a0_0 a0_1 a0_2 a0_3 a0_4 a0_5 a0_6 a0_7 a0_8 a0_9 (wrap64 ((wrap64 (20 + (a0_9.size : Int))) + (a1.size : Int))) 0).bind fun t418 => ((sum_Sum.f (([t418] : List ByteArray))).bind fun t422 => ((ip4_header.f a0_0 a0_1 a0_2 a0_3 a0_4 a0_5 a0_6 a0_7 a0_8 a0_9 (wrap64 ((wrap64 (20 + (a0_9.size : Int))) + (a1.size : Int))) t422).bind fun t423 => (if t423.size + a1.size ≤ 9223372036854775807 then (some (t423 ++ a1, 0)) else (none)))))) else (some ((⟨#[]⟩ : ByteArray), t417)))) = some (r1, r2) := h
 clear h
 replace H := Option.bind_eq_some_iff.mp H
 obtain ⟨t417, A30, H⟩ := H
 replace H : (if t417 = 0 then (if (wrap64 ((wrap64 (20 + (a0_9.size : Int))) + (a1.size : Int))) > 65535 then (some ((⟨#[]⟩ : ByteArray), 4)) else ((ip4_header.f a0_0 a0_1 a0_2 a0_3 a0_4 a0_5 a0_6 a0_7 a0_8 a0_9 (wrap64 ((wrap64 (20 + (a0_9.size : Int))) + (a1.size : Int))) 0).bind fun t418 => ((sum_Sum.f (([t418] : List ByteArray))).bind fun t422 => ((ip4_header.f a0_0 a0_1 a0_2 a0_3 a0_4 a0_5 a0_6 a0_7 a0_8 a0_9 (wrap64 ((wrap64 (20 + (a0_9.size : Int))) + (a1.size : Int))) t422).bind fun t423 => (if t423.size + a1.size ≤ 9223372036854775807 then (some (t423 ++ a1, 0)) else (none)))))) else (some ((⟨#[]⟩ : ByteArray), t417))) = some (r1, r2) := H
 have A3 := mA A30
 clear A30
 by_cases c4 : t417 = 0
 ·rw [if_pos c4] at H
  have c4b0 : (t417 == 0) = true := beq_iff_eq.mpr c4
  have c4b1 : (t417 != 0) = false := bne_eq_false_iff_eq.mpr c4
  clear c4
  by_cases c5 : (wrap64 ((wrap64 (20 + (a0_9.size : Int))) + (a1.size : Int))) > 65535
  ·rw [if_pos c5] at H
   have c5b0 : decide (65535 < (wrap64 ((wrap64 (20 + (a0_9.size : Int))) + (a1.size : Int)))) = true := decide_eq_true c5
   clear c5
   simp only [Option.some.injEq, Prod.mk.injEq] at H
   obtain ⟨rfl, rfl⟩ := H
   go_enter Tryd.func87, Tryd.ntmps87
   go_wp2_with (first | ((with_reducible refine gate_dst (N := 2) rfl ?_); refine box_event ?hg (N := 2) ?hd (cs := #[.int .i64 a0_0, .int .i64 a0_1, .int .i64 a0_2, .int .i64 a0_3, .int .i64 a0_4, .bool a0_5, .bool a0_6, .string a0_7, .string a0_8, .string a0_9]) (t := 69) ?hr ?_; (case hd => rfl); (case hg => rfl); (case hr => first | (go_simp; done) | (go_simp; rfl)); intro gb416 hg w6 hbox hb; obtain ⟨n0_, nq_⟩ := bpr (by repeat (first | (with_reducible first | exact HB.out | apply bA | apply bN | apply bD) | exact HB.out)) hb; have n1_ := mA (hbox); have n2_ := mA ((by rw [hg]; exact nq_ : w.heap.size ≤ gb416)); have n3_ := mA ((by rw [hg]; exact nq_ : w.heap.size ≤ gb416)); clear HB; have HB := n0_; have BK416 := n1_; have GW416 := n2_; have GE416 := n3_; clear nq_; clear n0_ n1_ n2_ n3_; clear hb hbox hg; obtain ⟨hcz7_0, hcz7_1, hcz7_2, hcz7_3, hcz7_4, hcz7_5, hcz7_6, hcz7_7, hcz7_8, hcz7_9⟩ := bc10 BK416.out; obtain ⟨hfz7_0, hfz7_1, hfz7_2, hfz7_3, hfz7_4, hfz7_5, hfz7_6, hfz7_7, hfz7_8, hfz7_9⟩ := bf10 BK416.out) | ((with_reducible refine gate_callee (f := 116) rfl ?_); refine goesL_ (some 9) rfl rfl Tryd.func116 (by kernel_rfl) rfl #[.agg #[.int .i64 a0_0, .int .i64 a0_1, .int .i64 a0_2, .int .i64 a0_3, .int .i64 a0_4, .bool a0_5, .bool a0_6, .string a0_7, .string a0_8, .string a0_9]] rfl (by (try simp only [List.map_toArray, List.map_cons, List.map_nil]); first | done | rfl | (simp only [List.length_drop, List.length_take]; rfl)) ?_; (with_reducible refine (ip4_Check.calls a0_0 a0_1 a0_2 a0_3 a0_4 a0_5 a0_6 a0_7 a0_8 a0_9 t417 _ A3.out).mono ?_); rintro e w8 ⟨rfl, hb⟩; refine ⟨_, rfl, ?_⟩; have n0_ := mA (blk_below (g := gb416) (o := .cells #[.int .i64 a0_0, .int .i64 a0_1, .int .i64 a0_2, .int .i64 a0_3, .int .i64 a0_4, .bool a0_5, .bool a0_6, .string a0_7, .string a0_8, .string a0_9] 69 (0, 0)) (by (with_reducible repeat (first | apply kN | apply kD | apply kA)); exact BK416.out) hb); have n1_ := mA (bP (by repeat (first | (with_reducible first | exact HB.out | apply bA | apply bN | apply bD | refine bS ?_ GE416.out) | exact HB.out)) hb); clear BK416; clear HB; have BK416 := n0_; have HB := n1_; clear n0_ n1_; (try clear hb); (try clear hb2); (try clear hk); (try clear hi); obtain ⟨hcz9_0, hcz9_1, hcz9_2, hcz9_3, hcz9_4, hcz9_5, hcz9_6, hcz9_7, hcz9_8, hcz9_9⟩ := bc10 BK416.out; obtain ⟨hfz9_0, hfz9_1, hfz9_2, hfz9_3, hfz9_4, hfz9_5, hfz9_6, hfz9_7, hfz9_8, hfz9_9⟩ := bf10 BK416.out))
   go_ret2
   exact ⟨by first | rfl | (simp [errW_none, errW_some] <;> rfl) | (simp [*, errW_none, errW_some] <;> rfl), by repeat (first | (with_reducible first | exact HB.out | apply bA | apply bN | apply bD | refine bS ?_ GE416.out) | exact HB.out)⟩
  ·rw [if_neg c5] at H
   have c5b0 : decide (65535 < (wrap64 ((wrap64 (20 + (a0_9.size : Int))) + (a1.size : Int)))) = false := decide_eq_false c5
   clear c5
   replace H := Option.bind_eq_some_iff.mp H
   obtain ⟨t418, A100, H⟩ := H
   replace H : ((sum_Sum.f (([t418] : List ByteArray))).bind fun t422 => ((ip4_header.f a0_0 a0_1 a0_2 a0_3 a0_4 a0_5 a0_6 a0_7 a0_8 a0_9 (wrap64 ((wrap64 (20 + (a0_9.size : Int))) + (a1.size : Int))) t422).bind fun t423 => (if t423.size + a1.size ≤ 9223372036854775807 then (some (t423 ++ a1, 0)) else (none)))) = some (r1, r2) := H
   have A10 := mA A100
   clear A100
   obtain ⟨y419, hy419⟩ : ∃ y_ : List ByteArray, y_ = (([t418] : List ByteArray)) := ⟨_, rfl⟩
   replace H : ((sum_Sum.f y419).bind fun t422 => ((ip4_header.f a0_0 a0_1 a0_2 a0_3 a0_4 a0_5 a0_6 a0_7 a0_8 a0_9 (wrap64 ((wrap64 (20 + (a0_9.size : Int))) + (a1.size : Int))) t422).bind fun t423 => (if t423.size + a1.size ≤ 9223372036854775807 then (some (t423 ++ a1, 0)) else (none)))) = some (r1, r2) := by first | (rw [hy419]; with_reducible exact H) | (have H2_ := (Option.bind_some _ _).symm.trans H; rw [hy419]; with_reducible exact H2_) | (have H2_ := (Option.bind_some _ _).symm.trans H; with_reducible exact H2_) | with_reducible exact H | (rw [hy419]; exact H) | exact H
   have Ny419 := mA hy419
   clear hy419
   replace H := Option.bind_eq_some_iff.mp H
   obtain ⟨t422, A110, H⟩ := H
   replace H : ((ip4_header.f a0_0 a0_1 a0_2 a0_3 a0_4 a0_5 a0_6 a0_7 a0_8 a0_9 (wrap64 ((wrap64 (20 + (a0_9.size : Int))) + (a1.size : Int))) t422).bind fun t423 => (if t423.size + a1.size ≤ 9223372036854775807 then (some (t423 ++ a1, 0)) else (none))) = some (r1, r2) := H
   have A11 := mA A110
   clear A110
   replace H := Option.bind_eq_some_iff.mp H
   obtain ⟨t423, A120, H⟩ := H
   replace H : (if t423.size + a1.size ≤ 9223372036854775807 then (some (t423 ++ a1, 0)) else (none)) = some (r1, r2) := H
   have A12 := mA A120
   clear A120
   by_cases c13 : t423.size + a1.size ≤ 9223372036854775807
   ·rw [if_pos c13] at H
    have c13b0 := eq_true c13
    have c13b1 : decide (t423.size + a1.size ≤ 9223372036854775807) = true := decide_eq_true c13
    try have c13b2 : (9223372036854775807 < t423.size + a1.size) = False := eq_false (Nat.not_lt.2 c13)
    simp only [Option.some.injEq, Prod.mk.injEq] at H
    obtain ⟨rfl, rfl⟩ := H
    go_enter Tryd.func87, Tryd.ntmps87
    try go_wp2_with (first | ((with_reducible refine gate_dst (N := 2) rfl ?_); refine box_event ?hg (N := 2) ?hd (cs := #[.int .i64 a0_0, .int .i64 a0_1, .int .i64 a0_2, .int .i64 a0_3, .int .i64 a0_4, .bool a0_5, .bool a0_6, .string a0_7, .string a0_8, .string a0_9]) (t := 69) ?hr ?_; (case hd => rfl); (case hg => rfl); (case hr => first | (go_simp; done) | (go_simp; rfl)); intro gb416 hg w14 hbox hb; obtain ⟨n0_, nq_⟩ := bpr (by repeat (first | (with_reducible first | exact HB.out | apply bA | apply bN | apply bD) | exact HB.out)) hb; have n1_ := mA (hbox); have n2_ := mA ((by rw [hg]; exact nq_ : w.heap.size ≤ gb416)); have n3_ := mA ((by rw [hg]; exact nq_ : w.heap.size ≤ gb416)); clear HB; have HB := n0_; have BK416 := n1_; have GW416 := n2_; have GE416 := n3_; clear nq_; clear n0_ n1_ n2_ n3_; clear hb hbox hg; obtain ⟨hcz15_0, hcz15_1, hcz15_2, hcz15_3, hcz15_4, hcz15_5, hcz15_6, hcz15_7, hcz15_8, hcz15_9⟩ := bc10 BK416.out; obtain ⟨hfz15_0, hfz15_1, hfz15_2, hfz15_3, hfz15_4, hfz15_5, hfz15_6, hfz15_7, hfz15_8, hfz15_9⟩ := bf10 BK416.out) | ((with_reducible refine gate_callee (f := 116) rfl ?_); refine goesL_ (some 9) rfl rfl Tryd.func116 (by kernel_rfl) rfl #[.agg #[.int .i64 a0_0, .int .i64 a0_1, .int .i64 a0_2, .int .i64 a0_3, .int .i64 a0_4, .bool a0_5, .bool a0_6, .string a0_7, .string a0_8, .string a0_9]] rfl (by (try simp only [List.map_toArray, List.map_cons, List.map_nil]); first | done | rfl | (simp only [List.length_drop, List.length_take]; rfl)) ?_; (with_reducible refine (ip4_Check.calls a0_0 a0_1 a0_2 a0_3 a0_4 a0_5 a0_6 a0_7 a0_8 a0_9 t417 _ A3.out).mono ?_); rintro e w16 ⟨rfl, hb⟩; refine ⟨_, rfl, ?_⟩; have n0_ := mA (blk_below (g := gb416) (o := .cells #[.int .i64 a0_0, .int .i64 a0_1, .int .i64 a0_2, .int .i64 a0_3, .int .i64 a0_4, .bool a0_5, .bool a0_6, .string a0_7, .string a0_8, .string a0_9] 69 (0, 0)) (by (with_reducible repeat (first | apply kN | apply kD | apply kA)); exact BK416.out) hb); have n1_ := mA (bP (by repeat (first | (with_reducible first | exact HB.out | apply bA | apply bN | apply bD | refine bS ?_ GE416.out) | exact HB.out)) hb); clear BK416; clear HB; have BK416 := n0_; have HB := n1_; clear n0_ n1_; (try clear hb); (try clear hb2); (try clear hk); (try clear hi); obtain ⟨hcz17_0, hcz17_1, hcz17_2, hcz17_3, hcz17_4, hcz17_5, hcz17_6, hcz17_7, hcz17_8, hcz17_9⟩ := bc10 BK416.out; obtain ⟨hfz17_0, hfz17_1, hfz17_2, hfz17_3, hfz17_4, hfz17_5, hfz17_6, hfz17_7, hfz17_8, hfz17_9⟩ := bf10 BK416.out))
    have n0_ := mA (kD BK416.out)
    have n1_ := mA (bD HB.out)
    clear BK416
    clear HB
    have BK416 := n0_
    have HB := n1_
    clear n0_ n1_
    refine start_ (n := 12) (S := fun w' => w'.cell? ⟨gb416, 0, none⟩ = some (.int .i64 a0_0) ∧ w'.cell? ⟨gb416, 1, none⟩ = some (.int .i64 a0_1) ∧ w'.cell? ⟨gb416, 2, none⟩ = some (.int .i64 a0_2) ∧ w'.cell? ⟨gb416, 3, none⟩ = some (.int .i64 a0_3) ∧ w'.cell? ⟨gb416, 4, none⟩ = some (.int .i64 a0_4) ∧ w'.cell? ⟨gb416, 5, none⟩ = some (.bool a0_5) ∧ w'.cell? ⟨gb416, 6, none⟩ = some (.bool a0_6) ∧ w'.cell? ⟨gb416, 7, none⟩ = some (.string a0_7) ∧ w'.cell? ⟨gb416, 8, none⟩ = some (.string a0_8) ∧ w'.cell? ⟨gb416, 9, none⟩ = some (.string a0_9)) (ds := []) (bv 12 0) (by kernel_rfl) rfl rfl ⟨(zC BK416.out 0).trans rfl, (zC BK416.out 1).trans rfl, (zC BK416.out 2).trans rfl, (zC BK416.out 3).trans rfl, (zC BK416.out 4).trans rfl, (zC BK416.out 5).trans rfl, (zC BK416.out 6).trans rfl, (zC BK416.out 7).trans rfl, (zC BK416.out 8).trans rfl, (zC BK416.out 9).trans rfl⟩ (fun hHeld => ?_); refine with_tabW ip4_Put.tab7 ip4_Put.bits7 (fun HT_ HW_ => ?_)
    generalize w16.drew = w18 at BK416 HB hHeld ⊢
    refine pure_ (i := 1) (N := some 23) (v := ?_) (a' := ?_) (bv 12 2) rfl rfl (any_of HT_.out (by kernel_rfl)) (fun _ _ _ h => h) (Or.inl ⟨by rfl, ?_⟩) ?_ ?_; rotate_left; (intro w'; go_simp; with_reducible rfl); rotate_left; (simp only [Act.put, List.setIfInBounds_toArray, List.set_cons_zero, List.set_cons_succ, i64_w, i32_w]; rfl)
    refine pure_ (i := 3) (N := some 25) (v := ?_) (a' := ?_) (bv 12 10) rfl rfl (any_of HT_.out (by kernel_rfl)) (fun _ _ _ h => h) (Or.inl ⟨by rfl, ?_⟩) ?_ ?_; rotate_left; (intro w'; go_simp; with_reducible rfl); rotate_left; (simp only [Act.put, List.setIfInBounds_toArray, List.set_cons_zero, List.set_cons_succ, i64_w, i32_w]; rfl)
    refine pure_ (i := 8) (N := some 30) (v := ?_) (a' := ?_) (bv 12 266) rfl rfl (any_of HT_.out (by kernel_rfl)) (fun _ _ _ h => h) (Or.inl ⟨by rfl, ?_⟩) ?_ ?_; rotate_left; (intro w'; go_simp; with_reducible rfl); rotate_left; (simp only [Act.put, List.setIfInBounds_toArray, List.set_cons_zero, List.set_cons_succ, i64_w, i32_w]; rfl)
    refine take_ (i := 0) (N := some 22) (v := ?_) (a' := ?_) (bv 12 267) rfl rfl (take_ofW HT_.out HW_.out (by kernel_rfl)) (fun _ _ _ h => h) (Or.inl ⟨by rfl, ?_⟩) hHeld ?_ ?_; rotate_left; (rintro w' ⟨s0, s1, s2, s3, s4, s5, s6, s7, s8, s9⟩; go_simp; with_reducible rfl); rotate_left; (simp only [Act.put, List.setIfInBounds_toArray, List.set_cons_zero, List.set_cons_succ, i64_w, i32_w]; rfl)
    refine take_ (i := 2) (N := some 24) (v := ?_) (a' := ?_) (bv 12 271) rfl rfl (take_ofW HT_.out HW_.out (by kernel_rfl)) (fun _ _ _ h => h) (Or.inl ⟨by rfl, ?_⟩) hHeld ?_ ?_; rotate_left; (rintro w' ⟨s0, s1, s2, s3, s4, s5, s6, s7, s8, s9⟩; go_simp; with_reducible rfl); rotate_left; (simp only [Act.put, List.setIfInBounds_toArray, List.set_cons_zero, List.set_cons_succ, i64_w, i32_w]; rfl)
    refine one_ (i := 4) (N := some 26) (bv 12 287) rfl rfl (one_of HT_.out (by kernel_rfl)) (by decide) (fun K hK => ?_)
    refine goes_ Tryd.func117 (by kernel_rfl) rfl #[.agg #[.int .i64 a0_0, .int .i64 a0_1, .int .i64 a0_2, .int .i64 a0_3, .int .i64 a0_4, .bool a0_5, .bool a0_6, .string a0_7, .string a0_8, .string a0_9], .int .i64 (wrap64 ((wrap64 (20 + (a0_9.size : Int))) + (a1.size : Int))), .int .i64 0] (by rfl) rfl rfl (by (try simp only [List.map_toArray, List.map_cons, List.map_nil]); first | done | rfl | (simp only [List.length_drop, List.length_take]; rfl)) ?_
    with_reducible refine (ip4_header.calls a0_0 a0_1 a0_2 a0_3 a0_4 a0_5 a0_6 a0_7 a0_8 a0_9 (wrap64 ((wrap64 (20 + (a0_9.size : Int))) + (a1.size : Int))) 0 t418 _ A10.out).mono ?_
    rintro e w19 ⟨rfl, hb⟩
    refine ⟨_, rfl, ?_⟩
    have n0_ := mA (blk_below (g := gb416) (o := .cells #[.int .i64 a0_0, .int .i64 a0_1, .int .i64 a0_2, .int .i64 a0_3, .int .i64 a0_4, .bool a0_5, .bool a0_6, .string a0_7, .string a0_8, .string a0_9] 69 (0, 0)) (by (with_reducible repeat (first | apply kN | apply kD | apply kA)); exact BK416.out) hb)
    have n1_ := mA (bP (by repeat (first | (with_reducible first | exact HB.out | apply bA | apply bN | apply bD | refine bS ?_ GE416.out) | exact HB.out)) hb)
    clear BK416
    clear HB
    have BK416 := n0_
    have HB := n1_
    clear n0_ n1_
    (try clear hb)
    (try clear hb2)
    (try clear hk)
    (try clear hi)
    refine hK.out _ _ ⟨(zC BK416.out 0).trans rfl, (zC BK416.out 1).trans rfl, (zC BK416.out 2).trans rfl, (zC BK416.out 3).trans rfl, (zC BK416.out 4).trans rfl, (zC BK416.out 5).trans rfl, (zC BK416.out 6).trans rfl, (zC BK416.out 7).trans rfl, (zC BK416.out 8).trans rfl, (zC BK416.out 9).trans rfl⟩ (fun hHeld => ?_)
    clear hK K
    refine norm_ (a' := ?_) ?_ ?_
    rotate_left
    ·show Act.put _ (some 26) _ = _
     simp only [Act.put, List.setIfInBounds_toArray, List.set_cons_zero, List.set_cons_succ, i64_w, i32_w]
     rfl
    refine one_ (i := 5) (N := some 27) (bv 12 319) rfl rfl (one_of HT_.out (by kernel_rfl)) (by decide) (fun K hK => ?_)
    refine Kd.R_lit_step Kd.string _ 9 ?hg (N := 27) ?hd (xs := ([t418] : List ByteArray)) (inner := [.string t418]) (ok := fun _ => True) (okp := fun _ => True) ?hr ?hp (fun _ hk => hk) trivial (Below.refl _ _) (Nat.le_refl _) (by simp) ?_; (case hd => rfl); (case hg => rfl); (case hr => first | (go_simp; done) | (go_simp; rfl)); (case hp => exact (Reps.one (show Kd.M Kd.string _ _ _ t418 [.string t418] from rfl) (Reps.none _ _)))
    intro v420 w20 ho21 hb hg_ hnew_
    clear hg_ hnew_
    (first | rw [← Ny419.out] at ho21 | (simp only [Int.reduceToNat] at ho21; rw [← Ny419.out] at ho21))
    have n0_ := mA (Kd.R_lower ho21 (below_size (by repeat (first | (with_reducible first | exact HB.out | apply bA | apply bN | apply bD | refine bS ?_ GE416.out) | exact HB.out))))
    have n1_ := mA (blk_below (g := gb416) (o := .cells #[.int .i64 a0_0, .int .i64 a0_1, .int .i64 a0_2, .int .i64 a0_3, .int .i64 a0_4, .bool a0_5, .bool a0_6, .string a0_7, .string a0_8, .string a0_9] 69 (0, 0)) (by (with_reducible repeat (first | apply kN | apply kD | apply kA)); exact BK416.out) hb)
    have n2_ := mA (bP (by repeat (first | (with_reducible first | exact HB.out | apply bA | apply bN | apply bD | refine bS ?_ GE416.out) | exact HB.out)) hb)
    clear BK416
    clear HB
    have HO421 := n0_
    have BK416 := n1_
    have HB := n2_
    clear n0_ n1_ n2_
    clear hb ho21
    obtain ⟨Ao22, co22, eo22⟩ := Kd.R_slice HO421.out
    (first | subst eo22 | (injection eo22 with f1_ f2_ f3_; have f4_ := f1_.symm; have f5_ := f3_.symm; clear f1_ f2_ f3_; subst f4_; subst f5_))
    refine hK.out _ _ ⟨(zC BK416.out 0).trans rfl, (zC BK416.out 1).trans rfl, (zC BK416.out 2).trans rfl, (zC BK416.out 3).trans rfl, (zC BK416.out 4).trans rfl, (zC BK416.out 5).trans rfl, (zC BK416.out 6).trans rfl, (zC BK416.out 7).trans rfl, (zC BK416.out 8).trans rfl, (zC BK416.out 9).trans rfl⟩ (fun hHeld => ?_)
    clear hK K
    refine norm_ (a' := ?_) ?_ ?_
    rotate_left
    ·show Act.put _ (some 27) _ = _
     simp only [Act.put, List.setIfInBounds_toArray, List.set_cons_zero, List.set_cons_succ, i64_w, i32_w]
     rfl
    refine one_ (i := 6) (N := some 28) (bv 12 383) rfl rfl (one_of HT_.out (by kernel_rfl)) (by decide) (fun K hK => ?_)
    refine goes_ Tryd.func60 (by kernel_rfl) rfl #[.slice Ao22 y419.length co22] (by rfl) rfl rfl (by (try simp only [List.map_toArray, List.map_cons, List.map_nil]); first | done | rfl | (simp only [List.length_drop, List.length_take]; rfl)) ?_
    with_reducible refine (sum_Sum.calls _ _ y419 t422 _ ?side1 ?side2 A11.out).mono ?_
    (case side1 => repeat (first | exact (Kd.R_reads' HO421.out).2.2 | (with_reducible refine Kd.C_alloc ?_ _) | (with_reducible refine Kd.C_drewN ?_ _) | (with_reducible refine Kd.C_drew ?_)))
    (case side2 => exact (Kd.R_reads' HO421.out).2.1)
    rintro e w23 ⟨rfl, hb⟩
    refine ⟨_, rfl, ?_⟩
    have n0_ := mA (Kd.R_below (by (with_reducible repeat (first | apply Kd.R_alloc | apply Kd.R_drewN | apply Kd.R_drew)); exact HO421.out) hb)
    have n1_ := mA (blk_below (g := gb416) (o := .cells #[.int .i64 a0_0, .int .i64 a0_1, .int .i64 a0_2, .int .i64 a0_3, .int .i64 a0_4, .bool a0_5, .bool a0_6, .string a0_7, .string a0_8, .string a0_9] 69 (0, 0)) (by (with_reducible repeat (first | apply kN | apply kD | apply kA)); exact BK416.out) hb)
    have n2_ := mA (bP (by repeat (first | (with_reducible first | exact HB.out | apply bA | apply bN | apply bD | refine bS ?_ GE416.out) | exact HB.out)) hb)
    clear HO421
    clear BK416
    clear HB
    have HO421 := n0_
    have BK416 := n1_
    have HB := n2_
    clear n0_ n1_ n2_
    (try clear hb)
    (try clear hb2)
    (try clear hk)
    (try clear hi)
    refine hK.out _ _ ⟨(zC BK416.out 0).trans rfl, (zC BK416.out 1).trans rfl, (zC BK416.out 2).trans rfl, (zC BK416.out 3).trans rfl, (zC BK416.out 4).trans rfl, (zC BK416.out 5).trans rfl, (zC BK416.out 6).trans rfl, (zC BK416.out 7).trans rfl, (zC BK416.out 8).trans rfl, (zC BK416.out 9).trans rfl⟩ (fun hHeld => ?_)
    clear hK K
    refine norm_ (a' := ?_) ?_ ?_
    rotate_left
    ·show Act.put _ (some 28) _ = _
     simp only [Act.put, List.setIfInBounds_toArray, List.set_cons_zero, List.set_cons_succ, i64_w, i32_w]
     rfl
    refine one_ (i := 7) (N := some 29) (bv 12 511) rfl rfl (one_of HT_.out (by kernel_rfl)) (by decide) (fun K hK => ?_)
    refine goes_ Tryd.func117 (by kernel_rfl) rfl #[.agg #[.int .i64 a0_0, .int .i64 a0_1, .int .i64 a0_2, .int .i64 a0_3, .int .i64 a0_4, .bool a0_5, .bool a0_6, .string a0_7, .string a0_8, .string a0_9], .int .i64 (wrap64 ((wrap64 (20 + (a0_9.size : Int))) + (a1.size : Int))), .int .i64 t422] (by rfl) rfl rfl (by (try simp only [List.map_toArray, List.map_cons, List.map_nil]); first | done | rfl | (simp only [List.length_drop, List.length_take]; rfl)) ?_
    with_reducible refine (ip4_header.calls a0_0 a0_1 a0_2 a0_3 a0_4 a0_5 a0_6 a0_7 a0_8 a0_9 (wrap64 ((wrap64 (20 + (a0_9.size : Int))) + (a1.size : Int))) t422 t423 _ A12.out).mono ?_
    rintro e w24 ⟨rfl, hb⟩
    refine ⟨_, rfl, ?_⟩
    have n0_ := mA (Kd.R_below (by (with_reducible repeat (first | apply Kd.R_alloc | apply Kd.R_drewN | apply Kd.R_drew)); exact HO421.out) hb)
    have n1_ := mA (blk_below (g := gb416) (o := .cells #[.int .i64 a0_0, .int .i64 a0_1, .int .i64 a0_2, .int .i64 a0_3, .int .i64 a0_4, .bool a0_5, .bool a0_6, .string a0_7, .string a0_8, .string a0_9] 69 (0, 0)) (by (with_reducible repeat (first | apply kN | apply kD | apply kA)); exact BK416.out) hb)
    have n2_ := mA (bP (by repeat (first | (with_reducible first | exact HB.out | apply bA | apply bN | apply bD | refine bS ?_ GE416.out) | exact HB.out)) hb)
    clear HO421
    clear BK416
    clear HB
    have HO421 := n0_
    have BK416 := n1_
    have HB := n2_
    clear n0_ n1_ n2_
    (try clear hb)
    (try clear hb2)
    (try clear hk)
    (try clear hi)
    refine hK.out _ _ ⟨(zC BK416.out 0).trans rfl, (zC BK416.out 1).trans rfl, (zC BK416.out 2).trans rfl, (zC BK416.out 3).trans rfl, (zC BK416.out 4).trans rfl, (zC BK416.out 5).trans rfl, (zC BK416.out 6).trans rfl, (zC BK416.out 7).trans rfl, (zC BK416.out 8).trans rfl, (zC BK416.out 9).trans rfl⟩ (fun hHeld => ?_)
    clear hK K
    refine norm_ (a' := ?_) ?_ ?_
    rotate_left
    ·show Act.put _ (some 29) _ = _
     simp only [Act.put, List.setIfInBounds_toArray, List.set_cons_zero, List.set_cons_succ, i64_w, i32_w]
     rfl
    refine pure_ (i := 9) (N := some 31) (v := ?_) (a' := ?_) (bv 12 1023) rfl rfl (any_of HT_.out (by kernel_rfl)) (fun _ _ _ h => h) (Or.inl ⟨by rfl, ?_⟩) ?_ ?_; rotate_left; (intro w'; go_simp; with_reducible rfl); rotate_left; (simp only [Act.put, List.setIfInBounds_toArray, List.set_cons_zero, List.set_cons_succ, i64_w, i32_w]; rfl)
    refine pure_ (i := 10) (N := some 4) (v := ?_) (a' := ?_) (bv 12 2047) rfl rfl (any_of HT_.out (by kernel_rfl)) (fun _ _ _ h => h) (Or.inl ⟨by rfl, ?_⟩) ?_ ?_; rotate_left; (intro w'; go_simp; with_reducible rfl); rotate_left; (simp only [Act.put, List.setIfInBounds_toArray, List.set_cons_zero, List.set_cons_succ, i64_w, i32_w]; rfl)
    refine pure_ (i := 11) (N := some 5) (v := ?_) (a' := ?_) (bv 12 4095) rfl rfl (any_of HT_.out (by kernel_rfl)) (fun _ _ _ h => h) (Or.inl ⟨by rfl, ?_⟩) ?_ ?_; rotate_left; (intro w'; go_simp; with_reducible rfl); rotate_left; (simp only [Act.put, List.setIfInBounds_toArray, List.set_cons_zero, List.set_cons_succ, i64_w, i32_w]; rfl)
    refine done_ (done_of HT_.out (by kernel_rfl)) ?_
    try go_wp2
    go_ret2
    exact ⟨by first | rfl | (simp [errW_none, errW_some] <;> rfl) | (simp [*, errW_none, errW_some] <;> rfl), by repeat (first | (with_reducible first | exact HB.out | apply bA | apply bN | apply bD | refine bS ?_ GE416.out) | exact HB.out)⟩
   ·rw [if_neg c13] at H
    exact absurd H (by simp)
 ·rw [if_neg c4] at H
  have c4b0 : (t417 == 0) = false := beq_eq_false_iff_ne.mpr c4
  have c4b1 : (t417 != 0) = true := bne_iff_ne.mpr c4
  simp only [Option.some.injEq, Prod.mk.injEq] at H
  obtain ⟨rfl, rfl⟩ := H
  go_enter Tryd.func87, Tryd.ntmps87
  go_wp2_with (first | ((with_reducible refine gate_dst (N := 2) rfl ?_); refine box_event ?hg (N := 2) ?hd (cs := #[.int .i64 a0_0, .int .i64 a0_1, .int .i64 a0_2, .int .i64 a0_3, .int .i64 a0_4, .bool a0_5, .bool a0_6, .string a0_7, .string a0_8, .string a0_9]) (t := 69) ?hr ?_; (case hd => rfl); (case hg => rfl); (case hr => first | (go_simp; done) | (go_simp; rfl)); intro gb416 hg w25 hbox hb; obtain ⟨n0_, nq_⟩ := bpr (by repeat (first | (with_reducible first | exact HB.out | apply bA | apply bN | apply bD) | exact HB.out)) hb; have n1_ := mA (hbox); have n2_ := mA ((by rw [hg]; exact nq_ : w.heap.size ≤ gb416)); have n3_ := mA ((by rw [hg]; exact nq_ : w.heap.size ≤ gb416)); clear HB; have HB := n0_; have BK416 := n1_; have GW416 := n2_; have GE416 := n3_; clear nq_; clear n0_ n1_ n2_ n3_; clear hb hbox hg; obtain ⟨hcz26_0, hcz26_1, hcz26_2, hcz26_3, hcz26_4, hcz26_5, hcz26_6, hcz26_7, hcz26_8, hcz26_9⟩ := bc10 BK416.out; obtain ⟨hfz26_0, hfz26_1, hfz26_2, hfz26_3, hfz26_4, hfz26_5, hfz26_6, hfz26_7, hfz26_8, hfz26_9⟩ := bf10 BK416.out) | ((with_reducible refine gate_callee (f := 116) rfl ?_); refine goesL_ (some 9) rfl rfl Tryd.func116 (by kernel_rfl) rfl #[.agg #[.int .i64 a0_0, .int .i64 a0_1, .int .i64 a0_2, .int .i64 a0_3, .int .i64 a0_4, .bool a0_5, .bool a0_6, .string a0_7, .string a0_8, .string a0_9]] rfl (by (try simp only [List.map_toArray, List.map_cons, List.map_nil]); first | done | rfl | (simp only [List.length_drop, List.length_take]; rfl)) ?_; (with_reducible refine (ip4_Check.calls a0_0 a0_1 a0_2 a0_3 a0_4 a0_5 a0_6 a0_7 a0_8 a0_9 t417 _ A3.out).mono ?_); rintro e w27 ⟨rfl, hb⟩; refine ⟨_, rfl, ?_⟩; have n0_ := mA (blk_below (g := gb416) (o := .cells #[.int .i64 a0_0, .int .i64 a0_1, .int .i64 a0_2, .int .i64 a0_3, .int .i64 a0_4, .bool a0_5, .bool a0_6, .string a0_7, .string a0_8, .string a0_9] 69 (0, 0)) (by (with_reducible repeat (first | apply kN | apply kD | apply kA)); exact BK416.out) hb); have n1_ := mA (bP (by repeat (first | (with_reducible first | exact HB.out | apply bA | apply bN | apply bD | refine bS ?_ GE416.out) | exact HB.out)) hb); clear BK416; clear HB; have BK416 := n0_; have HB := n1_; clear n0_ n1_; (try clear hb); (try clear hb2); (try clear hk); (try clear hi)))
  go_ret2
  exact ⟨by first | rfl | (simp [errW_none, errW_some] <;> rfl) | (simp [*, errW_none, errW_some] <;> rfl), by repeat (first | (with_reducible first | exact HB.out | apply bA | apply bN | apply bD | refine bS ?_ GE416.out) | exact HB.out)⟩

end Go.Proofs.YtcmalglippmocaaDoor.G
end

section
/- By hand: flow.Seal, which reads the package-level tables of places. -/
namespace Go.Proofs.YtcmalglippmocaaDoor.G
open Go.RowKit Go.Proofs.YtcmalglippmocaaDoorW.PrintWords Go.Proofs.YtcmalglippmocaaDoorW.PrintLast Go.Proofs.YtcmalglippmocaaDoorW.PrintMore Go.Proofs.YtcmalglippmocaaDoor.Pal
set_option linter.unusedVariables false
set_option linter.unusedSimpArgs false
/-- Where a payload's sum stands, if it has one. -/
def sealAt (p : Int) (n : Nat) : Nat := if p = 6 ∧ 20 ≤ n then 16 else if p = 17 ∧ 8 ≤ n then 6 else 0
def sealNo (p n : Int) : Int := if n = 0 ∧ p = 17 then 65535 else n
def sealBytes (s : ByteArray) (q : Nat) (n : Int) : ByteArray := ⟨(bl (s.extract 0 q) ++ nb 2 (u64n n) ++ bl (s.extract (q + 2) s.size)).toArray⟩
def seal_with (a0 : Int) (a1 a2 a3 : ByteArray) (q : Nat) : Option ByteArray :=
  (sum_Pseudo.f a1 a2 a0 a3.size).bind fun ps => (sum_Sum.f [ps, a3.extract 0 q, ⟨#[0, 0]⟩, a3.extract (q + 2) a3.size]).bind fun n => some (sealBytes a3 q (sealNo a0 n))
def flow_Seal.f (a0 : Int) (a1 a2 a3 : ByteArray) : Option ByteArray :=
  if a3.size ≤ 1000000000 then (if sealAt a0 a3.size = 0 then some a3 else seal_with a0 a1 a2 a3 (sealAt a0 a3.size)) else none
theorem pl_ix0 (wx : World) : (Instr.index 135 (.agg #[.int .i64 6, .int .i64 16, .int .i64 17, .int .i64 6]) (.int .i64 0)).run Tryd.prog wx = .ok (.agg #[.int .i64 6, .int .i64 16]) wx := by kernel_rfl
theorem pl_ix1 (wx : World) : (Instr.index 135 (.agg #[.int .i64 6, .int .i64 16, .int .i64 17, .int .i64 6]) (.int .i64 1)).run Tryd.prog wx = .ok (.agg #[.int .i64 17, .int .i64 6]) wx := by kernel_rfl
/-- A writer that stands in a block of its own above k. -/
def SW (k b : Nat) (w w1 : World) (l : List UInt8) : Prop := WAt b l w1 ∧ Below k w w1 ∧ k ≤ b
theorem SW.next {k b : Nat} {w w1 w2 : World} {l l' : List UInt8} (h : SW k b w w1 l) (h1 : WAt b l' w2) (h2 : Below b w1 w2) : SW k b w w2 l' := ⟨h1, h.2.1.trans (h2.mono h.2.2), h.2.2⟩
theorem SW.start {k : Nat} {w w1 : World} (h : Below k w w1) (hk : k ≤ w1.heap.size) : SW k w1.heap.size w (w1.alloc (.cells #[.pointer none, .slice none 0 0] 140)) [] := ⟨WAt.new w1, h.alloc hk _, hk⟩
def flow_Seal.T6 : Bool × List (List Nat × List Nat) := (true, [([], []), ([], []), ([], []), ([], []), ([3], [3]), ([0, 1, 2, 4], [0, 1, 2, 4]), ([], []), ([], []), ([6, 7], [6, 7]), ([], []), ([], []), ([10], [10]), ([9, 11], [9, 11]), ([5, 8, 12], [5, 8, 12]), ([13, 5], [13]), ([14, 14, 0, 1, 2, 3, 4, 5, 6, 7, 8, 9, 10, 11, 12, 13, 14], [14])])
def flow_Seal.B6 : List Nat := [0, 0, 0, 0, 8, 31, 0, 0, 192, 0, 0, 1024, 3584, 8191, 16383, 32767]
theorem flow_Seal.tab6 : rtab .any (opsOf Tryd.f41 6) = flow_Seal.T6 := by kernel_rfl
theorem flow_Seal.bits6 : waitsOk flow_Seal.T6.2 flow_Seal.B6 = true := by kernel_rfl
set_option maxHeartbeats 4000000 in
set_option maxRecDepth 100000 in
theorem flow_Seal.calls (a0 : Int) (a1 a2 a3 : ByteArray) (r : ByteArray) (w : World) (h : flow_Seal.f a0 a1 a2 a3 = some r) (hG : GP w) :
    Calls Tryd.prog 41 #[.int .i64 a0, .string a1, .string a2, .string a3] w fun e w' => e = .returned (.string r) ∧ Below w.heap.size w w' := by
  unfold flow_Seal.f at h
  by_cases hs : a3.size ≤ 1000000000
  case neg => rw [if_neg hs] at h; exact absurd h (by simp)
  rw [if_pos hs] at h
  have HS := Aside0.mk hs
  have HV := Aside0.mk h
  have HG := Aside0.mk hG
  clear h hs hG
  obtain ⟨k, hk⟩ : ∃ k, w.heap.size = k := ⟨_, rfl⟩
  have HB := Aside0.mk (show Below k w w from hk ▸ Below.refl w.heap.size w)
  have HK := Aside0.mk hk
  clear hk
  go_enter Tryd.func41, Tryd.ntmps41
  obtain ⟨⟨g0, g1, g2, g3⟩, g4, g5⟩ := HG.out.cells
  go_wp2
  clear g0 g1 g2 g3 g4 g5
  go_loopg [15] 2 (fun kq v15 wr => ∃ i : Nat, v15 = .int .i64 (i : Int) ∧ Aside0 (i + kq = 2) ∧ Aside0 (1 ≤ i → ¬ (a0 = 6 ∧ 20 ≤ a3.size)) ∧ Aside0 (2 ≤ i → ¬ (a0 = 17 ∧ 8 ≤ a3.size)) ∧ Aside0 (Below k w wr))
  case atStart => exact ⟨0, rfl, ⟨by omega⟩, ⟨by omega⟩, ⟨by omega⟩, HB⟩
  case round =>
    clear HB
    obtain ⟨i, rfl, HI, H0, H1, HB⟩ := hrel
    have HGr := Aside0.mk (HG.out.below (by rw [HK.out]; exact HB.out))
    have h012 : i = 0 ∨ i = 1 ∨ i = 2 := by have := HI.out; omega
    rcases h012 with rfl | rfl | rfl
    · have ix := pl_ix0
      obtain ⟨_, g4, g5⟩ := (HGr.out.below ((Below.refl wr.heap.size wr).alloc (Nat.le_refl _) (.cells #[.int .i64 6, .int .i64 16] 134))).cells
      by_cases hp : a0 = 6
      · subst hp
        by_cases hl : 20 ≤ a3.size
        · as_aux_lemma =>
          have d1 : (6 != 6) = false := rfl
          have hr : seal_with 6 a1 a2 a3 16 = some r := by
            have := HV.out; rw [show sealAt 6 a3.size = 16 by unfold sealAt; split <;> (try split) <;> omega, if_neg (by decide)] at this; exact this
          clear HV
          obtain ⟨ps, hps, hr⟩ := Option.bind_eq_some_iff.1 hr
          obtain ⟨n, hn, hr⟩ := Option.bind_eq_some_iff.1 hr
          obtain rfl := Option.some.inj hr
          clear hr
          have HP := Aside0.mk hps
          have HN := Aside0.mk hn
          have HL := Aside0.mk (show 20 ≤ a3.size from by omega)
          have d2 : decide ((a3.size : Int) < 20) = false := decide_eq_false (by have := HL.out; omega)
          have d3 : decide (a3.size < 20) = false := decide_eq_false (by have := HL.out; omega)
          clear hps hn
          go_upto_region 6 with (fail)
          clear ix g4 g5 d1 d2 d3
          have HC := Aside0.mk (HB.out.alloc (by have := HB.out.size; have := HK.out; omega) (.cells #[.int .i64 6, .int .i64 16] 134))
          rw [← HK.out] at HC
          have s1 : ((16 : Int) ≤ (a3.size : Int)) = True := eq_true (by have := HL.out; omega)
          have s2 : (16 ≤ a3.size) = True := eq_true (by have := HL.out; omega)
          have s3 : ((18 : Int) ≤ (a3.size : Int)) = True := eq_true (by have := HL.out; omega)
          have s4 : (18 ≤ a3.size) = True := eq_true (by have := HL.out; omega)
          have z1 : wrap64 (16 + 2) = 18 := by decide +kernel
          have z2 : IntKind.i64.wrap (16 + 2) = 18 := by decide +kernel
          have z3 : wrap64 18 = 18 := by decide +kernel
          have z4 : IntKind.i64.wrap 18 = 18 := by decide +kernel
          generalize wr.alloc (.cells #[.int .i64 6, .int .i64 16] 134) = w4 at HC ⊢
          replace HC := Aside0.mk (below_drew1 HC.out)
          refine start_ (n := 16) (S := fun w' => True) (ds := []) #[false, false, false, false, false, false, false, false, false, false, false, false, false, false, false, false] (by kernel_rfl) rfl rfl trivial (fun hHeld => ?_); refine with_tabW flow_Seal.tab6 flow_Seal.bits6 (fun HT_ HW_ => ?_)
          generalize w4.drew = w5 at HC hHeld ⊢
          refine pure_ (i := 0) (N := some 33) (v := ?_) (a' := ?_) #[true, false, false, false, false, false, false, false, false, false, false, false, false, false, false, false] rfl rfl (any_of HT_.out (by kernel_rfl)) (fun _ _ _ h => h) (Or.inl ⟨by rfl, ?_⟩) ?_ ?_
          rotate_left
          · intro w'
            go_simp
            with_reducible rfl
          rotate_left
          · simp only [Act.put, List.setIfInBounds_toArray, List.set_cons_zero, List.set_cons_succ, i64_w, i32_w]
            rfl
          refine pure_ (i := 1) (N := some 34) (v := ?_) (a' := ?_) #[true, true, false, false, false, false, false, false, false, false, false, false, false, false, false, false] rfl rfl (any_of HT_.out (by kernel_rfl)) (fun _ _ _ h => h) (Or.inl ⟨by rfl, ?_⟩) ?_ ?_
          rotate_left
          · intro w'
            go_simp
            with_reducible rfl
          rotate_left
          · simp only [Act.put, List.setIfInBounds_toArray, List.set_cons_zero, List.set_cons_succ, i64_w, i32_w]
            rfl
          refine pure_ (i := 2) (N := some 35) (v := ?_) (a' := ?_) #[true, true, true, false, false, false, false, false, false, false, false, false, false, false, false, false] rfl rfl (any_of HT_.out (by kernel_rfl)) (fun _ _ _ h => h) (Or.inl ⟨by rfl, ?_⟩) ?_ ?_
          rotate_left
          · intro w'
            go_simp
            with_reducible rfl
          rotate_left
          · simp only [Act.put, List.setIfInBounds_toArray, List.set_cons_zero, List.set_cons_succ, i64_w, i32_w]
            rfl
          refine pure_ (i := 3) (N := some 36) (v := ?_) (a' := ?_) #[true, true, true, true, false, false, false, false, false, false, false, false, false, false, false, false] rfl rfl (any_of HT_.out (by kernel_rfl)) (fun _ _ _ h => h) (Or.inl ⟨by rfl, ?_⟩) ?_ ?_
          rotate_left
          · intro w'
            go_simp
            with_reducible rfl
          rotate_left
          · simp only [Act.put, List.setIfInBounds_toArray, List.set_cons_zero, List.set_cons_succ, i64_w, i32_w]
            rfl
          refine pure_ (i := 4) (N := some 37) (v := ?_) (a' := ?_) #[true, true, true, true, true, false, false, false, false, false, false, false, false, false, false, false] rfl rfl (any_of HT_.out (by kernel_rfl)) (fun _ _ _ h => h) (Or.inl ⟨by rfl, ?_⟩) ?_ ?_
          rotate_left
          · intro w'
            go_simp
            with_reducible rfl
          rotate_left
          · simp only [Act.put, List.setIfInBounds_toArray, List.set_cons_zero, List.set_cons_succ, i64_w, i32_w]
            rfl
          refine pure_ (i := 6) (N := some 39) (v := ?_) (a' := ?_) #[true, true, true, true, true, false, true, false, false, false, false, false, false, false, false, false] rfl rfl (any_of HT_.out (by kernel_rfl)) (fun _ _ _ h => h) (Or.inl ⟨by rfl, ?_⟩) ?_ ?_
          rotate_left
          · intro w'
            go_simp
            with_reducible rfl
          rotate_left
          · simp only [Act.put, List.setIfInBounds_toArray, List.set_cons_zero, List.set_cons_succ, i64_w, i32_w]
            rfl
          refine pure_ (i := 7) (N := some 40) (v := ?_) (a' := ?_) #[true, true, true, true, true, false, true, true, false, false, false, false, false, false, false, false] rfl rfl (any_of HT_.out (by kernel_rfl)) (fun _ _ _ h => h) (Or.inl ⟨by rfl, ?_⟩) ?_ ?_
          rotate_left
          · intro w'
            go_simp
            with_reducible rfl
          rotate_left
          · simp only [Act.put, List.setIfInBounds_toArray, List.set_cons_zero, List.set_cons_succ, i64_w, i32_w]
            rfl
          refine pure_ (i := 8) (N := some 41) (v := ?_) (a' := ?_) #[true, true, true, true, true, false, true, true, true, false, false, false, false, false, false, false] rfl rfl (any_of HT_.out (by kernel_rfl)) (fun _ _ _ h => h) (Or.inl ⟨by rfl, ?_⟩) ?_ ?_
          rotate_left
          · intro w'
            go_simp
            with_reducible rfl
          rotate_left
          · simp only [Act.put, List.setIfInBounds_toArray, List.set_cons_zero, List.set_cons_succ, i64_w, i32_w]
            rfl
          refine pure_ (i := 9) (N := some 42) (v := ?_) (a' := ?_) #[true, true, true, true, true, false, true, true, true, true, false, false, false, false, false, false] rfl rfl (any_of HT_.out (by kernel_rfl)) (fun _ _ _ h => h) (Or.inl ⟨by rfl, ?_⟩) ?_ ?_
          rotate_left
          · intro w'
            go_simp
            with_reducible rfl
          rotate_left
          · simp only [Act.put, List.setIfInBounds_toArray, List.set_cons_zero, List.set_cons_succ, i64_w, i32_w]
            rfl
          refine pure_ (i := 10) (N := some 43) (v := ?_) (a' := ?_) #[true, true, true, true, true, false, true, true, true, true, true, false, false, false, false, false] rfl rfl (any_of HT_.out (by kernel_rfl)) (fun _ _ _ h => h) (Or.inl ⟨by rfl, ?_⟩) ?_ ?_
          rotate_left
          · intro w'
            go_simp
            with_reducible rfl
          rotate_left
          · simp only [Act.put, List.setIfInBounds_toArray, List.set_cons_zero, List.set_cons_succ, i64_w, i32_w]
            rfl
          refine pure_ (i := 11) (N := some 44) (v := ?_) (a' := ?_) #[true, true, true, true, true, false, true, true, true, true, true, true, false, false, false, false] rfl rfl (any_of HT_.out (by kernel_rfl)) (fun _ _ _ h => h) (Or.inl ⟨by rfl, ?_⟩) ?_ ?_
          rotate_left
          · intro w'
            go_simp
            with_reducible rfl
          rotate_left
          · simp only [Act.put, List.setIfInBounds_toArray, List.set_cons_zero, List.set_cons_succ, i64_w, i32_w]
            rfl
          refine pure_ (i := 12) (N := some 45) (v := ?_) (a' := ?_) #[true, true, true, true, true, false, true, true, true, true, true, true, true, false, false, false] rfl rfl (any_of HT_.out (by kernel_rfl)) (fun _ _ _ h => h) (Or.inl ⟨by rfl, ?_⟩) ?_ ?_
          rotate_left
          · intro w'
            go_simp
            with_reducible rfl
          rotate_left
          · simp only [Act.put, List.setIfInBounds_toArray, List.set_cons_zero, List.set_cons_succ, i64_w, i32_w]
            rfl
          refine one_ (i := 5) (N := some 38) #[true, true, true, true, true, true, true, true, true, true, true, true, true, false, false, false] rfl rfl (one_of HT_.out (by kernel_rfl)) (by decide) (fun K hK => ?_)
          refine goes_ Tryd.func77 (by kernel_rfl) rfl #[.string a1, .string a2, .int .i64 6, .int .i64 (a3.size : Int)] (by rfl) rfl rfl (by (try simp only [List.map_toArray, List.map_cons, List.map_nil]); first | done | rfl) ?_
          with_reducible refine (sum_Pseudo.calls a1 a2 6 (a3.size : Int) ps _ HP.out).mono ?_
          rintro e w6 ⟨rfl, hb⟩
          refine ⟨_, rfl, ?_⟩
          have n0_ := Aside0.mk (below_step (by repeat (first | (with_reducible first | exact HC.out | apply below_alloc | apply pw_below_drewN | apply below_drew1) | exact HC.out)) hb)
          clear HC
          have HC := n0_
          clear n0_ hb
          refine hK.out _ _ trivial (fun hHeld => ?_)
          clear hK K
          refine norm_ (a' := ?_) ?_ ?_
          rotate_left
          · show Act.put _ (some 38) _ = _
            simp only [Act.put, List.setIfInBounds_toArray, List.set_cons_zero, List.set_cons_succ, i64_w, i32_w]
            rfl
          obtain ⟨y, hy⟩ : ∃ y : List ByteArray, y = [ps, a3.extract 0 16, (⟨#[0, 0]⟩ : ByteArray), a3.extract (16 + 2) a3.size] := ⟨_, rfl⟩
          rw [← hy] at HN
          have NY := Aside0.mk hy
          clear hy
          refine one_ (i := 13) (N := some 46) #[true, true, true, true, true, true, true, true, true, true, true, true, true, true, false, false] rfl rfl (one_of HT_.out (by kernel_rfl)) (by decide) (fun K hK => ?_)
          refine Kd.R_lit_step Kd.string _ 9 ?hg (N := 46) ?hd (xs := ([ps, a3.extract 0 16, (⟨#[0, 0]⟩ : ByteArray), a3.extract (16 + 2) a3.size] : List ByteArray)) (inner := [.string ps, .string (a3.extract 0 16), .string (⟨#[0, 0]⟩ : ByteArray), .string (a3.extract (16 + 2) a3.size)]) (ok := fun _ => True) (okp := fun _ => True) ?hr ?hp (fun _ hk => hk) trivial (Below.refl _ _) (Nat.le_refl _) (by simp) ?_; (case hd => rfl); (case hg => rfl); (case hr => first | (go_simp; done) | (go_simp; rfl)); (case hp => exact (Reps.one (show Kd.M Kd.string _ _ _ ps [.string ps] from rfl) (Reps.one (show Kd.M Kd.string _ _ _ (a3.extract 0 16) [.string (a3.extract 0 16)] from rfl) (Reps.one (show Kd.M Kd.string _ _ _ (⟨#[0, 0]⟩ : ByteArray) [.string (⟨#[0, 0]⟩ : ByteArray)] from rfl) (Reps.one (show Kd.M Kd.string _ _ _ (a3.extract (16 + 2) a3.size) [.string (a3.extract (16 + 2) a3.size)] from rfl) (Reps.none _ _))))))
          intro v47 w7 ho hb hg_ hnew_
          clear hg_ hnew_
          (first | rw [← NY.out] at ho | (simp only [Int.reduceToNat] at ho; rw [← NY.out] at ho))
          have HO := Aside0.mk (Kd.R_lower ho (below_size (by repeat (first | (with_reducible first | exact HC.out | apply below_alloc | apply pw_below_drewN | apply below_drew1) | exact HC.out))))
          have n0_ := Aside0.mk (below_step (by repeat (first | (with_reducible first | exact HC.out | apply below_alloc | apply pw_below_drewN | apply below_drew1) | exact HC.out)) hb)
          clear HC
          have HC := n0_
          clear n0_ hb
          clear ho
          obtain ⟨Ao, co, eo⟩ := Kd.R_slice HO.out
          (first | subst eo | (injection eo with f1_ f2_ f3_; have f4_ := f1_.symm; have f5_ := f3_.symm; clear f1_ f2_ f3_; subst f4_; subst f5_))
          refine hK.out _ _ trivial (fun hHeld => ?_)
          clear hK K
          refine norm_ (a' := ?_) ?_ ?_
          rotate_left
          · show Act.put _ (some 46) _ = _
            simp only [Act.put, List.setIfInBounds_toArray, List.set_cons_zero, List.set_cons_succ, i64_w, i32_w]
            rfl
          refine one_ (i := 14) (N := some 47) #[true, true, true, true, true, true, true, true, true, true, true, true, true, true, true, false] rfl rfl (one_of HT_.out (by kernel_rfl)) (by decide) (fun K hK => ?_)
          refine goes_ Tryd.func60 (by kernel_rfl) rfl #[.slice Ao y.length co] (by rfl) rfl rfl (by (try simp only [List.map_toArray, List.map_cons, List.map_nil]); first | done | rfl) ?_
          with_reducible refine (sum_Sum.calls _ _ y n _ ?side1 ?side2 HN.out).mono ?_
          (case side1 => repeat (first | exact (Kd.R_reads' HO.out).2.2 | (with_reducible refine Kd.C_alloc ?_ _) | (with_reducible refine Kd.C_drewN ?_ _) | (with_reducible refine Kd.C_drew ?_)))
          (case side2 => exact (Kd.R_reads' HO.out).2.1)
          rintro e w8 ⟨rfl, hb⟩
          refine ⟨_, rfl, ?_⟩
          clear HO
          have n0_ := Aside0.mk (below_step (by repeat (first | (with_reducible first | exact HC.out | apply below_alloc | apply pw_below_drewN | apply below_drew1) | exact HC.out)) hb)
          clear HC
          have HC := n0_
          clear n0_ hb
          refine hK.out _ _ trivial (fun hHeld => ?_)
          clear hK K
          refine norm_ (a' := ?_) ?_ ?_
          rotate_left
          · show Act.put _ (some 47) _ = _
            simp only [Act.put, List.setIfInBounds_toArray, List.set_cons_zero, List.set_cons_succ, i64_w, i32_w]
            rfl
          refine pure_ (i := 15) (N := some 12) (v := ?_) (a' := ?_) #[true, true, true, true, true, true, true, true, true, true, true, true, true, true, true, true] rfl rfl (any_of HT_.out (by kernel_rfl)) (fun _ _ _ h => h) (Or.inl ⟨by rfl, ?_⟩) ?_ ?_
          rotate_left
          · intro w'
            go_simp
            with_reducible rfl
          rotate_left
          · simp only [Act.put, List.setIfInBounds_toArray, List.set_cons_zero, List.set_cons_succ, i64_w, i32_w]
            rfl
          refine done_ (done_of HT_.out (by kernel_rfl)) ?_
          by_cases hn0 : n = 0
          · as_aux_lemma =>
            have e1 : (n == 0) = true := beq_iff_eq.mpr hn0
            have e2 : sealNo 6 n = n := by unfold sealNo; rw [if_neg (fun h => absurd h.2 (by decide))]
            clear hn0
            go_wp2_with fail
            have HW := Aside0.mk (SW.start (w1 := _) (by repeat (first | (with_reducible first | exact HC.out | apply below_alloc | apply pw_below_drewN | apply below_drew1) | exact HC.out)) (Below.size (by repeat (first | (with_reducible first | exact HC.out | apply below_alloc | apply pw_below_drewN | apply below_drew1) | exact HC.out))))
            refine (Writer_Text.calls _ _ _ _ HW.out.1 (by have := HS.out; simp [ByteArray.size_extract]; omega)).mono ?_
            rintro e w9 ⟨rfl, g1, g2⟩
            replace HW := Aside0.mk (HW.out.next g1 g2)
            clear g1 g2
            go_wp2_with fail
            refine (Writer_U16.calls _ _ _ _ HW.out.1 (by have := HS.out; simp [ByteArray.size_extract, bl_length]; omega)).mono ?_
            rintro e w10 ⟨rfl, g1, g2⟩
            replace HW := Aside0.mk (HW.out.next g1 g2)
            clear g1 g2
            go_wp2_with fail
            refine (Writer_Text.calls _ _ _ _ HW.out.1 (by have := HS.out; simp [ByteArray.size_extract, bl_length, nb_length]; omega)).mono ?_
            rintro e w11 ⟨rfl, g1, g2⟩
            replace HW := Aside0.mk (HW.out.next g1 g2)
            clear g1 g2
            go_wp2_with fail
            refine (Writer_String.calls _ _ _ HW.out.1).mono ?_
            rintro e w12 ⟨rfl, g1, g2⟩
            replace HW := Aside0.mk (HW.out.next g1 g2)
            clear g1 g2
            go_wp2
            go_ret
            exact ⟨by rw [e2]; first | rfl | (simp [sealBytes, u64n]; done), HW.out.2.1⟩
          · as_aux_lemma =>
            have e1 : (n == 0) = false := beq_eq_false_iff_ne.mpr hn0
            have e2 : sealNo 6 n = n := by unfold sealNo; rw [if_neg (fun h => absurd h.2 (by decide))]
            clear hn0
            go_wp2_with fail
            have HW := Aside0.mk (SW.start (w1 := _) (by repeat (first | (with_reducible first | exact HC.out | apply below_alloc | apply pw_below_drewN | apply below_drew1) | exact HC.out)) (Below.size (by repeat (first | (with_reducible first | exact HC.out | apply below_alloc | apply pw_below_drewN | apply below_drew1) | exact HC.out))))
            refine (Writer_Text.calls _ _ _ _ HW.out.1 (by have := HS.out; simp [ByteArray.size_extract]; omega)).mono ?_
            rintro e w9 ⟨rfl, g1, g2⟩
            replace HW := Aside0.mk (HW.out.next g1 g2)
            clear g1 g2
            go_wp2_with fail
            refine (Writer_U16.calls _ _ _ _ HW.out.1 (by have := HS.out; simp [ByteArray.size_extract, bl_length]; omega)).mono ?_
            rintro e w10 ⟨rfl, g1, g2⟩
            replace HW := Aside0.mk (HW.out.next g1 g2)
            clear g1 g2
            go_wp2_with fail
            refine (Writer_Text.calls _ _ _ _ HW.out.1 (by have := HS.out; simp [ByteArray.size_extract, bl_length, nb_length]; omega)).mono ?_
            rintro e w11 ⟨rfl, g1, g2⟩
            replace HW := Aside0.mk (HW.out.next g1 g2)
            clear g1 g2
            go_wp2_with fail
            refine (Writer_String.calls _ _ _ HW.out.1).mono ?_
            rintro e w12 ⟨rfl, g1, g2⟩
            replace HW := Aside0.mk (HW.out.next g1 g2)
            clear g1 g2
            go_wp2
            go_ret
            exact ⟨by rw [e2]; first | rfl | (simp [sealBytes, u64n]; done), HW.out.2.1⟩
        · as_aux_lemma =>
          have d1 : ((6 : Int) != 6) = false := rfl
          have d2 : decide ((a3.size : Int) < 20) = true := decide_eq_true (by omega)
          have d3 : decide (a3.size < 20) = true := decide_eq_true (by omega)
          have HX := Aside0.mk hl
          clear hl
          go_wp2
          go_roundg 1
          case measure => have := HI.out; omega
          case rel => exact ⟨1, by first | rfl | (simp; done) | (unfold wrap64; simp; done), ⟨by omega⟩, ⟨fun _ h => HX.out h.2⟩, ⟨fun h => by omega⟩, ⟨HB.out.alloc (by have := HB.out.size; have := HK.out; omega) _⟩⟩
      · as_aux_lemma =>
        have d1 : (a0 != 6) = true := bne_iff_ne.mpr hp
        have HX := Aside0.mk hp
        clear hp
        go_wp2
        go_roundg 1
        case measure => have := HI.out; omega
        case rel => exact ⟨1, by first | rfl | (simp; done) | (unfold wrap64; simp; done), ⟨by omega⟩, ⟨fun _ h => HX.out h.1⟩, ⟨fun h => by omega⟩, ⟨HB.out.alloc (by have := HB.out.size; have := HK.out; omega) _⟩⟩
    · have ix := pl_ix1
      obtain ⟨_, g4, g5⟩ := (HGr.out.below ((Below.refl wr.heap.size wr).alloc (Nat.le_refl _) (.cells #[.int .i64 17, .int .i64 6] 134))).cells
      by_cases hp : a0 = 17
      · subst hp
        by_cases hl : 8 ≤ a3.size
        · as_aux_lemma =>
          have d1 : (17 != 17) = false := rfl
          have hr : seal_with 17 a1 a2 a3 6 = some r := by
            have := HV.out; rw [show sealAt 17 a3.size = 6 by unfold sealAt; split <;> (try split) <;> omega, if_neg (by decide)] at this; exact this
          clear HV
          obtain ⟨ps, hps, hr⟩ := Option.bind_eq_some_iff.1 hr
          obtain ⟨n, hn, hr⟩ := Option.bind_eq_some_iff.1 hr
          obtain rfl := Option.some.inj hr
          clear hr
          have HP := Aside0.mk hps
          have HN := Aside0.mk hn
          have HL := Aside0.mk (show 8 ≤ a3.size from by omega)
          have d2 : decide ((a3.size : Int) < 8) = false := decide_eq_false (by have := HL.out; omega)
          have d3 : decide (a3.size < 8) = false := decide_eq_false (by have := HL.out; omega)
          clear hps hn
          go_upto_region 6 with (fail)
          clear ix g4 g5 d1 d2 d3
          have HC := Aside0.mk (HB.out.alloc (by have := HB.out.size; have := HK.out; omega) (.cells #[.int .i64 17, .int .i64 6] 134))
          rw [← HK.out] at HC
          have s1 : ((6 : Int) ≤ (a3.size : Int)) = True := eq_true (by have := HL.out; omega)
          have s2 : (6 ≤ a3.size) = True := eq_true (by have := HL.out; omega)
          have s3 : ((8 : Int) ≤ (a3.size : Int)) = True := eq_true (by have := HL.out; omega)
          have s4 : (8 ≤ a3.size) = True := eq_true (by have := HL.out; omega)
          have z1 : wrap64 (6 + 2) = 8 := by decide +kernel
          have z2 : IntKind.i64.wrap (6 + 2) = 8 := by decide +kernel
          have z3 : wrap64 8 = 8 := by decide +kernel
          have z4 : IntKind.i64.wrap 8 = 8 := by decide +kernel
          generalize wr.alloc (.cells #[.int .i64 17, .int .i64 6] 134) = w4 at HC ⊢
          replace HC := Aside0.mk (below_drew1 HC.out)
          refine start_ (n := 16) (S := fun w' => True) (ds := []) #[false, false, false, false, false, false, false, false, false, false, false, false, false, false, false, false] (by kernel_rfl) rfl rfl trivial (fun hHeld => ?_); refine with_tabW flow_Seal.tab6 flow_Seal.bits6 (fun HT_ HW_ => ?_)
          generalize w4.drew = w5 at HC hHeld ⊢
          refine pure_ (i := 0) (N := some 33) (v := ?_) (a' := ?_) #[true, false, false, false, false, false, false, false, false, false, false, false, false, false, false, false] rfl rfl (any_of HT_.out (by kernel_rfl)) (fun _ _ _ h => h) (Or.inl ⟨by rfl, ?_⟩) ?_ ?_
          rotate_left
          · intro w'
            go_simp
            with_reducible rfl
          rotate_left
          · simp only [Act.put, List.setIfInBounds_toArray, List.set_cons_zero, List.set_cons_succ, i64_w, i32_w]
            rfl
          refine pure_ (i := 1) (N := some 34) (v := ?_) (a' := ?_) #[true, true, false, false, false, false, false, false, false, false, false, false, false, false, false, false] rfl rfl (any_of HT_.out (by kernel_rfl)) (fun _ _ _ h => h) (Or.inl ⟨by rfl, ?_⟩) ?_ ?_
          rotate_left
          · intro w'
            go_simp
            with_reducible rfl
          rotate_left
          · simp only [Act.put, List.setIfInBounds_toArray, List.set_cons_zero, List.set_cons_succ, i64_w, i32_w]
            rfl
          refine pure_ (i := 2) (N := some 35) (v := ?_) (a' := ?_) #[true, true, true, false, false, false, false, false, false, false, false, false, false, false, false, false] rfl rfl (any_of HT_.out (by kernel_rfl)) (fun _ _ _ h => h) (Or.inl ⟨by rfl, ?_⟩) ?_ ?_
          rotate_left
          · intro w'
            go_simp
            with_reducible rfl
          rotate_left
          · simp only [Act.put, List.setIfInBounds_toArray, List.set_cons_zero, List.set_cons_succ, i64_w, i32_w]
            rfl
          refine pure_ (i := 3) (N := some 36) (v := ?_) (a' := ?_) #[true, true, true, true, false, false, false, false, false, false, false, false, false, false, false, false] rfl rfl (any_of HT_.out (by kernel_rfl)) (fun _ _ _ h => h) (Or.inl ⟨by rfl, ?_⟩) ?_ ?_
          rotate_left
          · intro w'
            go_simp
            with_reducible rfl
          rotate_left
          · simp only [Act.put, List.setIfInBounds_toArray, List.set_cons_zero, List.set_cons_succ, i64_w, i32_w]
            rfl
          refine pure_ (i := 4) (N := some 37) (v := ?_) (a' := ?_) #[true, true, true, true, true, false, false, false, false, false, false, false, false, false, false, false] rfl rfl (any_of HT_.out (by kernel_rfl)) (fun _ _ _ h => h) (Or.inl ⟨by rfl, ?_⟩) ?_ ?_
          rotate_left
          · intro w'
            go_simp
            with_reducible rfl
          rotate_left
          · simp only [Act.put, List.setIfInBounds_toArray, List.set_cons_zero, List.set_cons_succ, i64_w, i32_w]
            rfl
          refine pure_ (i := 6) (N := some 39) (v := ?_) (a' := ?_) #[true, true, true, true, true, false, true, false, false, false, false, false, false, false, false, false] rfl rfl (any_of HT_.out (by kernel_rfl)) (fun _ _ _ h => h) (Or.inl ⟨by rfl, ?_⟩) ?_ ?_
          rotate_left
          · intro w'
            go_simp
            with_reducible rfl
          rotate_left
          · simp only [Act.put, List.setIfInBounds_toArray, List.set_cons_zero, List.set_cons_succ, i64_w, i32_w]
            rfl
          refine pure_ (i := 7) (N := some 40) (v := ?_) (a' := ?_) #[true, true, true, true, true, false, true, true, false, false, false, false, false, false, false, false] rfl rfl (any_of HT_.out (by kernel_rfl)) (fun _ _ _ h => h) (Or.inl ⟨by rfl, ?_⟩) ?_ ?_
          rotate_left
          · intro w'
            go_simp
            with_reducible rfl
          rotate_left
          · simp only [Act.put, List.setIfInBounds_toArray, List.set_cons_zero, List.set_cons_succ, i64_w, i32_w]
            rfl
          refine pure_ (i := 8) (N := some 41) (v := ?_) (a' := ?_) #[true, true, true, true, true, false, true, true, true, false, false, false, false, false, false, false] rfl rfl (any_of HT_.out (by kernel_rfl)) (fun _ _ _ h => h) (Or.inl ⟨by rfl, ?_⟩) ?_ ?_
          rotate_left
          · intro w'
            go_simp
            with_reducible rfl
          rotate_left
          · simp only [Act.put, List.setIfInBounds_toArray, List.set_cons_zero, List.set_cons_succ, i64_w, i32_w]
            rfl
          refine pure_ (i := 9) (N := some 42) (v := ?_) (a' := ?_) #[true, true, true, true, true, false, true, true, true, true, false, false, false, false, false, false] rfl rfl (any_of HT_.out (by kernel_rfl)) (fun _ _ _ h => h) (Or.inl ⟨by rfl, ?_⟩) ?_ ?_
          rotate_left
          · intro w'
            go_simp
            with_reducible rfl
          rotate_left
          · simp only [Act.put, List.setIfInBounds_toArray, List.set_cons_zero, List.set_cons_succ, i64_w, i32_w]
            rfl
          refine pure_ (i := 10) (N := some 43) (v := ?_) (a' := ?_) #[true, true, true, true, true, false, true, true, true, true, true, false, false, false, false, false] rfl rfl (any_of HT_.out (by kernel_rfl)) (fun _ _ _ h => h) (Or.inl ⟨by rfl, ?_⟩) ?_ ?_
          rotate_left
          · intro w'
            go_simp
            with_reducible rfl
          rotate_left
          · simp only [Act.put, List.setIfInBounds_toArray, List.set_cons_zero, List.set_cons_succ, i64_w, i32_w]
            rfl
          refine pure_ (i := 11) (N := some 44) (v := ?_) (a' := ?_) #[true, true, true, true, true, false, true, true, true, true, true, true, false, false, false, false] rfl rfl (any_of HT_.out (by kernel_rfl)) (fun _ _ _ h => h) (Or.inl ⟨by rfl, ?_⟩) ?_ ?_
          rotate_left
          · intro w'
            go_simp
            with_reducible rfl
          rotate_left
          · simp only [Act.put, List.setIfInBounds_toArray, List.set_cons_zero, List.set_cons_succ, i64_w, i32_w]
            rfl
          refine pure_ (i := 12) (N := some 45) (v := ?_) (a' := ?_) #[true, true, true, true, true, false, true, true, true, true, true, true, true, false, false, false] rfl rfl (any_of HT_.out (by kernel_rfl)) (fun _ _ _ h => h) (Or.inl ⟨by rfl, ?_⟩) ?_ ?_
          rotate_left
          · intro w'
            go_simp
            with_reducible rfl
          rotate_left
          · simp only [Act.put, List.setIfInBounds_toArray, List.set_cons_zero, List.set_cons_succ, i64_w, i32_w]
            rfl
          refine one_ (i := 5) (N := some 38) #[true, true, true, true, true, true, true, true, true, true, true, true, true, false, false, false] rfl rfl (one_of HT_.out (by kernel_rfl)) (by decide) (fun K hK => ?_)
          refine goes_ Tryd.func77 (by kernel_rfl) rfl #[.string a1, .string a2, .int .i64 17, .int .i64 (a3.size : Int)] (by rfl) rfl rfl (by (try simp only [List.map_toArray, List.map_cons, List.map_nil]); first | done | rfl) ?_
          with_reducible refine (sum_Pseudo.calls a1 a2 17 (a3.size : Int) ps _ HP.out).mono ?_
          rintro e w6 ⟨rfl, hb⟩
          refine ⟨_, rfl, ?_⟩
          have n0_ := Aside0.mk (below_step (by repeat (first | (with_reducible first | exact HC.out | apply below_alloc | apply pw_below_drewN | apply below_drew1) | exact HC.out)) hb)
          clear HC
          have HC := n0_
          clear n0_ hb
          refine hK.out _ _ trivial (fun hHeld => ?_)
          clear hK K
          refine norm_ (a' := ?_) ?_ ?_
          rotate_left
          · show Act.put _ (some 38) _ = _
            simp only [Act.put, List.setIfInBounds_toArray, List.set_cons_zero, List.set_cons_succ, i64_w, i32_w]
            rfl
          obtain ⟨y, hy⟩ : ∃ y : List ByteArray, y = [ps, a3.extract 0 6, (⟨#[0, 0]⟩ : ByteArray), a3.extract (6 + 2) a3.size] := ⟨_, rfl⟩
          rw [← hy] at HN
          have NY := Aside0.mk hy
          clear hy
          refine one_ (i := 13) (N := some 46) #[true, true, true, true, true, true, true, true, true, true, true, true, true, true, false, false] rfl rfl (one_of HT_.out (by kernel_rfl)) (by decide) (fun K hK => ?_)
          refine Kd.R_lit_step Kd.string _ 9 ?hg (N := 46) ?hd (xs := ([ps, a3.extract 0 6, (⟨#[0, 0]⟩ : ByteArray), a3.extract (6 + 2) a3.size] : List ByteArray)) (inner := [.string ps, .string (a3.extract 0 6), .string (⟨#[0, 0]⟩ : ByteArray), .string (a3.extract (6 + 2) a3.size)]) (ok := fun _ => True) (okp := fun _ => True) ?hr ?hp (fun _ hk => hk) trivial (Below.refl _ _) (Nat.le_refl _) (by simp) ?_; (case hd => rfl); (case hg => rfl); (case hr => first | (go_simp; done) | (go_simp; rfl)); (case hp => exact (Reps.one (show Kd.M Kd.string _ _ _ ps [.string ps] from rfl) (Reps.one (show Kd.M Kd.string _ _ _ (a3.extract 0 6) [.string (a3.extract 0 6)] from rfl) (Reps.one (show Kd.M Kd.string _ _ _ (⟨#[0, 0]⟩ : ByteArray) [.string (⟨#[0, 0]⟩ : ByteArray)] from rfl) (Reps.one (show Kd.M Kd.string _ _ _ (a3.extract (6 + 2) a3.size) [.string (a3.extract (6 + 2) a3.size)] from rfl) (Reps.none _ _))))))
          intro v47 w7 ho hb hg_ hnew_
          clear hg_ hnew_
          (first | rw [← NY.out] at ho | (simp only [Int.reduceToNat] at ho; rw [← NY.out] at ho))
          have HO := Aside0.mk (Kd.R_lower ho (below_size (by repeat (first | (with_reducible first | exact HC.out | apply below_alloc | apply pw_below_drewN | apply below_drew1) | exact HC.out))))
          have n0_ := Aside0.mk (below_step (by repeat (first | (with_reducible first | exact HC.out | apply below_alloc | apply pw_below_drewN | apply below_drew1) | exact HC.out)) hb)
          clear HC
          have HC := n0_
          clear n0_ hb
          clear ho
          obtain ⟨Ao, co, eo⟩ := Kd.R_slice HO.out
          (first | subst eo | (injection eo with f1_ f2_ f3_; have f4_ := f1_.symm; have f5_ := f3_.symm; clear f1_ f2_ f3_; subst f4_; subst f5_))
          refine hK.out _ _ trivial (fun hHeld => ?_)
          clear hK K
          refine norm_ (a' := ?_) ?_ ?_
          rotate_left
          · show Act.put _ (some 46) _ = _
            simp only [Act.put, List.setIfInBounds_toArray, List.set_cons_zero, List.set_cons_succ, i64_w, i32_w]
            rfl
          refine one_ (i := 14) (N := some 47) #[true, true, true, true, true, true, true, true, true, true, true, true, true, true, true, false] rfl rfl (one_of HT_.out (by kernel_rfl)) (by decide) (fun K hK => ?_)
          refine goes_ Tryd.func60 (by kernel_rfl) rfl #[.slice Ao y.length co] (by rfl) rfl rfl (by (try simp only [List.map_toArray, List.map_cons, List.map_nil]); first | done | rfl) ?_
          with_reducible refine (sum_Sum.calls _ _ y n _ ?side1 ?side2 HN.out).mono ?_
          (case side1 => repeat (first | exact (Kd.R_reads' HO.out).2.2 | (with_reducible refine Kd.C_alloc ?_ _) | (with_reducible refine Kd.C_drewN ?_ _) | (with_reducible refine Kd.C_drew ?_)))
          (case side2 => exact (Kd.R_reads' HO.out).2.1)
          rintro e w8 ⟨rfl, hb⟩
          refine ⟨_, rfl, ?_⟩
          clear HO
          have n0_ := Aside0.mk (below_step (by repeat (first | (with_reducible first | exact HC.out | apply below_alloc | apply pw_below_drewN | apply below_drew1) | exact HC.out)) hb)
          clear HC
          have HC := n0_
          clear n0_ hb
          refine hK.out _ _ trivial (fun hHeld => ?_)
          clear hK K
          refine norm_ (a' := ?_) ?_ ?_
          rotate_left
          · show Act.put _ (some 47) _ = _
            simp only [Act.put, List.setIfInBounds_toArray, List.set_cons_zero, List.set_cons_succ, i64_w, i32_w]
            rfl
          refine pure_ (i := 15) (N := some 12) (v := ?_) (a' := ?_) #[true, true, true, true, true, true, true, true, true, true, true, true, true, true, true, true] rfl rfl (any_of HT_.out (by kernel_rfl)) (fun _ _ _ h => h) (Or.inl ⟨by rfl, ?_⟩) ?_ ?_
          rotate_left
          · intro w'
            go_simp
            with_reducible rfl
          rotate_left
          · simp only [Act.put, List.setIfInBounds_toArray, List.set_cons_zero, List.set_cons_succ, i64_w, i32_w]
            rfl
          refine done_ (done_of HT_.out (by kernel_rfl)) ?_
          by_cases hn0 : n = 0
          · as_aux_lemma =>
            have e1 : (n == 0) = true := beq_iff_eq.mpr hn0
            have e2 : sealNo 17 n = 65535 := by unfold sealNo; rw [if_pos ⟨hn0, rfl⟩]
            clear hn0
            go_wp2_with fail
            have HW := Aside0.mk (SW.start (w1 := _) (by repeat (first | (with_reducible first | exact HC.out | apply below_alloc | apply pw_below_drewN | apply below_drew1) | exact HC.out)) (Below.size (by repeat (first | (with_reducible first | exact HC.out | apply below_alloc | apply pw_below_drewN | apply below_drew1) | exact HC.out))))
            refine (Writer_Text.calls _ _ _ _ HW.out.1 (by have := HS.out; simp [ByteArray.size_extract]; omega)).mono ?_
            rintro e w9 ⟨rfl, g1, g2⟩
            replace HW := Aside0.mk (HW.out.next g1 g2)
            clear g1 g2
            go_wp2_with fail
            refine (Writer_U16.calls _ _ _ _ HW.out.1 (by have := HS.out; simp [ByteArray.size_extract, bl_length]; omega)).mono ?_
            rintro e w10 ⟨rfl, g1, g2⟩
            replace HW := Aside0.mk (HW.out.next g1 g2)
            clear g1 g2
            go_wp2_with fail
            refine (Writer_Text.calls _ _ _ _ HW.out.1 (by have := HS.out; simp [ByteArray.size_extract, bl_length, nb_length]; omega)).mono ?_
            rintro e w11 ⟨rfl, g1, g2⟩
            replace HW := Aside0.mk (HW.out.next g1 g2)
            clear g1 g2
            go_wp2_with fail
            refine (Writer_String.calls _ _ _ HW.out.1).mono ?_
            rintro e w12 ⟨rfl, g1, g2⟩
            replace HW := Aside0.mk (HW.out.next g1 g2)
            clear g1 g2
            go_wp2
            go_ret
            exact ⟨by rw [e2]; first | rfl | (simp [sealBytes, u64n]; done), HW.out.2.1⟩
          · as_aux_lemma =>
            have e1 : (n == 0) = false := beq_eq_false_iff_ne.mpr hn0
            have e2 : sealNo 17 n = n := by unfold sealNo; rw [if_neg (fun h => hn0 h.1)]
            clear hn0
            go_wp2_with fail
            have HW := Aside0.mk (SW.start (w1 := _) (by repeat (first | (with_reducible first | exact HC.out | apply below_alloc | apply pw_below_drewN | apply below_drew1) | exact HC.out)) (Below.size (by repeat (first | (with_reducible first | exact HC.out | apply below_alloc | apply pw_below_drewN | apply below_drew1) | exact HC.out))))
            refine (Writer_Text.calls _ _ _ _ HW.out.1 (by have := HS.out; simp [ByteArray.size_extract]; omega)).mono ?_
            rintro e w9 ⟨rfl, g1, g2⟩
            replace HW := Aside0.mk (HW.out.next g1 g2)
            clear g1 g2
            go_wp2_with fail
            refine (Writer_U16.calls _ _ _ _ HW.out.1 (by have := HS.out; simp [ByteArray.size_extract, bl_length]; omega)).mono ?_
            rintro e w10 ⟨rfl, g1, g2⟩
            replace HW := Aside0.mk (HW.out.next g1 g2)
            clear g1 g2
            go_wp2_with fail
            refine (Writer_Text.calls _ _ _ _ HW.out.1 (by have := HS.out; simp [ByteArray.size_extract, bl_length, nb_length]; omega)).mono ?_
            rintro e w11 ⟨rfl, g1, g2⟩
            replace HW := Aside0.mk (HW.out.next g1 g2)
            clear g1 g2
            go_wp2_with fail
            refine (Writer_String.calls _ _ _ HW.out.1).mono ?_
            rintro e w12 ⟨rfl, g1, g2⟩
            replace HW := Aside0.mk (HW.out.next g1 g2)
            clear g1 g2
            go_wp2
            go_ret
            exact ⟨by rw [e2]; first | rfl | (simp [sealBytes, u64n]; done), HW.out.2.1⟩
        · as_aux_lemma =>
          have d1 : ((17 : Int) != 17) = false := rfl
          have d2 : decide ((a3.size : Int) < 8) = true := decide_eq_true (by omega)
          have d3 : decide (a3.size < 8) = true := decide_eq_true (by omega)
          have HX := Aside0.mk hl
          clear hl
          go_wp2
          go_roundg 0
          case measure => have := HI.out; omega
          case rel => exact ⟨2, by first | rfl | (simp; done) | (unfold wrap64; simp; done), ⟨by omega⟩, ⟨fun _ h => absurd h.1 (by decide)⟩, ⟨fun _ h => HX.out h.2⟩, ⟨HB.out.alloc (by have := HB.out.size; have := HK.out; omega) _⟩⟩
      · as_aux_lemma =>
        have d1 : (a0 != 17) = true := bne_iff_ne.mpr hp
        have HX := Aside0.mk hp
        clear hp
        go_wp2
        go_roundg 0
        case measure => have := HI.out; omega
        case rel => exact ⟨2, by first | rfl | (simp; done) | (unfold wrap64; simp; done), ⟨by omega⟩, ⟨fun _ => H0.out (by omega)⟩, ⟨fun _ h => HX.out h.1⟩, ⟨HB.out.alloc (by have := HB.out.size; have := HK.out; omega) _⟩⟩
    · as_aux_lemma =>
      have hr : some a3 = some r := by
        have := HV.out; rw [if_pos (by unfold sealAt; rw [if_neg (H0.out (by omega)), if_neg (H1.out (by omega))])] at this; exact this
      obtain rfl := Option.some.inj hr
      clear hr
      go_wp2
      go_ret
      exact ⟨rfl, by rw [HK.out]; exact HB.out⟩
end Go.Proofs.YtcmalglippmocaaDoor.G
end
