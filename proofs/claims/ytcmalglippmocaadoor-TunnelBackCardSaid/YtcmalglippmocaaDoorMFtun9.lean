/- Texts of this session, joined: each is a section. -/
import Derived.Test.YtcmalglippmocaaDoorMFtun2
import Derived.Test.YtcmalglippmocaaDoorMFtun4
import Derived.Recover
import Derived.Defers
import Derived.WideLaws
import Derived.Lib.Hide
import Derived.WalkLawsBesides
import Derived.Deep.RegionWith
set_option linter.unusedVariables false
set_option linter.unusedSimpArgs false
section
namespace Go.Proofs.YtcmalglippmocaaDoor.G
open Go.RowKit Go.Proofs.YtcmalglippmocaaDoorW.PrintWords Go.Proofs.YtcmalglippmocaaDoorW.PrintLast Go.Proofs.YtcmalglippmocaaDoorW.PrintMore Go.Proofs.YtcmalglippmocaaDoor.Pal

def okPairs (l : List (Int × Int)) : Prop := ∀ p ∈ l, 0 ≤ p.1 ∧ p.1 ≤ p.2
def oddPanic : Ending := .panicked [{ v := .iface 204 (.agg #[]), recovered := false }]

set_option maxHeartbeats 1000000 in
set_option maxRecDepth 100000 in
theorem within_yes (b c : Nat) (l : List (Int × Int)) (w : World) (hc : ∀ i p, l[i]? = some p → w.cell? ⟨b, i * 2, none⟩ = some (.int .i64 p.1) ∧ w.cell? ⟨b, i * 2 + 1, none⟩ = some (.int .i64 p.2)) (hb : b < w.heap.size) (hl : l.length ≤ 100) (h : okPairs l) :
    Calls Tryd.prog 140 #[.slice (some ⟨b, 0, none⟩) l.length c] w fun e w' => e = .returned (.tuple #[]) ∧ Below w.heap.size w w' := by
  have HC := Aside0.mk hc
  have HO := Aside0.mk h
  have HL := Aside0.mk hl
  have HZ := Aside0.mk hb
  clear hc h hl hb
  go_enter Tryd.func140, Tryd.ntmps140
  go_wp2
  go_loopg [6] l.length (fun kq v6 wr => ∃ i : Nat, v6 = .int .i64 (i : Int) ∧ Aside0 (i + kq = l.length) ∧ Aside0 (Below w.heap.size w wr))
  case atStart => exact ⟨0, rfl, ⟨by omega⟩, ⟨Below.refl _ _⟩⟩
  case round =>
    obtain ⟨i, rfl, HK, HI⟩ := hrel
    by_cases hlt : i < l.length
    · obtain ⟨p, hp⟩ : ∃ p, l[i]? = some p := ⟨_, List.getElem?_eq_getElem hlt⟩
      have g0 := (HC.out i p hp).1
      have g1 := (HC.out i p hp).2
      have hok := HO.out p (List.mem_of_getElem? hp)
      have e0 : wr.cell? ⟨b, i * 2, none⟩ = some (.int .i64 p.1) := (HI.out.cell (p := ⟨b, i * 2, none⟩) HZ.out).trans g0
      have e1 : wr.cell? ⟨b, i * 2 + 1, none⟩ = some (.int .i64 p.2) := (HI.out.cell (p := ⟨b, i * 2 + 1, none⟩) HZ.out).trans g1
      have q2 : ((i : Int) < (l.length : Int)) = True := eq_true (by omega)
      have q3 : (i < l.length) = True := eq_true hlt
      clear g0 g1
      go_wp2
      replace HI := Aside0.mk (HI.out.alloc HI.out.size (.cells #[.int .i64 p.1, .int .i64 p.2] 134))
      have hw : wrap64 ((i : Int) + 1) = ((i + 1 : Nat) : Int) := by have := HL.out; unfold wrap64; omega
      rw [hw]
      go_roundg (l.length - (i + 1))
      case measure => have := HK.out; omega
      case rel => exact ⟨i + 1, rfl, ⟨by omega⟩, HI⟩
    · go_wp2
      go_end0
      exact ⟨rfl, HI.out⟩

set_option maxHeartbeats 1000000 in
set_option maxRecDepth 100000 in
theorem within_no (b c : Nat) (l : List (Int × Int)) (w : World) (hc : ∀ i p, l[i]? = some p → w.cell? ⟨b, i * 2, none⟩ = some (.int .i64 p.1) ∧ w.cell? ⟨b, i * 2 + 1, none⟩ = some (.int .i64 p.2)) (hb : b < w.heap.size) (hl : l.length ≤ 100) (h : ¬ okPairs l) :
    Calls Tryd.prog 140 #[.slice (some ⟨b, 0, none⟩) l.length c] w fun e w' => e = oddPanic ∧ Below w.heap.size w w' := by
  have HC := Aside0.mk hc
  have HO := Aside0.mk h
  have HL := Aside0.mk hl
  have HZ := Aside0.mk hb
  clear hc h hl hb
  go_enter Tryd.func140, Tryd.ntmps140
  go_wp2
  go_loopg [6] l.length (fun kq v6 wr => ∃ i : Nat, v6 = .int .i64 (i : Int) ∧ Aside0 (i + kq = l.length) ∧ Aside0 (okPairs (l.take i)) ∧ Aside0 (Below w.heap.size w wr))
  case atStart => exact ⟨0, rfl, ⟨by omega⟩, ⟨fun p hp => absurd hp (by simp)⟩, ⟨Below.refl _ _⟩⟩
  case round =>
    obtain ⟨i, rfl, HK, HT, HI⟩ := hrel
    by_cases hlt : i < l.length
    · obtain ⟨p, hp⟩ : ∃ p, l[i]? = some p := ⟨_, List.getElem?_eq_getElem hlt⟩
      have g0 := (HC.out i p hp).1
      have g1 := (HC.out i p hp).2
      have e0 : wr.cell? ⟨b, i * 2, none⟩ = some (.int .i64 p.1) := (HI.out.cell (p := ⟨b, i * 2, none⟩) HZ.out).trans g0
      have e1 : wr.cell? ⟨b, i * 2 + 1, none⟩ = some (.int .i64 p.2) := (HI.out.cell (p := ⟨b, i * 2 + 1, none⟩) HZ.out).trans g1
      have q2 : ((i : Int) < (l.length : Int)) = True := eq_true (by omega)
      have q3 : (i < l.length) = True := eq_true hlt
      have HP := Aside0.mk hp
      clear g0 g1 hp
      replace HI := Aside0.mk (HI.out.alloc HI.out.size (.cells #[.int .i64 p.1, .int .i64 p.2] 134))
      by_cases c1 : p.1 < 0
      · have d1 : decide (p.1 < 0) = true := decide_eq_true c1
        clear c1
        go_wp2
        exact ⟨rfl, rfl, HI.out⟩
      have d1 : decide (p.1 < 0) = false := decide_eq_false c1
      by_cases c2 : p.2 < p.1
      · have d2 : decide (p.2 < p.1) = true := decide_eq_true c2
        clear c1 c2
        go_wp2
        exact ⟨rfl, rfl, HI.out⟩
      have d2 : decide (p.2 < p.1) = false := decide_eq_false c2
      have HT' : Aside0 (okPairs (l.take (i + 1))) := ⟨fun x hx => by
        rw [List.take_add_one, HP.out] at hx
        rcases List.mem_append.1 hx with hx | hx
        · exact HT.out x hx
        · obtain rfl : x = p := by simpa using hx
          omega⟩
      have hw : wrap64 ((i : Int) + 1) = ((i + 1 : Nat) : Int) := by have := HL.out; unfold wrap64; omega
      clear c1 c2
      go_wp2
      go_roundg (l.length - (i + 1))
      case measure => have := HK.out; omega
      case rel => exact ⟨i + 1, by rw [hw], ⟨by omega⟩, HT', HI⟩
    · exact absurd (by have := HT.out; rwa [List.take_of_length_le (by omega)] at this) HO.out

theorem odd_is (v : Value) (W : World) : (Instr.typeAssert (.iface 204 v) 20 204 true).run Tryd.prog W = .ok (.tuple #[v, .bool true]) W := by kernel_rfl
theorem odd_not (W : World) : (Instr.typeAssert .nilIface 20 204 true).run Tryd.prog W = .ok (.tuple #[.agg #[], .bool false]) W := by kernel_rfl

set_option maxHeartbeats 1000000 in
set_option maxRecDepth 100000 in
theorem Check1_caught (p : Nat) (w : World) (hc : ∃ x, w.cell? ⟨p, 0, none⟩ = some x) (hz : w.frozen? ⟨p, 0, none⟩ = false) (hp : p < w.heap.size) :
    CallsD Tryd.prog 139 #[.pointer (some ⟨p, 0, none⟩)] (.panicking [{ v := .iface 204 (.agg #[]), recovered := false }]) w fun e1 u' w' =>
      e1 = .returned (.tuple #[]) ∧ u' = .panicking [{ v := .iface 204 (.agg #[]), recovered := true }] ∧ w' = (w.setCell ⟨p, 0, none⟩ (.int .i64 1)).alloc (.cells #[] 204) := by
  have hta : ∀ (v : Value) (W : World), (Instr.typeAssert (.iface 204 v) 20 204 true).run Tryd.prog W = .ok (.tuple #[v, .bool true]) W := odd_is
  obtain ⟨x, hc⟩ := hc
  have hc2 : (w.alloc (.cells #[] 204)).cell? ⟨p, 0, none⟩ = some x := by rw [← hc]; simp [World.cell?, Below.heap_alloc _ _ _ hp]
  have hz2 : (w.alloc (.cells #[] 204)).frozen? ⟨p, 0, none⟩ = false := by rw [← hz]; simp [World.frozen?, Below.heap_alloc _ _ _ hp]
  refine callsD_of_wpS Tryd.func139 rfl fun c₀ cs hu => ?_
  simp only [Tryd.ntmps139, List.size_toArray, List.length_cons, List.length_nil, Nat.reduceAdd, Nat.reduceSub, Array.replicate_succ,
     Array.replicate_zero, List.push_toArray, List.append_toArray, List.nil_append, List.cons_append]
  apply wpS_seq
  apply wpS_region
  simp [wpOpsS, go_sem, recoverD, hu, Exit.thenS]
  apply wpS_of_wp
  go_wp2
  exact ⟨rfl, _, rfl, _, results_none rfl _ _ _, rfl, rfl, rfl⟩

set_option maxHeartbeats 1000000 in
set_option maxRecDepth 100000 in
theorem Check1_idle (p : Nat) (w : World) :
    CallsD Tryd.prog 139 #[.pointer (some ⟨p, 0, none⟩)] .returning w fun e1 u' w' => e1 = .returned (.tuple #[]) ∧ u' = .returning ∧ w' = w.alloc (.cells #[] 204) := by
  have hta : ∀ (W : World), (Instr.typeAssert .nilIface 20 204 true).run Tryd.prog W = .ok (.tuple #[.agg #[], .bool false]) W := odd_not
  refine callsD_of_wpS Tryd.func139 rfl fun c₀ cs hu => ?_
  simp only [Tryd.ntmps139, List.size_toArray, List.length_cons, List.length_nil, Nat.reduceAdd, Nat.reduceSub, Array.replicate_succ,
     Array.replicate_zero, List.push_toArray, List.append_toArray, List.nil_append, List.cons_append]
  apply wpS_seq
  apply wpS_region
  simp [wpOpsS, go_sem, recoverD, hu, Exit.thenS]
  apply wpS_of_wp
  go_wp2
  refine ⟨rfl, .returning, ?_, _, results_none rfl _ _ _, rfl, rfl, rfl⟩
  cases c₀
  simp_all

def ok4 (tos id off ttl proto : Int) (src dst opt : ByteArray) : Prop :=
  (0 ≤ tos ∧ tos ≤ 255) ∧ (0 ≤ id ∧ id ≤ 65535) ∧ (0 ≤ off ∧ off ≤ 8191) ∧ (0 ≤ ttl ∧ ttl ≤ 255) ∧ (0 ≤ proto ∧ proto ≤ 255) ∧ src.size = 4 ∧ dst.size = 4 ∧ opt.size ≤ 40 ∧ opt.size % 4 = 0
instance (tos id off ttl proto : Int) (src dst opt : ByteArray) : Decidable (ok4 tos id off ttl proto src dst opt) := by unfold ok4; infer_instance
def ip4_Check.f (a0_0 a0_1 a0_2 a0_3 a0_4 : Int) (a0_5 a0_6 : Bool) (a0_7 a0_8 a0_9 : ByteArray) : Option Int :=
  if a0_7.size ≤ 1152921504606846976 ∧ a0_8.size ≤ 1152921504606846976 ∧ a0_9.size ≤ 1152921504606846976 then some (if ok4 a0_0 a0_1 a0_2 a0_3 a0_4 a0_7 a0_8 a0_9 then 0 else 1) else none
def pairs1 (tos id off ttl proto : Int) : List (Int × Int) := [(tos, 255), (ttl, 255), (proto, 255), (id, 65535), (off, 8191)]
def pairs2 (src dst opt : ByteArray) : List (Int × Int) := [(Go.bits .xor .i64 (src.size : Int) 4, 0), (Go.bits .xor .i64 (dst.size : Int) 4, 0), ((opt.size : Int), 40), ((opt.size : Int) % 4, 0)]
theorem xor_four (n : Nat) (h : n ≤ 1152921504606846976) : (0 ≤ Go.bits .xor .i64 (n : Int) 4 ∧ Go.bits .xor .i64 (n : Int) 4 ≤ 0) ↔ n = 4 := by
  have e : Go.bits .xor .i64 (n : Int) ((4 : Nat) : Int) = ((n ^^^ 4 : Nat) : Int) := i64_xor n 4 (by omega) (by decide)
  rw [show (4 : Int) = ((4 : Nat) : Int) from rfl, e]
  constructor
  · intro h1
    have h2 : n ^^^ 4 = 0 := by omega
    have h3 := congrArg (· ^^^ 4) h2
    simpa [Nat.xor_assoc] using h3
  · rintro rfl
    simp
theorem ok4_iff {tos id off ttl proto : Int} {src dst opt : ByteArray} (h1 : src.size ≤ 1152921504606846976) (h2 : dst.size ≤ 1152921504606846976) :
    ok4 tos id off ttl proto src dst opt ↔ okPairs (pairs1 tos id off ttl proto) ∧ okPairs (pairs2 src dst opt) := by
  unfold ok4 okPairs pairs1 pairs2
  simp only [List.forall_mem_cons, List.not_mem_nil, false_implies, implies_true, and_true, xor_four _ h1, xor_four _ h2]
  omega

theorem pairs_cells (w : World) (T : TypeId) (l : List (Int × Int)) (cs : Array Value) (h : ∀ i p, l[i]? = some p → cs[i * 2]? = some (.int .i64 p.1) ∧ cs[i * 2 + 1]? = some (.int .i64 p.2)) :
    ∀ i p, l[i]? = some p → (w.alloc (.cells cs T)).cell? ⟨w.heap.size, i * 2, none⟩ = some (.int .i64 p.1) ∧ (w.alloc (.cells cs T)).cell? ⟨w.heap.size, i * 2 + 1, none⟩ = some (.int .i64 p.2) := fun i p hp =>
  ⟨(Blk.new w T cs).cell _ _ (h i p hp).1, (Blk.new w T cs).cell _ _ (h i p hp).2⟩
theorem cells5 (a b c d e : Int × Int) : ∀ i p, [a, b, c, d, e][i]? = some p → (#[.int .i64 a.1, .int .i64 a.2, .int .i64 b.1, .int .i64 b.2, .int .i64 c.1, .int .i64 c.2, .int .i64 d.1, .int .i64 d.2, .int .i64 e.1, .int .i64 e.2] : Array Value)[i * 2]? = some (.int .i64 p.1) ∧ (#[.int .i64 a.1, .int .i64 a.2, .int .i64 b.1, .int .i64 b.2, .int .i64 c.1, .int .i64 c.2, .int .i64 d.1, .int .i64 d.2, .int .i64 e.1, .int .i64 e.2] : Array Value)[i * 2 + 1]? = some (.int .i64 p.2)
  | 0, _, h => by obtain rfl := Option.some.inj h; exact ⟨rfl, rfl⟩
  | 1, _, h => by obtain rfl := Option.some.inj h; exact ⟨rfl, rfl⟩
  | 2, _, h => by obtain rfl := Option.some.inj h; exact ⟨rfl, rfl⟩
  | 3, _, h => by obtain rfl := Option.some.inj h; exact ⟨rfl, rfl⟩
  | 4, _, h => by obtain rfl := Option.some.inj h; exact ⟨rfl, rfl⟩
  | i + 5, _, h => by simp at h
theorem cells4 (a b c d : Int × Int) : ∀ i p, [a, b, c, d][i]? = some p → (#[.int .i64 a.1, .int .i64 a.2, .int .i64 b.1, .int .i64 b.2, .int .i64 c.1, .int .i64 c.2, .int .i64 d.1, .int .i64 d.2] : Array Value)[i * 2]? = some (.int .i64 p.1) ∧ (#[.int .i64 a.1, .int .i64 a.2, .int .i64 b.1, .int .i64 b.2, .int .i64 c.1, .int .i64 c.2, .int .i64 d.1, .int .i64 d.2] : Array Value)[i * 2 + 1]? = some (.int .i64 p.2)
  | 0, _, h => by obtain rfl := Option.some.inj h; exact ⟨rfl, rfl⟩
  | 1, _, h => by obtain rfl := Option.some.inj h; exact ⟨rfl, rfl⟩
  | 2, _, h => by obtain rfl := Option.some.inj h; exact ⟨rfl, rfl⟩
  | 3, _, h => by obtain rfl := Option.some.inj h; exact ⟨rfl, rfl⟩
  | i + 4, _, h => by simp at h

set_option maxHeartbeats 2000000 in
set_option maxRecDepth 100000 in
theorem ip4_Check.first (a0_0 a0_1 a0_2 a0_3 a0_4 : Int) (a0_5 a0_6 : Bool) (a0_7 a0_8 a0_9 : ByteArray) (w : World) (h1 : ¬ okPairs (pairs1 a0_0 a0_1 a0_2 a0_3 a0_4)) :
    Calls Tryd.prog 116 #[.agg #[.int .i64 a0_0, .int .i64 a0_1, .int .i64 a0_2, .int .i64 a0_3, .int .i64 a0_4, .bool a0_5, .bool a0_6, .string a0_7, .string a0_8, .string a0_9]] w fun e w' => e = .returned (.int .i64 1) ∧ Below w.heap.size w w' := by
  have hu := Tryd.underlying69
  have hmf : ∀ (fn : Fn) (first cap : Array Value) (w : World), (Instr.makeFunc fn first cap).run Tryd.prog w = .ok (.func fn first cap) w := fun _ _ _ _ => rfl
  have H1 := Aside0.mk h1
  clear h1
  have HB := Aside0.mk (((Below.refl w.heap.size w).alloc (Nat.le_refl _) (.cells #[.int .i64 a0_0, .int .i64 a0_1, .int .i64 a0_2, .int .i64 a0_3, .int .i64 a0_4, .bool a0_5, .bool a0_6, .string a0_7, .string a0_8, .string a0_9] 69)).alloc (by simp) (.cells #[.int .i64 0] 24))
  have HH := Aside0.mk ((Blk.new w 69 #[.int .i64 a0_0, .int .i64 a0_1, .int .i64 a0_2, .int .i64 a0_3, .int .i64 a0_4, .bool a0_5, .bool a0_6, .string a0_7, .string a0_8, .string a0_9]).alloc (.cells #[.int .i64 0] 24))
  have he := Blk.new (w.alloc (.cells #[.int .i64 a0_0, .int .i64 a0_1, .int .i64 a0_2, .int .i64 a0_3, .int .i64 a0_4, .bool a0_5, .bool a0_6, .string a0_7, .string a0_8, .string a0_9] 69)) 24 #[.int .i64 0]
  rw [World.size_alloc] at he
  have HE := Aside0.mk he
  have hz : ((w.alloc (.cells #[.int .i64 a0_0, .int .i64 a0_1, .int .i64 a0_2, .int .i64 a0_3, .int .i64 a0_4, .bool a0_5, .bool a0_6, .string a0_7, .string a0_8, .string a0_9] 69)).alloc (.cells #[.int .i64 0] 24)).heap.size = w.heap.size + 1 + 1 := by simp
  have HZ := Aside0.mk hz
  clear hz he
  go_enter_defers Tryd.func116, Tryd.ntmps116
  go_wp2_with fail
  rw [← HZ.out]
  generalize (w.alloc (.cells #[.int .i64 a0_0, .int .i64 a0_1, .int .i64 a0_2, .int .i64 a0_3, .int .i64 a0_4, .bool a0_5, .bool a0_6, .string a0_7, .string a0_8, .string a0_9] 69)).alloc (.cells #[.int .i64 0] 24) = W at HB HH HE HZ ⊢
  have HP := Aside0.mk (pairs_cells W 134 (pairs1 a0_0 a0_1 a0_2 a0_3 a0_4) #[.int .i64 a0_0, .int .i64 255, .int .i64 a0_3, .int .i64 255, .int .i64 a0_4, .int .i64 255, .int .i64 a0_1, .int .i64 65535, .int .i64 a0_2, .int .i64 8191] (cells5 (a0_0, 255) (a0_3, 255) (a0_4, 255) (a0_1, 65535) (a0_2, 8191)))
  replace HB := Aside0.mk (HB.out.alloc HB.out.size (.cells #[.int .i64 a0_0, .int .i64 255, .int .i64 a0_3, .int .i64 255, .int .i64 a0_4, .int .i64 255, .int .i64 a0_1, .int .i64 65535, .int .i64 a0_2, .int .i64 8191] 134))
  replace HH := Aside0.mk (HH.out.alloc (.cells #[.int .i64 a0_0, .int .i64 255, .int .i64 a0_3, .int .i64 255, .int .i64 a0_4, .int .i64 255, .int .i64 a0_1, .int .i64 65535, .int .i64 a0_2, .int .i64 8191] 134))
  replace HE := Aside0.mk (HE.out.alloc (.cells #[.int .i64 a0_0, .int .i64 255, .int .i64 a0_3, .int .i64 255, .int .i64 a0_4, .int .i64 255, .int .i64 a0_1, .int .i64 65535, .int .i64 a0_2, .int .i64 8191] 134))
  refine (within_no W.heap.size 5 (pairs1 a0_0 a0_1 a0_2 a0_3 a0_4) _ HP.out (by simp) (by simp [pairs1]) H1.out).mono ?_
  rintro e w3 ⟨rfl, g1⟩
  replace HB := Aside0.mk (HB.out.trans (g1.mono HB.out.size))
  replace HH := Aside0.mk (HH.out.below g1 HH.out.lt)
  replace HE := Aside0.mk (HE.out.below g1 HE.out.lt)
  clear g1 HP
  generalize W.heap.size = kk at HZ ⊢
  have c0 := HE.out.cell 0 _ rfl
  have c1 := HE.out.free 0
  refine leaves_cons (f := 139) (args := #[.pointer (some ⟨w.heap.size + 1, 0, none⟩)]) (by simp) (by simp [go_sem]) ?_
  refine (Check1_caught (w.heap.size + 1) _ ⟨_, c0⟩ c1 HE.out.lt).mono ?_
  rintro e u' w'' ⟨rfl, rfl, rfl⟩
  have c2 := ((HE.out.set 0 (.int .i64 1)).alloc (.cells #[] 204)).cell 0 _ rfl
  refine ⟨.int .i64 1, ?_, rfl, (HB.out.setCell (by simp) _).alloc (by rw [World.size_setCell]; exact HB.out.size) _⟩
  simp [results, Tryd.results116, go_sem]
  rw [c2]
  rfl

set_option maxHeartbeats 2000000 in
set_option maxRecDepth 100000 in
theorem ip4_Check.second (a0_0 a0_1 a0_2 a0_3 a0_4 : Int) (a0_5 a0_6 : Bool) (a0_7 a0_8 a0_9 : ByteArray) (w : World) (h1 : okPairs (pairs1 a0_0 a0_1 a0_2 a0_3 a0_4)) (h2 : ¬ okPairs (pairs2 a0_7 a0_8 a0_9)) :
    Calls Tryd.prog 116 #[.agg #[.int .i64 a0_0, .int .i64 a0_1, .int .i64 a0_2, .int .i64 a0_3, .int .i64 a0_4, .bool a0_5, .bool a0_6, .string a0_7, .string a0_8, .string a0_9]] w fun e w' => e = .returned (.int .i64 1) ∧ Below w.heap.size w w' := by
  have hu := Tryd.underlying69
  have hmf : ∀ (fn : Fn) (first cap : Array Value) (w : World), (Instr.makeFunc fn first cap).run Tryd.prog w = .ok (.func fn first cap) w := fun _ _ _ _ => rfl
  have H1 := Aside0.mk h1
  have H2 := Aside0.mk h2
  clear h1 h2
  have HB := Aside0.mk (((Below.refl w.heap.size w).alloc (Nat.le_refl _) (.cells #[.int .i64 a0_0, .int .i64 a0_1, .int .i64 a0_2, .int .i64 a0_3, .int .i64 a0_4, .bool a0_5, .bool a0_6, .string a0_7, .string a0_8, .string a0_9] 69)).alloc (by simp) (.cells #[.int .i64 0] 24))
  have HH := Aside0.mk ((Blk.new w 69 #[.int .i64 a0_0, .int .i64 a0_1, .int .i64 a0_2, .int .i64 a0_3, .int .i64 a0_4, .bool a0_5, .bool a0_6, .string a0_7, .string a0_8, .string a0_9]).alloc (.cells #[.int .i64 0] 24))
  have he := Blk.new (w.alloc (.cells #[.int .i64 a0_0, .int .i64 a0_1, .int .i64 a0_2, .int .i64 a0_3, .int .i64 a0_4, .bool a0_5, .bool a0_6, .string a0_7, .string a0_8, .string a0_9] 69)) 24 #[.int .i64 0]
  rw [World.size_alloc] at he
  have HE := Aside0.mk he
  have hz : ((w.alloc (.cells #[.int .i64 a0_0, .int .i64 a0_1, .int .i64 a0_2, .int .i64 a0_3, .int .i64 a0_4, .bool a0_5, .bool a0_6, .string a0_7, .string a0_8, .string a0_9] 69)).alloc (.cells #[.int .i64 0] 24)).heap.size = w.heap.size + 1 + 1 := by simp
  have HZ := Aside0.mk hz
  clear hz he
  go_enter_defers Tryd.func116, Tryd.ntmps116
  go_wp2_with fail
  rw [← HZ.out]
  generalize (w.alloc (.cells #[.int .i64 a0_0, .int .i64 a0_1, .int .i64 a0_2, .int .i64 a0_3, .int .i64 a0_4, .bool a0_5, .bool a0_6, .string a0_7, .string a0_8, .string a0_9] 69)).alloc (.cells #[.int .i64 0] 24) = W at HB HH HE HZ ⊢
  have HP := Aside0.mk (pairs_cells W 134 (pairs1 a0_0 a0_1 a0_2 a0_3 a0_4) #[.int .i64 a0_0, .int .i64 255, .int .i64 a0_3, .int .i64 255, .int .i64 a0_4, .int .i64 255, .int .i64 a0_1, .int .i64 65535, .int .i64 a0_2, .int .i64 8191] (cells5 (a0_0, 255) (a0_3, 255) (a0_4, 255) (a0_1, 65535) (a0_2, 8191)))
  replace HB := Aside0.mk (HB.out.alloc HB.out.size (.cells #[.int .i64 a0_0, .int .i64 255, .int .i64 a0_3, .int .i64 255, .int .i64 a0_4, .int .i64 255, .int .i64 a0_1, .int .i64 65535, .int .i64 a0_2, .int .i64 8191] 134))
  replace HH := Aside0.mk (HH.out.alloc (.cells #[.int .i64 a0_0, .int .i64 255, .int .i64 a0_3, .int .i64 255, .int .i64 a0_4, .int .i64 255, .int .i64 a0_1, .int .i64 65535, .int .i64 a0_2, .int .i64 8191] 134))
  replace HE := Aside0.mk (HE.out.alloc (.cells #[.int .i64 a0_0, .int .i64 255, .int .i64 a0_3, .int .i64 255, .int .i64 a0_4, .int .i64 255, .int .i64 a0_1, .int .i64 65535, .int .i64 a0_2, .int .i64 8191] 134))
  refine (within_yes W.heap.size 5 (pairs1 a0_0 a0_1 a0_2 a0_3 a0_4) _ HP.out (by simp) (by simp [pairs1]) H1.out).mono ?_
  rintro e w3 ⟨rfl, g1⟩
  replace HB := Aside0.mk (HB.out.trans (g1.mono HB.out.size))
  replace HH := Aside0.mk (HH.out.below g1 HH.out.lt)
  replace HE := Aside0.mk (HE.out.below g1 HE.out.lt)
  clear g1 HP
  generalize W.heap.size = kk at HZ ⊢
  have hc := HH.out.cells
  go_wp2_with fail
  clear hc
  have HP := Aside0.mk (pairs_cells w3 134 (pairs2 a0_7 a0_8 a0_9) #[.int .i64 (Go.bits .xor .i64 (a0_7.size : Int) 4), .int .i64 0, .int .i64 (Go.bits .xor .i64 (a0_8.size : Int) 4), .int .i64 0, .int .i64 (a0_9.size : Int), .int .i64 40, .int .i64 ((a0_9.size : Int) % 4), .int .i64 0] (cells4 (Go.bits .xor .i64 (a0_7.size : Int) 4, 0) (Go.bits .xor .i64 (a0_8.size : Int) 4, 0) ((a0_9.size : Int), 40) ((a0_9.size : Int) % 4, 0)))
  replace HB := Aside0.mk (HB.out.alloc HB.out.size (.cells #[.int .i64 (Go.bits .xor .i64 (a0_7.size : Int) 4), .int .i64 0, .int .i64 (Go.bits .xor .i64 (a0_8.size : Int) 4), .int .i64 0, .int .i64 (a0_9.size : Int), .int .i64 40, .int .i64 ((a0_9.size : Int) % 4), .int .i64 0] 134))
  replace HE := Aside0.mk (HE.out.alloc (.cells #[.int .i64 (Go.bits .xor .i64 (a0_7.size : Int) 4), .int .i64 0, .int .i64 (Go.bits .xor .i64 (a0_8.size : Int) 4), .int .i64 0, .int .i64 (a0_9.size : Int), .int .i64 40, .int .i64 ((a0_9.size : Int) % 4), .int .i64 0] 134))
  refine (within_no w3.heap.size 4 (pairs2 a0_7 a0_8 a0_9) _ HP.out (by simp) (by simp [pairs2]) H2.out).mono ?_
  rintro e w4 ⟨rfl, g1⟩
  replace HB := Aside0.mk (HB.out.trans (g1.mono HB.out.size))
  replace HE := Aside0.mk (HE.out.below g1 HE.out.lt)
  clear g1 HP HH
  have c0 := HE.out.cell 0 _ rfl
  have c1 := HE.out.free 0
  refine leaves_cons (f := 139) (args := #[.pointer (some ⟨w.heap.size + 1, 0, none⟩)]) (by simp) (by simp [go_sem]) ?_
  refine (Check1_caught (w.heap.size + 1) _ ⟨_, c0⟩ c1 HE.out.lt).mono ?_
  rintro e u' w'' ⟨rfl, rfl, rfl⟩
  have c2 := ((HE.out.set 0 (.int .i64 1)).alloc (.cells #[] 204)).cell 0 _ rfl
  refine ⟨.int .i64 1, ?_, rfl, (HB.out.setCell (by simp) _).alloc (by rw [World.size_setCell]; exact HB.out.size) _⟩
  simp [results, Tryd.results116, go_sem]
  rw [c2]
  rfl

set_option maxHeartbeats 2000000 in
set_option maxRecDepth 100000 in
theorem ip4_Check.yes (a0_0 a0_1 a0_2 a0_3 a0_4 : Int) (a0_5 a0_6 : Bool) (a0_7 a0_8 a0_9 : ByteArray) (w : World) (h1 : okPairs (pairs1 a0_0 a0_1 a0_2 a0_3 a0_4)) (h2 : okPairs (pairs2 a0_7 a0_8 a0_9)) :
    Calls Tryd.prog 116 #[.agg #[.int .i64 a0_0, .int .i64 a0_1, .int .i64 a0_2, .int .i64 a0_3, .int .i64 a0_4, .bool a0_5, .bool a0_6, .string a0_7, .string a0_8, .string a0_9]] w fun e w' => e = .returned (.int .i64 0) ∧ Below w.heap.size w w' := by
  have hu := Tryd.underlying69
  have hmf : ∀ (fn : Fn) (first cap : Array Value) (w : World), (Instr.makeFunc fn first cap).run Tryd.prog w = .ok (.func fn first cap) w := fun _ _ _ _ => rfl
  have H1 := Aside0.mk h1
  have H2 := Aside0.mk h2
  clear h1 h2
  have HB := Aside0.mk (((Below.refl w.heap.size w).alloc (Nat.le_refl _) (.cells #[.int .i64 a0_0, .int .i64 a0_1, .int .i64 a0_2, .int .i64 a0_3, .int .i64 a0_4, .bool a0_5, .bool a0_6, .string a0_7, .string a0_8, .string a0_9] 69)).alloc (by simp) (.cells #[.int .i64 0] 24))
  have HH := Aside0.mk ((Blk.new w 69 #[.int .i64 a0_0, .int .i64 a0_1, .int .i64 a0_2, .int .i64 a0_3, .int .i64 a0_4, .bool a0_5, .bool a0_6, .string a0_7, .string a0_8, .string a0_9]).alloc (.cells #[.int .i64 0] 24))
  have he := Blk.new (w.alloc (.cells #[.int .i64 a0_0, .int .i64 a0_1, .int .i64 a0_2, .int .i64 a0_3, .int .i64 a0_4, .bool a0_5, .bool a0_6, .string a0_7, .string a0_8, .string a0_9] 69)) 24 #[.int .i64 0]
  rw [World.size_alloc] at he
  have HE := Aside0.mk he
  have hz : ((w.alloc (.cells #[.int .i64 a0_0, .int .i64 a0_1, .int .i64 a0_2, .int .i64 a0_3, .int .i64 a0_4, .bool a0_5, .bool a0_6, .string a0_7, .string a0_8, .string a0_9] 69)).alloc (.cells #[.int .i64 0] 24)).heap.size = w.heap.size + 1 + 1 := by simp
  have HZ := Aside0.mk hz
  clear hz he
  go_enter_defers Tryd.func116, Tryd.ntmps116
  go_wp2_with fail
  rw [← HZ.out]
  generalize (w.alloc (.cells #[.int .i64 a0_0, .int .i64 a0_1, .int .i64 a0_2, .int .i64 a0_3, .int .i64 a0_4, .bool a0_5, .bool a0_6, .string a0_7, .string a0_8, .string a0_9] 69)).alloc (.cells #[.int .i64 0] 24) = W at HB HH HE HZ ⊢
  have HP := Aside0.mk (pairs_cells W 134 (pairs1 a0_0 a0_1 a0_2 a0_3 a0_4) #[.int .i64 a0_0, .int .i64 255, .int .i64 a0_3, .int .i64 255, .int .i64 a0_4, .int .i64 255, .int .i64 a0_1, .int .i64 65535, .int .i64 a0_2, .int .i64 8191] (cells5 (a0_0, 255) (a0_3, 255) (a0_4, 255) (a0_1, 65535) (a0_2, 8191)))
  replace HB := Aside0.mk (HB.out.alloc HB.out.size (.cells #[.int .i64 a0_0, .int .i64 255, .int .i64 a0_3, .int .i64 255, .int .i64 a0_4, .int .i64 255, .int .i64 a0_1, .int .i64 65535, .int .i64 a0_2, .int .i64 8191] 134))
  replace HH := Aside0.mk (HH.out.alloc (.cells #[.int .i64 a0_0, .int .i64 255, .int .i64 a0_3, .int .i64 255, .int .i64 a0_4, .int .i64 255, .int .i64 a0_1, .int .i64 65535, .int .i64 a0_2, .int .i64 8191] 134))
  replace HE := Aside0.mk (HE.out.alloc (.cells #[.int .i64 a0_0, .int .i64 255, .int .i64 a0_3, .int .i64 255, .int .i64 a0_4, .int .i64 255, .int .i64 a0_1, .int .i64 65535, .int .i64 a0_2, .int .i64 8191] 134))
  refine (within_yes W.heap.size 5 (pairs1 a0_0 a0_1 a0_2 a0_3 a0_4) _ HP.out (by simp) (by simp [pairs1]) H1.out).mono ?_
  rintro e w3 ⟨rfl, g1⟩
  replace HB := Aside0.mk (HB.out.trans (g1.mono HB.out.size))
  replace HH := Aside0.mk (HH.out.below g1 HH.out.lt)
  replace HE := Aside0.mk (HE.out.below g1 HE.out.lt)
  clear g1 HP
  generalize W.heap.size = kk at HZ ⊢
  have hc := HH.out.cells
  go_wp2_with fail
  clear hc
  have HP := Aside0.mk (pairs_cells w3 134 (pairs2 a0_7 a0_8 a0_9) #[.int .i64 (Go.bits .xor .i64 (a0_7.size : Int) 4), .int .i64 0, .int .i64 (Go.bits .xor .i64 (a0_8.size : Int) 4), .int .i64 0, .int .i64 (a0_9.size : Int), .int .i64 40, .int .i64 ((a0_9.size : Int) % 4), .int .i64 0] (cells4 (Go.bits .xor .i64 (a0_7.size : Int) 4, 0) (Go.bits .xor .i64 (a0_8.size : Int) 4, 0) ((a0_9.size : Int), 40) ((a0_9.size : Int) % 4, 0)))
  replace HB := Aside0.mk (HB.out.alloc HB.out.size (.cells #[.int .i64 (Go.bits .xor .i64 (a0_7.size : Int) 4), .int .i64 0, .int .i64 (Go.bits .xor .i64 (a0_8.size : Int) 4), .int .i64 0, .int .i64 (a0_9.size : Int), .int .i64 40, .int .i64 ((a0_9.size : Int) % 4), .int .i64 0] 134))
  replace HE := Aside0.mk (HE.out.alloc (.cells #[.int .i64 (Go.bits .xor .i64 (a0_7.size : Int) 4), .int .i64 0, .int .i64 (Go.bits .xor .i64 (a0_8.size : Int) 4), .int .i64 0, .int .i64 (a0_9.size : Int), .int .i64 40, .int .i64 ((a0_9.size : Int) % 4), .int .i64 0] 134))
  refine (within_yes w3.heap.size 4 (pairs2 a0_7 a0_8 a0_9) _ HP.out (by simp) (by simp [pairs2]) H2.out).mono ?_
  rintro e w4 ⟨rfl, g1⟩
  replace HB := Aside0.mk (HB.out.trans (g1.mono HB.out.size))
  replace HE := Aside0.mk (HE.out.below g1 HE.out.lt)
  clear g1 HP HH
  have c0 := HE.out.cell 0 _ rfl
  have c1 := HE.out.free 0
  go_wp2
  refine leaves_cons (f := 139) (args := #[.pointer (some ⟨w.heap.size + 1, 0, none⟩)]) (by simp) (by simp [go_sem]) ?_
  refine (Check1_idle (w.heap.size + 1) _).mono ?_
  rintro e u' w'' ⟨rfl, rfl, rfl⟩
  have c2 := ((HE.out.set 0 (.int .i64 0)).alloc (.cells #[] 204)).cell 0 _ rfl
  refine ⟨.int .i64 0, ?_, rfl, (HB.out.setCell (by simp) _).alloc (by rw [World.size_setCell]; exact HB.out.size) _⟩
  simp [results, Tryd.results116, go_sem]
  rw [c2]
  rfl

theorem ip4_Check.calls (a0_0 a0_1 a0_2 a0_3 a0_4 : Int) (a0_5 a0_6 : Bool) (a0_7 a0_8 a0_9 : ByteArray) (r : Int) (w : World) (h : ip4_Check.f a0_0 a0_1 a0_2 a0_3 a0_4 a0_5 a0_6 a0_7 a0_8 a0_9 = some r) :
    Calls Tryd.prog 116 #[.agg #[.int .i64 a0_0, .int .i64 a0_1, .int .i64 a0_2, .int .i64 a0_3, .int .i64 a0_4, .bool a0_5, .bool a0_6, .string a0_7, .string a0_8, .string a0_9]] w fun e w' => e = .returned (.int .i64 r) ∧ Below w.heap.size w w' := by
  unfold ip4_Check.f at h
  split at h
  case isFalse => exact absurd h (by simp)
  rename_i hs
  obtain rfl := Option.some.inj h
  by_cases h1 : okPairs (pairs1 a0_0 a0_1 a0_2 a0_3 a0_4)
  · by_cases h2 : okPairs (pairs2 a0_7 a0_8 a0_9)
    · rw [if_pos ((ok4_iff hs.1 hs.2.1).mpr ⟨h1, h2⟩)]; exact ip4_Check.yes _ _ _ _ _ _ _ _ _ _ w h1 h2
    · rw [if_neg (fun h => h2 ((ok4_iff hs.1 hs.2.1).mp h).2)]; exact ip4_Check.second _ _ _ _ _ _ _ _ _ _ w h1 h2
  · rw [if_neg (fun h => h1 ((ok4_iff hs.1 hs.2.1).mp h).1)]; exact ip4_Check.first _ _ _ _ _ _ _ _ _ _ w h1
end Go.Proofs.YtcmalglippmocaaDoor.G
end
