/- Texts of this session, joined: each is a section. -/
import Derived.Test.YtejmipoolbodgaaMFrbg1
import Derived.Recover
import Derived.Defers
import Derived.WideLaws
import Derived.Lib.Hide
import Derived.WalkLawsBesides
import Derived.Deep.RegionWith
import Derived.StillTailTactics
set_option linter.unusedVariables false
set_option linter.unusedSimpArgs false
section
/- By hand: ip4.within, ip4.Check, ip4.bit, ip4.header. -/
namespace Go.Proofs.Ytejmipoolbodgaa.G
open Go.RowKit Go.Proofs.YtejmipoolbodgaaW.PrintWords Go.Proofs.YtejmipoolbodgaaW.PrintLast Go.Proofs.YtejmipoolbodgaaW.PrintMore Go.Proofs.Ytejmipoolbodgaa.Pal
set_option linter.unusedVariables false
set_option linter.unusedSimpArgs false

/-- Numbers, each within its limit. -/
def okPairs (l : List (Int × Int)) : Prop := ∀ p ∈ l, 0 ≤ p.1 ∧ p.1 ≤ p.2
def oddPanic : Ending := .panicked [{ v := .iface 171 (.agg #[]), recovered := false }]

set_option maxHeartbeats 1000000 in
set_option maxRecDepth 100000 in
theorem within_yes (b c : Nat) (l : List (Int × Int)) (w : World) (hc : ∀ i p, l[i]? = some p → w.cell? ⟨b, i * 2, none⟩ = some (.int .i64 p.1) ∧ w.cell? ⟨b, i * 2 + 1, none⟩ = some (.int .i64 p.2)) (hb : b < w.heap.size) (hl : l.length ≤ 100) (h : okPairs l) :
    Calls Try.prog 145 #[.slice (some ⟨b, 0, none⟩) l.length c] w fun e w' => e = .returned (.tuple #[]) ∧ Below w.heap.size w w' := by
  have HC := Aside0.mk hc
  have HO := Aside0.mk h
  have HL := Aside0.mk hl
  have HZ := Aside0.mk hb
  clear hc h hl hb
  go_enter Try.func145, Try.ntmps145
  go_wp2
  go_loopg [6] l.length (fun kq v6 wr => ∃ i : Nat, v6 = .int .i64 (i : Int) ∧ Aside0 (i + kq = l.length) ∧ Aside0 (Below w.heap.size w wr))
  case atStart => exact ⟨0, rfl, ⟨by omega⟩, ⟨Below.refl _ _⟩⟩
  case round =>
    obtain ⟨i, rfl, HK, HI⟩ := hrel
    by_cases hlt : i < l.length
    · obtain ⟨p, hp⟩ : ∃ p, l[i]? = some p := ⟨_, List.getElem?_eq_getElem hlt⟩
      have g0 := (HC.out i p hp).1
      have g1 := (HC.out i p hp).2
      have hok := HO.out p (List.mem_of_getElem? hp)
      have e0 : wr.cell? ⟨b, i * 2, none⟩ = some (.int .i64 p.1) := (HI.out.cell (p := ⟨b, i * 2, none⟩) HZ.out).trans g0
      have e1 : wr.cell? ⟨b, i * 2 + 1, none⟩ = some (.int .i64 p.2) := (HI.out.cell (p := ⟨b, i * 2 + 1, none⟩) HZ.out).trans g1
      have q2 : ((i : Int) < (l.length : Int)) = True := eq_true (by omega)
      have q3 : (i < l.length) = True := eq_true hlt
      clear g0 g1
      go_wp2
      replace HI := Aside0.mk (HI.out.alloc HI.out.size (.cells #[.int .i64 p.1, .int .i64 p.2] 174))
      have hw : wrap64 ((i : Int) + 1) = ((i + 1 : Nat) : Int) := by have := HL.out; unfold wrap64; omega
      rw [hw]
      go_roundg (l.length - (i + 1))
      case measure => have := HK.out; omega
      case rel => exact ⟨i + 1, rfl, ⟨by omega⟩, HI⟩
    · go_wp2
      go_end0
      exact ⟨rfl, HI.out⟩

set_option maxHeartbeats 1000000 in
set_option maxRecDepth 100000 in
theorem within_no (b c : Nat) (l : List (Int × Int)) (w : World) (hc : ∀ i p, l[i]? = some p → w.cell? ⟨b, i * 2, none⟩ = some (.int .i64 p.1) ∧ w.cell? ⟨b, i * 2 + 1, none⟩ = some (.int .i64 p.2)) (hb : b < w.heap.size) (hl : l.length ≤ 100) (h : ¬ okPairs l) :
    Calls Try.prog 145 #[.slice (some ⟨b, 0, none⟩) l.length c] w fun e w' => e = oddPanic ∧ Below w.heap.size w w' := by
  have HC := Aside0.mk hc
  have HO := Aside0.mk h
  have HL := Aside0.mk hl
  have HZ := Aside0.mk hb
  clear hc h hl hb
  go_enter Try.func145, Try.ntmps145
  go_wp2
  go_loopg [6] l.length (fun kq v6 wr => ∃ i : Nat, v6 = .int .i64 (i : Int) ∧ Aside0 (i + kq = l.length) ∧ Aside0 (okPairs (l.take i)) ∧ Aside0 (Below w.heap.size w wr))
  case atStart => exact ⟨0, rfl, ⟨by omega⟩, ⟨fun p hp => absurd hp (by simp)⟩, ⟨Below.refl _ _⟩⟩
  case round =>
    obtain ⟨i, rfl, HK, HT, HI⟩ := hrel
    by_cases hlt : i < l.length
    · obtain ⟨p, hp⟩ : ∃ p, l[i]? = some p := ⟨_, List.getElem?_eq_getElem hlt⟩
      have g0 := (HC.out i p hp).1
      have g1 := (HC.out i p hp).2
      have e0 : wr.cell? ⟨b, i * 2, none⟩ = some (.int .i64 p.1) := (HI.out.cell (p := ⟨b, i * 2, none⟩) HZ.out).trans g0
      have e1 : wr.cell? ⟨b, i * 2 + 1, none⟩ = some (.int .i64 p.2) := (HI.out.cell (p := ⟨b, i * 2 + 1, none⟩) HZ.out).trans g1
      have q2 : ((i : Int) < (l.length : Int)) = True := eq_true (by omega)
      have q3 : (i < l.length) = True := eq_true hlt
      have HP := Aside0.mk hp
      clear g0 g1 hp
      replace HI := Aside0.mk (HI.out.alloc HI.out.size (.cells #[.int .i64 p.1, .int .i64 p.2] 174))
      by_cases c1 : p.1 < 0
      · have d1 : decide (p.1 < 0) = true := decide_eq_true c1
        clear c1
        go_wp2
        exact ⟨rfl, rfl, HI.out⟩
      have d1 : decide (p.1 < 0) = false := decide_eq_false c1
      by_cases c2 : p.2 < p.1
      · have d2 : decide (p.2 < p.1) = true := decide_eq_true c2
        clear c1 c2
        go_wp2
        exact ⟨rfl, rfl, HI.out⟩
      have d2 : decide (p.2 < p.1) = false := decide_eq_false c2
      have HT' : Aside0 (okPairs (l.take (i + 1))) := ⟨fun x hx => by
        rw [List.take_add_one, HP.out] at hx
        rcases List.mem_append.1 hx with hx | hx
        · exact HT.out x hx
        · obtain rfl : x = p := by simpa using hx
          omega⟩
      have hw : wrap64 ((i : Int) + 1) = ((i + 1 : Nat) : Int) := by have := HL.out; unfold wrap64; omega
      clear c1 c2
      go_wp2
      go_roundg (l.length - (i + 1))
      case measure => have := HK.out; omega
      case rel => exact ⟨i + 1, by rw [hw], ⟨by omega⟩, HT', HI⟩
    · exact absurd (by have := HT.out; rwa [List.take_of_length_le (by omega)] at this) HO.out

theorem odd_is (v : Value) (W : World) : (Instr.typeAssert (.iface 171 v) 20 171 true).run Try.prog W = .ok (.tuple #[v, .bool true]) W := by kernel_rfl
theorem odd_not (W : World) : (Instr.typeAssert .nilIface 20 171 true).run Try.prog W = .ok (.tuple #[.agg #[], .bool false]) W := by kernel_rfl

set_option maxHeartbeats 1000000 in
set_option maxRecDepth 100000 in
theorem Check1_caught (p : Nat) (w : World) (hc : ∃ x, w.cell? ⟨p, 0, none⟩ = some x) (hz : w.frozen? ⟨p, 0, none⟩ = false) (hp : p < w.heap.size) :
    CallsD Try.prog 144 #[.pointer (some ⟨p, 0, none⟩)] (.panicking [{ v := .iface 171 (.agg #[]), recovered := false }]) w fun e1 u' w' =>
      e1 = .returned (.tuple #[]) ∧ u' = .panicking [{ v := .iface 171 (.agg #[]), recovered := true }] ∧ w' = (w.setCell ⟨p, 0, none⟩ (.int .i64 1)).alloc (.cells #[] 171) := by
  have hta : ∀ (v : Value) (W : World), (Instr.typeAssert (.iface 171 v) 20 171 true).run Try.prog W = .ok (.tuple #[v, .bool true]) W := odd_is
  obtain ⟨x, hc⟩ := hc
  have hc2 : (w.alloc (.cells #[] 171)).cell? ⟨p, 0, none⟩ = some x := by rw [← hc]; simp [World.cell?, Below.heap_alloc _ _ _ hp]
  have hz2 : (w.alloc (.cells #[] 171)).frozen? ⟨p, 0, none⟩ = false := by rw [← hz]; simp [World.frozen?, Below.heap_alloc _ _ _ hp]
  refine callsD_of_wpS Try.func144 rfl fun c₀ cs hu => ?_
  simp only [Try.ntmps144, List.size_toArray, List.length_cons, List.length_nil, Nat.reduceAdd, Nat.reduceSub, Array.replicate_succ,
     Array.replicate_zero, List.push_toArray, List.append_toArray, List.nil_append, List.cons_append]
  apply wpS_seq
  apply wpS_region
  simp [wpOpsS, go_sem, recoverD, hu, Exit.thenS]
  apply wpS_of_wp
  go_wp2
  exact ⟨rfl, _, rfl, _, results_none rfl _ _ _, rfl, rfl, rfl⟩

set_option maxHeartbeats 1000000 in
set_option maxRecDepth 100000 in
theorem Check1_idle (p : Nat) (w : World) :
    CallsD Try.prog 144 #[.pointer (some ⟨p, 0, none⟩)] .returning w fun e1 u' w' => e1 = .returned (.tuple #[]) ∧ u' = .returning ∧ w' = w.alloc (.cells #[] 171) := by
  have hta : ∀ (W : World), (Instr.typeAssert .nilIface 20 171 true).run Try.prog W = .ok (.tuple #[.agg #[], .bool false]) W := odd_not
  refine callsD_of_wpS Try.func144 rfl fun c₀ cs hu => ?_
  simp only [Try.ntmps144, List.size_toArray, List.length_cons, List.length_nil, Nat.reduceAdd, Nat.reduceSub, Array.replicate_succ,
     Array.replicate_zero, List.push_toArray, List.append_toArray, List.nil_append, List.cons_append]
  apply wpS_seq
  apply wpS_region
  simp [wpOpsS, go_sem, recoverD, hu, Exit.thenS]
  apply wpS_of_wp
  go_wp2
  refine ⟨rfl, .returning, ?_, _, results_none rfl _ _ _, rfl, rfl, rfl⟩
  cases c₀
  simp_all

def ok4 (tos id off ttl proto : Int) (src dst opt : ByteArray) : Prop :=
  (0 ≤ tos ∧ tos ≤ 255) ∧ (0 ≤ id ∧ id ≤ 65535) ∧ (0 ≤ off ∧ off ≤ 8191) ∧ (0 ≤ ttl ∧ ttl ≤ 255) ∧ (0 ≤ proto ∧ proto ≤ 255) ∧ src.size = 4 ∧ dst.size = 4 ∧ opt.size ≤ 40 ∧ opt.size % 4 = 0
instance (tos id off ttl proto : Int) (src dst opt : ByteArray) : Decidable (ok4 tos id off ttl proto src dst opt) := by unfold ok4; infer_instance
def ip4_Check.f (a0_0 a0_1 a0_2 a0_3 a0_4 : Int) (a0_5 a0_6 : Bool) (a0_7 a0_8 a0_9 : ByteArray) : Option Int :=
  if a0_7.size ≤ 1152921504606846976 ∧ a0_8.size ≤ 1152921504606846976 ∧ a0_9.size ≤ 1152921504606846976 then some (if ok4 a0_0 a0_1 a0_2 a0_3 a0_4 a0_7 a0_8 a0_9 then 0 else 1) else none
def pairs1 (tos id off ttl proto : Int) : List (Int × Int) := [(tos, 255), (ttl, 255), (proto, 255), (id, 65535), (off, 8191)]
def pairs2 (src dst opt : ByteArray) : List (Int × Int) := [(Go.bits .xor .i64 (src.size : Int) 4, 0), (Go.bits .xor .i64 (dst.size : Int) 4, 0), ((opt.size : Int), 40), ((opt.size : Int) % 4, 0)]
theorem xor_four (n : Nat) (h : n ≤ 1152921504606846976) : (0 ≤ Go.bits .xor .i64 (n : Int) 4 ∧ Go.bits .xor .i64 (n : Int) 4 ≤ 0) ↔ n = 4 := by
  have e : Go.bits .xor .i64 (n : Int) ((4 : Nat) : Int) = ((n ^^^ 4 : Nat) : Int) := i64_xor n 4 (by omega) (by decide)
  rw [show (4 : Int) = ((4 : Nat) : Int) from rfl, e]
  constructor
  · intro h1
    have h2 : n ^^^ 4 = 0 := by omega
    have h3 := congrArg (· ^^^ 4) h2
    simpa [Nat.xor_assoc] using h3
  · rintro rfl
    simp
theorem ok4_iff {tos id off ttl proto : Int} {src dst opt : ByteArray} (h1 : src.size ≤ 1152921504606846976) (h2 : dst.size ≤ 1152921504606846976) :
    ok4 tos id off ttl proto src dst opt ↔ okPairs (pairs1 tos id off ttl proto) ∧ okPairs (pairs2 src dst opt) := by
  unfold ok4 okPairs pairs1 pairs2
  simp only [List.forall_mem_cons, List.not_mem_nil, false_implies, implies_true, and_true, xor_four _ h1, xor_four _ h2]
  omega

/-- A row of pairs, just made. -/
theorem pairs_cells (w : World) (T : TypeId) (l : List (Int × Int)) (cs : Array Value) (h : ∀ i p, l[i]? = some p → cs[i * 2]? = some (.int .i64 p.1) ∧ cs[i * 2 + 1]? = some (.int .i64 p.2)) :
    ∀ i p, l[i]? = some p → (w.alloc (.cells cs T)).cell? ⟨w.heap.size, i * 2, none⟩ = some (.int .i64 p.1) ∧ (w.alloc (.cells cs T)).cell? ⟨w.heap.size, i * 2 + 1, none⟩ = some (.int .i64 p.2) := fun i p hp =>
  ⟨(Blk.new w T cs).cell _ _ (h i p hp).1, (Blk.new w T cs).cell _ _ (h i p hp).2⟩
theorem cells5 (a b c d e : Int × Int) : ∀ i p, [a, b, c, d, e][i]? = some p → (#[.int .i64 a.1, .int .i64 a.2, .int .i64 b.1, .int .i64 b.2, .int .i64 c.1, .int .i64 c.2, .int .i64 d.1, .int .i64 d.2, .int .i64 e.1, .int .i64 e.2] : Array Value)[i * 2]? = some (.int .i64 p.1) ∧ (#[.int .i64 a.1, .int .i64 a.2, .int .i64 b.1, .int .i64 b.2, .int .i64 c.1, .int .i64 c.2, .int .i64 d.1, .int .i64 d.2, .int .i64 e.1, .int .i64 e.2] : Array Value)[i * 2 + 1]? = some (.int .i64 p.2)
  | 0, _, h => by obtain rfl := Option.some.inj h; exact ⟨rfl, rfl⟩
  | 1, _, h => by obtain rfl := Option.some.inj h; exact ⟨rfl, rfl⟩
  | 2, _, h => by obtain rfl := Option.some.inj h; exact ⟨rfl, rfl⟩
  | 3, _, h => by obtain rfl := Option.some.inj h; exact ⟨rfl, rfl⟩
  | 4, _, h => by obtain rfl := Option.some.inj h; exact ⟨rfl, rfl⟩
  | i + 5, _, h => by simp at h
theorem cells4 (a b c d : Int × Int) : ∀ i p, [a, b, c, d][i]? = some p → (#[.int .i64 a.1, .int .i64 a.2, .int .i64 b.1, .int .i64 b.2, .int .i64 c.1, .int .i64 c.2, .int .i64 d.1, .int .i64 d.2] : Array Value)[i * 2]? = some (.int .i64 p.1) ∧ (#[.int .i64 a.1, .int .i64 a.2, .int .i64 b.1, .int .i64 b.2, .int .i64 c.1, .int .i64 c.2, .int .i64 d.1, .int .i64 d.2] : Array Value)[i * 2 + 1]? = some (.int .i64 p.2)
  | 0, _, h => by obtain rfl := Option.some.inj h; exact ⟨rfl, rfl⟩
  | 1, _, h => by obtain rfl := Option.some.inj h; exact ⟨rfl, rfl⟩
  | 2, _, h => by obtain rfl := Option.some.inj h; exact ⟨rfl, rfl⟩
  | 3, _, h => by obtain rfl := Option.some.inj h; exact ⟨rfl, rfl⟩
  | i + 4, _, h => by simp at h

set_option maxHeartbeats 2000000 in
set_option maxRecDepth 100000 in
theorem ip4_Check.first (a0_0 a0_1 a0_2 a0_3 a0_4 : Int) (a0_5 a0_6 : Bool) (a0_7 a0_8 a0_9 : ByteArray) (w : World) (h1 : ¬ okPairs (pairs1 a0_0 a0_1 a0_2 a0_3 a0_4)) :
    Calls Try.prog 87 #[.agg #[.int .i64 a0_0, .int .i64 a0_1, .int .i64 a0_2, .int .i64 a0_3, .int .i64 a0_4, .bool a0_5, .bool a0_6, .string a0_7, .string a0_8, .string a0_9]] w fun e w' => e = .returned (.int .i64 1) ∧ Below w.heap.size w w' := by
  have hu := Try.underlying93
  have hmf : ∀ (fn : Fn) (first cap : Array Value) (w : World), (Instr.makeFunc fn first cap).run Try.prog w = .ok (.func fn first cap) w := fun _ _ _ _ => rfl
  have H1 := Aside0.mk h1
  clear h1
  have HB := Aside0.mk (((Below.refl w.heap.size w).alloc (Nat.le_refl _) (.cells #[.int .i64 a0_0, .int .i64 a0_1, .int .i64 a0_2, .int .i64 a0_3, .int .i64 a0_4, .bool a0_5, .bool a0_6, .string a0_7, .string a0_8, .string a0_9] 93)).alloc (by simp) (.cells #[.int .i64 0] 38))
  have HH := Aside0.mk ((Blk.new w 93 #[.int .i64 a0_0, .int .i64 a0_1, .int .i64 a0_2, .int .i64 a0_3, .int .i64 a0_4, .bool a0_5, .bool a0_6, .string a0_7, .string a0_8, .string a0_9]).alloc (.cells #[.int .i64 0] 38))
  have he := Blk.new (w.alloc (.cells #[.int .i64 a0_0, .int .i64 a0_1, .int .i64 a0_2, .int .i64 a0_3, .int .i64 a0_4, .bool a0_5, .bool a0_6, .string a0_7, .string a0_8, .string a0_9] 93)) 38 #[.int .i64 0]
  rw [World.size_alloc] at he
  have HE := Aside0.mk he
  have hz : ((w.alloc (.cells #[.int .i64 a0_0, .int .i64 a0_1, .int .i64 a0_2, .int .i64 a0_3, .int .i64 a0_4, .bool a0_5, .bool a0_6, .string a0_7, .string a0_8, .string a0_9] 93)).alloc (.cells #[.int .i64 0] 38)).heap.size = w.heap.size + 1 + 1 := by simp
  have HZ := Aside0.mk hz
  clear hz he
  go_enter_defers Try.func87, Try.ntmps87
  go_wp2_with fail
  rw [← HZ.out]
  generalize (w.alloc (.cells #[.int .i64 a0_0, .int .i64 a0_1, .int .i64 a0_2, .int .i64 a0_3, .int .i64 a0_4, .bool a0_5, .bool a0_6, .string a0_7, .string a0_8, .string a0_9] 93)).alloc (.cells #[.int .i64 0] 38) = W at HB HH HE HZ ⊢
  have HP := Aside0.mk (pairs_cells W 174 (pairs1 a0_0 a0_1 a0_2 a0_3 a0_4) #[.int .i64 a0_0, .int .i64 255, .int .i64 a0_3, .int .i64 255, .int .i64 a0_4, .int .i64 255, .int .i64 a0_1, .int .i64 65535, .int .i64 a0_2, .int .i64 8191] (cells5 (a0_0, 255) (a0_3, 255) (a0_4, 255) (a0_1, 65535) (a0_2, 8191)))
  replace HB := Aside0.mk (HB.out.alloc HB.out.size (.cells #[.int .i64 a0_0, .int .i64 255, .int .i64 a0_3, .int .i64 255, .int .i64 a0_4, .int .i64 255, .int .i64 a0_1, .int .i64 65535, .int .i64 a0_2, .int .i64 8191] 174))
  replace HH := Aside0.mk (HH.out.alloc (.cells #[.int .i64 a0_0, .int .i64 255, .int .i64 a0_3, .int .i64 255, .int .i64 a0_4, .int .i64 255, .int .i64 a0_1, .int .i64 65535, .int .i64 a0_2, .int .i64 8191] 174))
  replace HE := Aside0.mk (HE.out.alloc (.cells #[.int .i64 a0_0, .int .i64 255, .int .i64 a0_3, .int .i64 255, .int .i64 a0_4, .int .i64 255, .int .i64 a0_1, .int .i64 65535, .int .i64 a0_2, .int .i64 8191] 174))
  refine (within_no W.heap.size 5 (pairs1 a0_0 a0_1 a0_2 a0_3 a0_4) _ HP.out (by simp) (by simp [pairs1]) H1.out).mono ?_
  rintro e w3 ⟨rfl, g1⟩
  replace HB := Aside0.mk (HB.out.trans (g1.mono HB.out.size))
  replace HH := Aside0.mk (HH.out.below g1 HH.out.lt)
  replace HE := Aside0.mk (HE.out.below g1 HE.out.lt)
  clear g1 HP
  generalize W.heap.size = kk at HZ ⊢
  have c0 := HE.out.cell 0 _ rfl
  have c1 := HE.out.free 0
  refine leaves_cons (f := 144) (args := #[.pointer (some ⟨w.heap.size + 1, 0, none⟩)]) (by simp) (by simp [go_sem]) ?_
  refine (Check1_caught (w.heap.size + 1) _ ⟨_, c0⟩ c1 HE.out.lt).mono ?_
  rintro e u' w'' ⟨rfl, rfl, rfl⟩
  have c2 := ((HE.out.set 0 (.int .i64 1)).alloc (.cells #[] 171)).cell 0 _ rfl
  refine ⟨.int .i64 1, ?_, rfl, (HB.out.setCell (by simp) _).alloc (by rw [World.size_setCell]; exact HB.out.size) _⟩
  simp [results, Try.results87, go_sem]
  rw [c2]
  rfl

set_option maxHeartbeats 2000000 in
set_option maxRecDepth 100000 in
theorem ip4_Check.second (a0_0 a0_1 a0_2 a0_3 a0_4 : Int) (a0_5 a0_6 : Bool) (a0_7 a0_8 a0_9 : ByteArray) (w : World) (h1 : okPairs (pairs1 a0_0 a0_1 a0_2 a0_3 a0_4)) (h2 : ¬ okPairs (pairs2 a0_7 a0_8 a0_9)) :
    Calls Try.prog 87 #[.agg #[.int .i64 a0_0, .int .i64 a0_1, .int .i64 a0_2, .int .i64 a0_3, .int .i64 a0_4, .bool a0_5, .bool a0_6, .string a0_7, .string a0_8, .string a0_9]] w fun e w' => e = .returned (.int .i64 1) ∧ Below w.heap.size w w' := by
  have hu := Try.underlying93
  have hmf : ∀ (fn : Fn) (first cap : Array Value) (w : World), (Instr.makeFunc fn first cap).run Try.prog w = .ok (.func fn first cap) w := fun _ _ _ _ => rfl
  have H1 := Aside0.mk h1
  have H2 := Aside0.mk h2
  clear h1 h2
  have HB := Aside0.mk (((Below.refl w.heap.size w).alloc (Nat.le_refl _) (.cells #[.int .i64 a0_0, .int .i64 a0_1, .int .i64 a0_2, .int .i64 a0_3, .int .i64 a0_4, .bool a0_5, .bool a0_6, .string a0_7, .string a0_8, .string a0_9] 93)).alloc (by simp) (.cells #[.int .i64 0] 38))
  have HH := Aside0.mk ((Blk.new w 93 #[.int .i64 a0_0, .int .i64 a0_1, .int .i64 a0_2, .int .i64 a0_3, .int .i64 a0_4, .bool a0_5, .bool a0_6, .string a0_7, .string a0_8, .string a0_9]).alloc (.cells #[.int .i64 0] 38))
  have he := Blk.new (w.alloc (.cells #[.int .i64 a0_0, .int .i64 a0_1, .int .i64 a0_2, .int .i64 a0_3, .int .i64 a0_4, .bool a0_5, .bool a0_6, .string a0_7, .string a0_8, .string a0_9] 93)) 38 #[.int .i64 0]
  rw [World.size_alloc] at he
  have HE := Aside0.mk he
  have hz : ((w.alloc (.cells #[.int .i64 a0_0, .int .i64 a0_1, .int .i64 a0_2, .int .i64 a0_3, .int .i64 a0_4, .bool a0_5, .bool a0_6, .string a0_7, .string a0_8, .string a0_9] 93)).alloc (.cells #[.int .i64 0] 38)).heap.size = w.heap.size + 1 + 1 := by simp
  have HZ := Aside0.mk hz
  clear hz he
  go_enter_defers Try.func87, Try.ntmps87
  go_wp2_with fail
  rw [← HZ.out]
  generalize (w.alloc (.cells #[.int .i64 a0_0, .int .i64 a0_1, .int .i64 a0_2, .int .i64 a0_3, .int .i64 a0_4, .bool a0_5, .bool a0_6, .string a0_7, .string a0_8, .string a0_9] 93)).alloc (.cells #[.int .i64 0] 38) = W at HB HH HE HZ ⊢
  have HP := Aside0.mk (pairs_cells W 174 (pairs1 a0_0 a0_1 a0_2 a0_3 a0_4) #[.int .i64 a0_0, .int .i64 255, .int .i64 a0_3, .int .i64 255, .int .i64 a0_4, .int .i64 255, .int .i64 a0_1, .int .i64 65535, .int .i64 a0_2, .int .i64 8191] (cells5 (a0_0, 255) (a0_3, 255) (a0_4, 255) (a0_1, 65535) (a0_2, 8191)))
  replace HB := Aside0.mk (HB.out.alloc HB.out.size (.cells #[.int .i64 a0_0, .int .i64 255, .int .i64 a0_3, .int .i64 255, .int .i64 a0_4, .int .i64 255, .int .i64 a0_1, .int .i64 65535, .int .i64 a0_2, .int .i64 8191] 174))
  replace HH := Aside0.mk (HH.out.alloc (.cells #[.int .i64 a0_0, .int .i64 255, .int .i64 a0_3, .int .i64 255, .int .i64 a0_4, .int .i64 255, .int .i64 a0_1, .int .i64 65535, .int .i64 a0_2, .int .i64 8191] 174))
  replace HE := Aside0.mk (HE.out.alloc (.cells #[.int .i64 a0_0, .int .i64 255, .int .i64 a0_3, .int .i64 255, .int .i64 a0_4, .int .i64 255, .int .i64 a0_1, .int .i64 65535, .int .i64 a0_2, .int .i64 8191] 174))
  refine (within_yes W.heap.size 5 (pairs1 a0_0 a0_1 a0_2 a0_3 a0_4) _ HP.out (by simp) (by simp [pairs1]) H1.out).mono ?_
  rintro e w3 ⟨rfl, g1⟩
  replace HB := Aside0.mk (HB.out.trans (g1.mono HB.out.size))
  replace HH := Aside0.mk (HH.out.below g1 HH.out.lt)
  replace HE := Aside0.mk (HE.out.below g1 HE.out.lt)
  clear g1 HP
  generalize W.heap.size = kk at HZ ⊢
  have hc := HH.out.cells
  go_wp2_with fail
  clear hc
  have HP := Aside0.mk (pairs_cells w3 174 (pairs2 a0_7 a0_8 a0_9) #[.int .i64 (Go.bits .xor .i64 (a0_7.size : Int) 4), .int .i64 0, .int .i64 (Go.bits .xor .i64 (a0_8.size : Int) 4), .int .i64 0, .int .i64 (a0_9.size : Int), .int .i64 40, .int .i64 ((a0_9.size : Int) % 4), .int .i64 0] (cells4 (Go.bits .xor .i64 (a0_7.size : Int) 4, 0) (Go.bits .xor .i64 (a0_8.size : Int) 4, 0) ((a0_9.size : Int), 40) ((a0_9.size : Int) % 4, 0)))
  replace HB := Aside0.mk (HB.out.alloc HB.out.size (.cells #[.int .i64 (Go.bits .xor .i64 (a0_7.size : Int) 4), .int .i64 0, .int .i64 (Go.bits .xor .i64 (a0_8.size : Int) 4), .int .i64 0, .int .i64 (a0_9.size : Int), .int .i64 40, .int .i64 ((a0_9.size : Int) % 4), .int .i64 0] 174))
  replace HE := Aside0.mk (HE.out.alloc (.cells #[.int .i64 (Go.bits .xor .i64 (a0_7.size : Int) 4), .int .i64 0, .int .i64 (Go.bits .xor .i64 (a0_8.size : Int) 4), .int .i64 0, .int .i64 (a0_9.size : Int), .int .i64 40, .int .i64 ((a0_9.size : Int) % 4), .int .i64 0] 174))
  refine (within_no w3.heap.size 4 (pairs2 a0_7 a0_8 a0_9) _ HP.out (by simp) (by simp [pairs2]) H2.out).mono ?_
  rintro e w4 ⟨rfl, g1⟩
  replace HB := Aside0.mk (HB.out.trans (g1.mono HB.out.size))
  replace HE := Aside0.mk (HE.out.below g1 HE.out.lt)
  clear g1 HP HH
  have c0 := HE.out.cell 0 _ rfl
  have c1 := HE.out.free 0
  refine leaves_cons (f := 144) (args := #[.pointer (some ⟨w.heap.size + 1, 0, none⟩)]) (by simp) (by simp [go_sem]) ?_
  refine (Check1_caught (w.heap.size + 1) _ ⟨_, c0⟩ c1 HE.out.lt).mono ?_
  rintro e u' w'' ⟨rfl, rfl, rfl⟩
  have c2 := ((HE.out.set 0 (.int .i64 1)).alloc (.cells #[] 171)).cell 0 _ rfl
  refine ⟨.int .i64 1, ?_, rfl, (HB.out.setCell (by simp) _).alloc (by rw [World.size_setCell]; exact HB.out.size) _⟩
  simp [results, Try.results87, go_sem]
  rw [c2]
  rfl

set_option maxHeartbeats 2000000 in
set_option maxRecDepth 100000 in
theorem ip4_Check.yes (a0_0 a0_1 a0_2 a0_3 a0_4 : Int) (a0_5 a0_6 : Bool) (a0_7 a0_8 a0_9 : ByteArray) (w : World) (h1 : okPairs (pairs1 a0_0 a0_1 a0_2 a0_3 a0_4)) (h2 : okPairs (pairs2 a0_7 a0_8 a0_9)) :
    Calls Try.prog 87 #[.agg #[.int .i64 a0_0, .int .i64 a0_1, .int .i64 a0_2, .int .i64 a0_3, .int .i64 a0_4, .bool a0_5, .bool a0_6, .string a0_7, .string a0_8, .string a0_9]] w fun e w' => e = .returned (.int .i64 0) ∧ Below w.heap.size w w' := by
  have hu := Try.underlying93
  have hmf : ∀ (fn : Fn) (first cap : Array Value) (w : World), (Instr.makeFunc fn first cap).run Try.prog w = .ok (.func fn first cap) w := fun _ _ _ _ => rfl
  have H1 := Aside0.mk h1
  have H2 := Aside0.mk h2
  clear h1 h2
  have HB := Aside0.mk (((Below.refl w.heap.size w).alloc (Nat.le_refl _) (.cells #[.int .i64 a0_0, .int .i64 a0_1, .int .i64 a0_2, .int .i64 a0_3, .int .i64 a0_4, .bool a0_5, .bool a0_6, .string a0_7, .string a0_8, .string a0_9] 93)).alloc (by simp) (.cells #[.int .i64 0] 38))
  have HH := Aside0.mk ((Blk.new w 93 #[.int .i64 a0_0, .int .i64 a0_1, .int .i64 a0_2, .int .i64 a0_3, .int .i64 a0_4, .bool a0_5, .bool a0_6, .string a0_7, .string a0_8, .string a0_9]).alloc (.cells #[.int .i64 0] 38))
  have he := Blk.new (w.alloc (.cells #[.int .i64 a0_0, .int .i64 a0_1, .int .i64 a0_2, .int .i64 a0_3, .int .i64 a0_4, .bool a0_5, .bool a0_6, .string a0_7, .string a0_8, .string a0_9] 93)) 38 #[.int .i64 0]
  rw [World.size_alloc] at he
  have HE := Aside0.mk he
  have hz : ((w.alloc (.cells #[.int .i64 a0_0, .int .i64 a0_1, .int .i64 a0_2, .int .i64 a0_3, .int .i64 a0_4, .bool a0_5, .bool a0_6, .string a0_7, .string a0_8, .string a0_9] 93)).alloc (.cells #[.int .i64 0] 38)).heap.size = w.heap.size + 1 + 1 := by simp
  have HZ := Aside0.mk hz
  clear hz he
  go_enter_defers Try.func87, Try.ntmps87
  go_wp2_with fail
  rw [← HZ.out]
  generalize (w.alloc (.cells #[.int .i64 a0_0, .int .i64 a0_1, .int .i64 a0_2, .int .i64 a0_3, .int .i64 a0_4, .bool a0_5, .bool a0_6, .string a0_7, .string a0_8, .string a0_9] 93)).alloc (.cells #[.int .i64 0] 38) = W at HB HH HE HZ ⊢
  have HP := Aside0.mk (pairs_cells W 174 (pairs1 a0_0 a0_1 a0_2 a0_3 a0_4) #[.int .i64 a0_0, .int .i64 255, .int .i64 a0_3, .int .i64 255, .int .i64 a0_4, .int .i64 255, .int .i64 a0_1, .int .i64 65535, .int .i64 a0_2, .int .i64 8191] (cells5 (a0_0, 255) (a0_3, 255) (a0_4, 255) (a0_1, 65535) (a0_2, 8191)))
  replace HB := Aside0.mk (HB.out.alloc HB.out.size (.cells #[.int .i64 a0_0, .int .i64 255, .int .i64 a0_3, .int .i64 255, .int .i64 a0_4, .int .i64 255, .int .i64 a0_1, .int .i64 65535, .int .i64 a0_2, .int .i64 8191] 174))
  replace HH := Aside0.mk (HH.out.alloc (.cells #[.int .i64 a0_0, .int .i64 255, .int .i64 a0_3, .int .i64 255, .int .i64 a0_4, .int .i64 255, .int .i64 a0_1, .int .i64 65535, .int .i64 a0_2, .int .i64 8191] 174))
  replace HE := Aside0.mk (HE.out.alloc (.cells #[.int .i64 a0_0, .int .i64 255, .int .i64 a0_3, .int .i64 255, .int .i64 a0_4, .int .i64 255, .int .i64 a0_1, .int .i64 65535, .int .i64 a0_2, .int .i64 8191] 174))
  refine (within_yes W.heap.size 5 (pairs1 a0_0 a0_1 a0_2 a0_3 a0_4) _ HP.out (by simp) (by simp [pairs1]) H1.out).mono ?_
  rintro e w3 ⟨rfl, g1⟩
  replace HB := Aside0.mk (HB.out.trans (g1.mono HB.out.size))
  replace HH := Aside0.mk (HH.out.below g1 HH.out.lt)
  replace HE := Aside0.mk (HE.out.below g1 HE.out.lt)
  clear g1 HP
  generalize W.heap.size = kk at HZ ⊢
  have hc := HH.out.cells
  go_wp2_with fail
  clear hc
  have HP := Aside0.mk (pairs_cells w3 174 (pairs2 a0_7 a0_8 a0_9) #[.int .i64 (Go.bits .xor .i64 (a0_7.size : Int) 4), .int .i64 0, .int .i64 (Go.bits .xor .i64 (a0_8.size : Int) 4), .int .i64 0, .int .i64 (a0_9.size : Int), .int .i64 40, .int .i64 ((a0_9.size : Int) % 4), .int .i64 0] (cells4 (Go.bits .xor .i64 (a0_7.size : Int) 4, 0) (Go.bits .xor .i64 (a0_8.size : Int) 4, 0) ((a0_9.size : Int), 40) ((a0_9.size : Int) % 4, 0)))
  replace HB := Aside0.mk (HB.out.alloc HB.out.size (.cells #[.int .i64 (Go.bits .xor .i64 (a0_7.size : Int) 4), .int .i64 0, .int .i64 (Go.bits .xor .i64 (a0_8.size : Int) 4), .int .i64 0, .int .i64 (a0_9.size : Int), .int .i64 40, .int .i64 ((a0_9.size : Int) % 4), .int .i64 0] 174))
  replace HE := Aside0.mk (HE.out.alloc (.cells #[.int .i64 (Go.bits .xor .i64 (a0_7.size : Int) 4), .int .i64 0, .int .i64 (Go.bits .xor .i64 (a0_8.size : Int) 4), .int .i64 0, .int .i64 (a0_9.size : Int), .int .i64 40, .int .i64 ((a0_9.size : Int) % 4), .int .i64 0] 174))
  refine (within_yes w3.heap.size 4 (pairs2 a0_7 a0_8 a0_9) _ HP.out (by simp) (by simp [pairs2]) H2.out).mono ?_
  rintro e w4 ⟨rfl, g1⟩
  replace HB := Aside0.mk (HB.out.trans (g1.mono HB.out.size))
  replace HE := Aside0.mk (HE.out.below g1 HE.out.lt)
  clear g1 HP HH
  have c0 := HE.out.cell 0 _ rfl
  have c1 := HE.out.free 0
  go_wp2
  refine leaves_cons (f := 144) (args := #[.pointer (some ⟨w.heap.size + 1, 0, none⟩)]) (by simp) (by simp [go_sem]) ?_
  refine (Check1_idle (w.heap.size + 1) _).mono ?_
  rintro e u' w'' ⟨rfl, rfl, rfl⟩
  have c2 := ((HE.out.set 0 (.int .i64 0)).alloc (.cells #[] 171)).cell 0 _ rfl
  refine ⟨.int .i64 0, ?_, rfl, (HB.out.setCell (by simp) _).alloc (by rw [World.size_setCell]; exact HB.out.size) _⟩
  simp [results, Try.results87, go_sem]
  rw [c2]
  rfl

theorem ip4_Check.calls (a0_0 a0_1 a0_2 a0_3 a0_4 : Int) (a0_5 a0_6 : Bool) (a0_7 a0_8 a0_9 : ByteArray) (r : Int) (w : World) (h : ip4_Check.f a0_0 a0_1 a0_2 a0_3 a0_4 a0_5 a0_6 a0_7 a0_8 a0_9 = some r) :
    Calls Try.prog 87 #[.agg #[.int .i64 a0_0, .int .i64 a0_1, .int .i64 a0_2, .int .i64 a0_3, .int .i64 a0_4, .bool a0_5, .bool a0_6, .string a0_7, .string a0_8, .string a0_9]] w fun e w' => e = .returned (.int .i64 r) ∧ Below w.heap.size w w' := by
  unfold ip4_Check.f at h
  split at h
  case isFalse => exact absurd h (by simp)
  rename_i hs
  obtain rfl := Option.some.inj h
  by_cases h1 : okPairs (pairs1 a0_0 a0_1 a0_2 a0_3 a0_4)
  · by_cases h2 : okPairs (pairs2 a0_7 a0_8 a0_9)
    · rw [if_pos ((ok4_iff hs.1 hs.2.1).mpr ⟨h1, h2⟩)]; exact ip4_Check.yes _ _ _ _ _ _ _ _ _ _ w h1 h2
    · rw [if_neg (fun h => h2 ((ok4_iff hs.1 hs.2.1).mp h).2)]; exact ip4_Check.second _ _ _ _ _ _ _ _ _ _ w h1 h2
  · rw [if_neg (fun h => h1 ((ok4_iff hs.1 hs.2.1).mp h).1)]; exact ip4_Check.first _ _ _ _ _ _ _ _ _ _ w h1
end Go.Proofs.Ytejmipoolbodgaa.G
end

section
/- By hand: ip4.bit, ip4.header. -/
namespace Go.Proofs.Ytejmipoolbodgaa.G
open Go.RowKit Go.Proofs.YtejmipoolbodgaaW.PrintWords Go.Proofs.YtejmipoolbodgaaW.PrintLast Go.Proofs.YtejmipoolbodgaaW.PrintMore Go.Proofs.Ytejmipoolbodgaa.Pal
set_option linter.unusedVariables false
set_option linter.unusedSimpArgs false
set_option maxRecDepth 100000
theorem bit_no (n : Int) (w : World) :
    Calls Try.prog 162 #[.bool false, .int .i64 n] w fun e w' => e = .returned (.int .i64 0) ∧ w' = w := by
  go_enter Try.func162, Try.ntmps162
  go_wp2
  go_ret
  exact ⟨rfl, rfl⟩
/-- A flag's bit. -/
def bit14 (b : Bool) : Int := if b then 16384 else 0
def bit13 (b : Bool) : Int := if b then 8192 else 0
theorem bit_yes14 (w : World) :
    Calls Try.prog 162 #[.bool true, .int .i64 14] w fun e w' => e = .returned (.int .i64 16384) ∧ w' = w := by
  go_enter Try.func162, Try.ntmps162
  go_wp2
  go_ret
  exact ⟨rfl, rfl⟩
theorem bit_any14 (b : Bool) (w : World) :
    Calls Try.prog 162 #[.bool b, .int .i64 14] w fun e w' => e = .returned (.int .i64 (bit14 b)) ∧ w' = w := by
  cases b
  · exact bit_no _ w
  · exact bit_yes14 w
theorem bit_yes13 (w : World) :
    Calls Try.prog 162 #[.bool true, .int .i64 13] w fun e w' => e = .returned (.int .i64 8192) ∧ w' = w := by
  go_enter Try.func162, Try.ntmps162
  go_wp2
  go_ret
  exact ⟨rfl, rfl⟩
theorem bit_any13 (b : Bool) (w : World) :
    Calls Try.prog 162 #[.bool b, .int .i64 13] w fun e w' => e = .returned (.int .i64 (bit13 b)) ∧ w' = w := by
  cases b
  · exact bit_no _ w
  · exact bit_yes13 w
def bitV (b : Bool) (n : Int) : Int := if n = 14 then bit14 b else bit13 b
theorem bit_gen (b : Bool) (n : Int) (h : n = 14 ∨ n = 13) (w : World) :
    Calls Try.prog 162 #[.bool b, .int .i64 n] w fun e w' => e = .returned (.int .i64 (bitV b n)) ∧ w' = w := by
  rcases h with rfl | rfl
  · exact bit_any14 b w
  · exact bit_any13 b w
theorem WS.drew {B a b : Nat} {w w1 : World} {T : TypeId} {cs : Array Value} {l : List UInt8} (h : WS B a b w w1 T cs l) : WS B a b w w1.drew T cs l := ⟨⟨h.1.1, h.1.2.1, h.1.2.2.drew⟩, h.2⟩
def first4 (n : Nat) : Int := Go.bits .or .i64 64 (((20 + n) / 4 : Nat) : Int)
def flags4 (off : Int) (df mf : Bool) : Int := Go.bits .or .i64 (Go.bits .or .i64 (bit14 df) (bit13 mf)) off
def ip4Bytes (tos id off ttl proto : Int) (df mf : Bool) (src dst opt : ByteArray) (total check : Int) : List UInt8 :=
  nb 1 (u64n (first4 opt.size)) ++ nb 1 (u64n tos) ++ nb 2 (u64n total) ++ nb 2 (u64n id) ++ nb 2 (u64n (flags4 off df mf)) ++ nb 1 (u64n ttl) ++ nb 1 (u64n proto) ++ nb 2 (u64n check) ++ bl (src ++ dst ++ opt)
def ip4_header.f (a0_0 a0_1 a0_2 a0_3 a0_4 : Int) (a0_5 a0_6 : Bool) (a0_7 a0_8 a0_9 : ByteArray) (a1 a2 : Int) : Option ByteArray :=
  if a0_7.size + a0_8.size + a0_9.size ≤ 1099511627776 then some ⟨(ip4Bytes a0_0 a0_1 a0_2 a0_3 a0_4 a0_5 a0_6 a0_7 a0_8 a0_9 a1 a2).toArray⟩ else none

set_option maxHeartbeats 2000000 in
set_option maxRecDepth 100000 in
theorem ip4_header.calls (a0_0 a0_1 a0_2 a0_3 a0_4 : Int) (a0_5 a0_6 : Bool) (a0_7 a0_8 a0_9 : ByteArray) (a1 a2 : Int) (r : ByteArray) (w : World) (h : ip4_header.f a0_0 a0_1 a0_2 a0_3 a0_4 a0_5 a0_6 a0_7 a0_8 a0_9 a1 a2 = some r) :
    Calls Try.prog 142 #[.agg #[.int .i64 a0_0, .int .i64 a0_1, .int .i64 a0_2, .int .i64 a0_3, .int .i64 a0_4, .bool a0_5, .bool a0_6, .string a0_7, .string a0_8, .string a0_9], .int .i64 a1, .int .i64 a2] w fun e w' => e = .returned (.string r) ∧ Below w.heap.size w w' := by
  unfold ip4_header.f at h
  split at h
  case isFalse => exact absurd h (by simp)
  rename_i hs
  obtain rfl := Option.some.inj h
  clear h
  have hu := Try.underlying93
  have HZ := Aside0.mk hs
  have d3 : (9223372036854775807 < a0_7.size + a0_8.size) = False := eq_false (by omega)
  have d4 : (9223372036854775807 < a0_7.size + a0_8.size + a0_9.size) = False := eq_false (by omega)
  have q1 : wrap64 (20 + (a0_9.size : Int)) = 20 + (a0_9.size : Int) := by unfold wrap64; omega
  have q2 : IntKind.i64.wrap (20 + (a0_9.size : Int)) = 20 + (a0_9.size : Int) := by rw [IntKind.wrap_i64]; omega
  have q0 : Int.tdiv (20 + (a0_9.size : Int)) 4 = (((20 + a0_9.size) / 4 : Nat) : Int) := by rw [Int.tdiv_eq_ediv_of_nonneg (by omega)]; omega
  have q3 : wrap64 (Int.tdiv (20 + (a0_9.size : Int)) 4) = (((20 + a0_9.size) / 4 : Nat) : Int) := by rw [q0]; unfold wrap64; omega
  have q4 : IntKind.i64.wrap (Int.tdiv (20 + (a0_9.size : Int)) 4) = (((20 + a0_9.size) / 4 : Nat) : Int) := by rw [q0, IntKind.wrap_i64]; omega
  have q5 : wrap64 ((20 + (a0_9.size : Int)) / 4) = (((20 + a0_9.size) / 4 : Nat) : Int) := by unfold wrap64; omega
  clear hs
  go_enter Try.func142, Try.ntmps142
  have HS := Aside0.mk (WS.start w 93 #[.int .i64 a0_0, .int .i64 a0_1, .int .i64 a0_2, .int .i64 a0_3, .int .i64 a0_4, .bool a0_5, .bool a0_6, .string a0_7, .string a0_8, .string a0_9])
  have hc := HS.out.1.2.1.cells
  go_wp2_with fail
  rw [q5]
  clear q0 q1 q2 q3 q4 q5
  refine (Writer_U8.calls _ _ _ _ HS.out.1.1 (by simp only [List.length_append, List.length_nil, nb_length]; omega)).mono ?_
  rintro e w2 ⟨rfl, g1, g2⟩
  replace HS := Aside0.mk (HS.out.next g1 g2)
  clear g1 g2 hc
  have hc := HS.out.1.2.1.cells
  go_wp2_with fail
  refine (Writer_U8.calls _ _ _ _ HS.out.1.1 (by simp only [List.length_append, List.length_nil, nb_length]; omega)).mono ?_
  rintro e w3 ⟨rfl, g1, g2⟩
  replace HS := Aside0.mk (HS.out.next g1 g2)
  clear g1 g2 hc
  have hc := HS.out.1.2.1.cells
  go_wp2_with fail
  refine (Writer_U16.calls _ _ _ _ HS.out.1.1 (by simp only [List.length_append, List.length_nil, nb_length]; omega)).mono ?_
  rintro e w4 ⟨rfl, g1, g2⟩
  replace HS := Aside0.mk (HS.out.next g1 g2)
  clear g1 g2 hc
  have hc := HS.out.1.2.1.cells
  go_wp2_with fail
  refine (Writer_U16.calls _ _ _ _ HS.out.1.1 (by simp only [List.length_append, List.length_nil, nb_length]; omega)).mono ?_
  rintro e w5 ⟨rfl, g1, g2⟩
  replace HS := Aside0.mk (HS.out.next g1 g2)
  clear g1 g2 hc
  have hc := HS.out.1.2.1.cells
  go_wp2_with fail
  go_region_with ((first
      | (go_at_call 162; refine (bit_gen _ _ (by decide) _).mono ?_; rintro e wq ⟨rfl, rfl⟩)
      | (go_at_call 137; refine (Writer_U16.calls _ _ _ _ HS.out.drew.1.1 ?_).mono ?_; simp only [List.length_append, List.length_nil, nb_length]; omega; rintro e w6 ⟨rfl, g1, g2⟩; have HS6 := Aside0.mk (HS.out.drew.next g1 g2); clear g1 g2)))
  all_goals
    clear hc HS
    have HS := HS6
    clear HS6
    have hc := HS.out.1.2.1.cells
    go_wp2_with fail
    refine (Writer_U8.calls _ _ _ _ HS.out.1.1 (by simp only [List.length_append, List.length_nil, nb_length]; omega)).mono ?_
    rintro e w7 ⟨rfl, g1, g2⟩
    replace HS := Aside0.mk (HS.out.next g1 g2)
    clear g1 g2 hc
    have hc := HS.out.1.2.1.cells
    go_wp2_with fail
    refine (Writer_U8.calls _ _ _ _ HS.out.1.1 (by simp only [List.length_append, List.length_nil, nb_length]; omega)).mono ?_
    rintro e w8 ⟨rfl, g1, g2⟩
    replace HS := Aside0.mk (HS.out.next g1 g2)
    clear g1 g2 hc
    have hc := HS.out.1.2.1.cells
    go_wp2_with fail
    refine (Writer_U16.calls _ _ _ _ HS.out.1.1 (by simp only [List.length_append, List.length_nil, nb_length]; omega)).mono ?_
    rintro e w9 ⟨rfl, g1, g2⟩
    replace HS := Aside0.mk (HS.out.next g1 g2)
    clear g1 g2 hc
    have hc := HS.out.1.2.1.cells
    go_wp2_with fail
    refine (Writer_Text.calls _ _ _ _ HS.out.1.1 (by have := HZ.out; simp only [List.length_append, List.length_nil, nb_length, ByteArray.size_append]; omega)).mono ?_
    rintro e w10 ⟨rfl, g1, g2⟩
    replace HS := Aside0.mk (HS.out.next g1 g2)
    clear g1 g2 hc
    go_wp2_with fail
    refine (Writer_String.calls _ _ _ HS.out.1.1).mono ?_
    rintro e w11 ⟨rfl, g1, g2⟩
    replace HS := Aside0.mk (HS.out.next g1 g2)
    clear g1 g2
    go_wp2
    go_ret
    exact ⟨by simp [ip4Bytes, u64n, first4, flags4, bitV], HS.out.1.2.2⟩
end Go.Proofs.Ytejmipoolbodgaa.G
end

section
/- By hand: sum.fold, sum.Sum's closure, sum.Sum: what they return is the plain checksum of all parts' bytes. -/
namespace Go.Proofs.Ytejmipoolbodgaa.G
open Go.RowKit Go.Proofs.YtejmipoolbodgaaW.PrintWords Go.Proofs.YtejmipoolbodgaaW.PrintLast Go.Proofs.YtejmipoolbodgaaW.PrintMore Go.Proofs.Ytejmipoolbodgaa.Pal
set_option linter.unusedVariables false
set_option linter.unusedSimpArgs false

def sum_fold.f (a0 : Int) : Option Int := if 0 ≤ a0 ∧ a0 ≤ 18446744073709551615 then some ((fold16 a0.toNat : Nat) : Int) else none

def addW (t : Int) (o : Bool) (b : Int) : Int := t + if o then b else b * 256
set_option maxHeartbeats 400000 in
set_option maxRecDepth 100000 in
theorem sum_add.calls (b t : Int) (o : Bool) (po pt : Nat) (w : World) (hb0 : 0 ≤ b) (hb1 : b ≤ 255) (ht0 : 0 ≤ t) (ht1 : t ≤ 18446744073709486000)
    (h1 : w.cell? ⟨po, 0, none⟩ = some (.bool o)) (h2 : w.cell? ⟨pt, 0, none⟩ = some (.int .u64 t)) (f1 : w.frozen? ⟨po, 0, none⟩ = false) (f2 : w.frozen? ⟨pt, 0, none⟩ = false) (hne : ¬ po = pt) :
    Calls Try.prog 120 #[.int .u8 b, .pointer (some ⟨po, 0, none⟩), .pointer (some ⟨pt, 0, none⟩)] w fun e w' => e = .returned (.tuple #[]) ∧ w' = (w.setCell ⟨pt, 0, none⟩ (.int .u64 (addW t o b))).setCell ⟨po, 0, none⟩ (.bool (!o)) := by
  have hnot : ∀ (x : Bool) (w : World), (Op.unary .not (.bool x)).run Try.prog w = .ok (.bool (!x)) w := fun _ _ => rfl
  cases o
  · go_enter Try.func120, Try.ntmps120
    go_wp2
    go_end0
    exact ⟨rfl, by simp [addW]⟩
  · go_enter Try.func120, Try.ntmps120
    go_wp2
    go_end0
    exact ⟨rfl, by simp [addW]⟩

theorem and_low (x : Nat) (h : x ≤ 18446744073709551615) : Go.bits .and .u64 (x : Int) 65535 = ((x % 65536 : Nat) : Int) := by
  have e := u64_and' x 65535 (by omega) (by decide)
  rw [Nat.and_two_pow_sub_one_eq_mod x 16] at e
  exact e

set_option maxHeartbeats 400000 in
theorem sum_fold.calls (a0 : Int) (r : Int) (w : World) (h : sum_fold.f a0 = some r) :
    Calls Try.prog 121 #[.int .u64 a0] w fun e w' => e = .returned (.int .i64 r) ∧ Below w.heap.size w w' := by
  unfold sum_fold.f at h
  by_cases hc : 0 ≤ a0 ∧ a0 ≤ 18446744073709551615
  case neg => rw [if_neg hc] at h; exact absurd h (by simp)
  rw [if_pos hc] at h
  have H := Aside0.mk (Option.some.inj h)
  obtain ⟨h0, hk⟩ := hc
  clear h
  go_enter Try.func121, Try.ntmps121
  go_wp2
  go_loopg [0] a0.toNat (fun kq v0 w' => ∃ x : Nat, v0 = .int .u64 (x : Int) ∧ Aside0 (fold16 x = fold16 a0.toNat) ∧ Aside0 (x ≤ kq ∧ x ≤ 18446744073709551615) ∧ Aside0 (Below w.heap.size w w'))
  case atStart => exact ⟨a0.toNat, by rw [Int.toNat_of_nonneg h0], ⟨rfl⟩, ⟨by omega⟩, ⟨Below.refl _ _⟩⟩
  case round =>
    obtain ⟨x, rfl, HA, HK, HB⟩ := hrel
    have hx := HK.out.2
    clear hk h0
    by_cases hlt : 65535 < x
    · have e1 := and_low x hx
      go_wp2
      go_roundg (x % 65536 + x / 65536)
      case measure => have := HK.out; omega
      case rel => exact ⟨x % 65536 + x / 65536, by simp, ⟨by rw [fold16_step]; exact HA.out⟩, ⟨by omega⟩, HB⟩
    · have e2 : wrap64 (x : Int) = x := by unfold wrap64; omega
      have HX := Aside0.mk (fold16_id x (by omega))
      go_wp2
      go_ret
      exact ⟨by have h1 := H.out; have h2 := HA.out; have h3 := HX.out; rw [h2] at h3; rw [← h1, h3]; rfl, HB.out⟩

def SumInv (w wr : World) (bs : List UInt8) : Prop :=
  Below w.heap.size w wr ∧ wr.heap[w.heap.size]? = some (.cells #[.int .u64 (tot false bs : Nat)] 64 (0, 0)) ∧ wr.heap[w.heap.size + 1]? = some (.cells #[.bool (odd bs)] 4 (0, 0))
theorem SumInv.start (w : World) : SumInv w ((w.alloc (.cells #[.int .u64 0] 64)).alloc (.cells #[.bool false] 4)) [] := by
  refine ⟨((Below.refl _ _).alloc (Nat.le_refl _) _).alloc (by simp) _, ?_, ?_⟩
  · rw [Below.heap_alloc _ _ _ (by simp)]
    exact heap_alloc_new w _
  · have := heap_alloc_new (w.alloc (.cells #[.int .u64 0] 64)) (.cells #[.bool false] 4)
    rwa [World.size_alloc] at this
theorem SumInv.step {w wr : World} {bs : List UInt8} (h : SumInv w wr bs) (b : UInt8) :
    SumInv w ((wr.setCell ⟨w.heap.size, 0, none⟩ (.int .u64 (addW (tot false bs : Nat) (odd bs) (b.toNat : Int)))).setCell ⟨w.heap.size + 1, 0, none⟩ (.bool (!odd bs))) (bs ++ [b]) := by
  obtain ⟨h1, h2, h3⟩ := h
  refine ⟨(h1.setCell (by simp) _).setCell (by simp) _, ?_, ?_⟩
  · rw [Below.heap_setCell _ _ _ _ (by simp), one_setCell h2, tot_snoc, addW]
    cases odd bs <;> simp
  · rw [odd_snoc]
    exact one_setCell (by rw [Below.heap_setCell _ _ _ _ (by simp)]; exact h3)

theorem SumInv.facts {w wr : World} {bs : List UInt8} (h : SumInv w wr bs) :
    wr.cell? ⟨w.heap.size, 0, none⟩ = some (.int .u64 (tot false bs : Nat)) ∧ wr.frozen? ⟨w.heap.size, 0, none⟩ = false ∧ wr.cell? ⟨w.heap.size + 1, 0, none⟩ = some (.bool (odd bs)) ∧ wr.frozen? ⟨w.heap.size + 1, 0, none⟩ = false :=
  ⟨cell_of_one h.2.1, free_of_one h.2.1, cell_of_one h.2.2, free_of_one h.2.2⟩

set_option maxHeartbeats 400000 in
theorem sum_Sum.walk (A0 : Option Addr) (c0 : Nat) (l0 : List ByteArray) (w : World) (hr0 : Kd.C Kd.string w A0 l0.length l0) (hc0 : l0.length ≤ c0) (hs : (cat l0).length ≤ 1099511627776) :
    Calls Try.prog 37 #[.slice A0 l0.length c0] w fun e w' => e = .returned (.int .i64 (csum (cat l0) : Nat)) ∧ Below w.heap.size w w' := by
  have hmf : ∀ (fn : Fn) (first cap : Array Value) (w : World), (Instr.makeFunc fn first cap).run Try.prog w = .ok (.func fn first cap) w := fun _ _ _ _ => rfl
  have HR := Aside0.mk hr0
  have HS := Aside0.mk hs
  clear hr0 hs
  go_enter Try.func37, Try.ntmps37
  go_wp2
  go_loopg [12] l0.length (fun kq v12 wr => ∃ i : Nat, v12 = .int .i64 (i : Int) ∧ Aside0 (i + kq = l0.length) ∧ SumInv w wr (cat (l0.take i)))
  case atStart => exact ⟨0, rfl, ⟨by omega⟩, SumInv.start w⟩
  case round =>
    obtain ⟨i, rfl, HK, HI⟩ := hrel
    by_cases hlt : i < l0.length
    · obtain ⟨ad, rfl, hcell⟩ := Kd.at_string (Kd.C_below HR.out HI.1) (i : Int) (by omega) (by omega)
      rw [Int.toNat_natCast] at hcell
      have HP : Aside0 (rdOf ByteArray.empty l0 (i : Int) = l0[i]) := ⟨by simp [rdOf, List.getD_eq_getElem?_getD, List.getElem?_eq_getElem hlt]⟩
      generalize rdOf ByteArray.empty l0 (i : Int) = p at hcell HP
      have HL : Aside0 ((cat (l0.take i)).length + p.size ≤ 1099511627776) := ⟨by
        have h1 := HS.out
        have h2 : cat l0 = cat (l0.take i) ++ (bl p ++ cat (l0.drop (i + 1))) := by
          conv => lhs; rw [← List.take_append_drop i l0]
          rw [List.drop_eq_getElem_cons hlt, ← HP.out]
          simp [cat]
        rw [h2, List.length_append, List.length_append, bl_length] at h1
        omega⟩
      go_wp2
      obtain ⟨wo, rfl⟩ : ∃ wo : World, wo = wr := ⟨_, rfl⟩
      clear hcell
      go_loopg [18] p.size (fun kq v18 wr => ∃ j : Nat, v18 = .int .i64 (j : Int) ∧ Aside0 (j + kq = p.size) ∧ SumInv w wr (cat (l0.take i) ++ (bl p).take j))
      case atStart => exact ⟨0, rfl, ⟨by omega⟩, by rw [List.take_zero, List.append_nil]; exact HI⟩
      case round =>
        obtain ⟨j, rfl, HKj, HJ⟩ := hrel
        by_cases hj : j < p.size
        · obtain ⟨c1, c2, c3, c4⟩ := HJ.facts
          have htot := tot_le (cat (l0.take i) ++ (bl p).take j) false
          have hlen : (cat (l0.take i) ++ (bl p).take j).length ≤ 1099511627776 := by
            have := HL.out
            rw [List.length_append, List.length_take, bl_length]
            omega
          have HT : Aside0 ((bl p).take (j + 1) = (bl p).take j ++ [p[j]]) := ⟨by
            rw [List.take_succ_eq_append_getElem (by rw [bl_length]; exact hj)]
            rfl⟩
          have hbyte := p[j].toNat_lt
          have hw : wrap64 ((j : Int) + 1) = ((j + 1 : Nat) : Int) := by have := HL.out; unfold wrap64; omega
          go_wp2_with fail
          refine (sum_add.calls _ _ _ _ _ _ (by omega) (by omega) (by omega) (by omega) c3 c1 c4 c2 (by omega)).mono ?_
          rintro e w' ⟨rfl, rfl⟩
          have HN := Aside0.mk (HJ.step p[j])
          clear c1 c2 c3 c4
          go_wp2
          go_roundg (p.size - (j + 1))
          case measure => have := HKj.out; omega
          case rel => exact ⟨j + 1, by first | rfl | rw [hw], ⟨by have := HKj.out; omega⟩, by rw [HT.out, ← List.append_assoc]; exact HN.out⟩
        · have HT : Aside0 ((bl p).take j = bl p) := ⟨List.take_of_length_le (by rw [bl_length]; omega)⟩
          have HT2 : Aside0 (cat (l0.take (i + 1)) = cat (l0.take i) ++ bl p) := ⟨by
            rw [List.take_succ_eq_append_getElem hlt, ← HP.out]
            simp [cat]⟩
          have hlen : l0.length ≤ 9223372036854775807 := HR.out.2.1
          have hw : wrap64 ((i : Int) + 1) = ((i + 1 : Nat) : Int) := by unfold wrap64; omega
          go_wp2
          go_roundg (l0.length - (i + 1))
          case measure => have := HK.out; omega
          case rel => exact ⟨i + 1, by rfl, ⟨by omega⟩, by rw [HT2.out, ← HT.out]; exact HJ⟩
    · have HT : Aside0 (l0.take i = l0) := ⟨List.take_of_length_le (by omega)⟩
      rw [HT.out] at HI
      obtain ⟨c1, c2, c3, c4⟩ := HI.facts
      have htot := tot_le (cat l0) false
      have hlen := HS.out
      have hfold := fold16_le (tot false (cat l0))
      have hx := i64_xor_ones (fold16 (tot false (cat l0))) (by omega)
      go_wp2_with fail
      refine (sum_fold.calls _ ((fold16 (tot false (cat l0)) : Nat) : Int) _ (by unfold sum_fold.f; rw [if_pos (by omega), Int.toNat_natCast])).mono ?_
      rintro e w' ⟨rfl, hB⟩
      have HB := Aside0.mk hB
      have HI' := Aside0.mk HI
      clear hB HI c1 c2 c3 c4 htot hlen
      go_wp2
      go_ret
      exact ⟨rfl, HI'.out.1.trans (HB.out.mono HI'.out.1.size)⟩

def sum_Sum.f (l0 : List ByteArray) : Option Int := if (cat l0).length ≤ 1099511627776 then some (csum (cat l0) : Nat) else none
theorem sum_Sum.calls (A0 : Option Addr) (c0 : Nat) (l0 : List ByteArray) (r : Int) (w : World) (hr0 : Kd.C Kd.string w A0 l0.length l0) (hc0 : l0.length ≤ c0) (h : sum_Sum.f l0 = some r) :
    Calls Try.prog 37 #[.slice A0 l0.length c0] w fun e w' => e = .returned (.int .i64 r) ∧ Below w.heap.size w w' := by
  unfold sum_Sum.f at h
  by_cases hs : (cat l0).length ≤ 1099511627776
  · rw [if_pos hs] at h
    obtain rfl := Option.some.inj h
    exact sum_Sum.walk A0 c0 l0 w hr0 hc0 hs
  · rw [if_neg hs] at h
    exact absurd h (by simp)
end Go.Proofs.Ytejmipoolbodgaa.G
end

section
namespace Go.Proofs.Ytejmipoolbodgaa.G
open Go.RowKit Go.Proofs.YtejmipoolbodgaaW.PrintWords Go.Proofs.YtejmipoolbodgaaW.PrintLast Go.Proofs.YtejmipoolbodgaaW.PrintMore
attribute [local go_sem] max2_int min2_int max_two min_two max_three min_three max_four min_four   -- for this text's walks alone
set_option linter.unusedVariables false
set_option linter.unusedSimpArgs false

def ip4_bit.f (a0 : Bool) (a1 : Int) : Option (Int) := if a0 = true then (if 0 ≤ a1 then (some (shl .i64 1 a1)) else (none)) else (some 0)
set_option maxHeartbeats 8000000 in
set_option maxRecDepth 100000 in
theorem ip4_bit.calls (a0 : Bool) (a1 : Int) (r : Int) (w : World) (h : ip4_bit.f a0 a1 = some r) :
  Calls Try.prog 162 #[.bool a0, .int .i64 a1] w fun e w' => e = .returned (.int .i64 r) ∧ Drawn0 w w' := by
 have H : (if a0 = true then (if 0 ≤ a1 then (some (shl .i64 1 a1)) else (none)) else (some 0)) = some r := h
 clear h
 by_cases c3 : a0 = true
 ·subst c3
  have H1 : (if 0 ≤ a1 then (some (shl .i64 1 a1)) else (none)) = some r := by rw [if_pos rfl] at H; exact H
  clear H
  have H := H1
  clear H1
  by_cases c4 : 0 ≤ a1
  ·rw [if_pos c4] at H
   have c4b0 := eq_true c4
   have c4b1 : decide (0 ≤ a1) = true := decide_eq_true c4
   clear c4
   obtain ⟨ji5, hji5⟩ : ∃ j_ : Int, (shl .i64 1 a1) = j_ := ⟨_, rfl⟩
   replace H : (some ji5) = some r := by first | (rw [hji5] at H; exact H) | (simp only [hji5] at H ⊢; exact H)
   have hji5_ : (IntKind.i64.wrap (1 * 2 ^ min a1.toNat 64)) = ji5 := hji5
   have hji5z : a1 ≤ 64 → (IntKind.i64.wrap (1 * 2 ^ a1.toNat)) = ji5 := shl_small hji5
   have hji5u : (IntKind.i64.wrap (2 ^ min a1.toNat 64)) = ji5 := by have h_ := hji5_; rw [Int.one_mul] at h_; exact h_
   have hji5v : a1 ≤ 64 → (IntKind.i64.wrap (2 ^ a1.toNat)) = ji5 := fun hle_ => by have h_ := hji5z hle_; rw [Int.one_mul] at h_; exact h_
   have hji5y : (wrap64 (1 * 2 ^ min a1.toNat 64)) = ji5 := (i64_w _).symm.trans hji5_
   have hji5x : a1 ≤ 64 → (wrap64 (1 * 2 ^ a1.toNat)) = ji5 := fun h_ => (i64_w _).symm.trans (hji5z h_)
   obtain rfl := Option.some.inj H
   go_enter Try.func162, Try.ntmps162
   go_wp2
   go_ret
   exact ⟨by first | rfl | (simp; done) | (simp only [← hji5] <;> (first | rfl | simp)) | (simp [*]; done), by repeat (first | exact Drawn0.refl _ | apply Drawn0.step)⟩
  ·rw [if_neg c4] at H
   exact absurd H (by simp)
 ·replace c3 := Bool.eq_false_iff.mpr c3
  subst c3
  have H1 : (some 0) = some r := by rw [if_neg (show ¬ (false = true) by decide)] at H; exact H
  clear H
  have H := H1
  clear H1
  obtain rfl := Option.some.inj H
  go_enter Try.func162, Try.ntmps162
  go_wp2
  go_ret
  exact ⟨by first | rfl | (simp; done) | (simp [*]; done), by repeat (first | exact Drawn0.refl _ | apply Drawn0.step)⟩

def ip4_Put.f (a0_0 : Int) (a0_1 : Int) (a0_2 : Int) (a0_3 : Int) (a0_4 : Int) (a0_5 : Bool) (a0_6 : Bool) (a0_7 : ByteArray) (a0_8 : ByteArray) (a0_9 : ByteArray) (a1 : ByteArray) : Option (ByteArray × Int) := (ip4_Check.f a0_0 a0_1 a0_2 a0_3 a0_4 a0_5 a0_6 a0_7 a0_8 a0_9).bind fun t398 => (if t398 = 0 then (if (wrap64 ((wrap64 (20 + (a0_9.size : Int))) + (a1.size : Int))) > 65535 then (some ((⟨#[]⟩ : ByteArray), 4)) else ((ip4_header.f a0_0 a0_1 a0_2 a0_3 a0_4 a0_5 a0_6 a0_7 a0_8 a0_9 (wrap64 ((wrap64 (20 + (a0_9.size : Int))) + (a1.size : Int))) 0).bind fun t399 => ((sum_Sum.f (([t399] : List ByteArray))).bind fun t403 => ((ip4_header.f a0_0 a0_1 a0_2 a0_3 a0_4 a0_5 a0_6 a0_7 a0_8 a0_9 (wrap64 ((wrap64 (20 + (a0_9.size : Int))) + (a1.size : Int))) t403).bind fun t404 => (if t404.size + a1.size ≤ 9223372036854775807 then (some (t404 ++ a1, 0)) else (none)))))) else (some ((⟨#[]⟩ : ByteArray), t398)))
def ip4_Put.T7 : Bool × List (List Nat × List Nat) := (true, [([], []), ([], []), ([], []), ([], []), ([2, 3], [2, 3]), ([4], [4]), ([5, 4], [5]), ([0, 1, 6, 6], [0, 1, 6]), ([], []), ([7, 8], [7, 8]), ([9, 7, 0, 1, 2, 3, 4, 5, 6, 7, 8, 9], [9]), ([10, 0, 1, 2, 3, 4, 5, 6, 7, 8, 9, 10], [])])
def ip4_Put.B7 : List Nat := [0, 0, 0, 0, 12, 28, 60, 127, 0, 511, 1023, 2047]
theorem ip4_Put.tab7 : rtab .any (opsOf Try.f85 7) = ip4_Put.T7 := by kernel_rfl
theorem ip4_Put.bits7 : waitsOk ip4_Put.T7.2 ip4_Put.B7 = true := by kernel_rfl
set_option maxHeartbeats 8000000 in
set_option maxRecDepth 100000 in
theorem ip4_Put.calls (a0_0 : Int) (a0_1 : Int) (a0_2 : Int) (a0_3 : Int) (a0_4 : Int) (a0_5 : Bool) (a0_6 : Bool) (a0_7 : ByteArray) (a0_8 : ByteArray) (a0_9 : ByteArray) (a1 : ByteArray) (r1 : ByteArray) (r2 : Int) (w : World) (h : ip4_Put.f a0_0 a0_1 a0_2 a0_3 a0_4 a0_5 a0_6 a0_7 a0_8 a0_9 a1 = some (r1, r2)) :
  Calls Try.prog 85 #[.agg #[.int .i64 a0_0, .int .i64 a0_1, .int .i64 a0_2, .int .i64 a0_3, .int .i64 a0_4, .bool a0_5, .bool a0_6, .string a0_7, .string a0_8, .string a0_9], .string a1] w fun e w' => e = .returned (.tuple #[.string r1, .int .i64 r2]) ∧ Below w.heap.size w w' := by
 have hu93 := Try.underlying93
 have HB := mA (Below.refl w.heap.size w)
 have H : ((ip4_Check.f a0_0 a0_1 a0_2 a0_3 a0_4 a0_5 a0_6 a0_7 a0_8 a0_9).bind fun t398 => (if t398 = 0 then (if (wrap64 ((wrap64 (20 + (a0_9.size : Int))) + (a1.size : Int))) > 65535 then (some ((⟨#[]⟩ : ByteArray), 4)) else ((ip4_header.f a0_0 a0_1 a0_2 a0_3 a0_4 a0_5 a0_6 a0_7 a0_8 a0_9 (wrap64 ((wrap64 (20 + (a0_9.size : Int))) + (a1.size : Int))) 0).bind fun t399 => ((sum_Sum.f (([t399] : List ByteArray))).bind fun t403 => ((ip4_header.f a0_0 a0_1 a0_2 a0_3 a0_4 a0_5 a0_6 a0_7 a0_8 a0_9 (wrap64 ((wrap64 (20 + (a0_9.size : Int))) + (a1.size : Int))) t403).bind fun t404 => (if t404.size + a1.size ≤ 9223372036854775807 then (some (t404 ++ a1, 0)) else (none)))))) else (some ((⟨#[]⟩ : ByteArray), t398)))) = some (r1, r2) := h
 clear h
 replace H := Option.bind_eq_some_iff.mp H
 obtain ⟨t398, A30, H⟩ := H
 replace H : (if t398 = 0 then (if (wrap64 ((wrap64 (20 + (a0_9.size : Int))) + (a1.size : Int))) > 65535 then (some ((⟨#[]⟩ : ByteArray), 4)) else ((ip4_header.f a0_0 a0_1 a0_2 a0_3 a0_4 a0_5 a0_6 a0_7 a0_8 a0_9 (wrap64 ((wrap64 (20 + (a0_9.size : Int))) + (a1.size : Int))) 0).bind fun t399 => ((sum_Sum.f (([t399] : List ByteArray))).bind fun t403 => ((ip4_header.f a0_0 a0_1 a0_2 a0_3 a0_4 a0_5 a0_6 a0_7 a0_8 a0_9 (wrap64 ((wrap64 (20 + (a0_9.size : Int))) + (a1.size : Int))) t403).bind fun t404 => (if t404.size + a1.size ≤ 9223372036854775807 then (some (t404 ++ a1, 0)) else (none)))))) else (some ((⟨#[]⟩ : ByteArray), t398))) = some (r1, r2) := H
 have A3 := mA A30
 clear A30
 by_cases c4 : t398 = 0
 ·rw [if_pos c4] at H
  have c4b0 : (t398 == 0) = true := beq_iff_eq.mpr c4
  have c4b1 : (t398 != 0) = false := bne_eq_false_iff_eq.mpr c4
  clear c4
  by_cases c5 : (wrap64 ((wrap64 (20 + (a0_9.size : Int))) + (a1.size : Int))) > 65535
  ·rw [if_pos c5] at H
   have c5b0 : decide (65535 < (wrap64 ((wrap64 (20 + (a0_9.size : Int))) + (a1.size : Int)))) = true := decide_eq_true c5
   clear c5
   simp only [Option.some.injEq, Prod.mk.injEq] at H
   obtain ⟨rfl, rfl⟩ := H
   go_enter Try.func85, Try.ntmps85
   go_wp2_with (first | ((with_reducible refine gate_dst (N := 2) rfl ?_); refine box_event ?hg (N := 2) ?hd (cs := #[.int .i64 a0_0, .int .i64 a0_1, .int .i64 a0_2, .int .i64 a0_3, .int .i64 a0_4, .bool a0_5, .bool a0_6, .string a0_7, .string a0_8, .string a0_9]) (t := 93) ?hr ?_; (case hd => rfl); (case hg => rfl); (case hr => first | (go_simp; done) | (go_simp; rfl)); intro gb397 hg w6 hbox hb; have n0_ := mA (bP (by repeat (first | (with_reducible first | exact HB.out | apply bA | apply bN | apply bD) | exact HB.out)) hb); have n1_ := mA (hbox); have n2_ := mA ((by rw [hg]; exact (below_size (by repeat (first | (with_reducible first | exact HB.out | apply bA | apply bN | apply bD) | exact HB.out))) : w.heap.size ≤ gb397)); have n3_ := mA ((by rw [hg]; exact (below_size (by repeat (first | (with_reducible first | exact HB.out | apply bA | apply bN | apply bD) | exact HB.out))) : w.heap.size ≤ gb397)); clear HB; have HB := n0_; have BK397 := n1_; have GW397 := n2_; have GE397 := n3_; clear n0_ n1_ n2_ n3_; clear hb hbox hg; have hcz7_0 : w6.cell? ⟨gb397, 0, none⟩ = some (.int .i64 a0_0) := (zC BK397.out 0).trans rfl; have hcz7_1 : w6.cell? ⟨gb397, 1, none⟩ = some (.int .i64 a0_1) := (zC BK397.out 1).trans rfl; have hcz7_2 : w6.cell? ⟨gb397, 2, none⟩ = some (.int .i64 a0_2) := (zC BK397.out 2).trans rfl; have hcz7_3 : w6.cell? ⟨gb397, 3, none⟩ = some (.int .i64 a0_3) := (zC BK397.out 3).trans rfl; have hcz7_4 : w6.cell? ⟨gb397, 4, none⟩ = some (.int .i64 a0_4) := (zC BK397.out 4).trans rfl; have hcz7_5 : w6.cell? ⟨gb397, 5, none⟩ = some (.bool a0_5) := (zC BK397.out 5).trans rfl; have hcz7_6 : w6.cell? ⟨gb397, 6, none⟩ = some (.bool a0_6) := (zC BK397.out 6).trans rfl; have hcz7_7 : w6.cell? ⟨gb397, 7, none⟩ = some (.string a0_7) := (zC BK397.out 7).trans rfl; have hcz7_8 : w6.cell? ⟨gb397, 8, none⟩ = some (.string a0_8) := (zC BK397.out 8).trans rfl; have hcz7_9 : w6.cell? ⟨gb397, 9, none⟩ = some (.string a0_9) := (zC BK397.out 9).trans rfl; have hfz7_0 := zF BK397.out 0; have hfz7_1 := zF BK397.out 1; have hfz7_2 := zF BK397.out 2; have hfz7_3 := zF BK397.out 3; have hfz7_4 := zF BK397.out 4; have hfz7_5 := zF BK397.out 5; have hfz7_6 := zF BK397.out 6; have hfz7_7 := zF BK397.out 7; have hfz7_8 := zF BK397.out 8; have hfz7_9 := zF BK397.out 9) | ((with_reducible refine gate_callee (f := 87) rfl ?_); refine goesL_ (some 9) rfl rfl Try.func87 (by kernel_rfl) rfl #[.agg #[.int .i64 a0_0, .int .i64 a0_1, .int .i64 a0_2, .int .i64 a0_3, .int .i64 a0_4, .bool a0_5, .bool a0_6, .string a0_7, .string a0_8, .string a0_9]] rfl (by (try simp only [List.map_toArray, List.map_cons, List.map_nil]); first | done | rfl | (simp only [List.length_drop, List.length_take]; rfl)) ?_; (with_reducible refine (ip4_Check.calls a0_0 a0_1 a0_2 a0_3 a0_4 a0_5 a0_6 a0_7 a0_8 a0_9 t398 _ A3.out).mono ?_); rintro e w8 ⟨rfl, hb⟩; refine ⟨_, rfl, ?_⟩; have n0_ := mA (blk_below (g := gb397) (o := .cells #[.int .i64 a0_0, .int .i64 a0_1, .int .i64 a0_2, .int .i64 a0_3, .int .i64 a0_4, .bool a0_5, .bool a0_6, .string a0_7, .string a0_8, .string a0_9] 93 (0, 0)) (by (with_reducible repeat (first | apply kN | apply kD | apply kA)); exact BK397.out) hb); have n1_ := mA (bP (by repeat (first | (with_reducible first | exact HB.out | apply bA | apply bN | apply bD | refine bS ?_ GE397.out) | exact HB.out)) hb); clear BK397; clear HB; have BK397 := n0_; have HB := n1_; clear n0_ n1_; (try clear hb); (try clear hb2); (try clear hk); (try clear hi); have hcz9_0 : w8.cell? ⟨gb397, 0, none⟩ = some (.int .i64 a0_0) := (zC BK397.out 0).trans rfl; have hcz9_1 : w8.cell? ⟨gb397, 1, none⟩ = some (.int .i64 a0_1) := (zC BK397.out 1).trans rfl; have hcz9_2 : w8.cell? ⟨gb397, 2, none⟩ = some (.int .i64 a0_2) := (zC BK397.out 2).trans rfl; have hcz9_3 : w8.cell? ⟨gb397, 3, none⟩ = some (.int .i64 a0_3) := (zC BK397.out 3).trans rfl; have hcz9_4 : w8.cell? ⟨gb397, 4, none⟩ = some (.int .i64 a0_4) := (zC BK397.out 4).trans rfl; have hcz9_5 : w8.cell? ⟨gb397, 5, none⟩ = some (.bool a0_5) := (zC BK397.out 5).trans rfl; have hcz9_6 : w8.cell? ⟨gb397, 6, none⟩ = some (.bool a0_6) := (zC BK397.out 6).trans rfl; have hcz9_7 : w8.cell? ⟨gb397, 7, none⟩ = some (.string a0_7) := (zC BK397.out 7).trans rfl; have hcz9_8 : w8.cell? ⟨gb397, 8, none⟩ = some (.string a0_8) := (zC BK397.out 8).trans rfl; have hcz9_9 : w8.cell? ⟨gb397, 9, none⟩ = some (.string a0_9) := (zC BK397.out 9).trans rfl; have hfz9_0 := zF BK397.out 0; have hfz9_1 := zF BK397.out 1; have hfz9_2 := zF BK397.out 2; have hfz9_3 := zF BK397.out 3; have hfz9_4 := zF BK397.out 4; have hfz9_5 := zF BK397.out 5; have hfz9_6 := zF BK397.out 6; have hfz9_7 := zF BK397.out 7; have hfz9_8 := zF BK397.out 8; have hfz9_9 := zF BK397.out 9))
   go_ret2
   exact ⟨by first | rfl | (simp [errW_none, errW_some] <;> rfl) | (simp [*, errW_none, errW_some] <;> rfl), by repeat (first | (with_reducible first | exact HB.out | apply bA | apply bN | apply bD | refine bS ?_ GE397.out) | exact HB.out)⟩
  ·rw [if_neg c5] at H
   have c5b0 : decide (65535 < (wrap64 ((wrap64 (20 + (a0_9.size : Int))) + (a1.size : Int)))) = false := decide_eq_false c5
   clear c5
   replace H := Option.bind_eq_some_iff.mp H
   obtain ⟨t399, A100, H⟩ := H
   replace H : ((sum_Sum.f (([t399] : List ByteArray))).bind fun t403 => ((ip4_header.f a0_0 a0_1 a0_2 a0_3 a0_4 a0_5 a0_6 a0_7 a0_8 a0_9 (wrap64 ((wrap64 (20 + (a0_9.size : Int))) + (a1.size : Int))) t403).bind fun t404 => (if t404.size + a1.size ≤ 9223372036854775807 then (some (t404 ++ a1, 0)) else (none)))) = some (r1, r2) := H
   have A10 := mA A100
   clear A100
   obtain ⟨y400, hy400⟩ : ∃ y_ : List ByteArray, y_ = (([t399] : List ByteArray)) := ⟨_, rfl⟩
   replace H : ((sum_Sum.f y400).bind fun t403 => ((ip4_header.f a0_0 a0_1 a0_2 a0_3 a0_4 a0_5 a0_6 a0_7 a0_8 a0_9 (wrap64 ((wrap64 (20 + (a0_9.size : Int))) + (a1.size : Int))) t403).bind fun t404 => (if t404.size + a1.size ≤ 9223372036854775807 then (some (t404 ++ a1, 0)) else (none)))) = some (r1, r2) := by first | (rw [hy400]; with_reducible exact H) | (have H2_ := (Option.bind_some _ _).symm.trans H; rw [hy400]; with_reducible exact H2_) | (have H2_ := (Option.bind_some _ _).symm.trans H; with_reducible exact H2_) | with_reducible exact H | (rw [hy400]; exact H) | exact H
   have Ny400 := mA hy400
   clear hy400
   replace H := Option.bind_eq_some_iff.mp H
   obtain ⟨t403, A110, H⟩ := H
   replace H : ((ip4_header.f a0_0 a0_1 a0_2 a0_3 a0_4 a0_5 a0_6 a0_7 a0_8 a0_9 (wrap64 ((wrap64 (20 + (a0_9.size : Int))) + (a1.size : Int))) t403).bind fun t404 => (if t404.size + a1.size ≤ 9223372036854775807 then (some (t404 ++ a1, 0)) else (none))) = some (r1, r2) := H
   have A11 := mA A110
   clear A110
   replace H := Option.bind_eq_some_iff.mp H
   obtain ⟨t404, A120, H⟩ := H
   replace H : (if t404.size + a1.size ≤ 9223372036854775807 then (some (t404 ++ a1, 0)) else (none)) = some (r1, r2) := H
   have A12 := mA A120
   clear A120
   by_cases c13 : t404.size + a1.size ≤ 9223372036854775807
   ·rw [if_pos c13] at H
    have c13b0 := eq_true c13
    have c13b1 : decide (t404.size + a1.size ≤ 9223372036854775807) = true := decide_eq_true c13
    try have c13b2 : (9223372036854775807 < t404.size + a1.size) = False := eq_false (Nat.not_lt.2 c13)
    simp only [Option.some.injEq, Prod.mk.injEq] at H
    obtain ⟨rfl, rfl⟩ := H
    go_enter Try.func85, Try.ntmps85
    try go_wp2_with (first | ((with_reducible refine gate_dst (N := 2) rfl ?_); refine box_event ?hg (N := 2) ?hd (cs := #[.int .i64 a0_0, .int .i64 a0_1, .int .i64 a0_2, .int .i64 a0_3, .int .i64 a0_4, .bool a0_5, .bool a0_6, .string a0_7, .string a0_8, .string a0_9]) (t := 93) ?hr ?_; (case hd => rfl); (case hg => rfl); (case hr => first | (go_simp; done) | (go_simp; rfl)); intro gb397 hg w14 hbox hb; have n0_ := mA (bP (by repeat (first | (with_reducible first | exact HB.out | apply bA | apply bN | apply bD) | exact HB.out)) hb); have n1_ := mA (hbox); have n2_ := mA ((by rw [hg]; exact (below_size (by repeat (first | (with_reducible first | exact HB.out | apply bA | apply bN | apply bD) | exact HB.out))) : w.heap.size ≤ gb397)); have n3_ := mA ((by rw [hg]; exact (below_size (by repeat (first | (with_reducible first | exact HB.out | apply bA | apply bN | apply bD) | exact HB.out))) : w.heap.size ≤ gb397)); clear HB; have HB := n0_; have BK397 := n1_; have GW397 := n2_; have GE397 := n3_; clear n0_ n1_ n2_ n3_; clear hb hbox hg; have hcz15_0 : w14.cell? ⟨gb397, 0, none⟩ = some (.int .i64 a0_0) := (zC BK397.out 0).trans rfl; have hcz15_1 : w14.cell? ⟨gb397, 1, none⟩ = some (.int .i64 a0_1) := (zC BK397.out 1).trans rfl; have hcz15_2 : w14.cell? ⟨gb397, 2, none⟩ = some (.int .i64 a0_2) := (zC BK397.out 2).trans rfl; have hcz15_3 : w14.cell? ⟨gb397, 3, none⟩ = some (.int .i64 a0_3) := (zC BK397.out 3).trans rfl; have hcz15_4 : w14.cell? ⟨gb397, 4, none⟩ = some (.int .i64 a0_4) := (zC BK397.out 4).trans rfl; have hcz15_5 : w14.cell? ⟨gb397, 5, none⟩ = some (.bool a0_5) := (zC BK397.out 5).trans rfl; have hcz15_6 : w14.cell? ⟨gb397, 6, none⟩ = some (.bool a0_6) := (zC BK397.out 6).trans rfl; have hcz15_7 : w14.cell? ⟨gb397, 7, none⟩ = some (.string a0_7) := (zC BK397.out 7).trans rfl; have hcz15_8 : w14.cell? ⟨gb397, 8, none⟩ = some (.string a0_8) := (zC BK397.out 8).trans rfl; have hcz15_9 : w14.cell? ⟨gb397, 9, none⟩ = some (.string a0_9) := (zC BK397.out 9).trans rfl; have hfz15_0 := zF BK397.out 0; have hfz15_1 := zF BK397.out 1; have hfz15_2 := zF BK397.out 2; have hfz15_3 := zF BK397.out 3; have hfz15_4 := zF BK397.out 4; have hfz15_5 := zF BK397.out 5; have hfz15_6 := zF BK397.out 6; have hfz15_7 := zF BK397.out 7; have hfz15_8 := zF BK397.out 8; have hfz15_9 := zF BK397.out 9) | ((with_reducible refine gate_callee (f := 87) rfl ?_); refine goesL_ (some 9) rfl rfl Try.func87 (by kernel_rfl) rfl #[.agg #[.int .i64 a0_0, .int .i64 a0_1, .int .i64 a0_2, .int .i64 a0_3, .int .i64 a0_4, .bool a0_5, .bool a0_6, .string a0_7, .string a0_8, .string a0_9]] rfl (by (try simp only [List.map_toArray, List.map_cons, List.map_nil]); first | done | rfl | (simp only [List.length_drop, List.length_take]; rfl)) ?_; (with_reducible refine (ip4_Check.calls a0_0 a0_1 a0_2 a0_3 a0_4 a0_5 a0_6 a0_7 a0_8 a0_9 t398 _ A3.out).mono ?_); rintro e w16 ⟨rfl, hb⟩; refine ⟨_, rfl, ?_⟩; have n0_ := mA (blk_below (g := gb397) (o := .cells #[.int .i64 a0_0, .int .i64 a0_1, .int .i64 a0_2, .int .i64 a0_3, .int .i64 a0_4, .bool a0_5, .bool a0_6, .string a0_7, .string a0_8, .string a0_9] 93 (0, 0)) (by (with_reducible repeat (first | apply kN | apply kD | apply kA)); exact BK397.out) hb); have n1_ := mA (bP (by repeat (first | (with_reducible first | exact HB.out | apply bA | apply bN | apply bD | refine bS ?_ GE397.out) | exact HB.out)) hb); clear BK397; clear HB; have BK397 := n0_; have HB := n1_; clear n0_ n1_; (try clear hb); (try clear hb2); (try clear hk); (try clear hi); have hcz17_0 : w16.cell? ⟨gb397, 0, none⟩ = some (.int .i64 a0_0) := (zC BK397.out 0).trans rfl; have hcz17_1 : w16.cell? ⟨gb397, 1, none⟩ = some (.int .i64 a0_1) := (zC BK397.out 1).trans rfl; have hcz17_2 : w16.cell? ⟨gb397, 2, none⟩ = some (.int .i64 a0_2) := (zC BK397.out 2).trans rfl; have hcz17_3 : w16.cell? ⟨gb397, 3, none⟩ = some (.int .i64 a0_3) := (zC BK397.out 3).trans rfl; have hcz17_4 : w16.cell? ⟨gb397, 4, none⟩ = some (.int .i64 a0_4) := (zC BK397.out 4).trans rfl; have hcz17_5 : w16.cell? ⟨gb397, 5, none⟩ = some (.bool a0_5) := (zC BK397.out 5).trans rfl; have hcz17_6 : w16.cell? ⟨gb397, 6, none⟩ = some (.bool a0_6) := (zC BK397.out 6).trans rfl; have hcz17_7 : w16.cell? ⟨gb397, 7, none⟩ = some (.string a0_7) := (zC BK397.out 7).trans rfl; have hcz17_8 : w16.cell? ⟨gb397, 8, none⟩ = some (.string a0_8) := (zC BK397.out 8).trans rfl; have hcz17_9 : w16.cell? ⟨gb397, 9, none⟩ = some (.string a0_9) := (zC BK397.out 9).trans rfl; have hfz17_0 := zF BK397.out 0; have hfz17_1 := zF BK397.out 1; have hfz17_2 := zF BK397.out 2; have hfz17_3 := zF BK397.out 3; have hfz17_4 := zF BK397.out 4; have hfz17_5 := zF BK397.out 5; have hfz17_6 := zF BK397.out 6; have hfz17_7 := zF BK397.out 7; have hfz17_8 := zF BK397.out 8; have hfz17_9 := zF BK397.out 9))
    have n0_ := mA (kD BK397.out)
    have n1_ := mA (bD HB.out)
    clear BK397
    clear HB
    have BK397 := n0_
    have HB := n1_
    clear n0_ n1_
    refine start_ (n := 12) (S := fun w' => w'.cell? ⟨gb397, 0, none⟩ = some (.int .i64 a0_0) ∧ w'.cell? ⟨gb397, 1, none⟩ = some (.int .i64 a0_1) ∧ w'.cell? ⟨gb397, 2, none⟩ = some (.int .i64 a0_2) ∧ w'.cell? ⟨gb397, 3, none⟩ = some (.int .i64 a0_3) ∧ w'.cell? ⟨gb397, 4, none⟩ = some (.int .i64 a0_4) ∧ w'.cell? ⟨gb397, 5, none⟩ = some (.bool a0_5) ∧ w'.cell? ⟨gb397, 6, none⟩ = some (.bool a0_6) ∧ w'.cell? ⟨gb397, 7, none⟩ = some (.string a0_7) ∧ w'.cell? ⟨gb397, 8, none⟩ = some (.string a0_8) ∧ w'.cell? ⟨gb397, 9, none⟩ = some (.string a0_9)) (ds := []) #[false, false, false, false, false, false, false, false, false, false, false, false] (by kernel_rfl) rfl rfl ⟨(zC BK397.out 0).trans rfl, (zC BK397.out 1).trans rfl, (zC BK397.out 2).trans rfl, (zC BK397.out 3).trans rfl, (zC BK397.out 4).trans rfl, (zC BK397.out 5).trans rfl, (zC BK397.out 6).trans rfl, (zC BK397.out 7).trans rfl, (zC BK397.out 8).trans rfl, (zC BK397.out 9).trans rfl⟩ (fun hHeld => ?_); refine with_tabW ip4_Put.tab7 ip4_Put.bits7 (fun HT_ HW_ => ?_)
    generalize w16.drew = w18 at BK397 HB hHeld ⊢
    refine pure_ (i := 1) (N := some 23) (v := ?_) (a' := ?_) #[false, true, false, false, false, false, false, false, false, false, false, false] rfl rfl (any_of HT_.out (by kernel_rfl)) (fun _ _ _ h => h) (Or.inl ⟨by rfl, ?_⟩) ?_ ?_
    rotate_left
    ·intro w'
     go_simp
     with_reducible rfl
    rotate_left
    ·simp only [Act.put, List.setIfInBounds_toArray, List.set_cons_zero, List.set_cons_succ, i64_w, i32_w]
     rfl
    refine pure_ (i := 3) (N := some 25) (v := ?_) (a' := ?_) #[false, true, false, true, false, false, false, false, false, false, false, false] rfl rfl (any_of HT_.out (by kernel_rfl)) (fun _ _ _ h => h) (Or.inl ⟨by rfl, ?_⟩) ?_ ?_
    rotate_left
    ·intro w'
     go_simp
     with_reducible rfl
    rotate_left
    ·simp only [Act.put, List.setIfInBounds_toArray, List.set_cons_zero, List.set_cons_succ, i64_w, i32_w]
     rfl
    refine pure_ (i := 8) (N := some 30) (v := ?_) (a' := ?_) #[false, true, false, true, false, false, false, false, true, false, false, false] rfl rfl (any_of HT_.out (by kernel_rfl)) (fun _ _ _ h => h) (Or.inl ⟨by rfl, ?_⟩) ?_ ?_
    rotate_left
    ·intro w'
     go_simp
     with_reducible rfl
    rotate_left
    ·simp only [Act.put, List.setIfInBounds_toArray, List.set_cons_zero, List.set_cons_succ, i64_w, i32_w]
     rfl
    refine take_ (i := 0) (N := some 22) (v := ?_) (a' := ?_) #[true, true, false, true, false, false, false, false, true, false, false, false] rfl rfl (take_ofW HT_.out HW_.out (by kernel_rfl)) (fun _ _ _ h => h) (Or.inl ⟨by rfl, ?_⟩) hHeld ?_ ?_
    rotate_left
    ·rintro w' ⟨s0, s1, s2, s3, s4, s5, s6, s7, s8, s9⟩
     go_simp
     with_reducible rfl
    rotate_left
    ·simp only [Act.put, List.setIfInBounds_toArray, List.set_cons_zero, List.set_cons_succ, i64_w, i32_w]
     rfl
    refine take_ (i := 2) (N := some 24) (v := ?_) (a' := ?_) #[true, true, true, true, false, false, false, false, true, false, false, false] rfl rfl (take_ofW HT_.out HW_.out (by kernel_rfl)) (fun _ _ _ h => h) (Or.inl ⟨by rfl, ?_⟩) hHeld ?_ ?_
    rotate_left
    ·rintro w' ⟨s0, s1, s2, s3, s4, s5, s6, s7, s8, s9⟩
     go_simp
     with_reducible rfl
    rotate_left
    ·simp only [Act.put, List.setIfInBounds_toArray, List.set_cons_zero, List.set_cons_succ, i64_w, i32_w]
     rfl
    refine one_ (i := 4) (N := some 26) #[true, true, true, true, true, false, false, false, true, false, false, false] rfl rfl (one_of HT_.out (by kernel_rfl)) (by decide) (fun K hK => ?_)
    refine goes_ Try.func142 (by kernel_rfl) rfl #[.agg #[.int .i64 a0_0, .int .i64 a0_1, .int .i64 a0_2, .int .i64 a0_3, .int .i64 a0_4, .bool a0_5, .bool a0_6, .string a0_7, .string a0_8, .string a0_9], .int .i64 (wrap64 ((wrap64 (20 + (a0_9.size : Int))) + (a1.size : Int))), .int .i64 0] (by rfl) rfl rfl (by (try simp only [List.map_toArray, List.map_cons, List.map_nil]); first | done | rfl | (simp only [List.length_drop, List.length_take]; rfl)) ?_
    with_reducible refine (ip4_header.calls a0_0 a0_1 a0_2 a0_3 a0_4 a0_5 a0_6 a0_7 a0_8 a0_9 (wrap64 ((wrap64 (20 + (a0_9.size : Int))) + (a1.size : Int))) 0 t399 _ A10.out).mono ?_
    rintro e w19 ⟨rfl, hb⟩
    refine ⟨_, rfl, ?_⟩
    have n0_ := mA (blk_below (g := gb397) (o := .cells #[.int .i64 a0_0, .int .i64 a0_1, .int .i64 a0_2, .int .i64 a0_3, .int .i64 a0_4, .bool a0_5, .bool a0_6, .string a0_7, .string a0_8, .string a0_9] 93 (0, 0)) (by (with_reducible repeat (first | apply kN | apply kD | apply kA)); exact BK397.out) hb)
    have n1_ := mA (bP (by repeat (first | (with_reducible first | exact HB.out | apply bA | apply bN | apply bD | refine bS ?_ GE397.out) | exact HB.out)) hb)
    clear BK397
    clear HB
    have BK397 := n0_
    have HB := n1_
    clear n0_ n1_
    (try clear hb)
    (try clear hb2)
    (try clear hk)
    (try clear hi)
    refine hK.out _ _ ⟨(zC BK397.out 0).trans rfl, (zC BK397.out 1).trans rfl, (zC BK397.out 2).trans rfl, (zC BK397.out 3).trans rfl, (zC BK397.out 4).trans rfl, (zC BK397.out 5).trans rfl, (zC BK397.out 6).trans rfl, (zC BK397.out 7).trans rfl, (zC BK397.out 8).trans rfl, (zC BK397.out 9).trans rfl⟩ (fun hHeld => ?_)
    clear hK K
    refine norm_ (a' := ?_) ?_ ?_
    rotate_left
    ·show Act.put _ (some 26) _ = _
     simp only [Act.put, List.setIfInBounds_toArray, List.set_cons_zero, List.set_cons_succ, i64_w, i32_w]
     rfl
    refine one_ (i := 5) (N := some 27) #[true, true, true, true, true, true, false, false, true, false, false, false] rfl rfl (one_of HT_.out (by kernel_rfl)) (by decide) (fun K hK => ?_)
    refine Kd.R_lit_step Kd.string _ 9 ?hg (N := 27) ?hd (xs := ([t399] : List ByteArray)) (inner := [.string t399]) (ok := fun _ => True) (okp := fun _ => True) ?hr ?hp (fun _ hk => hk) trivial (Below.refl _ _) (Nat.le_refl _) (by simp) ?_; (case hd => rfl); (case hg => rfl); (case hr => first | (go_simp; done) | (go_simp; rfl)); (case hp => exact (Reps.one (show Kd.M Kd.string _ _ _ t399 [.string t399] from rfl) (Reps.none _ _)))
    intro v401 w20 ho21 hb hg_ hnew_
    clear hg_ hnew_
    (first | rw [← Ny400.out] at ho21 | (simp only [Int.reduceToNat] at ho21; rw [← Ny400.out] at ho21))
    have n0_ := mA (Kd.R_lower ho21 (below_size (by repeat (first | (with_reducible first | exact HB.out | apply bA | apply bN | apply bD | refine bS ?_ GE397.out) | exact HB.out))))
    have n1_ := mA (blk_below (g := gb397) (o := .cells #[.int .i64 a0_0, .int .i64 a0_1, .int .i64 a0_2, .int .i64 a0_3, .int .i64 a0_4, .bool a0_5, .bool a0_6, .string a0_7, .string a0_8, .string a0_9] 93 (0, 0)) (by (with_reducible repeat (first | apply kN | apply kD | apply kA)); exact BK397.out) hb)
    have n2_ := mA (bP (by repeat (first | (with_reducible first | exact HB.out | apply bA | apply bN | apply bD | refine bS ?_ GE397.out) | exact HB.out)) hb)
    clear BK397
    clear HB
    have HO402 := n0_
    have BK397 := n1_
    have HB := n2_
    clear n0_ n1_ n2_
    clear hb ho21
    obtain ⟨Ao22, co22, eo22⟩ := Kd.R_slice HO402.out
    (first | subst eo22 | (injection eo22 with f1_ f2_ f3_; have f4_ := f1_.symm; have f5_ := f3_.symm; clear f1_ f2_ f3_; subst f4_; subst f5_))
    refine hK.out _ _ ⟨(zC BK397.out 0).trans rfl, (zC BK397.out 1).trans rfl, (zC BK397.out 2).trans rfl, (zC BK397.out 3).trans rfl, (zC BK397.out 4).trans rfl, (zC BK397.out 5).trans rfl, (zC BK397.out 6).trans rfl, (zC BK397.out 7).trans rfl, (zC BK397.out 8).trans rfl, (zC BK397.out 9).trans rfl⟩ (fun hHeld => ?_)
    clear hK K
    refine norm_ (a' := ?_) ?_ ?_
    rotate_left
    ·show Act.put _ (some 27) _ = _
     simp only [Act.put, List.setIfInBounds_toArray, List.set_cons_zero, List.set_cons_succ, i64_w, i32_w]
     rfl
    refine one_ (i := 6) (N := some 28) #[true, true, true, true, true, true, true, false, true, false, false, false] rfl rfl (one_of HT_.out (by kernel_rfl)) (by decide) (fun K hK => ?_)
    refine goes_ Try.func37 (by kernel_rfl) rfl #[.slice Ao22 y400.length co22] (by rfl) rfl rfl (by (try simp only [List.map_toArray, List.map_cons, List.map_nil]); first | done | rfl | (simp only [List.length_drop, List.length_take]; rfl)) ?_
    with_reducible refine (sum_Sum.calls _ _ y400 t403 _ ?side1 ?side2 A11.out).mono ?_
    (case side1 => repeat (first | exact (Kd.R_reads' HO402.out).2.2 | (with_reducible refine Kd.C_alloc ?_ _) | (with_reducible refine Kd.C_drewN ?_ _) | (with_reducible refine Kd.C_drew ?_)))
    (case side2 => exact (Kd.R_reads' HO402.out).2.1)
    rintro e w23 ⟨rfl, hb⟩
    refine ⟨_, rfl, ?_⟩
    have n0_ := mA (Kd.R_below (by (with_reducible repeat (first | apply Kd.R_alloc | apply Kd.R_drewN | apply Kd.R_drew)); exact HO402.out) hb)
    have n1_ := mA (blk_below (g := gb397) (o := .cells #[.int .i64 a0_0, .int .i64 a0_1, .int .i64 a0_2, .int .i64 a0_3, .int .i64 a0_4, .bool a0_5, .bool a0_6, .string a0_7, .string a0_8, .string a0_9] 93 (0, 0)) (by (with_reducible repeat (first | apply kN | apply kD | apply kA)); exact BK397.out) hb)
    have n2_ := mA (bP (by repeat (first | (with_reducible first | exact HB.out | apply bA | apply bN | apply bD | refine bS ?_ GE397.out) | exact HB.out)) hb)
    clear HO402
    clear BK397
    clear HB
    have HO402 := n0_
    have BK397 := n1_
    have HB := n2_
    clear n0_ n1_ n2_
    (try clear hb)
    (try clear hb2)
    (try clear hk)
    (try clear hi)
    refine hK.out _ _ ⟨(zC BK397.out 0).trans rfl, (zC BK397.out 1).trans rfl, (zC BK397.out 2).trans rfl, (zC BK397.out 3).trans rfl, (zC BK397.out 4).trans rfl, (zC BK397.out 5).trans rfl, (zC BK397.out 6).trans rfl, (zC BK397.out 7).trans rfl, (zC BK397.out 8).trans rfl, (zC BK397.out 9).trans rfl⟩ (fun hHeld => ?_)
    clear hK K
    refine norm_ (a' := ?_) ?_ ?_
    rotate_left
    ·show Act.put _ (some 28) _ = _
     simp only [Act.put, List.setIfInBounds_toArray, List.set_cons_zero, List.set_cons_succ, i64_w, i32_w]
     rfl
    refine one_ (i := 7) (N := some 29) #[true, true, true, true, true, true, true, true, true, false, false, false] rfl rfl (one_of HT_.out (by kernel_rfl)) (by decide) (fun K hK => ?_)
    refine goes_ Try.func142 (by kernel_rfl) rfl #[.agg #[.int .i64 a0_0, .int .i64 a0_1, .int .i64 a0_2, .int .i64 a0_3, .int .i64 a0_4, .bool a0_5, .bool a0_6, .string a0_7, .string a0_8, .string a0_9], .int .i64 (wrap64 ((wrap64 (20 + (a0_9.size : Int))) + (a1.size : Int))), .int .i64 t403] (by rfl) rfl rfl (by (try simp only [List.map_toArray, List.map_cons, List.map_nil]); first | done | rfl | (simp only [List.length_drop, List.length_take]; rfl)) ?_
    with_reducible refine (ip4_header.calls a0_0 a0_1 a0_2 a0_3 a0_4 a0_5 a0_6 a0_7 a0_8 a0_9 (wrap64 ((wrap64 (20 + (a0_9.size : Int))) + (a1.size : Int))) t403 t404 _ A12.out).mono ?_
    rintro e w24 ⟨rfl, hb⟩
    refine ⟨_, rfl, ?_⟩
    have n0_ := mA (Kd.R_below (by (with_reducible repeat (first | apply Kd.R_alloc | apply Kd.R_drewN | apply Kd.R_drew)); exact HO402.out) hb)
    have n1_ := mA (blk_below (g := gb397) (o := .cells #[.int .i64 a0_0, .int .i64 a0_1, .int .i64 a0_2, .int .i64 a0_3, .int .i64 a0_4, .bool a0_5, .bool a0_6, .string a0_7, .string a0_8, .string a0_9] 93 (0, 0)) (by (with_reducible repeat (first | apply kN | apply kD | apply kA)); exact BK397.out) hb)
    have n2_ := mA (bP (by repeat (first | (with_reducible first | exact HB.out | apply bA | apply bN | apply bD | refine bS ?_ GE397.out) | exact HB.out)) hb)
    clear HO402
    clear BK397
    clear HB
    have HO402 := n0_
    have BK397 := n1_
    have HB := n2_
    clear n0_ n1_ n2_
    (try clear hb)
    (try clear hb2)
    (try clear hk)
    (try clear hi)
    refine hK.out _ _ ⟨(zC BK397.out 0).trans rfl, (zC BK397.out 1).trans rfl, (zC BK397.out 2).trans rfl, (zC BK397.out 3).trans rfl, (zC BK397.out 4).trans rfl, (zC BK397.out 5).trans rfl, (zC BK397.out 6).trans rfl, (zC BK397.out 7).trans rfl, (zC BK397.out 8).trans rfl, (zC BK397.out 9).trans rfl⟩ (fun hHeld => ?_)
    clear hK K
    refine norm_ (a' := ?_) ?_ ?_
    rotate_left
    ·show Act.put _ (some 29) _ = _
     simp only [Act.put, List.setIfInBounds_toArray, List.set_cons_zero, List.set_cons_succ, i64_w, i32_w]
     rfl
    refine pure_ (i := 9) (N := some 31) (v := ?_) (a' := ?_) #[true, true, true, true, true, true, true, true, true, true, false, false] rfl rfl (any_of HT_.out (by kernel_rfl)) (fun _ _ _ h => h) (Or.inl ⟨by rfl, ?_⟩) ?_ ?_
    rotate_left
    ·intro w'
     go_simp
     with_reducible rfl
    rotate_left
    ·simp only [Act.put, List.setIfInBounds_toArray, List.set_cons_zero, List.set_cons_succ, i64_w, i32_w]
     rfl
    refine pure_ (i := 10) (N := some 4) (v := ?_) (a' := ?_) #[true, true, true, true, true, true, true, true, true, true, true, false] rfl rfl (any_of HT_.out (by kernel_rfl)) (fun _ _ _ h => h) (Or.inl ⟨by rfl, ?_⟩) ?_ ?_
    rotate_left
    ·intro w'
     go_simp
     with_reducible rfl
    rotate_left
    ·simp only [Act.put, List.setIfInBounds_toArray, List.set_cons_zero, List.set_cons_succ, i64_w, i32_w]
     rfl
    refine pure_ (i := 11) (N := some 5) (v := ?_) (a' := ?_) #[true, true, true, true, true, true, true, true, true, true, true, true] rfl rfl (any_of HT_.out (by kernel_rfl)) (fun _ _ _ h => h) (Or.inl ⟨by rfl, ?_⟩) ?_ ?_
    rotate_left
    ·intro w'
     go_simp
     with_reducible rfl
    rotate_left
    ·simp only [Act.put, List.setIfInBounds_toArray, List.set_cons_zero, List.set_cons_succ, i64_w, i32_w]
     rfl
    refine done_ (done_of HT_.out (by kernel_rfl)) ?_
    try go_wp2
    go_ret2
    exact ⟨by first | rfl | (simp [errW_none, errW_some] <;> rfl) | (simp [*, errW_none, errW_some] <;> rfl), by repeat (first | (with_reducible first | exact HB.out | apply bA | apply bN | apply bD | refine bS ?_ GE397.out) | exact HB.out)⟩
   ·rw [if_neg c13] at H
    exact absurd H (by simp)
 ·rw [if_neg c4] at H
  have c4b0 : (t398 == 0) = false := beq_eq_false_iff_ne.mpr c4
  have c4b1 : (t398 != 0) = true := bne_iff_ne.mpr c4
  simp only [Option.some.injEq, Prod.mk.injEq] at H
  obtain ⟨rfl, rfl⟩ := H
  go_enter Try.func85, Try.ntmps85
  go_wp2_with (first | ((with_reducible refine gate_dst (N := 2) rfl ?_); refine box_event ?hg (N := 2) ?hd (cs := #[.int .i64 a0_0, .int .i64 a0_1, .int .i64 a0_2, .int .i64 a0_3, .int .i64 a0_4, .bool a0_5, .bool a0_6, .string a0_7, .string a0_8, .string a0_9]) (t := 93) ?hr ?_; (case hd => rfl); (case hg => rfl); (case hr => first | (go_simp; done) | (go_simp; rfl)); intro gb397 hg w25 hbox hb; have n0_ := mA (bP (by repeat (first | (with_reducible first | exact HB.out | apply bA | apply bN | apply bD) | exact HB.out)) hb); have n1_ := mA (hbox); have n2_ := mA ((by rw [hg]; exact (below_size (by repeat (first | (with_reducible first | exact HB.out | apply bA | apply bN | apply bD) | exact HB.out))) : w.heap.size ≤ gb397)); have n3_ := mA ((by rw [hg]; exact (below_size (by repeat (first | (with_reducible first | exact HB.out | apply bA | apply bN | apply bD) | exact HB.out))) : w.heap.size ≤ gb397)); clear HB; have HB := n0_; have BK397 := n1_; have GW397 := n2_; have GE397 := n3_; clear n0_ n1_ n2_ n3_; clear hb hbox hg; have hcz26_0 : w25.cell? ⟨gb397, 0, none⟩ = some (.int .i64 a0_0) := (zC BK397.out 0).trans rfl; have hcz26_1 : w25.cell? ⟨gb397, 1, none⟩ = some (.int .i64 a0_1) := (zC BK397.out 1).trans rfl; have hcz26_2 : w25.cell? ⟨gb397, 2, none⟩ = some (.int .i64 a0_2) := (zC BK397.out 2).trans rfl; have hcz26_3 : w25.cell? ⟨gb397, 3, none⟩ = some (.int .i64 a0_3) := (zC BK397.out 3).trans rfl; have hcz26_4 : w25.cell? ⟨gb397, 4, none⟩ = some (.int .i64 a0_4) := (zC BK397.out 4).trans rfl; have hcz26_5 : w25.cell? ⟨gb397, 5, none⟩ = some (.bool a0_5) := (zC BK397.out 5).trans rfl; have hcz26_6 : w25.cell? ⟨gb397, 6, none⟩ = some (.bool a0_6) := (zC BK397.out 6).trans rfl; have hcz26_7 : w25.cell? ⟨gb397, 7, none⟩ = some (.string a0_7) := (zC BK397.out 7).trans rfl; have hcz26_8 : w25.cell? ⟨gb397, 8, none⟩ = some (.string a0_8) := (zC BK397.out 8).trans rfl; have hcz26_9 : w25.cell? ⟨gb397, 9, none⟩ = some (.string a0_9) := (zC BK397.out 9).trans rfl; have hfz26_0 := zF BK397.out 0; have hfz26_1 := zF BK397.out 1; have hfz26_2 := zF BK397.out 2; have hfz26_3 := zF BK397.out 3; have hfz26_4 := zF BK397.out 4; have hfz26_5 := zF BK397.out 5; have hfz26_6 := zF BK397.out 6; have hfz26_7 := zF BK397.out 7; have hfz26_8 := zF BK397.out 8; have hfz26_9 := zF BK397.out 9) | ((with_reducible refine gate_callee (f := 87) rfl ?_); refine goesL_ (some 9) rfl rfl Try.func87 (by kernel_rfl) rfl #[.agg #[.int .i64 a0_0, .int .i64 a0_1, .int .i64 a0_2, .int .i64 a0_3, .int .i64 a0_4, .bool a0_5, .bool a0_6, .string a0_7, .string a0_8, .string a0_9]] rfl (by (try simp only [List.map_toArray, List.map_cons, List.map_nil]); first | done | rfl | (simp only [List.length_drop, List.length_take]; rfl)) ?_; (with_reducible refine (ip4_Check.calls a0_0 a0_1 a0_2 a0_3 a0_4 a0_5 a0_6 a0_7 a0_8 a0_9 t398 _ A3.out).mono ?_); rintro e w27 ⟨rfl, hb⟩; refine ⟨_, rfl, ?_⟩; have n0_ := mA (blk_below (g := gb397) (o := .cells #[.int .i64 a0_0, .int .i64 a0_1, .int .i64 a0_2, .int .i64 a0_3, .int .i64 a0_4, .bool a0_5, .bool a0_6, .string a0_7, .string a0_8, .string a0_9] 93 (0, 0)) (by (with_reducible repeat (first | apply kN | apply kD | apply kA)); exact BK397.out) hb); have n1_ := mA (bP (by repeat (first | (with_reducible first | exact HB.out | apply bA | apply bN | apply bD | refine bS ?_ GE397.out) | exact HB.out)) hb); clear BK397; clear HB; have BK397 := n0_; have HB := n1_; clear n0_ n1_; (try clear hb); (try clear hb2); (try clear hk); (try clear hi)))
  go_ret2
  exact ⟨by first | rfl | (simp [errW_none, errW_some] <;> rfl) | (simp [*, errW_none, errW_some] <;> rfl), by repeat (first | (with_reducible first | exact HB.out | apply bA | apply bN | apply bD | refine bS ?_ GE397.out) | exact HB.out)⟩

end Go.Proofs.Ytejmipoolbodgaa.G
end

section
/- Plain facts of ip4.Check and ip4.Put as functions: what a packet's bytes are. -/
namespace Go.Proofs.Ytejmipoolbodgaa.Pure
open Go.RowKit Go.Proofs.YtejmipoolbodgaaW.PrintWords Go.Proofs.YtejmipoolbodgaaW.PrintLast Go.Proofs.Ytejmipoolbodgaa.G Go.Proofs.Ytejmipoolbodgaa.Pal
theorem bl4_inj {a b : ByteArray} (h : bl a = bl b) : a = b := ByteArray.ext (Array.toList_inj.mp h)
theorem bl4_mk (l : List UInt8) : bl ⟨l.toArray⟩ = l := by simp [bl]
theorem size4_mk (l : List UInt8) : (⟨l.toArray⟩ : ByteArray).size = l.length := by simp [ByteArray.size]
theorem or_add4 (i x y : Nat) (hy : y < 2 ^ i) : 2 ^ i * x ||| y = 2 ^ i * x + y := (Nat.two_pow_add_eq_or_of_lt hy x).symm
theorem u64n_nat (x : Nat) (h : x ≤ 18446744073709551615) : u64n (x : Int) = x := by unfold u64n; rw [IntKind.wrap_u64]; omega
/-- The flags and the offset. -/
def fl (df mf : Bool) (off : Nat) : Nat := (if df then 16384 else 0) + (if mf then 8192 else 0) + off
theorem fl_lt {df mf : Bool} {off : Nat} (h : off < 8192) : fl df mf off < 32768 := by unfold fl; split <;> split <;> omega
theorem flags_is (df mf : Bool) (off : Nat) (h : off < 8192) : flags4 (off : Int) df mf = ((fl df mf off : Nat) : Int) := by
  have hb : ∃ k, k ≤ 3 ∧ Go.bits .or .i64 (bit14 df) (bit13 mf) = ((8192 * k : Nat) : Int) ∧ fl df mf off = 8192 * k + off := by
    cases df <;> cases mf
    · exact ⟨0, by decide, by decide +kernel, by simp [fl]⟩
    · exact ⟨1, by decide, by decide +kernel, by simp [fl]⟩
    · exact ⟨2, by decide, by decide +kernel, by simp [fl]⟩
    · exact ⟨3, by decide, by decide +kernel, by simp [fl]⟩
  obtain ⟨k, hk, e1, e2⟩ := hb
  unfold flags4
  rw [e1, i64_or _ _ (by omega) (by omega), e2]
  have := or_add4 13 k off h
  rw [show (2 : Nat) ^ 13 = 8192 from rfl] at this
  rw [this]
theorem first_is (n : Nat) (h : n ≤ 40) : first4 n = ((64 + (20 + n) / 4 : Nat) : Int) := by
  unfold first4
  have e := i64_or 64 ((20 + n) / 4) (by decide) (by omega)
  have := or_add4 6 1 ((20 + n) / 4) (by omega)
  rw [show (2 : Nat) ^ 6 * 1 = 64 from rfl] at this
  rw [this] at e
  exact e
/-- A header's bytes. -/
def head4 (tos id off ttl proto : Nat) (df mf : Bool) (src dst opt : ByteArray) (total check : Nat) : List UInt8 :=
  nb 1 (64 + (20 + opt.size) / 4) ++ nb 1 tos ++ nb 2 total ++ nb 2 id ++ nb 2 (fl df mf off) ++ nb 1 ttl ++ nb 1 proto ++ nb 2 check ++ (bl src ++ bl dst ++ bl opt)
theorem head4_length (tos id off ttl proto : Nat) (df mf : Bool) (src dst opt : ByteArray) (total check : Nat) : (head4 tos id off ttl proto df mf src dst opt total check).length = 12 + src.size + dst.size + opt.size := by
  unfold head4; simp only [List.length_append, nb_length, bl_length]; omega
theorem bytes4_is {tos id off ttl proto : Nat} {df mf : Bool} {src dst opt : ByteArray} {total check : Nat} (h : ok4 tos id off ttl proto src dst opt) (ht : total ≤ 65535) (hc : check ≤ 65535) :
    ip4Bytes tos id off ttl proto df mf src dst opt total check = head4 tos id off ttl proto df mf src dst opt total check := by
  obtain ⟨h1, h2, h3, h4, h5, h6, h7, h8, h9⟩ := h
  unfold ip4Bytes head4
  rw [first_is _ h8, flags_is _ _ _ (by omega), u64n_nat _ (by omega), u64n_nat _ (by omega), u64n_nat _ (by omega), u64n_nat _ (by omega), u64n_nat _ (by have := fl_lt (df := df) (mf := mf) (show off < 8192 by omega); omega), u64n_nat _ (by omega), u64n_nat _ (by omega), u64n_nat _ (by omega), bl_append, bl_append]
/-- What ip4.Put makes of a header that may be. -/
def put4 (tos id off ttl proto : Nat) (df mf : Bool) (src dst opt p : ByteArray) : List UInt8 :=
  head4 tos id off ttl proto df mf src dst opt (20 + opt.size + p.size) (csum (head4 tos id off ttl proto df mf src dst opt (20 + opt.size + p.size) 0)) ++ bl p
theorem csum4_le (l : List UInt8) : csum l ≤ 65535 := by unfold csum; omega
theorem sum4_one (t : ByteArray) (h : t.size ≤ 1099511627776) : sum_Sum.f [t] = some ((csum (bl t) : Nat) : Int) := by
  have e : cat [t] = bl t := by rw [cat_cons, cat_nil, List.append_nil]
  unfold sum_Sum.f; rw [if_pos (by rw [e, bl_length]; exact h), e]
theorem check4 {tos id off ttl proto : Int} {df mf : Bool} {src dst opt : ByteArray} (h1 : src.size ≤ 281474976710656) (h2 : dst.size ≤ 281474976710656) (h3 : opt.size ≤ 281474976710656) :
    ip4_Check.f tos id off ttl proto df mf src dst opt = some (if ok4 tos id off ttl proto src dst opt then 0 else 1) := by
  unfold ip4_Check.f; rw [if_pos ⟨by omega, by omega, by omega⟩]
theorem put4_ok {tos id off ttl proto : Nat} {df mf : Bool} {src dst opt p : ByteArray} (h : ok4 tos id off ttl proto src dst opt) (hp : 20 + opt.size + p.size ≤ 65535) :
    ip4_Put.f tos id off ttl proto df mf src dst opt p = some (⟨(put4 tos id off ttl proto df mf src dst opt p).toArray⟩, 0) := by
  have hs := h.2.2.2.2.2
  unfold ip4_Put.f
  rw [check4 (by omega) (by omega) (by omega), Option.bind_some, if_pos h, if_pos rfl, show wrap64 (wrap64 (20 + (opt.size : Int)) + (p.size : Int)) = ((20 + opt.size + p.size : Nat) : Int) by unfold wrap64; omega, if_neg (by omega)]
  unfold ip4_header.f
  rw [if_pos (by omega), Option.bind_some, show (0 : Int) = ((0 : Nat) : Int) from rfl, bytes4_is h hp (by decide)]
  have hl := head4_length tos id off ttl proto df mf src dst opt (20 + opt.size + p.size) 0
  rw [sum4_one _ (by rw [size4_mk, hl]; omega), Option.bind_some, bl4_mk, if_pos (by omega), Option.bind_some, bytes4_is h hp (csum4_le _), if_pos (by rw [size4_mk, head4_length]; omega)]
  refine congrArg some (Prod.ext (bl4_inj ?_) rfl)
  dsimp only
  rw [bl_append]
  refine Eq.trans ?_ (bl4_mk _).symm
  unfold put4
  congr 1
theorem put4_big {tos id off ttl proto : Nat} {df mf : Bool} {src dst opt p : ByteArray} (h : ok4 tos id off ttl proto src dst opt) (hp : ¬ 20 + opt.size + p.size ≤ 65535) (hq : p.size ≤ 140737488351232) :
    ip4_Put.f tos id off ttl proto df mf src dst opt p = some (⟨#[]⟩, 4) := by
  have hs := h.2.2.2.2.2
  unfold ip4_Put.f
  rw [check4 (by omega) (by omega) (by omega), Option.bind_some, if_pos h, if_pos rfl, show wrap64 (wrap64 (20 + (opt.size : Int)) + (p.size : Int)) = ((20 + opt.size + p.size : Nat) : Int) by unfold wrap64; omega, if_pos (by omega)]
theorem put4_no {tos id off ttl proto : Int} {df mf : Bool} {src dst opt p : ByteArray} (h : ¬ ok4 tos id off ttl proto src dst opt) (h1 : src.size ≤ 281474976710656) (h2 : dst.size ≤ 281474976710656) (h3 : opt.size ≤ 281474976710656) :
    ip4_Put.f tos id off ttl proto df mf src dst opt p = some (⟨#[]⟩, 1) := by
  unfold ip4_Put.f
  rw [check4 h1 h2 h3, Option.bind_some, if_neg h, if_neg (by decide)]
/-- A header that may be, in numbers that aren't negative. -/
theorem ok4_nat {tos id off ttl proto : Int} {src dst opt : ByteArray} (h : ok4 tos id off ttl proto src dst opt) : ∃ a b c d e : Nat, tos = a ∧ id = b ∧ off = c ∧ ttl = d ∧ proto = e := by
  obtain ⟨h1, h2, h3, h4, h5, _⟩ := h
  exact ⟨tos.toNat, id.toNat, off.toNat, ttl.toNat, proto.toNat, by omega, by omega, by omega, by omega, by omega⟩
end Go.Proofs.Ytejmipoolbodgaa.Pure
end

section
/- What ip4.Get computes, as a function. -/
namespace Go.Proofs.Ytejmipoolbodgaa.Pure
theorem and_low (i : Nat) (hi : i ≤ 62) (x : Nat) (hx : x < 9223372036854775808) : Go.bits .and .i64 (x : Int) (((2 ^ i - 1 : Nat)) : Int) = ((x % 2 ^ i : Nat) : Int) := by
  have hp : 2 ^ i ≤ 2 ^ 62 := Nat.pow_le_pow_right (by decide) hi
  have h1 : 1 ≤ 2 ^ i := Nat.one_le_two_pow
  rw [Pal.i64_and x (2 ^ i - 1) hx (by omega), Nat.and_two_pow_sub_one_eq_mod]
theorem and15 (x : Nat) (hx : x < 65536) : Go.bits .and .i64 (x : Int) 15 = ((x % 16 : Nat) : Int) := and_low 4 (by decide) x (by omega)
theorem and1 (x : Nat) (hx : x < 65536) : Go.bits .and .i64 (x : Int) 1 = ((x % 2 : Nat) : Int) := and_low 1 (by decide) x (by omega)
theorem and8191 (x : Nat) (hx : x < 65536) : Go.bits .and .i64 (x : Int) 8191 = ((x % 8192 : Nat) : Int) := and_low 13 (by decide) x (by omega)
end Go.Proofs.Ytejmipoolbodgaa.Pure
namespace Go.Proofs.Ytejmipoolbodgaa.G
open Go.Proofs.Ytejmipoolbodgaa.Pal
/-- How long a packet's header says it is. -/
def hl4 (s : ByteArray) : Nat := 4 * (be (bl (s.extract 0 1)) % 16)
/-- With which error ip4.Get stops. -/
def ip4Err (s : ByteArray) : Int :=
  if s.size < 20 then 2 else if be (bl (s.extract 0 1)) / 16 = 4 then (if 20 ≤ hl4 s ∧ hl4 s ≤ s.size ∧ be (bl (s.extract 2 4)) = s.size then (if csum (bl (s.extract 0 (hl4 s))) = 0 then (if be (bl (s.extract 6 8)) / 32768 = 0 then 0 else 9) else 5) else 4) else 3
end Go.Proofs.Ytejmipoolbodgaa.G
end

section
/- ip4.Get as a function of bytes. -/
namespace Go.Proofs.Ytejmipoolbodgaa.G
open Go.Proofs.Ytejmipoolbodgaa.Pal
def ip4_Get.f (s : ByteArray) : Option (Int × Int × Int × Int × Int × Bool × Bool × ByteArray × ByteArray × ByteArray × ByteArray × Int) :=
  if s.size ≤ 140737488351232 then some (if ip4Err s = 0 then (((be (bl (s.extract 1 2)) : Nat) : Int), ((be (bl (s.extract 4 6)) : Nat) : Int), ((be (bl (s.extract 6 8)) % 8192 : Nat) : Int), ((be (bl (s.extract 8 9)) : Nat) : Int), ((be (bl (s.extract 9 10)) : Nat) : Int), (be (bl (s.extract 6 8)) / 16384 % 2 == 1), (be (bl (s.extract 6 8)) / 8192 % 2 == 1), s.extract 12 16, s.extract 16 20, s.extract 20 (hl4 s), s.extract (hl4 s) s.size, 0) else (0, 0, 0, 0, 0, false, false, ⟨#[]⟩, ⟨#[]⟩, ⟨#[]⟩, ⟨#[]⟩, ip4Err s)) else none
end Go.Proofs.Ytejmipoolbodgaa.G
end

section
/- Plain theory: the parts of a payload, each of n bytes but the last one. No program in it. -/
namespace Go.Proofs.Ytejmipoolbodgaa.Pal
def cntP (s : ByteArray) (n : Nat) : Nat := (s.size + n - 1) / n
def partP (s : ByteArray) (n j : Nat) : ByteArray := s.extract (j * n) (min (j * n + n) s.size)
def itemP (s : ByteArray) (n j : Nat) : Int × ByteArray := (((j * n : Nat) : Int), partP s n j)
theorem cntP_lt (s : ByteArray) {n : Nat} (hn : 0 < n) (k : Nat) : k < cntP s n ↔ k * n < s.size := by
  unfold cntP
  rw [← Nat.succ_le_iff, Nat.le_div_iff_mul_le hn, Nat.succ_mul]
  omega
theorem partP_size (s : ByteArray) (n j : Nat) : (partP s n j).size = min (j * n + n) s.size - j * n := by
  simp only [partP, ByteArray.size_extract]; omega
theorem cntP_pos (s : ByteArray) {n : Nat} (hn : 0 < n) (h : 0 < s.size) : 0 < cntP s n := (cntP_lt s hn 0).mpr (by omega)
/-- The last part begins at so many bytes. -/
theorem cntP_last (s : ByteArray) {n : Nat} (hn : 0 < n) (h : 0 < s.size) : cntP s n = (s.size - 1) / n + 1 := by
  unfold cntP
  rw [show s.size + n - 1 = (s.size - 1) + n by omega, Nat.add_div_right _ hn]
theorem partP_full (s : ByteArray) {n j : Nat} (hn : 0 < n) (h : j + 1 < cntP s n) : (partP s n j).size = n ∧ j * n + n < s.size := by
  have h1 := (cntP_lt s hn (j + 1)).mp h
  rw [Nat.succ_mul] at h1
  rw [partP_size]
  omega
theorem partP_last (s : ByteArray) {n j : Nat} (hn : 0 < n) (h : j + 1 = cntP s n) : j * n < s.size ∧ s.size ≤ j * n + n ∧ (partP s n j).size = s.size - j * n := by
  have h1 := (cntP_lt s hn j).mp (by omega)
  have h2 : ¬ (j + 1) * n < s.size := fun h3 => by have := (cntP_lt s hn (j + 1)).mpr h3; omega
  rw [Nat.succ_mul] at h2
  rw [partP_size]
  omega
def uptoP (s : ByteArray) (n k : Nat) : List (Int × ByteArray) := (List.range k).map (itemP s n)
theorem uptoP_succ (s : ByteArray) (n k : Nat) : uptoP s n (k + 1) = uptoP s n k ++ [itemP s n k] := by simp [uptoP, List.range_succ]
theorem uptoP_length (s : ByteArray) (n k : Nat) : (uptoP s n k).length = k := by simp [uptoP]
theorem joinP (s : ByteArray) {n k : Nat} (h : k * n < s.size) : s.extract 0 (min (k * n) s.size) ++ partP s n k = s.extract 0 (min ((k + 1) * n) s.size) := by
  have e : ∀ a b, bl (s.extract a b) = ((bl s).take b).drop a := fun a b => by simp [bl, ByteArray.data_extract, List.drop_take]
  have inj : ∀ a b : ByteArray, bl a = bl b → a = b := fun a b h => ByteArray.ext (Array.toList_inj.mp h)
  apply inj
  unfold partP
  have h1 : min (k * n) s.size = k * n := Nat.min_eq_left (by omega)
  rw [bl_append, e, e, e, List.drop_zero, List.drop_zero, Nat.succ_mul, h1]
  conv => rhs; rw [← List.take_append_drop (k * n) ((bl s).take (min (k * n + n) s.size))]
  rw [List.take_take, show min (k * n) (min (k * n + n) s.size) = k * n by omega]
theorem wholeP (s : ByteArray) {n : Nat} (hn : 0 < n) : s.extract 0 (min (cntP s n * n) s.size) = s := by
  have h : s.size ≤ cntP s n * n := by
    by_cases h : cntP s n * n < s.size
    · have := (cntP_lt s hn (cntP s n)).mpr h; omega
    · omega
  rw [Nat.min_eq_right h]
  apply ByteArray.ext
  rw [ByteArray.data_extract]
  exact Array.extract_eq_self_of_le (Nat.le_refl _)
end Go.Proofs.Ytejmipoolbodgaa.Pal
end

section
namespace Go.Proofs.Ytejmipoolbodgaa.G
open Go.RowKit Go.Proofs.YtejmipoolbodgaaW.PrintWords Go.Proofs.YtejmipoolbodgaaW.PrintLast Go.Proofs.YtejmipoolbodgaaW.PrintMore
attribute [local go_sem] max2_int min2_int max_two min_two max_three min_three max_four min_four   -- for this text's walks alone
set_option linter.unusedVariables false
set_option linter.unusedSimpArgs false

def frag_Part.f (a0 : Int) (a1 : Int) : Option (Int) := some (Go.bits .andNot .i64 (mx 0 (wrap64 (a1 - a0))) 7)
set_option maxHeartbeats 8000000 in
set_option maxRecDepth 100000 in
theorem frag_Part.calls (a0 : Int) (a1 : Int) (r : Int) (w : World) (h : frag_Part.f a0 a1 = some r) :
  Calls Try.prog 115 #[.int .i64 a0, .int .i64 a1] w fun e w' => e = .returned (.int .i64 r) ∧ Below w.heap.size w w' := by
 have HB := mA (Below.refl w.heap.size w)
 have H : (some (Go.bits .andNot .i64 (mx 0 (wrap64 (a1 - a0))) 7)) = some r := h
 clear h
 obtain ⟨ji3, hji3⟩ : ∃ j_ : Int, (mx 0 (wrap64 (a1 - a0))) = j_ := ⟨_, rfl⟩
 replace H : (some (Go.bits .andNot .i64 (ji3) 7)) = some r := by first | (rw [hji3] at H; exact H) | (simp only [hji3] at H ⊢; exact H)
 (try (have hji3l : 0 ≤ ji3 := by (rw [← hji3]; unfold mx; (repeat' split) <;> omega)))
 (try (have hji3m : 0 ≤ ji3 := by omega))
 have hji3_ : (if 0 < (wrap64 (a1 - a0)) then (wrap64 (a1 - a0)) else 0) = ji3 := hji3
 obtain rfl := Option.some.inj H
 go_enter Try.func115, Try.ntmps115
 go_wp2
 go_ret
 exact ⟨by first | rfl | (simp [errW_none, errW_some] <;> rfl) | (simp only [← hji3]; first | rfl | (simp [errW_none, errW_some] <;> rfl)) | (simp [*, errW_none, errW_some] <;> rfl), by repeat (first | (with_reducible first | exact HB.out | apply bA | apply bN | apply bD) | exact HB.out)⟩

def frag_Usable.f (a0 : Int) (a1 : Int) : Option (Int) := some (mx 0 (wrap64 (a0 - a1)))
set_option maxHeartbeats 8000000 in
set_option maxRecDepth 100000 in
theorem frag_Usable.calls (a0 : Int) (a1 : Int) (r : Int) (w : World) (h : frag_Usable.f a0 a1 = some r) :
  Calls Try.prog 119 #[.int .i64 a0, .int .i64 a1] w fun e w' => e = .returned (.int .i64 r) ∧ Below w.heap.size w w' := by
 have HB := mA (Below.refl w.heap.size w)
 have H : (some (mx 0 (wrap64 (a0 - a1)))) = some r := h
 clear h
 obtain ⟨ji3, hji3⟩ : ∃ j_ : Int, (mx 0 (wrap64 (a0 - a1))) = j_ := ⟨_, rfl⟩
 replace H : (some ji3) = some r := by first | (rw [hji3] at H; exact H) | (simp only [hji3] at H ⊢; exact H)
 (try (have hji3l : 0 ≤ ji3 := by (rw [← hji3]; unfold mx; (repeat' split) <;> omega)))
 (try (have hji3m : 0 ≤ ji3 := by omega))
 have hji3_ : (if 0 < (wrap64 (a0 - a1)) then (wrap64 (a0 - a1)) else 0) = ji3 := hji3
 obtain rfl := Option.some.inj H
 go_enter Try.func119, Try.ntmps119
 go_wp2
 go_ret
 exact ⟨by first | rfl | (simp [errW_none, errW_some] <;> rfl) | (simp only [← hji3]; first | rfl | (simp [errW_none, errW_some] <;> rfl)) | (simp [*, errW_none, errW_some] <;> rfl), by repeat (first | (with_reducible first | exact HB.out | apply bA | apply bN | apply bD) | exact HB.out)⟩

end Go.Proofs.Ytejmipoolbodgaa.G
end

section
/- What frag.Cut computes, as a function of bytes; no walk in it. -/
namespace Go.Proofs.Ytejmipoolbodgaa.G
open Go.RowKit Go.Proofs.YtejmipoolbodgaaW.PrintWords Go.Proofs.YtejmipoolbodgaaW.PrintLast Go.Proofs.Ytejmipoolbodgaa.Pal
def hTos (s : ByteArray) : Nat := be (bl (s.extract 1 2))
def hId (s : ByteArray) : Nat := be (bl (s.extract 4 6))
def hOff (s : ByteArray) : Nat := be (bl (s.extract 6 8)) % 8192
def hTtl (s : ByteArray) : Nat := be (bl (s.extract 8 9))
def hProto (s : ByteArray) : Nat := be (bl (s.extract 9 10))
def hDF (s : ByteArray) : Bool := be (bl (s.extract 6 8)) / 16384 % 2 == 1
def hMF (s : ByteArray) : Bool := be (bl (s.extract 6 8)) / 8192 % 2 == 1
def hSrc (s : ByteArray) : ByteArray := s.extract 12 16
def hDst (s : ByteArray) : ByteArray := s.extract 16 20
def hOpt (s : ByteArray) : ByteArray := s.extract 20 (hl4 s)
def hPay (s : ByteArray) : ByteArray := s.extract (hl4 s) s.size
theorem get4_f (s : ByteArray) (hs : s.size ≤ 140737488351232) (h : ip4Err s = 0) : ip4_Get.f s = some ((hTos s : Int), (hId s : Int), (hOff s : Int), (hTtl s : Int), (hProto s : Int), hDF s, hMF s, hSrc s, hDst s, hOpt s, hPay s, 0) := by
  unfold ip4_Get.f; rw [if_pos hs, if_pos h]; rfl
/-- How many bytes of payload a piece has. -/
def nF (s : ByteArray) (m : Nat) : Nat := (m - hl4 s) / 8 * 8
/-- Piece k of a packet that is cut by n bytes. -/
def pieceF (s : ByteArray) (n k : Nat) : ByteArray :=
  ⟨(Pure.put4 (hTos s) (hId s) (hOff s + k * n / 8) (hTtl s) (hProto s) (hDF s) (hMF s || decide (k * n + (partP (hPay s) n k).size < (hPay s).size)) (hSrc s) (hDst s) (hOpt s) (partP (hPay s) n k)).toArray⟩
def cutErr (s : ByteArray) (mtu : Int) : Int :=
  if ip4Err s = 0 then (if 28 ≤ mtu ∧ mtu ≤ 65535 then (if (s.size : Int) ≤ mtu then 0 else if hDF s = true then 8 else if nF s mtu.toNat = 0 then 1 else if 8191 < hOff s + ((hPay s).size - 1) / nF s mtu.toNat * nF s mtu.toNat / 8 then 4 else 0) else 1) else ip4Err s
def cutL (s : ByteArray) (mtu : Int) : List ByteArray :=
  if cutErr s mtu = 0 then (if (s.size : Int) ≤ mtu then [s] else (List.range (cntP (hPay s) (nF s mtu.toNat))).map (pieceF s (nF s mtu.toNat))) else []
def frag_Cut.f (s : ByteArray) (mtu : Int) : Option (List ByteArray × Int) := if s.size ≤ 140737488351232 then some (cutL s mtu, cutErr s mtu) else none
end Go.Proofs.Ytejmipoolbodgaa.G
end

section
/- Plain theory: a text with its own checksum inside it, at an even place. No program in it. -/
namespace Go.Proofs.Ytejmipoolbodgaa.Pal
theorem nb2_is (c : Nat) : nb 2 c = [UInt8.ofNat (c / 256), UInt8.ofNat c] := rfl
theorem nb2_tot (c : Nat) (h : c ≤ 65535) : tot false (nb 2 c) = c := by
  rw [nb2_is]
  simp only [tot, UInt8.toNat_ofNat']
  omega
theorem nb2_odd (c : Nat) : odd (nb 2 c) = false := by unfold odd; rw [nb_length]; rfl
theorem tot_mid (A B : List UInt8) (c : Nat) (hA : odd A = false) (hc : c ≤ 65535) : tot false (A ++ nb 2 c ++ B) = tot false (A ++ nb 2 0 ++ B) + c := by
  have e : ∀ d, odd (A ++ nb 2 d) = false := fun d => by
    unfold odd at hA ⊢
    rw [List.length_append, nb_length]
    simp only [beq_eq_false_iff_ne] at hA ⊢
    omega
  have t : ∀ d, tot false (A ++ nb 2 d ++ B) = tot false A + tot false (nb 2 d) + tot false B := fun d => by
    rw [tot_append, tot_append, e d, hA]
    rfl
  rw [t, t, nb2_tot c hc, nb2_tot 0 (by decide)]
  omega
theorem csum_bound (l : List UInt8) : csum l ≤ 65535 := by unfold csum; omega
/-- With its checksum in its place it sums to 0. -/
theorem inSealed (A B : List UInt8) (hA : odd A = false) : csum (A ++ nb 2 (csum (A ++ nb 2 0 ++ B)) ++ B) = 0 := by
  unfold csum at *
  rw [tot_mid A B _ hA (by omega)]
  generalize tot false (A ++ nb 2 0 ++ B) = t
  unfold fold16
  split <;> split <;> omega
/-- What stands there, and makes it sum to 0, is its checksum, but where it is FFFF. -/
theorem outSealed (A B : List UInt8) (c : Nat) (hA : odd A = false) (hc : c < 65535) (h : csum (A ++ nb 2 c ++ B) = 0) : csum (A ++ nb 2 0 ++ B) = c := by
  unfold csum at *
  rw [tot_mid A B c hA (by omega)] at h
  generalize tot false (A ++ nb 2 0 ++ B) = t at h ⊢
  unfold fold16 at *
  split at h
  · omega
  · split
    · omega
    · omega
end Go.Proofs.Ytejmipoolbodgaa.Pal
end
