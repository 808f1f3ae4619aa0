/- Texts of this session, joined: each is a section. -/
import Derived.Test.YtcmalglippmocaaMClampUpdates1
import Derived.Test.YtcmalglippmocaaProg
import Derived.Below
import Derived.Deep.Draws
import Derived.Deep.AppendLies
import Derived.Maps.AppendAt
import Derived.OwnWalk
import Derived.Laws.BytesArg
import Derived.Laws.MakeOwn
import Derived.Laws.OwnMore
import Derived.Deep.OwnRows
import Derived.Tactics
import Derived.Lib.ConvBytes
import Derived.Laws.Slices
import Derived.WalkKit
import Derived.KernelRfl
import Derived.RowKit3
import Derived.Deep.LoopGhost
import Derived.Deep.QuietTactic
import Derived.BigQuiet
import Derived.WideLaws
import Derived.Deep.DeepCutAuto
import Derived.Deep.CutBlock
import Derived.Deep.RegionHeld3
import Derived.Laws.Rows
import Derived.Lib.AppendStr
import Derived.ArgAppend
import Derived.Laws.IdiomCopy
import Derived.OrdersHeld
import Derived.Laws.BitsLemmas
import Derived.RowKit
import Derived.Laws.Bits64
import Derived.Laws.BitsAllLaws
set_option linter.unusedVariables false
set_option linter.unusedSimpArgs false
section
-- PRINTED WORDS (module Derived/Print/More.lean): go-gate-2's additions: an AI agent of Go's test side, Tue Nov 17 2026; no person has read it. Lean checks it.
namespace Go.Proofs.YtcmalglippmocaaW.PrintMore
open Go.RowKit Go.Proofs.YtcmalglippmocaaW.PrintWords
namespace Kd
open Go.Proofs.YtcmalglippmocaaW.PrintWords.Kd
end Kd

namespace Kd
open Go.Proofs.YtcmalglippmocaaW.PrintWords.Kd
section
variable {α : Type} {d : Kd α} {e base g N : Nat} {ok : Nat → Prop} {W w1 : World} {u v : Value} {xs : List α}
end
end Kd
theorem max2_int (k k' : IntKind) (x y : Int) : Builtin.max2 (.int k x) (.int k' y) = pure (.int k (if x < y then y else x)) := by simp only [Builtin.max2, gt_iff_lt]
theorem min2_int (k k' : IntKind) (x y : Int) : Builtin.min2 (.int k x) (.int k' y) = pure (.int k (if y < x then y else x)) := by simp only [Builtin.min2]
theorem max_two (ats : Array TypeId) (ty : TypeId) (a b : Value) : Builtin.max_ ats ty #[a, b] = (Builtin.max2 a b >>= fun s => pure s) := by simp only [Builtin.max_, List.foldlM_cons, List.foldlM_nil]
theorem min_two (ats : Array TypeId) (ty : TypeId) (a b : Value) : Builtin.min_ ats ty #[a, b] = (Builtin.min2 a b >>= fun s => pure s) := by simp only [Builtin.min_, List.foldlM_cons, List.foldlM_nil]
theorem max_three (ats : Array TypeId) (ty : TypeId) (a b c : Value) : Builtin.max_ ats ty #[a, b, c] = (Builtin.max2 a b >>= fun s => Builtin.max2 s c >>= fun s => pure s) := by simp only [Builtin.max_, List.foldlM_cons, List.foldlM_nil]
theorem min_three (ats : Array TypeId) (ty : TypeId) (a b c : Value) : Builtin.min_ ats ty #[a, b, c] = (Builtin.min2 a b >>= fun s => Builtin.min2 s c >>= fun s => pure s) := by simp only [Builtin.min_, List.foldlM_cons, List.foldlM_nil]
theorem max_four (ats : Array TypeId) (ty : TypeId) (a b c d : Value) : Builtin.max_ ats ty #[a, b, c, d] = (Builtin.max2 a b >>= fun s => Builtin.max2 s c >>= fun s => Builtin.max2 s d >>= fun s => pure s) := by simp only [Builtin.max_, List.foldlM_cons, List.foldlM_nil]
theorem min_four (ats : Array TypeId) (ty : TypeId) (a b c d : Value) : Builtin.min_ ats ty #[a, b, c, d] = (Builtin.min2 a b >>= fun s => Builtin.min2 s c >>= fun s => Builtin.min2 s d >>= fun s => pure s) := by simp only [Builtin.min_, List.foldlM_cons, List.foldlM_nil]
end Go.Proofs.YtcmalglippmocaaW.PrintMore
namespace Go.Proofs.YtcmalglippmocaaW.PrintWords
open Go.RowKit
section
variable {P : Program} {ops : Array Oper} {rest : List Oper} {o : Oper} {a : Act} {Q : Exit → Act → World → Prop} {W : World}
theorem gate_callee {f : FuncId} {ag : Array Operand} {ts : Array TypeId} (_ho : o.op = .call { callee := .value (.func f), args := ag, argTypes := ts }) (h : wpList P ops Q (o :: rest) a W) : wpList P ops Q (o :: rest) a W := h
theorem gate_builtin {b : Builtin} {xs : Array Operand} {ts : Array TypeId} (_ho : o.op = .call { callee := .builtin b, args := xs, argTypes := ts }) (h : wpList P ops Q (o :: rest) a W) : wpList P ops Q (o :: rest) a W := h
end
def mx (a b : Int) : Int := if a < b then b else a
def mn (a b : Int) : Int := if b < a then b else a
theorem drewN_self (w : World) (n : Nat) : w.drewN n = w.drewN n := rfl
namespace Kd
section
variable {α : Type} {d : Kd α} {e base : Nat} {ok : Nat → Prop} {W w1 : World} {v : Value} {xs : List α}
end
section
variable {α : Type} {d : Kd α} {e base g n cap : Nat} {ok oki okp : Nat → Prop} {W : World} {xs : List α} {i : Int} {c : List Value}
end
section
variable {α : Type} {d : Kd α} {e base b b' g N : Nat} {ok ok1 : Nat → Prop} {W W2 w1 : World} {u v : Value} {xs ys : List α} {S : Nat → Prop}
end
end Kd
end Go.Proofs.YtcmalglippmocaaW.PrintWords
namespace Go.Proofs.YtcmalglippmocaaW.PrintWords
open Go.RowKit
namespace Kd
def V {α : Type} (d : Kd α) (_e : Nat) (W : World) (_base : Nat) (ok : Nat → Prop) (v : Value) (xs : List α) : Prop := ∃ A c, v = .slice A xs.length c ∧ xs.length ≤ c ∧ F d W ok A xs.length xs
section
variable {α β : Type} {d : Kd α} {e base base' n m c g N' lo hi : Nat} {ok ok' S : Nat → Prop} {w W w1 : World} {A : Option Addr} {ad : Addr} {u v v1 : Value} {xs : List α}
theorem V_nil (d : Kd α) (e : Nat) (W : World) (base : Nat) (ok : Nat → Prop) : V d e W base ok (.slice none 0 0) [] := ⟨none, 0, rfl, Nat.le_refl _, F_nil d W ok⟩
end
end Kd
end Go.Proofs.YtcmalglippmocaaW.PrintWords
end

section
namespace Go.Proofs.Ytcmalglippmocaa.G
open Go.RowKit Go.Proofs.YtcmalglippmocaaW.PrintWords Go.Proofs.YtcmalglippmocaaW.PrintLast Go.Proofs.YtcmalglippmocaaW.PrintMore
attribute [local go_sem] max2_int min2_int max_two min_two max_three min_three max_four min_four



def errW : Option Int → Value
  | none => .nilIface
  | some c => .iface 0 (.int .i64 c)
theorem errW_none : errW none = .nilIface := rfl
theorem errW_some (c : Int) : errW (some c) = .iface 0 (.int .i64 c) := rfl

theorem info3 : (Try.prog.info? 3).map (fun i => (i.zero, i.size, i.bytes)) = some (some (.int .i64 0), 1, 8) := by kernel_rfl
/-! #### struct type 50 -/
structure S50 where
  f0 : Int
  f1 : Int
  f2 : Int
  f3 : Int
  f4 : Int
  f5 : Bool
  f6 : Bool
  f7 : ByteArray
  f8 : ByteArray
  f9 : ByteArray
/-! #### struct type 53 -/
structure S53 where
  f0 : Int
  f1 : Int
  f2 : Int
  f3 : Int
  f4 : ByteArray
  f5 : ByteArray
/-! #### struct type 69 -/
structure S69 where
  f0 : Int
  f1 : Int
  f2 : Int
  f3 : Int
  f4 : Int
  f5 : Int
  f6 : Int
  f7 : ByteArray
  f8 : ByteArray
/-! #### struct type 73 -/
structure S73 where
  f0 : Int
  f1 : Int
  f2 : ByteArray
/-! #### struct type 24 -/
structure S24 where
  f0 : Int
  f1 : ByteArray
  f2 : ByteArray
  f3 : Int
  f4 : Int
end Go.Proofs.Ytcmalglippmocaa.G
end

section
namespace Go.Proofs.Ytcmalglippmocaa.Pal
def bl (s : ByteArray) : List UInt8 := s.data.toList
def tot : Bool → List UInt8 → Nat
  | _, [] => 0
  | false, b :: r => b.toNat * 256 + tot true r
  | true, b :: r => b.toNat + tot false r
def fold16 (n : Nat) : Nat := if n = 0 then 0 else (n - 1) % 65535 + 1
def csum (l : List UInt8) : Nat := 65535 - fold16 (tot false l)
def odd (l : List UInt8) : Bool := l.length % 2 == 1
theorem bl_length (s : ByteArray) : (bl s).length = s.size := by simp [bl]
theorem bl_append (a b : ByteArray) : bl (a ++ b) = bl a ++ bl b := by simp [bl]
theorem fold16_le (n : Nat) : fold16 n ≤ 65535 := by unfold fold16; split <;> omega
theorem fold16_id (n : Nat) (h : n ≤ 65535) : fold16 n = n := by unfold fold16; split <;> omega
theorem fold16_step (n : Nat) : fold16 (n % 65536 + n / 65536) = fold16 n := by unfold fold16; split <;> split <;> omega
theorem tot_append (a b : List UInt8) : ∀ o, tot o (a ++ b) = tot o a + tot (o != odd a) b := by
  induction a with
  | nil => intro o; cases o <;> simp [tot, odd]
  | cons x a ih =>
    intro o
    have hp : odd (x :: a) = !odd a := by
      unfold odd
      rw [List.length_cons]
      rcases Nat.mod_two_eq_zero_or_one a.length with h | h
      · have : (a.length + 1) % 2 = 1 := by omega
        rw [h, this]; rfl
      · have : (a.length + 1) % 2 = 0 := by omega
        rw [h, this]; rfl
    cases o
    · simp only [List.cons_append, tot, ih, hp]; cases odd a <;> simp <;> omega
    · simp only [List.cons_append, tot, ih, hp]; cases odd a <;> simp <;> omega
theorem tot_snoc (a : List UInt8) (x : UInt8) : tot false (a ++ [x]) = tot false a + (if odd a then x.toNat else x.toNat * 256) := by
  rw [tot_append]; cases odd a <;> simp [tot]
theorem odd_snoc (a : List UInt8) (x : UInt8) : odd (a ++ [x]) = !odd a := by
  unfold odd
  rw [List.length_append, List.length_singleton]
  rcases Nat.mod_two_eq_zero_or_one a.length with h | h
  · have : (a.length + 1) % 2 = 1 := by omega
    rw [h, this]; rfl
  · have : (a.length + 1) % 2 = 0 := by omega
    rw [h, this]; rfl
theorem tot_le (a : List UInt8) : ∀ o, tot o a ≤ 65280 * a.length := by
  induction a with
  | nil => intro o; cases o <;> simp [tot]
  | cons x a ih =>
    intro o
    have hx := x.toNat_lt
    have h1 := ih true
    have h2 := ih false
    cases o <;> simp only [tot, List.length_cons] <;> omega
def cat (l : List ByteArray) : List UInt8 := (l.map bl).flatten
theorem cat_nil : cat [] = [] := rfl
theorem cat_cons (s : ByteArray) (l : List ByteArray) : cat (s :: l) = bl s ++ cat l := rfl
end Go.Proofs.Ytcmalglippmocaa.Pal
end

section
namespace Go.Proofs.Ytcmalglippmocaa.Pal
theorem wraps_i64 (n : Int) (h₀ : 0 ≤ n) (h₁ : n < 2 ^ 63) : IntKind.i64.wrap n = n := by rw [IntKind.wrap_i64]; omega
theorem wraps_u64 (n : Int) (h₀ : 0 ≤ n) (h₁ : n < 2 ^ 64) : IntKind.u64.wrap n = n := by rw [IntKind.wrap_u64]; omega
theorem wraps_u32 (n : Int) (h₀ : 0 ≤ n) (h₁ : n < 2 ^ 32) : IntKind.u32.wrap n = n := by rw [IntKind.wrap_u32]; omega
theorem i64_and (a b : Nat) (ha : a < 2 ^ 63) (hb : b < 2 ^ 63) : Go.bits .and .i64 (a : Int) (b : Int) = ((a &&& b : Nat) : Int) := (bits_nat .i64 63 (by decide) wraps_i64 a b ha hb).1
theorem i64_or (a b : Nat) (ha : a < 2 ^ 63) (hb : b < 2 ^ 63) : Go.bits .or .i64 (a : Int) (b : Int) = ((a ||| b : Nat) : Int) := (bits_nat .i64 63 (by decide) wraps_i64 a b ha hb).2
theorem i64_xor (a b : Nat) (ha : a < 2 ^ 63) (hb : b < 2 ^ 63) : Go.bits .xor .i64 (a : Int) (b : Int) = ((a ^^^ b : Nat) : Int) := by
  have ha' : a % 2 ^ IntKind.i64.bits = a := Nat.mod_eq_of_lt (Nat.lt_of_lt_of_le ha (by decide))
  have hb' : b % 2 ^ IntKind.i64.bits = b := Nat.mod_eq_of_lt (Nat.lt_of_lt_of_le hb (by decide))
  have hx := Nat.xor_lt_two_pow ha hb
  simp only [Go.bits, BitVec.ofInt_natCast, BitVec.toNat_xor, BitVec.toNat_ofNat, ha', hb']
  exact wraps_i64 _ (Int.natCast_nonneg _) (by exact_mod_cast hx)
theorem u64_and' (a b : Nat) (ha : a < 2 ^ 64) (hb : b < 2 ^ 64) : Go.bits .and .u64 (a : Int) (b : Int) = ((a &&& b : Nat) : Int) := (bits_nat .u64 64 (by decide) wraps_u64 a b ha hb).1
theorem xor_ones (n : Nat) (h : n < 65536) : n ^^^ 65535 = 65535 - n := by
  have e := BitVec.toNat_not (x := BitVec.ofNat 16 n)
  rw [← BitVec.xor_allOnes, BitVec.toNat_xor, BitVec.toNat_ofNat, BitVec.toNat_allOnes] at e
  rw [Nat.mod_eq_of_lt (show n < 2 ^ 16 from h)] at e
  have h2 : (2 : Nat) ^ 16 - 1 = 65535 := by decide
  rw [h2] at e
  rw [e]
theorem i64_xor_ones (n : Nat) (h : n < 65536) : Go.bits .xor .i64 (n : Int) 65535 = ((65535 - n : Nat) : Int) := by
  have e := i64_xor n 65535 (by omega) (by decide)
  rw [xor_ones n h] at e
  exact e
end Go.Proofs.Ytcmalglippmocaa.Pal
end

section
namespace Go.Proofs.Ytcmalglippmocaa.G
open Go.RowKit Go.Proofs.YtcmalglippmocaaW.PrintWords Go.Proofs.YtcmalglippmocaaW.PrintLast Go.Proofs.YtcmalglippmocaaW.PrintMore Go.Proofs.Ytcmalglippmocaa.Pal

def sum_fold.f (a0 : Int) : Option Int := if 0 ≤ a0 ∧ a0 ≤ 18446744073709551615 then some ((fold16 a0.toNat : Nat) : Int) else none

def addW (t : Int) (o : Bool) (b : Int) : Int := t + if o then b else b * 256
set_option maxHeartbeats 400000 in
set_option maxRecDepth 100000 in
theorem sum_add.calls (b t : Int) (o : Bool) (po pt : Nat) (w : World) (hb0 : 0 ≤ b) (hb1 : b ≤ 255) (ht0 : 0 ≤ t) (ht1 : t ≤ 18446744073709486000)
    (h1 : w.cell? ⟨po, 0, none⟩ = some (.bool o)) (h2 : w.cell? ⟨pt, 0, none⟩ = some (.int .u64 t)) (f1 : w.frozen? ⟨po, 0, none⟩ = false) (f2 : w.frozen? ⟨pt, 0, none⟩ = false) (hne : ¬ po = pt) :
    Calls Try.prog 62 #[.int .u8 b, .pointer (some ⟨po, 0, none⟩), .pointer (some ⟨pt, 0, none⟩)] w fun e w' => e = .returned (.tuple #[]) ∧ w' = (w.setCell ⟨pt, 0, none⟩ (.int .u64 (addW t o b))).setCell ⟨po, 0, none⟩ (.bool (!o)) := by
  have hnot : ∀ (x : Bool) (w : World), (Op.unary .not (.bool x)).run Try.prog w = .ok (.bool (!x)) w := fun _ _ => rfl
  cases o
  · go_enter Try.func62, Try.ntmps62
    go_wp2
    go_end0
    exact ⟨rfl, by simp [addW]⟩
  · go_enter Try.func62, Try.ntmps62
    go_wp2
    go_end0
    exact ⟨rfl, by simp [addW]⟩

theorem and_low (x : Nat) (h : x ≤ 18446744073709551615) : Go.bits .and .u64 (x : Int) 65535 = ((x % 65536 : Nat) : Int) := by
  have e := u64_and' x 65535 (by omega) (by decide)
  rw [Nat.and_two_pow_sub_one_eq_mod x 16] at e
  exact e

set_option maxHeartbeats 400000 in
theorem sum_fold.calls (a0 : Int) (r : Int) (w : World) (h : sum_fold.f a0 = some r) :
    Calls Try.prog 43 #[.int .u64 a0] w fun e w' => e = .returned (.int .i64 r) ∧ Below w.heap.size w w' := by
  unfold sum_fold.f at h
  by_cases hc : 0 ≤ a0 ∧ a0 ≤ 18446744073709551615
  case neg => rw [if_neg hc] at h; exact absurd h (by simp)
  rw [if_pos hc] at h
  have H := Aside0.mk (Option.some.inj h)
  obtain ⟨h0, hk⟩ := hc
  clear h
  go_enter Try.func43, Try.ntmps43
  go_wp2
  go_loopg [0] a0.toNat (fun kq v0 w' => ∃ x : Nat, v0 = .int .u64 (x : Int) ∧ Aside0 (fold16 x = fold16 a0.toNat) ∧ Aside0 (x ≤ kq ∧ x ≤ 18446744073709551615) ∧ Aside0 (Below w.heap.size w w'))
  case atStart => exact ⟨a0.toNat, by rw [Int.toNat_of_nonneg h0], ⟨rfl⟩, ⟨by omega⟩, ⟨Below.refl _ _⟩⟩
  case round =>
    obtain ⟨x, rfl, HA, HK, HB⟩ := hrel
    have hx := HK.out.2
    clear hk h0
    by_cases hlt : 65535 < x
    · have e1 := and_low x hx
      go_wp2
      go_roundg (x % 65536 + x / 65536)
      case measure => have := HK.out; omega
      case rel => exact ⟨x % 65536 + x / 65536, by simp, ⟨by rw [fold16_step]; exact HA.out⟩, ⟨by omega⟩, HB⟩
    · have e2 : wrap64 (x : Int) = x := by unfold wrap64; omega
      have HX := Aside0.mk (fold16_id x (by omega))
      go_wp2
      go_ret
      exact ⟨by have h1 := H.out; have h2 := HA.out; have h3 := HX.out; rw [h2] at h3; rw [← h1, h3]; rfl, HB.out⟩

def SumInv (w wr : World) (bs : List UInt8) : Prop :=
  Below w.heap.size w wr ∧ wr.heap[w.heap.size]? = some (.cells #[.int .u64 (tot false bs : Nat)] 84 (0, 0)) ∧ wr.heap[w.heap.size + 1]? = some (.cells #[.bool (odd bs)] 4 (0, 0))
theorem SumInv.start (w : World) : SumInv w ((w.alloc (.cells #[.int .u64 0] 84)).alloc (.cells #[.bool false] 4)) [] := by
  refine ⟨((Below.refl _ _).alloc (Nat.le_refl _) _).alloc (by simp) _, ?_, ?_⟩
  · rw [Below.heap_alloc _ _ _ (by simp)]
    exact heap_alloc_new w _
  · have := heap_alloc_new (w.alloc (.cells #[.int .u64 0] 84)) (.cells #[.bool false] 4)
    rwa [World.size_alloc] at this
theorem SumInv.step {w wr : World} {bs : List UInt8} (h : SumInv w wr bs) (b : UInt8) :
    SumInv w ((wr.setCell ⟨w.heap.size, 0, none⟩ (.int .u64 (addW (tot false bs : Nat) (odd bs) (b.toNat : Int)))).setCell ⟨w.heap.size + 1, 0, none⟩ (.bool (!odd bs))) (bs ++ [b]) := by
  obtain ⟨h1, h2, h3⟩ := h
  refine ⟨(h1.setCell (by simp) _).setCell (by simp) _, ?_, ?_⟩
  · rw [Below.heap_setCell _ _ _ _ (by simp), one_setCell h2, tot_snoc, addW]
    cases odd bs <;> simp
  · rw [odd_snoc]
    exact one_setCell (by rw [Below.heap_setCell _ _ _ _ (by simp)]; exact h3)

theorem SumInv.facts {w wr : World} {bs : List UInt8} (h : SumInv w wr bs) :
    wr.cell? ⟨w.heap.size, 0, none⟩ = some (.int .u64 (tot false bs : Nat)) ∧ wr.frozen? ⟨w.heap.size, 0, none⟩ = false ∧ wr.cell? ⟨w.heap.size + 1, 0, none⟩ = some (.bool (odd bs)) ∧ wr.frozen? ⟨w.heap.size + 1, 0, none⟩ = false :=
  ⟨cell_of_one h.2.1, free_of_one h.2.1, cell_of_one h.2.2, free_of_one h.2.2⟩

set_option maxHeartbeats 400000 in
theorem sum_Sum.walk (A0 : Option Addr) (c0 : Nat) (l0 : List ByteArray) (w : World) (hr0 : Kd.C Kd.string w A0 l0.length l0) (hc0 : l0.length ≤ c0) (hs : (cat l0).length ≤ 1099511627776) :
    Calls Try.prog 40 #[.slice A0 l0.length c0] w fun e w' => e = .returned (.int .i64 (csum (cat l0) : Nat)) ∧ Below w.heap.size w w' := by
  have hmf : ∀ (fn : Fn) (first cap : Array Value) (w : World), (Instr.makeFunc fn first cap).run Try.prog w = .ok (.func fn first cap) w := fun _ _ _ _ => rfl
  have HR := Aside0.mk hr0
  have HS := Aside0.mk hs
  clear hr0 hs
  go_enter Try.func40, Try.ntmps40
  go_wp2
  go_loopg [12] l0.length (fun kq v12 wr => ∃ i : Nat, v12 = .int .i64 (i : Int) ∧ Aside0 (i + kq = l0.length) ∧ SumInv w wr (cat (l0.take i)))
  case atStart => exact ⟨0, rfl, ⟨by omega⟩, SumInv.start w⟩
  case round =>
    obtain ⟨i, rfl, HK, HI⟩ := hrel
    by_cases hlt : i < l0.length
    · obtain ⟨ad, rfl, hcell⟩ := Kd.at_string (Kd.C_below HR.out HI.1) (i : Int) (by omega) (by omega)
      rw [Int.toNat_natCast] at hcell
      have HP : Aside0 (rdOf ByteArray.empty l0 (i : Int) = l0[i]) := ⟨by simp [rdOf, List.getD_eq_getElem?_getD, List.getElem?_eq_getElem hlt]⟩
      generalize rdOf ByteArray.empty l0 (i : Int) = p at hcell HP
      have HL : Aside0 ((cat (l0.take i)).length + p.size ≤ 1099511627776) := ⟨by
        have h1 := HS.out
        have h2 : cat l0 = cat (l0.take i) ++ (bl p ++ cat (l0.drop (i + 1))) := by
          conv => lhs; rw [← List.take_append_drop i l0]
          rw [List.drop_eq_getElem_cons hlt, ← HP.out]
          simp [cat]
        rw [h2, List.length_append, List.length_append, bl_length] at h1
        omega⟩
      go_wp2
      obtain ⟨wo, rfl⟩ : ∃ wo : World, wo = wr := ⟨_, rfl⟩
      clear hcell
      go_loopg [18] p.size (fun kq v18 wr => ∃ j : Nat, v18 = .int .i64 (j : Int) ∧ Aside0 (j + kq = p.size) ∧ SumInv w wr (cat (l0.take i) ++ (bl p).take j))
      case atStart => exact ⟨0, rfl, ⟨by omega⟩, by rw [List.take_zero, List.append_nil]; exact HI⟩
      case round =>
        obtain ⟨j, rfl, HKj, HJ⟩ := hrel
        by_cases hj : j < p.size
        · obtain ⟨c1, c2, c3, c4⟩ := HJ.facts
          have htot := tot_le (cat (l0.take i) ++ (bl p).take j) false
          have hlen : (cat (l0.take i) ++ (bl p).take j).length ≤ 1099511627776 := by
            have := HL.out
            rw [List.length_append, List.length_take, bl_length]
            omega
          have HT : Aside0 ((bl p).take (j + 1) = (bl p).take j ++ [p[j]]) := ⟨by
            rw [List.take_succ_eq_append_getElem (by rw [bl_length]; exact hj)]
            rfl⟩
          have hbyte := p[j].toNat_lt
          have hw : wrap64 ((j : Int) + 1) = ((j + 1 : Nat) : Int) := by have := HL.out; unfold wrap64; omega
          go_wp2_with fail
          refine (sum_add.calls _ _ _ _ _ _ (by omega) (by omega) (by omega) (by omega) c3 c1 c4 c2 (by omega)).mono ?_
          rintro e w' ⟨rfl, rfl⟩
          have HN := Aside0.mk (HJ.step p[j])
          clear c1 c2 c3 c4
          go_wp2
          go_roundg (p.size - (j + 1))
          case measure => have := HKj.out; omega
          case rel => exact ⟨j + 1, by first | rfl | rw [hw], ⟨by have := HKj.out; omega⟩, by rw [HT.out, ← List.append_assoc]; exact HN.out⟩
        · have HT : Aside0 ((bl p).take j = bl p) := ⟨List.take_of_length_le (by rw [bl_length]; omega)⟩
          have HT2 : Aside0 (cat (l0.take (i + 1)) = cat (l0.take i) ++ bl p) := ⟨by
            rw [List.take_succ_eq_append_getElem hlt, ← HP.out]
            simp [cat]⟩
          have hlen : l0.length ≤ 9223372036854775807 := HR.out.2.1
          have hw : wrap64 ((i : Int) + 1) = ((i + 1 : Nat) : Int) := by unfold wrap64; omega
          go_wp2
          go_roundg (l0.length - (i + 1))
          case measure => have := HK.out; omega
          case rel => exact ⟨i + 1, by rfl, ⟨by omega⟩, by rw [HT2.out, ← HT.out]; exact HJ⟩
    · have HT : Aside0 (l0.take i = l0) := ⟨List.take_of_length_le (by omega)⟩
      rw [HT.out] at HI
      obtain ⟨c1, c2, c3, c4⟩ := HI.facts
      have htot := tot_le (cat l0) false
      have hlen := HS.out
      have hfold := fold16_le (tot false (cat l0))
      have hx := i64_xor_ones (fold16 (tot false (cat l0))) (by omega)
      go_wp2_with fail
      refine (sum_fold.calls _ ((fold16 (tot false (cat l0)) : Nat) : Int) _ (by unfold sum_fold.f; rw [if_pos (by omega), Int.toNat_natCast])).mono ?_
      rintro e w' ⟨rfl, hB⟩
      have HB := Aside0.mk hB
      have HI' := Aside0.mk HI
      clear hB HI c1 c2 c3 c4 htot hlen
      go_wp2
      go_ret
      exact ⟨rfl, HI'.out.1.trans (HB.out.mono HI'.out.1.size)⟩

def sum_Sum.f (l0 : List ByteArray) : Option Int := if (cat l0).length ≤ 1099511627776 then some (csum (cat l0) : Nat) else none
theorem sum_Sum.calls (A0 : Option Addr) (c0 : Nat) (l0 : List ByteArray) (r : Int) (w : World) (hr0 : Kd.C Kd.string w A0 l0.length l0) (hc0 : l0.length ≤ c0) (h : sum_Sum.f l0 = some r) :
    Calls Try.prog 40 #[.slice A0 l0.length c0] w fun e w' => e = .returned (.int .i64 r) ∧ Below w.heap.size w w' := by
  unfold sum_Sum.f at h
  by_cases hs : (cat l0).length ≤ 1099511627776
  · rw [if_pos hs] at h
    obtain rfl := Option.some.inj h
    exact sum_Sum.walk A0 c0 l0 w hr0 hc0 hs
  · rw [if_neg hs] at h
    exact absurd h (by simp)
end Go.Proofs.Ytcmalglippmocaa.G
end

section
namespace Go.Proofs.Ytcmalglippmocaa.G
open Go.RowKit Go.Proofs.YtcmalglippmocaaW.PrintWords Go.Proofs.YtcmalglippmocaaW.PrintLast Go.Proofs.YtcmalglippmocaaW.PrintMore
theorem kN {w : World} {g : Nat} {o : Obj} (h : w.heap[g]? = some o) (n : Nat) : (w.drewN n).heap[g]? = some o := blk_drewN h n
theorem kD {w : World} {g : Nat} {o : Obj} (h : w.heap[g]? = some o) : w.drew.heap[g]? = some o := blk_drew h
theorem kA {w : World} {g : Nat} {o : Obj} (h : w.heap[g]? = some o) (o' : Obj) : (w.alloc o').heap[g]? = some o := blk_alloc h o'
theorem bN {B : Nat} {w W : World} (h : Below B w W) (n : Nat) : Below B w (W.drewN n) := pw_below_drewN h n
theorem bA {w W : World} (h : Below w.heap.size w W) (o : Obj) : Below w.heap.size w (W.alloc o) := below_alloc h o
theorem bD {base : Nat} {w W : World} (h : Below base w W) : Below base w W.drew := below_drew1 h
theorem bS {w W : World} {g j : Nat} {v : Value} (h : Below w.heap.size w W) (hg : w.heap.size ≤ g) : Below w.heap.size w (W.setCell ⟨g, j, none⟩ v) := below_set h hg
theorem bP {w W w2 : World} (h : Below w.heap.size w W) (k : Below W.heap.size W w2) : Below w.heap.size w w2 := below_step h k
theorem zF {w : World} {g : Nat} {t : TypeId} {cs : Array Value} (h : w.heap[g]? = some (.cells cs t)) (i : Nat) : w.frozen? ⟨g, i, none⟩ = false := blk_frozen h i
theorem zC {w : World} {g : Nat} {t : TypeId} {cs : Array Value} (h : w.heap[g]? = some (.cells cs t)) (i : Nat) : w.cell? ⟨g, i, none⟩ = cs[i]? := blk_cell h i
theorem mA {p : Prop} (h : p) : Aside0 p := ⟨h⟩
theorem bpr {w W w2 : World} (h : Below w.heap.size w W) (k : Below W.heap.size W w2) : Aside0 (Below w.heap.size w w2) ∧ w.heap.size ≤ W.heap.size := ⟨⟨below_step h k⟩, h.size⟩
theorem bt3 {W w2 : World} {g : Nat} {o : Obj} (h : W.heap[g]? = some o) (k : Below W.heap.size W w2) : Aside0 (w2.heap[g]? = some o) ∧ g < W.heap.size := ⟨⟨blk_below h k⟩, blk_lt h⟩
theorem bc3 {w : World} {g : Nat} {t : TypeId} {c0 c1 c2 : Value} (h : w.heap[g]? = some (.cells #[c0, c1, c2] t)) : w.cell? ⟨g, 0, none⟩ = some c0 ∧ w.cell? ⟨g, 1, none⟩ = some c1 ∧ w.cell? ⟨g, 2, none⟩ = some c2 := ⟨(blk_cell h 0).trans rfl, (blk_cell h 1).trans rfl, (blk_cell h 2).trans rfl⟩
theorem bc5 {w : World} {g : Nat} {t : TypeId} {c0 c1 c2 c3 c4 : Value} (h : w.heap[g]? = some (.cells #[c0, c1, c2, c3, c4] t)) : w.cell? ⟨g, 0, none⟩ = some c0 ∧ w.cell? ⟨g, 1, none⟩ = some c1 ∧ w.cell? ⟨g, 2, none⟩ = some c2 ∧ w.cell? ⟨g, 3, none⟩ = some c3 ∧ w.cell? ⟨g, 4, none⟩ = some c4 := ⟨(blk_cell h 0).trans rfl, (blk_cell h 1).trans rfl, (blk_cell h 2).trans rfl, (blk_cell h 3).trans rfl, (blk_cell h 4).trans rfl⟩
theorem bc6 {w : World} {g : Nat} {t : TypeId} {c0 c1 c2 c3 c4 c5 : Value} (h : w.heap[g]? = some (.cells #[c0, c1, c2, c3, c4, c5] t)) : w.cell? ⟨g, 0, none⟩ = some c0 ∧ w.cell? ⟨g, 1, none⟩ = some c1 ∧ w.cell? ⟨g, 2, none⟩ = some c2 ∧ w.cell? ⟨g, 3, none⟩ = some c3 ∧ w.cell? ⟨g, 4, none⟩ = some c4 ∧ w.cell? ⟨g, 5, none⟩ = some c5 := ⟨(blk_cell h 0).trans rfl, (blk_cell h 1).trans rfl, (blk_cell h 2).trans rfl, (blk_cell h 3).trans rfl, (blk_cell h 4).trans rfl, (blk_cell h 5).trans rfl⟩
theorem bc9 {w : World} {g : Nat} {t : TypeId} {c0 c1 c2 c3 c4 c5 c6 c7 c8 : Value} (h : w.heap[g]? = some (.cells #[c0, c1, c2, c3, c4, c5, c6, c7, c8] t)) : w.cell? ⟨g, 0, none⟩ = some c0 ∧ w.cell? ⟨g, 1, none⟩ = some c1 ∧ w.cell? ⟨g, 2, none⟩ = some c2 ∧ w.cell? ⟨g, 3, none⟩ = some c3 ∧ w.cell? ⟨g, 4, none⟩ = some c4 ∧ w.cell? ⟨g, 5, none⟩ = some c5 ∧ w.cell? ⟨g, 6, none⟩ = some c6 ∧ w.cell? ⟨g, 7, none⟩ = some c7 ∧ w.cell? ⟨g, 8, none⟩ = some c8 := ⟨(blk_cell h 0).trans rfl, (blk_cell h 1).trans rfl, (blk_cell h 2).trans rfl, (blk_cell h 3).trans rfl, (blk_cell h 4).trans rfl, (blk_cell h 5).trans rfl, (blk_cell h 6).trans rfl, (blk_cell h 7).trans rfl, (blk_cell h 8).trans rfl⟩
theorem bc10 {w : World} {g : Nat} {t : TypeId} {c0 c1 c2 c3 c4 c5 c6 c7 c8 c9 : Value} (h : w.heap[g]? = some (.cells #[c0, c1, c2, c3, c4, c5, c6, c7, c8, c9] t)) : w.cell? ⟨g, 0, none⟩ = some c0 ∧ w.cell? ⟨g, 1, none⟩ = some c1 ∧ w.cell? ⟨g, 2, none⟩ = some c2 ∧ w.cell? ⟨g, 3, none⟩ = some c3 ∧ w.cell? ⟨g, 4, none⟩ = some c4 ∧ w.cell? ⟨g, 5, none⟩ = some c5 ∧ w.cell? ⟨g, 6, none⟩ = some c6 ∧ w.cell? ⟨g, 7, none⟩ = some c7 ∧ w.cell? ⟨g, 8, none⟩ = some c8 ∧ w.cell? ⟨g, 9, none⟩ = some c9 := ⟨(blk_cell h 0).trans rfl, (blk_cell h 1).trans rfl, (blk_cell h 2).trans rfl, (blk_cell h 3).trans rfl, (blk_cell h 4).trans rfl, (blk_cell h 5).trans rfl, (blk_cell h 6).trans rfl, (blk_cell h 7).trans rfl, (blk_cell h 8).trans rfl, (blk_cell h 9).trans rfl⟩
def bv (n m : Nat) : Array Bool := ((List.range n).map fun j => m.testBit j).toArray
theorem bf3 {w : World} {g : Nat} {t : TypeId} {cs : Array Value} (h : w.heap[g]? = some (.cells cs t)) : w.frozen? ⟨g, 0, none⟩ = false ∧ w.frozen? ⟨g, 1, none⟩ = false ∧ w.frozen? ⟨g, 2, none⟩ = false := ⟨zF h 0, zF h 1, zF h 2⟩
theorem bf5 {w : World} {g : Nat} {t : TypeId} {cs : Array Value} (h : w.heap[g]? = some (.cells cs t)) : w.frozen? ⟨g, 0, none⟩ = false ∧ w.frozen? ⟨g, 1, none⟩ = false ∧ w.frozen? ⟨g, 2, none⟩ = false ∧ w.frozen? ⟨g, 3, none⟩ = false ∧ w.frozen? ⟨g, 4, none⟩ = false := ⟨zF h 0, zF h 1, zF h 2, zF h 3, zF h 4⟩
theorem bf6 {w : World} {g : Nat} {t : TypeId} {cs : Array Value} (h : w.heap[g]? = some (.cells cs t)) : w.frozen? ⟨g, 0, none⟩ = false ∧ w.frozen? ⟨g, 1, none⟩ = false ∧ w.frozen? ⟨g, 2, none⟩ = false ∧ w.frozen? ⟨g, 3, none⟩ = false ∧ w.frozen? ⟨g, 4, none⟩ = false ∧ w.frozen? ⟨g, 5, none⟩ = false := ⟨zF h 0, zF h 1, zF h 2, zF h 3, zF h 4, zF h 5⟩
theorem bf9 {w : World} {g : Nat} {t : TypeId} {cs : Array Value} (h : w.heap[g]? = some (.cells cs t)) : w.frozen? ⟨g, 0, none⟩ = false ∧ w.frozen? ⟨g, 1, none⟩ = false ∧ w.frozen? ⟨g, 2, none⟩ = false ∧ w.frozen? ⟨g, 3, none⟩ = false ∧ w.frozen? ⟨g, 4, none⟩ = false ∧ w.frozen? ⟨g, 5, none⟩ = false ∧ w.frozen? ⟨g, 6, none⟩ = false ∧ w.frozen? ⟨g, 7, none⟩ = false ∧ w.frozen? ⟨g, 8, none⟩ = false := ⟨zF h 0, zF h 1, zF h 2, zF h 3, zF h 4, zF h 5, zF h 6, zF h 7, zF h 8⟩
theorem bf10 {w : World} {g : Nat} {t : TypeId} {cs : Array Value} (h : w.heap[g]? = some (.cells cs t)) : w.frozen? ⟨g, 0, none⟩ = false ∧ w.frozen? ⟨g, 1, none⟩ = false ∧ w.frozen? ⟨g, 2, none⟩ = false ∧ w.frozen? ⟨g, 3, none⟩ = false ∧ w.frozen? ⟨g, 4, none⟩ = false ∧ w.frozen? ⟨g, 5, none⟩ = false ∧ w.frozen? ⟨g, 6, none⟩ = false ∧ w.frozen? ⟨g, 7, none⟩ = false ∧ w.frozen? ⟨g, 8, none⟩ = false ∧ w.frozen? ⟨g, 9, none⟩ = false := ⟨zF h 0, zF h 1, zF h 2, zF h 3, zF h 4, zF h 5, zF h 6, zF h 7, zF h 8, zF h 9⟩

end Go.Proofs.Ytcmalglippmocaa.G
end

section
namespace Go.Proofs.Ytcmalglippmocaa.G
open Go.RowKit Go.Proofs.YtcmalglippmocaaW.PrintWords Go.Proofs.YtcmalglippmocaaW.PrintLast Go.Proofs.YtcmalglippmocaaW.PrintMore
attribute [local go_sem] max2_int min2_int max_two min_two max_three min_three max_four min_four

def sum_Right.f (l0 : List ByteArray) : Option (Bool) := (sum_Sum.f l0).bind fun t119 => (some (t119 == 0))
set_option maxHeartbeats 8000000 in
set_option maxRecDepth 100000 in
theorem sum_Right.calls (A0 : Option Addr) (c0 : Nat) (l0 : List ByteArray) (r : Bool) (w : World) (hr0 : Kd.C Kd.string w A0 l0.length l0) (hc0 : l0.length ≤ c0) (h : sum_Right.f l0 = some r) :
  Calls Try.prog 27 #[.slice A0 l0.length c0] w fun e w' => e = .returned (.bool r) ∧ Below w.heap.size w w' := by
 have HR0 := mA hr0
 have HC0 := mA hc0
 clear hr0 hc0
 have HB := mA (Below.refl w.heap.size w)
 have H : ((sum_Sum.f l0).bind fun t119 => (some (t119 == 0))) = some r := h
 clear h
 replace H := Option.bind_eq_some_iff.mp H
 obtain ⟨t119, A20, H⟩ := H
 try dsimp +instances only at H
 have A2 := mA A20
 clear A20
 obtain rfl := Option.some.inj H
 go_enter Try.func27, Try.ntmps27
 go_wp2_with (first | ((with_reducible refine gate_callee (f := 40) rfl ?_); refine goesL_ (some 4) rfl rfl Try.func40 (by kernel_rfl) rfl #[.slice A0 l0.length c0] rfl (by (try simp only [List.map_toArray, List.map_cons, List.map_nil]); first | done | rfl | (simp only [List.length_drop, List.length_take]; rfl)) ?_; (with_reducible refine (sum_Sum.calls _ _ l0 t119 _ ?side1 ?side2 A2.out).mono ?_); (case side1 => repeat (first | exact HR0.out | (with_reducible refine Kd.C_alloc ?_ _) | (with_reducible refine Kd.C_drewN ?_ _) | (with_reducible refine Kd.C_drew ?_))); (case side2 => exact HC0.out); rintro e w3 ⟨rfl, hb⟩; refine ⟨_, rfl, ?_⟩; have n0_ := mA (bP (by repeat (first | (with_reducible first | exact HB.out | apply bA | apply bN | apply bD) | exact HB.out)) hb); clear HB; have HB := n0_; clear n0_; (try clear hb); (try clear hb2); (try clear hk); (try clear hi)))
 go_ret
 exact ⟨by first | rfl | (simp [errW_none, errW_some] <;> rfl) | (simp [*, errW_none, errW_some] <;> rfl), by repeat (first | (with_reducible first | exact HB.out | apply bA | apply bN | apply bD) | exact HB.out)⟩

def sum_Pseudo.f (a0 : ByteArray) (a1 : ByteArray) (a2 : Int) (a3 : Int) : Option (ByteArray) := if (a0.size : Int) = 16 then (if a0.size + a1.size ≤ 9223372036854775807 then ((some (([(a3 / 16777216) % 256, (a3 / 65536) % 256, (a3 / 256) % 256, (a3) % 256, 0, 0, 0, (a2) % 256] : List Int) : List Int)).bind fun y120 => (if (a0 ++ a1).size + (strOfNums y120).size ≤ 9223372036854775807 then (some ((a0 ++ a1) ++ (strOfNums y120))) else (none))) else (none)) else (if a0.size + a1.size ≤ 9223372036854775807 then ((some (([0, (a2) % 256, (a3 / 256) % 256, (a3) % 256] : List Int) : List Int)).bind fun y123 => (if (a0 ++ a1).size + (strOfNums y123).size ≤ 9223372036854775807 then (some ((a0 ++ a1) ++ (strOfNums y123))) else (none))) else (none))
set_option maxHeartbeats 8000000 in
set_option maxRecDepth 100000 in
theorem sum_Pseudo.calls (a0 : ByteArray) (a1 : ByteArray) (a2 : Int) (a3 : Int) (r : ByteArray) (w : World) (h : sum_Pseudo.f a0 a1 a2 a3 = some r) :
  Calls Try.prog 28 #[.string a0, .string a1, .int .i64 a2, .int .i64 a3] w fun e w' => e = .returned (.string r) ∧ Below w.heap.size w w' := by
 have HB := mA (Below.refl w.heap.size w)
 have H : (if (a0.size : Int) = 16 then (if a0.size + a1.size ≤ 9223372036854775807 then ((some (([(a3 / 16777216) % 256, (a3 / 65536) % 256, (a3 / 256) % 256, (a3) % 256, 0, 0, 0, (a2) % 256] : List Int) : List Int)).bind fun y120 => (if (a0 ++ a1).size + (strOfNums y120).size ≤ 9223372036854775807 then (some ((a0 ++ a1) ++ (strOfNums y120))) else (none))) else (none)) else (if a0.size + a1.size ≤ 9223372036854775807 then ((some (([0, (a2) % 256, (a3 / 256) % 256, (a3) % 256] : List Int) : List Int)).bind fun y123 => (if (a0 ++ a1).size + (strOfNums y123).size ≤ 9223372036854775807 then (some ((a0 ++ a1) ++ (strOfNums y123))) else (none))) else (none))) = some r := h
 clear h
 by_cases c5 : (a0.size : Int) = 16
 ·rw [if_pos c5] at H
  have c5b0 : ((a0.size : Int) == 16) = true := beq_iff_eq.mpr c5
  have c5b1 : ((a0.size : Int) != 16) = false := bne_eq_false_iff_eq.mpr c5
  clear c5
  by_cases c6 : a0.size + a1.size ≤ 9223372036854775807
  ·rw [if_pos c6] at H
   have c6b0 := eq_true c6
   have c6b1 : decide (a0.size + a1.size ≤ 9223372036854775807) = true := decide_eq_true c6
   try have c6b2 : (9223372036854775807 < a0.size + a1.size) = False := eq_false (Nat.not_lt.2 c6)
   obtain ⟨y120, hy120⟩ : ∃ y_ : List Int, y_ = (([(a3 / 16777216) % 256, (a3 / 65536) % 256, (a3 / 256) % 256, (a3) % 256, 0, 0, 0, (a2) % 256] : List Int)) := ⟨_, rfl⟩
   replace H : (if (a0 ++ a1).size + (strOfNums y120).size ≤ 9223372036854775807 then (some ((a0 ++ a1) ++ (strOfNums y120))) else (none)) = some r := by first | (rw [hy120]; with_reducible exact H) | (have H2_ := (Option.bind_some _ _).symm.trans H; rw [hy120]; with_reducible exact H2_) | (have H2_ := (Option.bind_some _ _).symm.trans H; with_reducible exact H2_) | with_reducible exact H | (rw [hy120]; exact H) | exact H
   have Ny120 := mA hy120
   clear hy120
   by_cases c7 : (a0 ++ a1).size + (strOfNums y120).size ≤ 9223372036854775807
   ·rw [if_pos c7] at H
    have c7b0 := eq_true c7
    have c7b1 : decide ((a0 ++ a1).size + (strOfNums y120).size ≤ 9223372036854775807) = true := decide_eq_true c7
    try have c7b2 : (9223372036854775807 < (a0 ++ a1).size + (strOfNums y120).size) = False := eq_false (Nat.not_lt.2 c7)
    try have c7b3 : (9223372036854775807 < (a0.size) + (a1.size) + (strOfNums y120).size) = False := eq_false (by have h_ := c7; simp only [ByteArray.size_append] at h_; omega)
    try have c7b4 : ((a0.size) + (a1.size) + (strOfNums y120).size ≤ 9223372036854775807) = True := eq_true (by have h_ := c7; simp only [ByteArray.size_append] at h_; omega)
    obtain rfl := Option.some.inj H
    go_enter Try.func28, Try.ntmps28
    go_wp2_with (first | ((with_reducible refine gate_dst (N := 28) rfl ?_); refine Kd.R_lit (Kd.int .u8) _ 5 ?hg (N := 28) ?hd (xs := ([(a3 / 16777216) % 256, (a3 / 65536) % 256, (a3 / 256) % 256, (a3) % 256, 0, 0, 0, (a2) % 256] : List Int)) (inner := [.int .u8 ((a3 / 16777216) % 256), .int .u8 ((a3 / 65536) % 256), .int .u8 ((a3 / 256) % 256), .int .u8 ((a3) % 256), .int .u8 0, .int .u8 0, .int .u8 0, .int .u8 ((a2) % 256)]) (ok := fun _ => True) (okp := fun _ => True) ?hr ?hp (fun _ hk => hk) trivial (Below.refl _ _) (Nat.le_refl _) (by simp) ?_; (case hd => rfl); (case hg => rfl); (case hr => first | (go_simp; done) | (go_simp; rfl)); (case hp => exact (Reps.one (show Kd.M (Kd.int .u8) _ _ _ ((a3 / 16777216) % 256) [.int .u8 ((a3 / 16777216) % 256)] from rfl) (Reps.one (show Kd.M (Kd.int .u8) _ _ _ ((a3 / 65536) % 256) [.int .u8 ((a3 / 65536) % 256)] from rfl) (Reps.one (show Kd.M (Kd.int .u8) _ _ _ ((a3 / 256) % 256) [.int .u8 ((a3 / 256) % 256)] from rfl) (Reps.one (show Kd.M (Kd.int .u8) _ _ _ ((a3) % 256) [.int .u8 ((a3) % 256)] from rfl) (Reps.one (show Kd.M (Kd.int .u8) _ _ _ 0 [.int .u8 0] from rfl) (Reps.one (show Kd.M (Kd.int .u8) _ _ _ 0 [.int .u8 0] from rfl) (Reps.one (show Kd.M (Kd.int .u8) _ _ _ 0 [.int .u8 0] from rfl) (Reps.one (show Kd.M (Kd.int .u8) _ _ _ ((a2) % 256) [.int .u8 ((a2) % 256)] from rfl) (Reps.none _ _)))))))))); intro v121 w8 ho9 hb hg_ hnew_; clear hg_ hnew_; (first | rw [← Ny120.out] at ho9 | (simp only [Int.reduceToNat] at ho9; rw [← Ny120.out] at ho9)); have n0_ := mA (Kd.R_lower ho9 (below_size (by repeat (first | (with_reducible first | exact HB.out | apply bA | apply bN | apply bD) | exact HB.out)))); have n1_ := mA (bP (by repeat (first | (with_reducible first | exact HB.out | apply bA | apply bN | apply bD) | exact HB.out)) hb); clear HB; have HO122 := n0_; have HB := n1_; clear n0_ n1_; clear hb ho9; have hcv10 := own_string (P := Try.prog) Try.underlying31 Try.underlying5 Try.underlying9 (Kd.own_of_R HO122.out)))
    go_ret
    exact ⟨by first | rfl | (simp [errW_none, errW_some] <;> rfl) | (simp [*, errW_none, errW_some] <;> rfl), by repeat (first | (with_reducible first | exact HB.out | apply bA | apply bN | apply bD) | exact HB.out)⟩
   ·rw [if_neg c7] at H
    exact absurd H (by simp)
  ·rw [if_neg c6] at H
   exact absurd H (by simp)
 ·rw [if_neg c5] at H
  have c5b0 : ((a0.size : Int) == 16) = false := beq_eq_false_iff_ne.mpr c5
  have c5b1 : ((a0.size : Int) != 16) = true := bne_iff_ne.mpr c5
  by_cases c11 : a0.size + a1.size ≤ 9223372036854775807
  ·rw [if_pos c11] at H
   have c11b0 := eq_true c11
   have c11b1 : decide (a0.size + a1.size ≤ 9223372036854775807) = true := decide_eq_true c11
   try have c11b2 : (9223372036854775807 < a0.size + a1.size) = False := eq_false (Nat.not_lt.2 c11)
   obtain ⟨y123, hy123⟩ : ∃ y_ : List Int, y_ = (([0, (a2) % 256, (a3 / 256) % 256, (a3) % 256] : List Int)) := ⟨_, rfl⟩
   replace H : (if (a0 ++ a1).size + (strOfNums y123).size ≤ 9223372036854775807 then (some ((a0 ++ a1) ++ (strOfNums y123))) else (none)) = some r := by first | (rw [hy123]; with_reducible exact H) | (have H2_ := (Option.bind_some _ _).symm.trans H; rw [hy123]; with_reducible exact H2_) | (have H2_ := (Option.bind_some _ _).symm.trans H; with_reducible exact H2_) | with_reducible exact H | (rw [hy123]; exact H) | exact H
   have Ny123 := mA hy123
   clear hy123
   by_cases c12 : (a0 ++ a1).size + (strOfNums y123).size ≤ 9223372036854775807
   ·rw [if_pos c12] at H
    have c12b0 := eq_true c12
    have c12b1 : decide ((a0 ++ a1).size + (strOfNums y123).size ≤ 9223372036854775807) = true := decide_eq_true c12
    try have c12b2 : (9223372036854775807 < (a0 ++ a1).size + (strOfNums y123).size) = False := eq_false (Nat.not_lt.2 c12)
    try have c12b3 : (9223372036854775807 < (a0.size) + (a1.size) + (strOfNums y123).size) = False := eq_false (by have h_ := c12; simp only [ByteArray.size_append] at h_; omega)
    try have c12b4 : ((a0.size) + (a1.size) + (strOfNums y123).size ≤ 9223372036854775807) = True := eq_true (by have h_ := c12; simp only [ByteArray.size_append] at h_; omega)
    obtain rfl := Option.some.inj H
    go_enter Try.func28, Try.ntmps28
    go_wp2_with (first | ((with_reducible refine gate_dst (N := 41) rfl ?_); refine Kd.R_lit (Kd.int .u8) _ 5 ?hg (N := 41) ?hd (xs := ([0, (a2) % 256, (a3 / 256) % 256, (a3) % 256] : List Int)) (inner := [.int .u8 0, .int .u8 ((a2) % 256), .int .u8 ((a3 / 256) % 256), .int .u8 ((a3) % 256)]) (ok := fun _ => True) (okp := fun _ => True) ?hr ?hp (fun _ hk => hk) trivial (Below.refl _ _) (Nat.le_refl _) (by simp) ?_; (case hd => rfl); (case hg => rfl); (case hr => first | (go_simp; done) | (go_simp; rfl)); (case hp => exact (Reps.one (show Kd.M (Kd.int .u8) _ _ _ 0 [.int .u8 0] from rfl) (Reps.one (show Kd.M (Kd.int .u8) _ _ _ ((a2) % 256) [.int .u8 ((a2) % 256)] from rfl) (Reps.one (show Kd.M (Kd.int .u8) _ _ _ ((a3 / 256) % 256) [.int .u8 ((a3 / 256) % 256)] from rfl) (Reps.one (show Kd.M (Kd.int .u8) _ _ _ ((a3) % 256) [.int .u8 ((a3) % 256)] from rfl) (Reps.none _ _)))))); intro v124 w13 ho14 hb hg_ hnew_; clear hg_ hnew_; (first | rw [← Ny123.out] at ho14 | (simp only [Int.reduceToNat] at ho14; rw [← Ny123.out] at ho14)); have n0_ := mA (Kd.R_lower ho14 (below_size (by repeat (first | (with_reducible first | exact HB.out | apply bA | apply bN | apply bD) | exact HB.out)))); have n1_ := mA (bP (by repeat (first | (with_reducible first | exact HB.out | apply bA | apply bN | apply bD) | exact HB.out)) hb); clear HB; have HO125 := n0_; have HB := n1_; clear n0_ n1_; clear hb ho14; have hcv15 := own_string (P := Try.prog) Try.underlying31 Try.underlying5 Try.underlying9 (Kd.own_of_R HO125.out)))
    go_ret
    exact ⟨by first | rfl | (simp [errW_none, errW_some] <;> rfl) | (simp [*, errW_none, errW_some] <;> rfl), by repeat (first | (with_reducible first | exact HB.out | apply bA | apply bN | apply bD) | exact HB.out)⟩
   ·rw [if_neg c12] at H
    exact absurd H (by simp)
  ·rw [if_neg c11] at H
   exact absurd H (by simp)

def sum_Update.f (a0 : Int) (a1 : Int) (a2 : Int) : Option (Int) := (sum_fold.f (IntKind.u64.wrap ((IntKind.u64.wrap ((IntKind.u64.wrap (Go.bits .xor .i64 (Go.bits .and .i64 a0 65535) 65535)) + (IntKind.u64.wrap (Go.bits .xor .i64 (Go.bits .and .i64 a1 65535) 65535)))) + (IntKind.u64.wrap (Go.bits .and .i64 a2 65535))))).bind fun t399 => (some (Go.bits .xor .i64 t399 65535))
set_option maxHeartbeats 8000000 in
set_option maxRecDepth 100000 in
theorem sum_Update.calls (a0 : Int) (a1 : Int) (a2 : Int) (r : Int) (w : World) (h : sum_Update.f a0 a1 a2 = some r) :
  Calls Try.prog 18 #[.int .i64 a0, .int .i64 a1, .int .i64 a2] w fun e w' => e = .returned (.int .i64 r) ∧ Below w.heap.size w w' := by
 have HB := mA (Below.refl w.heap.size w)
 have H : ((sum_fold.f (IntKind.u64.wrap ((IntKind.u64.wrap ((IntKind.u64.wrap (Go.bits .xor .i64 (Go.bits .and .i64 a0 65535) 65535)) + (IntKind.u64.wrap (Go.bits .xor .i64 (Go.bits .and .i64 a1 65535) 65535)))) + (IntKind.u64.wrap (Go.bits .and .i64 a2 65535))))).bind fun t399 => (some (Go.bits .xor .i64 t399 65535))) = some r := h
 clear h
 replace H := Option.bind_eq_some_iff.mp H
 obtain ⟨t399, A40, H⟩ := H
 try dsimp +instances only at H
 have A4 := mA A40
 clear A40
 obtain rfl := Option.some.inj H
 go_enter Try.func18, Try.ntmps18
 go_wp2_with (first | ((with_reducible refine gate_callee (f := 43) rfl ?_); refine goesL_ (some 20) rfl rfl Try.func43 (by kernel_rfl) rfl #[.int .u64 (IntKind.u64.wrap ((IntKind.u64.wrap ((IntKind.u64.wrap (Go.bits .xor .i64 (Go.bits .and .i64 a0 65535) 65535)) + (IntKind.u64.wrap (Go.bits .xor .i64 (Go.bits .and .i64 a1 65535) 65535)))) + (IntKind.u64.wrap (Go.bits .and .i64 a2 65535))))] rfl (by (try simp only [List.map_toArray, List.map_cons, List.map_nil]); first | done | rfl | (simp only [List.length_drop, List.length_take]; rfl)) ?_; (with_reducible refine (sum_fold.calls (IntKind.u64.wrap ((IntKind.u64.wrap ((IntKind.u64.wrap (Go.bits .xor .i64 (Go.bits .and .i64 a0 65535) 65535)) + (IntKind.u64.wrap (Go.bits .xor .i64 (Go.bits .and .i64 a1 65535) 65535)))) + (IntKind.u64.wrap (Go.bits .and .i64 a2 65535)))) t399 _ A4.out).mono ?_); rintro e w5 ⟨rfl, hb⟩; refine ⟨_, rfl, ?_⟩; have n0_ := mA (bP (by repeat (first | (with_reducible first | exact HB.out | apply bA | apply bN | apply bD) | exact HB.out)) hb); clear HB; have HB := n0_; clear n0_; (try clear hb); (try clear hb2); (try clear hk); (try clear hi)))
 go_ret
 exact ⟨by first | rfl | (simp [errW_none, errW_some] <;> rfl) | (simp [*, errW_none, errW_some] <;> rfl), by repeat (first | (with_reducible first | exact HB.out | apply bA | apply bN | apply bD) | exact HB.out)⟩

end Go.Proofs.Ytcmalglippmocaa.G
end

section
namespace Go.Proofs.Ytcmalglippmocaa.G
open Go.RowKit Go.Proofs.YtcmalglippmocaaW.PrintWords Go.Proofs.YtcmalglippmocaaW.PrintLast Go.Proofs.YtcmalglippmocaaW.PrintMore
attribute [local go_sem] max2_int min2_int max_two min_two max_three min_three max_four min_four

def palanquinref01_Bytes.l0 : Nat → Int → Int → ByteArray → Int → Option (ByteArray)
 | 0, _, _, _, _ => none
 | k + 1, x0, x1, x5, x6 => if x6 < x1 then ((some (([(Int.tmod x0 256) % 256] : List Int) : List Int)).bind fun y136 => (if (strOfNums y136).size + x5.size ≤ 9223372036854775807 then (palanquinref01_Bytes.l0 k (IntKind.u64.wrap (Int.tdiv x0 256)) x1 ((strOfNums y136) ++ x5) (wrap64 (x6 + 1))) else (none))) else (some x5)
def palanquinref01_Bytes.f (k : Nat) (a0 : Int) (a1 : Int) : Option (ByteArray) := palanquinref01_Bytes.l0 k a0 a1 (⟨#[]⟩ : ByteArray) 0
set_option maxHeartbeats 8000000 in
set_option maxRecDepth 100000 in
theorem palanquinref01_Bytes.calls (k : Nat) (a0 : Int) (a1 : Int) (r : ByteArray) (w : World) (h : palanquinref01_Bytes.f k a0 a1 = some r) :
  Calls Try.prog 42 #[.int .u64 a0, .int .i64 a1] w fun e w' => e = .returned (.string r) ∧ Below w.heap.size w w' := by
 have HB := mA (Below.refl w.heap.size w)
 have H : (palanquinref01_Bytes.l0 k a0 a1 (⟨#[]⟩ : ByteArray) 0) = some r := h
 clear h
 have H' := mA H
 clear H
 go_enter Try.func42, Try.ntmps42
 go_wp2
 go_loopg [0, 5, 6] k (fun kq v0 v5 v6 w' => ∃ (x0_1 : Int) (x5_1 : ByteArray) (x6_1 : Int), v0 = .int .u64 x0_1 ∧ v5 = .string x5_1 ∧ v6 = .int .i64 x6_1 ∧ Aside0 (palanquinref01_Bytes.l0 kq x0_1 a1 x5_1 x6_1 = some r) ∧ Aside0 (kq ≤ k) ∧ Aside0 (Below w.heap.size w w'))
 case atStart => exact ⟨(a0), ((⟨#[]⟩ : ByteArray)), (0), (by first | rfl | (simp; done) | (simp [*]; done)), (by first | rfl | (simp; done) | (simp [*]; done)), (by first | rfl | (simp; done) | (simp [*]; done)), H', ⟨Nat.le_refl _⟩, ⟨by repeat (first | (with_reducible first | exact HB.out | apply bA | apply bN | apply bD) | exact HB.out)⟩⟩
 case round =>
  clear H'
  try clear p2
  obtain ⟨x0_1, x5_1, x6_1, rfl, rfl, rfl, HA, HK1, HB⟩ := hrel
  cases gk with
  | zero => exact absurd HA.out (by simp [palanquinref01_Bytes.l0])
  | succ k1 =>
   have H := HA.out
   clear HA
   simp only [palanquinref01_Bytes.l0] at H
   by_cases c3 : x6_1 < a1
   ·rw [if_pos c3] at H
    have c3b0 : decide (x6_1 < a1) = true := decide_eq_true c3
    clear c3
    obtain ⟨y136, hy136⟩ : ∃ y_ : List Int, y_ = (([(Int.tmod x0_1 256) % 256] : List Int)) := ⟨_, rfl⟩
    replace H : (if (strOfNums y136).size + x5_1.size ≤ 9223372036854775807 then (palanquinref01_Bytes.l0 k1 (IntKind.u64.wrap (Int.tdiv x0_1 256)) a1 ((strOfNums y136) ++ x5_1) (wrap64 (x6_1 + 1))) else (none)) = some r := by first | (rw [hy136]; with_reducible exact H) | (have H2_ := (Option.bind_some _ _).symm.trans H; rw [hy136]; with_reducible exact H2_) | (have H2_ := (Option.bind_some _ _).symm.trans H; with_reducible exact H2_) | with_reducible exact H | (rw [hy136]; exact H) | exact H
    have Ny136 := mA hy136
    clear hy136
    by_cases c4 : (strOfNums y136).size + x5_1.size ≤ 9223372036854775807
    ·rw [if_pos c4] at H
     have c4b0 := eq_true c4
     have c4b1 : decide ((strOfNums y136).size + x5_1.size ≤ 9223372036854775807) = true := decide_eq_true c4
     try have c4b2 : (9223372036854775807 < (strOfNums y136).size + x5_1.size) = False := eq_false (Nat.not_lt.2 c4)
     have H' := mA H
     clear H
     go_wp2_with (first | ((with_reducible refine gate_dst (N := 15) rfl ?_); refine Kd.R_lit (Kd.int .u8) _ 5 ?hg (N := 15) ?hd (xs := ([(Int.tmod x0_1 256) % 256] : List Int)) (inner := [.int .u8 ((Int.tmod x0_1 256) % 256)]) (ok := fun _ => True) (okp := fun _ => True) ?hr ?hp (fun _ hk => hk) trivial (Below.refl _ _) (Nat.le_refl _) (by simp) ?_; (case hd => rfl); (case hg => rfl); (case hr => first | (go_simp; done) | (go_simp; rfl)); (case hp => exact (Reps.one (show Kd.M (Kd.int .u8) _ _ _ ((Int.tmod x0_1 256) % 256) [.int .u8 ((Int.tmod x0_1 256) % 256)] from rfl) (Reps.none _ _))); intro v137 w5 ho6 hb hg_ hnew_; clear hg_ hnew_; (first | rw [← Ny136.out] at ho6 | (simp only [Int.reduceToNat] at ho6; rw [← Ny136.out] at ho6)); have n0_ := mA (Kd.R_lower ho6 (below_size (by repeat (first | (with_reducible first | exact HB.out | apply bA | apply bN | apply bD) | exact HB.out)))); have n1_ := mA (bP (by repeat (first | (with_reducible first | exact HB.out | apply bA | apply bN | apply bD) | exact HB.out)) hb); clear HB; have HO138 := n0_; have HB := n1_; clear n0_ n1_; clear hb ho6; have hcv7 := own_string (P := Try.prog) Try.underlying31 Try.underlying5 Try.underlying9 (Kd.own_of_R HO138.out)))
     go_roundg k1
     case measure => have := HK1.out; omega
     case rel => exact ⟨(IntKind.u64.wrap (Int.tdiv x0_1 256)), ((strOfNums y136) ++ x5_1), (wrap64 (x6_1 + 1)), (by first | rfl | (simp; done) | (simp [*]; done)), (by first | rfl | (simp; done) | (simp [*]; done)), (by first | rfl | (simp; done) | (simp [*]; done)), H', ⟨by have := HK1.out; omega⟩, ⟨by repeat (first | (with_reducible first | exact HB.out | apply bA | apply bN | apply bD) | exact HB.out)⟩⟩
    ·rw [if_neg c4] at H
     exact absurd H (by simp)
   ·rw [if_neg c3] at H
    have c3b0 : decide (x6_1 < a1) = false := decide_eq_false c3
    clear c3
    obtain rfl := Option.some.inj H
    go_wp2
    go_ret
    exact ⟨by first | rfl | (simp [errW_none, errW_some] <;> rfl) | (simp [*, errW_none, errW_some] <;> rfl), by repeat (first | (with_reducible first | exact HB.out | apply bA | apply bN | apply bD) | exact HB.out)⟩

def palanquinref01_Value.l0 : Nat → ByteArray → Int → Int → Option (Int)
 | 0, _, _, _ => none
 | k + 1, x0, x3, x4 => if x4 < (x0.size : Int) then (if 0 ≤ x4 then (palanquinref01_Value.l0 k x0 (IntKind.u64.wrap ((IntKind.u64.wrap (x3 * 256)) + (IntKind.u64.wrap (bt x0 x4)))) (wrap64 (x4 + 1))) else (none)) else (some x3)
def palanquinref01_Value.f (k : Nat) (a0 : ByteArray) : Option (Int) := palanquinref01_Value.l0 k a0 0 0
set_option maxHeartbeats 8000000 in
set_option maxRecDepth 100000 in
theorem palanquinref01_Value.calls (k : Nat) (a0 : ByteArray) (r : Int) (w : World) (h : palanquinref01_Value.f k a0 = some r) :
  Calls Try.prog 54 #[.string a0] w fun e w' => e = .returned (.int .u64 r) ∧ Drawn0 w w' := by
 have H : (palanquinref01_Value.l0 k a0 0 0) = some r := h
 clear h
 have H' := mA H
 clear H
 go_enter Try.func54, Try.ntmps54
 go_wp2
 go_loopg [3, 4] k (fun kq v3 v4 w' => ∃ (x3_1 : Int) (x4_1 : Int), v3 = .int .u64 x3_1 ∧ v4 = .int .i64 x4_1 ∧ Aside0 (palanquinref01_Value.l0 kq a0 x3_1 x4_1 = some r) ∧ Aside0 (kq ≤ k) ∧ Drawn0 w w')
 case atStart => exact ⟨(0), (0), (by first | rfl | (simp; done) | (simp [*]; done)), (by first | rfl | (simp; done) | (simp [*]; done)), H', ⟨Nat.le_refl _⟩, by repeat (first | exact Drawn0.refl _ | apply Drawn0.step)⟩
 case round =>
  clear H'
  obtain ⟨x3_1, x4_1, rfl, rfl, HA, HK1, ⟨m1, rfl⟩⟩ := hrel
  cases gk with
  | zero => exact absurd HA.out (by simp [palanquinref01_Value.l0])
  | succ k1 =>
   have H := HA.out
   clear HA
   simp only [palanquinref01_Value.l0] at H
   by_cases c2 : x4_1 < (a0.size : Int)
   ·rw [if_pos c2] at H
    have c2b0 : decide (x4_1 < (a0.size : Int)) = true := decide_eq_true c2
    clear c2
    by_cases c3 : 0 ≤ x4_1
    ·rw [if_pos c3] at H
     have c3b0 : decide (0 ≤ x4_1) = true := decide_eq_true c3
     clear c3
     have H' := mA H
     clear H
     have p4 : 0 ≤ (x4_1 : Int) := of_decide_eq_true (by first | (with_reducible assumption) | assumption)
     have q4 : x4_1 < (a0.size : Int) := of_decide_eq_true (by first | (with_reducible assumption) | assumption)
     have hx4 := bt_at a0 x4_1
     replace p4 := eq_true p4
     replace q4 := eq_true q4
     go_wp2
     go_roundg k1
     case measure => have := HK1.out; omega
     case rel => exact ⟨(IntKind.u64.wrap ((IntKind.u64.wrap (x3_1 * 256)) + (IntKind.u64.wrap (bt a0 x4_1)))), (wrap64 (x4_1 + 1)), (by first | rfl | (simp; done) | (simp [*]; done)), (by first | rfl | (simp; done) | (simp [*]; done)), H', ⟨by have := HK1.out; omega⟩, by repeat (first | exact Drawn0.refl _ | apply Drawn0.step)⟩
    ·rw [if_neg c3] at H
     exact absurd H (by simp)
   ·rw [if_neg c2] at H
    have c2b0 : decide (x4_1 < (a0.size : Int)) = false := decide_eq_false c2
    clear c2
    obtain rfl := Option.some.inj H
    go_wp2
    go_ret
    exact ⟨by first | rfl | (simp; done) | (simp [*]; done), by repeat (first | exact Drawn0.refl _ | apply Drawn0.step)⟩

end Go.Proofs.Ytcmalglippmocaa.G
end

section
namespace Go.Proofs.Ytcmalglippmocaa.G
open Go.RowKit Go.Proofs.YtcmalglippmocaaW.PrintWords Go.Proofs.YtcmalglippmocaaW.PrintLast Go.Proofs.YtcmalglippmocaaW.PrintMore
attribute [local go_sem] max2_int min2_int max_two min_two max_three min_three max_four min_four

def palanquinref02_down.l0 : Nat → Int → Option (Int)
 | 0, _ => none
 | k + 1, x0 => if x0 ≥ 65536 then (palanquinref02_down.l0 k (wrap64 ((Int.tmod x0 65536) + (wrap64 (Int.tdiv x0 65536))))) else (some x0)
def palanquinref02_down.f (k : Nat) (a0 : Int) : Option (Int) := palanquinref02_down.l0 k a0
set_option maxHeartbeats 8000000 in
set_option maxRecDepth 100000 in
theorem palanquinref02_down.calls (k : Nat) (a0 : Int) (r : Int) (w : World) (h : palanquinref02_down.f k a0 = some r) :
  Calls Try.prog 55 #[.int .i64 a0] w fun e w' => e = .returned (.int .i64 r) ∧ Drawn0 w w' := by
 have H : (palanquinref02_down.l0 k a0) = some r := h
 clear h
 have H' := mA H
 clear H
 go_enter Try.func55, Try.ntmps55
 go_wp2
 go_loopg [0] k (fun kq v0 w' => ∃ (x0_1 : Int), v0 = .int .i64 x0_1 ∧ Aside0 (palanquinref02_down.l0 kq x0_1 = some r) ∧ Aside0 (kq ≤ k) ∧ Drawn0 w w')
 case atStart => exact ⟨(a0), (by first | rfl | (simp; done) | (simp [*]; done)), H', ⟨Nat.le_refl _⟩, by repeat (first | exact Drawn0.refl _ | apply Drawn0.step)⟩
 case round =>
  clear H'
  obtain ⟨x0_1, rfl, HA, HK1, ⟨m1, rfl⟩⟩ := hrel
  cases gk with
  | zero => exact absurd HA.out (by simp [palanquinref02_down.l0])
  | succ k1 =>
   have H := HA.out
   clear HA
   simp only [palanquinref02_down.l0] at H
   by_cases c2 : x0_1 ≥ 65536
   ·rw [if_pos c2] at H
    have c2b0 : decide (65536 ≤ x0_1) = true := decide_eq_true c2
    clear c2
    have H' := mA H
    clear H
    go_wp2
    go_roundg k1
    case measure => have := HK1.out; omega
    case rel => exact ⟨(wrap64 ((Int.tmod x0_1 65536) + (wrap64 (Int.tdiv x0_1 65536)))), (by first | rfl | (simp; done) | (simp [*]; done)), H', ⟨by have := HK1.out; omega⟩, by repeat (first | exact Drawn0.refl _ | apply Drawn0.step)⟩
   ·rw [if_neg c2] at H
    have c2b0 : decide (65536 ≤ x0_1) = false := decide_eq_false c2
    clear c2
    obtain rfl := Option.some.inj H
    go_wp2
    go_ret
    exact ⟨by first | rfl | (simp; done) | (simp [*]; done), by repeat (first | exact Drawn0.refl _ | apply Drawn0.step)⟩

mutual
def palanquinref02_Sum.j0 : Nat → ByteArray → Option (Int)
 | 0, _ => none
 | k + 1, x0 => palanquinref02_Sum.l0 k x0 0 0
def palanquinref02_Sum.l0 : Nat → ByteArray → Int → Int → Option (Int)
 | 0, _, _, _ => none
 | k + 1, x0, x3, x4 => if x4 < (x0.size : Int) then (if 0 ≤ x4 then (if 0 ≤ (wrap64 (x4 + 1)) then (if (wrap64 (x4 + 1)) < (x0.size : Int) then (palanquinref02_Sum.l0 k x0 (wrap64 ((wrap64 (x3 + (wrap64 ((wrap64 (bt x0 x4)) * 256)))) + (wrap64 (bt x0 (wrap64 (x4 + 1)))))) (wrap64 (x4 + 2))) else (none)) else (none)) else (none)) else ((palanquinref02_down.f k x3).bind fun t129 => (some (wrap64 (65535 - t129))))
end
def palanquinref02_Sum.f (k : Nat) (a0 : ByteArray) : Option (Int) := if ((a0.size : Int) % 2) = 1 then ((some (([0] : List Int) : List Int)).bind fun y126 => (if a0.size + (strOfNums y126).size ≤ 9223372036854775807 then (palanquinref02_Sum.j0 k (a0 ++ (strOfNums y126))) else (none))) else (palanquinref02_Sum.j0 k a0)
set_option maxHeartbeats 8000000 in
set_option maxRecDepth 100000 in
theorem palanquinref02_Sum.calls (k : Nat) (a0 : ByteArray) (r : Int) (w : World) (h : palanquinref02_Sum.f k a0 = some r) :
  Calls Try.prog 32 #[.string a0] w fun e w' => e = .returned (.int .i64 r) ∧ Below w.heap.size w w' := by
 have HB := mA (Below.refl w.heap.size w)
 have H : (if ((a0.size : Int) % 2) = 1 then ((some (([0] : List Int) : List Int)).bind fun y126 => (if a0.size + (strOfNums y126).size ≤ 9223372036854775807 then (palanquinref02_Sum.j0 k (a0 ++ (strOfNums y126))) else (none))) else (palanquinref02_Sum.j0 k a0)) = some r := h
 clear h
 have HC2 := mA H
 clear H
 go_enter Try.func32, Try.ntmps32
 go_upto_if 8 with (fail)
 repeat (go_quiet (fail); go_upto_if 8 with (fail))
 go_cut [0] (fun v0 wc => ∃ (kq : Nat) (x0_1 : ByteArray), v0 = .string x0_1 ∧ Aside0 (palanquinref02_Sum.j0 kq x0_1 = some r) ∧ Aside0 (kq ≤ k) ∧ Aside0 (Below w.heap.size w wc))
 case first =>
  have H := HC2.out
  clear HC2
  by_cases c3 : ((a0.size : Int) % 2) = 1
  ·rw [if_pos c3] at H
   have c3b0 : (((a0.size : Int) % 2) == 1) = true := beq_iff_eq.mpr c3
   have c3b1 : (((a0.size : Int) % 2) != 1) = false := bne_eq_false_iff_eq.mpr c3
   clear c3
   (first | rw [c3b0] | (simp only [i64_w, i32_w]; rw [c3b0]) | skip)
   obtain ⟨y126, hy126⟩ : ∃ y_ : List Int, y_ = (([0] : List Int)) := ⟨_, rfl⟩
   replace H : (if a0.size + (strOfNums y126).size ≤ 9223372036854775807 then (palanquinref02_Sum.j0 k (a0 ++ (strOfNums y126))) else (none)) = some r := by first | (rw [hy126]; with_reducible exact H) | (have H2_ := (Option.bind_some _ _).symm.trans H; rw [hy126]; with_reducible exact H2_) | (have H2_ := (Option.bind_some _ _).symm.trans H; with_reducible exact H2_) | with_reducible exact H | (rw [hy126]; exact H) | exact H
   have Ny126 := mA hy126
   clear hy126
   by_cases c4 : a0.size + (strOfNums y126).size ≤ 9223372036854775807
   ·rw [if_pos c4] at H
    have c4b0 := eq_true c4
    have c4b1 : decide (a0.size + (strOfNums y126).size ≤ 9223372036854775807) = true := decide_eq_true c4
    try have c4b2 : (9223372036854775807 < a0.size + (strOfNums y126).size) = False := eq_false (Nat.not_lt.2 c4)
    have H' := mA H
    clear H
    go_wp2_with (first | ((with_reducible refine gate_dst (N := 10) rfl ?_); refine Kd.R_lit (Kd.int .u8) _ 5 ?hg (N := 10) ?hd (xs := ([0] : List Int)) (inner := [.int .u8 0]) (ok := fun _ => True) (okp := fun _ => True) ?hr ?hp (fun _ hk => hk) trivial (Below.refl _ _) (Nat.le_refl _) (by simp) ?_; (case hd => rfl); (case hg => rfl); (case hr => first | (go_simp; done) | (go_simp; rfl)); (case hp => exact (Reps.one (show Kd.M (Kd.int .u8) _ _ _ 0 [.int .u8 0] from rfl) (Reps.none _ _))); intro v127 w5 ho6 hb hg_ hnew_; clear hg_ hnew_; (first | rw [← Ny126.out] at ho6 | (simp only [Int.reduceToNat] at ho6; rw [← Ny126.out] at ho6)); have n0_ := mA (Kd.R_lower ho6 (below_size (by repeat (first | (with_reducible first | exact HB.out | apply bA | apply bN | apply bD) | exact HB.out)))); have n1_ := mA (bP (by repeat (first | (with_reducible first | exact HB.out | apply bA | apply bN | apply bD) | exact HB.out)) hb); clear HB; have HO128 := n0_; have HB := n1_; clear n0_ n1_; clear hb ho6; have hcv7 := own_string (P := Try.prog) Try.underlying31 Try.underlying5 Try.underlying9 (Kd.own_of_R HO128.out)))
    repeat (go_quiet (first | ((with_reducible refine gate_dst (N := 10) rfl ?_); refine Kd.R_lit (Kd.int .u8) _ 5 ?hg (N := 10) ?hd (xs := ([0] : List Int)) (inner := [.int .u8 0]) (ok := fun _ => True) (okp := fun _ => True) ?hr ?hp (fun _ hk => hk) trivial (Below.refl _ _) (Nat.le_refl _) (by simp) ?_; (case hd => rfl); (case hg => rfl); (case hr => first | (go_simp; done) | (go_simp; rfl)); (case hp => exact (Reps.one (show Kd.M (Kd.int .u8) _ _ _ 0 [.int .u8 0] from rfl) (Reps.none _ _))); intro v127 w5 ho6 hb hg_ hnew_; clear hg_ hnew_; (first | rw [← Ny126.out] at ho6 | (simp only [Int.reduceToNat] at ho6; rw [← Ny126.out] at ho6)); have n0_ := mA (Kd.R_lower ho6 (below_size (by repeat (first | (with_reducible first | exact HB.out | apply bA | apply bN | apply bD) | exact HB.out)))); have n1_ := mA (bP (by repeat (first | (with_reducible first | exact HB.out | apply bA | apply bN | apply bD) | exact HB.out)) hb); clear HB; have HO128 := n0_; have HB := n1_; clear n0_ n1_; clear hb ho6; have hcv7 := own_string (P := Try.prog) Try.underlying31 Try.underlying5 Try.underlying9 (Kd.own_of_R HO128.out))); try go_wp2_with (first | ((with_reducible refine gate_dst (N := 10) rfl ?_); refine Kd.R_lit (Kd.int .u8) _ 5 ?hg (N := 10) ?hd (xs := ([0] : List Int)) (inner := [.int .u8 0]) (ok := fun _ => True) (okp := fun _ => True) ?hr ?hp (fun _ hk => hk) trivial (Below.refl _ _) (Nat.le_refl _) (by simp) ?_; (case hd => rfl); (case hg => rfl); (case hr => first | (go_simp; done) | (go_simp; rfl)); (case hp => exact (Reps.one (show Kd.M (Kd.int .u8) _ _ _ 0 [.int .u8 0] from rfl) (Reps.none _ _))); intro v127 w5 ho6 hb hg_ hnew_; clear hg_ hnew_; (first | rw [← Ny126.out] at ho6 | (simp only [Int.reduceToNat] at ho6; rw [← Ny126.out] at ho6)); have n0_ := mA (Kd.R_lower ho6 (below_size (by repeat (first | (with_reducible first | exact HB.out | apply bA | apply bN | apply bD) | exact HB.out)))); have n1_ := mA (bP (by repeat (first | (with_reducible first | exact HB.out | apply bA | apply bN | apply bD) | exact HB.out)) hb); clear HB; have HO128 := n0_; have HB := n1_; clear n0_ n1_; clear hb ho6; have hcv7 := own_string (P := Try.prog) Try.underlying31 Try.underlying5 Try.underlying9 (Kd.own_of_R HO128.out))))
    go_meet
    case rel => exact ⟨_, (a0 ++ (strOfNums y126)), (by first | rfl | (simp; done) | (simp [*]; done)), H', ⟨by first | omega | exact Nat.le_refl _⟩, ⟨by repeat (first | (with_reducible first | exact HB.out | apply bA | apply bN | apply bD) | exact HB.out)⟩⟩
   ·rw [if_neg c4] at H
    exact absurd H (by simp)
  ·rw [if_neg c3] at H
   have c3b0 : (((a0.size : Int) % 2) == 1) = false := beq_eq_false_iff_ne.mpr c3
   have c3b1 : (((a0.size : Int) % 2) != 1) = true := bne_iff_ne.mpr c3
   (first | rw [c3b0] | (simp only [i64_w, i32_w]; rw [c3b0]) | skip)
   have H' := mA H
   clear H
   go_wp2
   repeat (go_quiet (fail); try go_wp2)
   go_meet
   case rel => exact ⟨_, (a0), (by first | rfl | (simp; done) | (simp [*]; done)), H', ⟨by first | omega | exact Nat.le_refl _⟩, ⟨by repeat (first | (with_reducible first | exact HB.out | apply bA | apply bN | apply bD) | exact HB.out)⟩⟩
 case rest =>
  clear HC2
  try clear p2
  try clear c3
  try clear c3b0
  try clear c3b1
  try clear c4
  try clear c4b0
  try clear c4b1
  try clear c4b2
  try clear hcv7
  obtain ⟨kq, x0_1, rfl, HA, HJ1, HB⟩ := hcut
  cases kq with
  | zero => exact absurd HA.out (by simp [palanquinref02_Sum.j0])
  | succ kj1 =>
   have H := HA.out
   clear HA
   simp only [palanquinref02_Sum.j0] at H
   have H' := mA H
   clear H
   go_wp2
   repeat (go_quiet (fail); try go_wp2)
   go_loopg [3, 4] kj1 (fun kq v3 v4 w' => ∃ (x3_2 : Int) (x4_2 : Int), v3 = .int .i64 x3_2 ∧ v4 = .int .i64 x4_2 ∧ Aside0 (palanquinref02_Sum.l0 kq x0_1 x3_2 x4_2 = some r) ∧ Aside0 (kq ≤ kj1) ∧ Aside0 (Below w.heap.size w w'))
   case atStart => exact ⟨(0), (0), (by first | rfl | (simp; done) | (simp [*]; done)), (by first | rfl | (simp; done) | (simp [*]; done)), H', ⟨Nat.le_refl _⟩, ⟨by repeat (first | (with_reducible first | exact HB.out | apply bA | apply bN | apply bD) | exact HB.out)⟩⟩
   case round =>
    clear H'
    try clear p2
    try clear c3
    try clear c3b0
    try clear c3b1
    try clear c4
    try clear c4b0
    try clear c4b1
    try clear c4b2
    try clear hcv7
    try clear p2
    obtain ⟨x3_2, x4_2, rfl, rfl, HA, HK2, HB⟩ := hrel
    cases gk with
    | zero => exact absurd HA.out (by simp [palanquinref02_Sum.l0])
    | succ k2 =>
     have H := HA.out
     clear HA
     simp only [palanquinref02_Sum.l0] at H
     by_cases c8 : x4_2 < (x0_1.size : Int)
     ·rw [if_pos c8] at H
      have c8b0 : decide (x4_2 < (x0_1.size : Int)) = true := decide_eq_true c8
      clear c8
      by_cases c9 : 0 ≤ x4_2
      ·rw [if_pos c9] at H
       have c9b0 : decide (0 ≤ x4_2) = true := decide_eq_true c9
       clear c9
       obtain ⟨ji11, hji11⟩ : ∃ j_ : Int, (wrap64 (x4_2 + 1)) = j_ := ⟨_, rfl⟩
       replace H : (if 0 ≤ (ji11) then (if (ji11) < (x0_1.size : Int) then (palanquinref02_Sum.l0 k2 x0_1 (wrap64 ((wrap64 (x3_2 + (wrap64 ((wrap64 (bt x0_1 x4_2)) * 256)))) + (wrap64 (bt x0_1 (ji11))))) (wrap64 (x4_2 + 2))) else (none)) else (none)) = some r := by first | (rw [hji11] at H; exact H) | (simp only [hji11] at H ⊢; exact H)
       have hji11w : (IntKind.i64.wrap (x4_2 + 1)) = ji11 := (i64_w _).trans hji11
       by_cases c12 : 0 ≤ (ji11)
       ·rw [if_pos c12] at H
        have c12b0 : decide (0 ≤ (ji11)) = true := decide_eq_true c12
        clear c12
        by_cases c13 : (ji11) < (x0_1.size : Int)
        ·rw [if_pos c13] at H
         have c13b0 : decide ((ji11) < (x0_1.size : Int)) = true := decide_eq_true c13
         clear c13
         have H' := mA H
         clear H
         have p10 : 0 ≤ (x4_2 : Int) := of_decide_eq_true (by first | (with_reducible assumption) | assumption)
         have q10 : x4_2 < (x0_1.size : Int) := of_decide_eq_true (by first | (with_reducible assumption) | assumption)
         have hx10 := bt_at x0_1 x4_2
         replace p10 := eq_true p10
         replace q10 := eq_true q10
         have p14 : 0 ≤ ((ji11) : Int) := of_decide_eq_true (by first | (with_reducible assumption) | assumption)
         have q14 : (ji11) < (x0_1.size : Int) := of_decide_eq_true (by first | (with_reducible assumption) | assumption)
         have hx14 := bt_at x0_1 (ji11)
         replace p14 := eq_true p14
         replace q14 := eq_true q14
         go_wp2
         repeat (go_quiet (fail); try go_wp2)
         go_roundg k2
         case measure => have := HJ1.out; have := HK2.out; omega
         case rel => exact ⟨(wrap64 ((wrap64 (x3_2 + (wrap64 ((wrap64 (bt x0_1 x4_2)) * 256)))) + (wrap64 (bt x0_1 (ji11))))), (wrap64 (x4_2 + 2)), (by first | rfl | (simp; done) | (simp only [← hji11] <;> (first | rfl | simp)) | (simp [*]; done)), (by first | rfl | (simp; done) | (simp [*]; done)), H', ⟨by have := HJ1.out; have := HK2.out; omega⟩, ⟨by repeat (first | (with_reducible first | exact HB.out | apply bA | apply bN | apply bD) | exact HB.out)⟩⟩
        ·rw [if_neg c13] at H
         exact absurd H (by simp)
       ·rw [if_neg c12] at H
        exact absurd H (by simp)
      ·rw [if_neg c9] at H
       exact absurd H (by simp)
     ·rw [if_neg c8] at H
      have c8b0 : decide (x4_2 < (x0_1.size : Int)) = false := decide_eq_false c8
      clear c8
      replace H := Option.bind_eq_some_iff.mp H
      obtain ⟨t129, A150, H⟩ := H
      try dsimp +instances only at H
      have A15 := mA A150
      clear A150
      obtain rfl := Option.some.inj H
      go_wp2_with (first | (go_at_call 55; (with_reducible refine (palanquinref02_down.calls k2 x3_2 t129 _ A15.out).mono ?_); rintro e w' ⟨rfl, ⟨nd, rfl⟩⟩; (try first | exact ⟨rfl, _, World.drewN_drewN _ _ _⟩ | exact ⟨rfl, _, Eq.trans (World.drewN_drewN _ _ _) (congrArg (World.drewN _) (Nat.add_assoc _ _ _))⟩)))
      repeat (go_quiet (first | (go_at_call 55; (with_reducible refine (palanquinref02_down.calls k2 x3_2 t129 _ A15.out).mono ?_); rintro e w' ⟨rfl, ⟨nd, rfl⟩⟩; (try first | exact ⟨rfl, _, World.drewN_drewN _ _ _⟩ | exact ⟨rfl, _, Eq.trans (World.drewN_drewN _ _ _) (congrArg (World.drewN _) (Nat.add_assoc _ _ _))⟩))); try go_wp2_with (first | (go_at_call 55; (with_reducible refine (palanquinref02_down.calls k2 x3_2 t129 _ A15.out).mono ?_); rintro e w' ⟨rfl, ⟨nd, rfl⟩⟩; (try first | exact ⟨rfl, _, World.drewN_drewN _ _ _⟩ | exact ⟨rfl, _, Eq.trans (World.drewN_drewN _ _ _) (congrArg (World.drewN _) (Nat.add_assoc _ _ _))⟩))))
      go_ret
      exact ⟨by first | rfl | (simp [errW_none, errW_some] <;> rfl) | (simp [*, errW_none, errW_some] <;> rfl), by repeat (first | (with_reducible first | exact HB.out | apply bA | apply bN | apply bD) | exact HB.out)⟩

def palanquinref02_Pseudo.f (k : Nat) (a0 : ByteArray) (a1 : ByteArray) (a2 : Int) (a3 : Int) : Option (ByteArray) := if (a0.size : Int) = 16 then (if a0.size + a1.size ≤ 9223372036854775807 then ((palanquinref01_Bytes.f k (IntKind.u64.wrap (a3)) 4).bind fun t225 => (if (a0 ++ a1).size + t225.size ≤ 9223372036854775807 then ((palanquinref01_Bytes.f k (IntKind.u64.wrap (Go.bits .and .i64 a2 255)) 4).bind fun t226 => (if ((a0 ++ a1) ++ t225).size + t226.size ≤ 9223372036854775807 then (some (((a0 ++ a1) ++ t225) ++ t226)) else (none))) else (none))) else (none)) else (if a0.size + a1.size ≤ 9223372036854775807 then ((palanquinref01_Bytes.f k (IntKind.u64.wrap (Go.bits .and .i64 a2 255)) 2).bind fun t227 => (if (a0 ++ a1).size + t227.size ≤ 9223372036854775807 then ((palanquinref01_Bytes.f k (IntKind.u64.wrap (a3)) 2).bind fun t228 => (if ((a0 ++ a1) ++ t227).size + t228.size ≤ 9223372036854775807 then (some (((a0 ++ a1) ++ t227) ++ t228)) else (none))) else (none))) else (none))
set_option maxHeartbeats 8000000 in
set_option maxRecDepth 100000 in
theorem palanquinref02_Pseudo.calls (k : Nat) (a0 : ByteArray) (a1 : ByteArray) (a2 : Int) (a3 : Int) (r : ByteArray) (w : World) (h : palanquinref02_Pseudo.f k a0 a1 a2 a3 = some r) :
  Calls Try.prog 33 #[.string a0, .string a1, .int .i64 a2, .int .i64 a3] w fun e w' => e = .returned (.string r) ∧ Below w.heap.size w w' := by
 have HB := mA (Below.refl w.heap.size w)
 have H : (if (a0.size : Int) = 16 then (if a0.size + a1.size ≤ 9223372036854775807 then ((palanquinref01_Bytes.f k (IntKind.u64.wrap (a3)) 4).bind fun t225 => (if (a0 ++ a1).size + t225.size ≤ 9223372036854775807 then ((palanquinref01_Bytes.f k (IntKind.u64.wrap (Go.bits .and .i64 a2 255)) 4).bind fun t226 => (if ((a0 ++ a1) ++ t225).size + t226.size ≤ 9223372036854775807 then (some (((a0 ++ a1) ++ t225) ++ t226)) else (none))) else (none))) else (none)) else (if a0.size + a1.size ≤ 9223372036854775807 then ((palanquinref01_Bytes.f k (IntKind.u64.wrap (Go.bits .and .i64 a2 255)) 2).bind fun t227 => (if (a0 ++ a1).size + t227.size ≤ 9223372036854775807 then ((palanquinref01_Bytes.f k (IntKind.u64.wrap (a3)) 2).bind fun t228 => (if ((a0 ++ a1) ++ t227).size + t228.size ≤ 9223372036854775807 then (some (((a0 ++ a1) ++ t227) ++ t228)) else (none))) else (none))) else (none))) = some r := h
 clear h
 by_cases c5 : (a0.size : Int) = 16
 ·rw [if_pos c5] at H
  have c5b0 : ((a0.size : Int) == 16) = true := beq_iff_eq.mpr c5
  have c5b1 : ((a0.size : Int) != 16) = false := bne_eq_false_iff_eq.mpr c5
  clear c5
  by_cases c6 : a0.size + a1.size ≤ 9223372036854775807
  ·rw [if_pos c6] at H
   have c6b0 := eq_true c6
   have c6b1 : decide (a0.size + a1.size ≤ 9223372036854775807) = true := decide_eq_true c6
   try have c6b2 : (9223372036854775807 < a0.size + a1.size) = False := eq_false (Nat.not_lt.2 c6)
   replace H := Option.bind_eq_some_iff.mp H
   obtain ⟨t225, A70, H⟩ := H
   try dsimp +instances only at H
   have A7 := mA A70
   clear A70
   by_cases c8 : (a0 ++ a1).size + t225.size ≤ 9223372036854775807
   ·rw [if_pos c8] at H
    have c8b0 := eq_true c8
    have c8b1 : decide ((a0 ++ a1).size + t225.size ≤ 9223372036854775807) = true := decide_eq_true c8
    try have c8b2 : (9223372036854775807 < (a0 ++ a1).size + t225.size) = False := eq_false (Nat.not_lt.2 c8)
    try have c8b3 : (9223372036854775807 < (a0.size) + (a1.size) + t225.size) = False := eq_false (by have h_ := c8; simp only [ByteArray.size_append] at h_; omega)
    try have c8b4 : ((a0.size) + (a1.size) + t225.size ≤ 9223372036854775807) = True := eq_true (by have h_ := c8; simp only [ByteArray.size_append] at h_; omega)
    replace H := Option.bind_eq_some_iff.mp H
    obtain ⟨t226, A90, H⟩ := H
    try dsimp +instances only at H
    have A9 := mA A90
    clear A90
    by_cases c10 : ((a0 ++ a1) ++ t225).size + t226.size ≤ 9223372036854775807
    ·rw [if_pos c10] at H
     have c10b0 := eq_true c10
     have c10b1 : decide (((a0 ++ a1) ++ t225).size + t226.size ≤ 9223372036854775807) = true := decide_eq_true c10
     try have c10b2 : (9223372036854775807 < ((a0 ++ a1) ++ t225).size + t226.size) = False := eq_false (Nat.not_lt.2 c10)
     try have c10b3 : (9223372036854775807 < (a0.size) + (a1.size) + (t225.size) + t226.size) = False := eq_false (by have h_ := c10; simp only [ByteArray.size_append] at h_; omega)
     try have c10b4 : ((a0.size) + (a1.size) + (t225.size) + t226.size ≤ 9223372036854775807) = True := eq_true (by have h_ := c10; simp only [ByteArray.size_append] at h_; omega)
     obtain rfl := Option.some.inj H
     go_enter Try.func33, Try.ntmps33
     go_wp2_with (first | ((with_reducible refine gate_callee (f := 42) rfl ?_); refine goesL_ (some 17) rfl rfl Try.func42 (by kernel_rfl) rfl #[.int .u64 (IntKind.u64.wrap (a3)), .int .i64 4] rfl (by (try simp only [List.map_toArray, List.map_cons, List.map_nil]); first | done | rfl | (simp only [List.length_drop, List.length_take]; rfl)) ?_; (with_reducible refine (palanquinref01_Bytes.calls k (IntKind.u64.wrap (a3)) 4 t225 _ A7.out).mono ?_); rintro e w11 ⟨rfl, hb⟩; refine ⟨_, rfl, ?_⟩; have n0_ := mA (bP (by repeat (first | (with_reducible first | exact HB.out | apply bA | apply bN | apply bD) | exact HB.out)) hb); clear HB; have HB := n0_; clear n0_; (try clear hb); (try clear hb2); (try clear hk); (try clear hi)) | ((with_reducible refine gate_callee (f := 42) rfl ?_); refine goesL_ (some 22) rfl rfl Try.func42 (by kernel_rfl) rfl #[.int .u64 (IntKind.u64.wrap (Go.bits .and .i64 a2 255)), .int .i64 4] rfl (by (try simp only [List.map_toArray, List.map_cons, List.map_nil]); first | done | rfl | (simp only [List.length_drop, List.length_take]; rfl)) ?_; (with_reducible refine (palanquinref01_Bytes.calls k (IntKind.u64.wrap (Go.bits .and .i64 a2 255)) 4 t226 _ A9.out).mono ?_); rintro e w12 ⟨rfl, hb⟩; refine ⟨_, rfl, ?_⟩; have n0_ := mA (bP (by repeat (first | (with_reducible first | exact HB.out | apply bA | apply bN | apply bD) | exact HB.out)) hb); clear HB; have HB := n0_; clear n0_; (try clear hb); (try clear hb2); (try clear hk); (try clear hi)))
     go_ret
     exact ⟨by first | rfl | (simp [errW_none, errW_some] <;> rfl) | (simp [*, errW_none, errW_some] <;> rfl), by repeat (first | (with_reducible first | exact HB.out | apply bA | apply bN | apply bD) | exact HB.out)⟩
    ·rw [if_neg c10] at H
     exact absurd H (by simp)
   ·rw [if_neg c8] at H
    exact absurd H (by simp)
  ·rw [if_neg c6] at H
   exact absurd H (by simp)
 ·rw [if_neg c5] at H
  have c5b0 : ((a0.size : Int) == 16) = false := beq_eq_false_iff_ne.mpr c5
  have c5b1 : ((a0.size : Int) != 16) = true := bne_iff_ne.mpr c5
  by_cases c13 : a0.size + a1.size ≤ 9223372036854775807
  ·rw [if_pos c13] at H
   have c13b0 := eq_true c13
   have c13b1 : decide (a0.size + a1.size ≤ 9223372036854775807) = true := decide_eq_true c13
   try have c13b2 : (9223372036854775807 < a0.size + a1.size) = False := eq_false (Nat.not_lt.2 c13)
   replace H := Option.bind_eq_some_iff.mp H
   obtain ⟨t227, A140, H⟩ := H
   try dsimp +instances only at H
   have A14 := mA A140
   clear A140
   by_cases c15 : (a0 ++ a1).size + t227.size ≤ 9223372036854775807
   ·rw [if_pos c15] at H
    have c15b0 := eq_true c15
    have c15b1 : decide ((a0 ++ a1).size + t227.size ≤ 9223372036854775807) = true := decide_eq_true c15
    try have c15b2 : (9223372036854775807 < (a0 ++ a1).size + t227.size) = False := eq_false (Nat.not_lt.2 c15)
    try have c15b3 : (9223372036854775807 < (a0.size) + (a1.size) + t227.size) = False := eq_false (by have h_ := c15; simp only [ByteArray.size_append] at h_; omega)
    try have c15b4 : ((a0.size) + (a1.size) + t227.size ≤ 9223372036854775807) = True := eq_true (by have h_ := c15; simp only [ByteArray.size_append] at h_; omega)
    replace H := Option.bind_eq_some_iff.mp H
    obtain ⟨t228, A160, H⟩ := H
    try dsimp +instances only at H
    have A16 := mA A160
    clear A160
    by_cases c17 : ((a0 ++ a1) ++ t227).size + t228.size ≤ 9223372036854775807
    ·rw [if_pos c17] at H
     have c17b0 := eq_true c17
     have c17b1 : decide (((a0 ++ a1) ++ t227).size + t228.size ≤ 9223372036854775807) = true := decide_eq_true c17
     try have c17b2 : (9223372036854775807 < ((a0 ++ a1) ++ t227).size + t228.size) = False := eq_false (Nat.not_lt.2 c17)
     try have c17b3 : (9223372036854775807 < (a0.size) + (a1.size) + (t227.size) + t228.size) = False := eq_false (by have h_ := c17; simp only [ByteArray.size_append] at h_; omega)
     try have c17b4 : ((a0.size) + (a1.size) + (t227.size) + t228.size ≤ 9223372036854775807) = True := eq_true (by have h_ := c17; simp only [ByteArray.size_append] at h_; omega)
     obtain rfl := Option.some.inj H
     go_enter Try.func33, Try.ntmps33
     go_wp2_with (first | ((with_reducible refine gate_callee (f := 42) rfl ?_); refine goesL_ (some 30) rfl rfl Try.func42 (by kernel_rfl) rfl #[.int .u64 (IntKind.u64.wrap (Go.bits .and .i64 a2 255)), .int .i64 2] rfl (by (try simp only [List.map_toArray, List.map_cons, List.map_nil]); first | done | rfl | (simp only [List.length_drop, List.length_take]; rfl)) ?_; (with_reducible refine (palanquinref01_Bytes.calls k (IntKind.u64.wrap (Go.bits .and .i64 a2 255)) 2 t227 _ A14.out).mono ?_); rintro e w18 ⟨rfl, hb⟩; refine ⟨_, rfl, ?_⟩; have n0_ := mA (bP (by repeat (first | (with_reducible first | exact HB.out | apply bA | apply bN | apply bD) | exact HB.out)) hb); clear HB; have HB := n0_; clear n0_; (try clear hb); (try clear hb2); (try clear hk); (try clear hi)) | ((with_reducible refine gate_callee (f := 42) rfl ?_); refine goesL_ (some 34) rfl rfl Try.func42 (by kernel_rfl) rfl #[.int .u64 (IntKind.u64.wrap (a3)), .int .i64 2] rfl (by (try simp only [List.map_toArray, List.map_cons, List.map_nil]); first | done | rfl | (simp only [List.length_drop, List.length_take]; rfl)) ?_; (with_reducible refine (palanquinref01_Bytes.calls k (IntKind.u64.wrap (a3)) 2 t228 _ A16.out).mono ?_); rintro e w19 ⟨rfl, hb⟩; refine ⟨_, rfl, ?_⟩; have n0_ := mA (bP (by repeat (first | (with_reducible first | exact HB.out | apply bA | apply bN | apply bD) | exact HB.out)) hb); clear HB; have HB := n0_; clear n0_; (try clear hb); (try clear hb2); (try clear hk); (try clear hi)))
     go_ret
     exact ⟨by first | rfl | (simp [errW_none, errW_some] <;> rfl) | (simp [*, errW_none, errW_some] <;> rfl), by repeat (first | (with_reducible first | exact HB.out | apply bA | apply bN | apply bD) | exact HB.out)⟩
    ·rw [if_neg c17] at H
     exact absurd H (by simp)
   ·rw [if_neg c15] at H
    exact absurd H (by simp)
  ·rw [if_neg c13] at H
   exact absurd H (by simp)

end Go.Proofs.Ytcmalglippmocaa.G
end

section
namespace Go.Proofs.Ytcmalglippmocaa.G
open Go.RowKit Go.Proofs.YtcmalglippmocaaW.PrintWords Go.Proofs.YtcmalglippmocaaW.PrintLast Go.Proofs.YtcmalglippmocaaW.PrintMore
attribute [local go_sem] max2_int min2_int max_two min_two max_three min_three max_four min_four

def palanquinref05_in.f (a0 : Int) (a1 : Int) (a2 : Int) : Option (Bool) := if a0 ≥ a1 then (some (decide (a0 ≤ a2))) else (some false)
set_option maxHeartbeats 8000000 in
set_option maxRecDepth 100000 in
theorem palanquinref05_in.calls (a0 : Int) (a1 : Int) (a2 : Int) (r : Bool) (w : World) (h : palanquinref05_in.f a0 a1 a2 = some r) :
  Calls Try.prog 63 #[.int .i64 a0, .int .i64 a1, .int .i64 a2] w fun e w' => e = .returned (.bool r) ∧ Drawn0 w w' := by
 have H : (if a0 ≥ a1 then (some (decide (a0 ≤ a2))) else (some false)) = some r := h
 clear h
 by_cases c4 : a0 ≥ a1
 ·rw [if_pos c4] at H
  have c4b0 : decide (a1 ≤ a0) = true := decide_eq_true c4
  clear c4
  obtain rfl := Option.some.inj H
  go_enter Try.func63, Try.ntmps63
  go_wp2
  go_ret
  exact ⟨by first | rfl | (simp; done) | (simp [*]; done), by repeat (first | exact Drawn0.refl _ | apply Drawn0.step)⟩
 ·rw [if_neg c4] at H
  have c4b0 : decide (a1 ≤ a0) = false := decide_eq_false c4
  clear c4
  obtain rfl := Option.some.inj H
  go_enter Try.func63, Try.ntmps63
  go_wp2
  go_ret
  exact ⟨by first | rfl | (simp; done) | (simp [*]; done), by repeat (first | exact Drawn0.refl _ | apply Drawn0.step)⟩

def palanquinref05_Right.f (a0_0 : Int) (a0_1 : Int) (a0_2 : Int) (a0_3 : Int) (a0_4 : Int) (a0_5 : Bool) (a0_6 : Bool) (a0_7 : ByteArray) (a0_8 : ByteArray) (a0_9 : ByteArray) : Option (Bool) := (palanquinref05_in.f a0_0 0 255).bind fun t131 => (if t131 = true then ((palanquinref05_in.f a0_3 0 255).bind fun t132 => (if t132 = true then ((palanquinref05_in.f a0_4 0 255).bind fun t133 => (if t133 = true then ((palanquinref05_in.f a0_1 0 65535).bind fun t134 => (if t134 = true then ((palanquinref05_in.f a0_2 0 8191).bind fun t135 => (if t135 = true then (if (a0_7.size : Int) = 4 then (if (a0_8.size : Int) = 4 then (if (a0_9.size : Int) ≤ 40 then (some (((a0_9.size : Int) % 4) == 0)) else (some false)) else (some false)) else (some false)) else (some false))) else (some false))) else (some false))) else (some false))) else (some false))
set_option maxHeartbeats 8000000 in
set_option maxRecDepth 100000 in
theorem palanquinref05_Right.calls (a0_0 : Int) (a0_1 : Int) (a0_2 : Int) (a0_3 : Int) (a0_4 : Int) (a0_5 : Bool) (a0_6 : Bool) (a0_7 : ByteArray) (a0_8 : ByteArray) (a0_9 : ByteArray) (r : Bool) (w : World) (h : palanquinref05_Right.f a0_0 a0_1 a0_2 a0_3 a0_4 a0_5 a0_6 a0_7 a0_8 a0_9 = some r) :
  Calls Try.prog 44 #[.agg #[.int .i64 a0_0, .int .i64 a0_1, .int .i64 a0_2, .int .i64 a0_3, .int .i64 a0_4, .bool a0_5, .bool a0_6, .string a0_7, .string a0_8, .string a0_9]] w fun e w' => e = .returned (.bool r) ∧ Below w.heap.size w w' := by
 have hu50 := Try.underlying50
 have HB := mA (Below.refl w.heap.size w)
 have H : ((palanquinref05_in.f a0_0 0 255).bind fun t131 => (if t131 = true then ((palanquinref05_in.f a0_3 0 255).bind fun t132 => (if t132 = true then ((palanquinref05_in.f a0_4 0 255).bind fun t133 => (if t133 = true then ((palanquinref05_in.f a0_1 0 65535).bind fun t134 => (if t134 = true then ((palanquinref05_in.f a0_2 0 8191).bind fun t135 => (if t135 = true then (if (a0_7.size : Int) = 4 then (if (a0_8.size : Int) = 4 then (if (a0_9.size : Int) ≤ 40 then (some (((a0_9.size : Int) % 4) == 0)) else (some false)) else (some false)) else (some false)) else (some false))) else (some false))) else (some false))) else (some false))) else (some false))) = some r := h
 clear h
 replace H := Option.bind_eq_some_iff.mp H
 obtain ⟨t131, A20, H⟩ := H
 try dsimp +instances only at H
 have A2 := mA A20
 clear A20
 by_cases c3 : t131 = true
 ·subst c3
  rw [if_pos rfl] at H
  replace H := Option.bind_eq_some_iff.mp H
  obtain ⟨t132, A40, H⟩ := H
  try dsimp +instances only at H
  have A4 := mA A40
  clear A40
  by_cases c5 : t132 = true
  ·subst c5
   rw [if_pos rfl] at H
   replace H := Option.bind_eq_some_iff.mp H
   obtain ⟨t133, A60, H⟩ := H
   try dsimp +instances only at H
   have A6 := mA A60
   clear A60
   by_cases c7 : t133 = true
   ·subst c7
    rw [if_pos rfl] at H
    replace H := Option.bind_eq_some_iff.mp H
    obtain ⟨t134, A80, H⟩ := H
    try dsimp +instances only at H
    have A8 := mA A80
    clear A80
    by_cases c9 : t134 = true
    ·subst c9
     rw [if_pos rfl] at H
     replace H := Option.bind_eq_some_iff.mp H
     obtain ⟨t135, A100, H⟩ := H
     try dsimp +instances only at H
     have A10 := mA A100
     clear A100
     by_cases c11 : t135 = true
     ·subst c11
      rw [if_pos rfl] at H
      by_cases c12 : (a0_7.size : Int) = 4
      ·rw [if_pos c12] at H
       have c12b0 : ((a0_7.size : Int) == 4) = true := beq_iff_eq.mpr c12
       have c12b1 : ((a0_7.size : Int) != 4) = false := bne_eq_false_iff_eq.mpr c12
       clear c12
       by_cases c13 : (a0_8.size : Int) = 4
       ·rw [if_pos c13] at H
        have c13b0 : ((a0_8.size : Int) == 4) = true := beq_iff_eq.mpr c13
        have c13b1 : ((a0_8.size : Int) != 4) = false := bne_eq_false_iff_eq.mpr c13
        clear c13
        by_cases c14 : (a0_9.size : Int) ≤ 40
        ·rw [if_pos c14] at H
         have c14b0 : decide ((a0_9.size : Int) ≤ 40) = true := decide_eq_true c14
         have c14b1 : decide (a0_9.size ≤ 40) = true := decide_eq_true (by omega)
         clear c14
         obtain rfl := Option.some.inj H
         go_enter Try.func44, Try.ntmps44
         go_wp2_with (first | ((with_reducible refine gate_dst (N := 1) rfl ?_); (try (refine gate_guard (by rfl) ?_; dsimp only)); refine box_event ?hg (N := 1) ?hd (cs := #[.int .i64 a0_0, .int .i64 a0_1, .int .i64 a0_2, .int .i64 a0_3, .int .i64 a0_4, .bool a0_5, .bool a0_6, .string a0_7, .string a0_8, .string a0_9]) (t := 50) ?hr ?_; (case hd => rfl); (case hg => rfl); (case hr => first | (go_simp; done) | (go_simp; rfl)); intro gb130 hg w15 hbox hb; obtain ⟨n0_, nq_⟩ := bpr (by repeat (first | (with_reducible first | exact HB.out | apply bA | apply bN | apply bD) | exact HB.out)) hb; have n1_ := mA (hbox); have n2_ := mA ((by rw [hg]; exact nq_ : w.heap.size ≤ gb130)); have n3_ := mA ((by rw [hg]; exact nq_ : w.heap.size ≤ gb130)); clear HB; have HB := n0_; have BK130 := n1_; have GW130 := n2_; have GE130 := n3_; clear nq_; clear n0_ n1_ n2_ n3_; clear hb hbox hg; obtain ⟨hcz16_0, hcz16_1, hcz16_2, hcz16_3, hcz16_4, hcz16_5, hcz16_6, hcz16_7, hcz16_8, hcz16_9⟩ := bc10 BK130.out; obtain ⟨hfz16_0, hfz16_1, hfz16_2, hfz16_3, hfz16_4, hfz16_5, hfz16_6, hfz16_7, hfz16_8, hfz16_9⟩ := bf10 BK130.out) | ((with_reducible refine gate_callee (f := 63) rfl ?_); refine goesL_ (some 5) rfl rfl Try.func63 (by kernel_rfl) rfl #[.int .i64 a0_0, .int .i64 0, .int .i64 255] rfl (by (try simp only [List.map_toArray, List.map_cons, List.map_nil]); first | done | rfl | (simp only [List.length_drop, List.length_take]; rfl)) ?_; (with_reducible refine (palanquinref05_in.calls a0_0 0 255 true _ A2.out).mono ?_); rintro e w' ⟨rfl, ⟨nd, rfl⟩⟩; refine ⟨_, rfl, ?_⟩) | (go_at_call 63; (with_reducible refine (palanquinref05_in.calls a0_3 0 255 true _ A4.out).mono ?_); rintro e w' ⟨rfl, ⟨nd, rfl⟩⟩) | (go_at_call 63; (with_reducible refine (palanquinref05_in.calls a0_4 0 255 true _ A6.out).mono ?_); rintro e w' ⟨rfl, ⟨nd, rfl⟩⟩) | (go_at_call 63; (with_reducible refine (palanquinref05_in.calls a0_1 0 65535 true _ A8.out).mono ?_); rintro e w' ⟨rfl, ⟨nd, rfl⟩⟩) | (go_at_call 63; (with_reducible refine (palanquinref05_in.calls a0_2 0 8191 true _ A10.out).mono ?_); rintro e w' ⟨rfl, ⟨nd, rfl⟩⟩))
         go_ret
         exact ⟨by first | rfl | (simp [errW_none, errW_some] <;> rfl) | (simp [*, errW_none, errW_some] <;> rfl), by repeat (first | (with_reducible first | exact HB.out | apply bA | apply bN | apply bD | refine bS ?_ GE130.out) | exact HB.out)⟩
        ·rw [if_neg c14] at H
         have c14b0 : decide ((a0_9.size : Int) ≤ 40) = false := decide_eq_false c14
         have c14b1 : decide (a0_9.size ≤ 40) = false := decide_eq_false (by omega)
         clear c14
         obtain rfl := Option.some.inj H
         go_enter Try.func44, Try.ntmps44
         go_wp2_with (first | ((with_reducible refine gate_dst (N := 1) rfl ?_); (try (refine gate_guard (by rfl) ?_; dsimp only)); refine box_event ?hg (N := 1) ?hd (cs := #[.int .i64 a0_0, .int .i64 a0_1, .int .i64 a0_2, .int .i64 a0_3, .int .i64 a0_4, .bool a0_5, .bool a0_6, .string a0_7, .string a0_8, .string a0_9]) (t := 50) ?hr ?_; (case hd => rfl); (case hg => rfl); (case hr => first | (go_simp; done) | (go_simp; rfl)); intro gb130 hg w17 hbox hb; obtain ⟨n0_, nq_⟩ := bpr (by repeat (first | (with_reducible first | exact HB.out | apply bA | apply bN | apply bD) | exact HB.out)) hb; have n1_ := mA (hbox); have n2_ := mA ((by rw [hg]; exact nq_ : w.heap.size ≤ gb130)); have n3_ := mA ((by rw [hg]; exact nq_ : w.heap.size ≤ gb130)); clear HB; have HB := n0_; have BK130 := n1_; have GW130 := n2_; have GE130 := n3_; clear nq_; clear n0_ n1_ n2_ n3_; clear hb hbox hg; obtain ⟨hcz18_0, hcz18_1, hcz18_2, hcz18_3, hcz18_4, hcz18_5, hcz18_6, hcz18_7, hcz18_8, hcz18_9⟩ := bc10 BK130.out; obtain ⟨hfz18_0, hfz18_1, hfz18_2, hfz18_3, hfz18_4, hfz18_5, hfz18_6, hfz18_7, hfz18_8, hfz18_9⟩ := bf10 BK130.out) | ((with_reducible refine gate_callee (f := 63) rfl ?_); refine goesL_ (some 5) rfl rfl Try.func63 (by kernel_rfl) rfl #[.int .i64 a0_0, .int .i64 0, .int .i64 255] rfl (by (try simp only [List.map_toArray, List.map_cons, List.map_nil]); first | done | rfl | (simp only [List.length_drop, List.length_take]; rfl)) ?_; (with_reducible refine (palanquinref05_in.calls a0_0 0 255 true _ A2.out).mono ?_); rintro e w' ⟨rfl, ⟨nd, rfl⟩⟩; refine ⟨_, rfl, ?_⟩) | (go_at_call 63; (with_reducible refine (palanquinref05_in.calls a0_3 0 255 true _ A4.out).mono ?_); rintro e w' ⟨rfl, ⟨nd, rfl⟩⟩) | (go_at_call 63; (with_reducible refine (palanquinref05_in.calls a0_4 0 255 true _ A6.out).mono ?_); rintro e w' ⟨rfl, ⟨nd, rfl⟩⟩) | (go_at_call 63; (with_reducible refine (palanquinref05_in.calls a0_1 0 65535 true _ A8.out).mono ?_); rintro e w' ⟨rfl, ⟨nd, rfl⟩⟩) | (go_at_call 63; (with_reducible refine (palanquinref05_in.calls a0_2 0 8191 true _ A10.out).mono ?_); rintro e w' ⟨rfl, ⟨nd, rfl⟩⟩))
         go_ret
         exact ⟨by first | rfl | (simp [errW_none, errW_some] <;> rfl) | (simp [*, errW_none, errW_some] <;> rfl), by repeat (first | (with_reducible first | exact HB.out | apply bA | apply bN | apply bD | refine bS ?_ GE130.out) | exact HB.out)⟩
       ·rw [if_neg c13] at H
        have c13b0 : ((a0_8.size : Int) == 4) = false := beq_eq_false_iff_ne.mpr c13
        have c13b1 : ((a0_8.size : Int) != 4) = true := bne_iff_ne.mpr c13
        obtain rfl := Option.some.inj H
        go_enter Try.func44, Try.ntmps44
        go_wp2_with (first | ((with_reducible refine gate_dst (N := 1) rfl ?_); (try (refine gate_guard (by rfl) ?_; dsimp only)); refine box_event ?hg (N := 1) ?hd (cs := #[.int .i64 a0_0, .int .i64 a0_1, .int .i64 a0_2, .int .i64 a0_3, .int .i64 a0_4, .bool a0_5, .bool a0_6, .string a0_7, .string a0_8, .string a0_9]) (t := 50) ?hr ?_; (case hd => rfl); (case hg => rfl); (case hr => first | (go_simp; done) | (go_simp; rfl)); intro gb130 hg w19 hbox hb; obtain ⟨n0_, nq_⟩ := bpr (by repeat (first | (with_reducible first | exact HB.out | apply bA | apply bN | apply bD) | exact HB.out)) hb; have n1_ := mA (hbox); have n2_ := mA ((by rw [hg]; exact nq_ : w.heap.size ≤ gb130)); have n3_ := mA ((by rw [hg]; exact nq_ : w.heap.size ≤ gb130)); clear HB; have HB := n0_; have BK130 := n1_; have GW130 := n2_; have GE130 := n3_; clear nq_; clear n0_ n1_ n2_ n3_; clear hb hbox hg; obtain ⟨hcz20_0, hcz20_1, hcz20_2, hcz20_3, hcz20_4, hcz20_5, hcz20_6, hcz20_7, hcz20_8, hcz20_9⟩ := bc10 BK130.out; obtain ⟨hfz20_0, hfz20_1, hfz20_2, hfz20_3, hfz20_4, hfz20_5, hfz20_6, hfz20_7, hfz20_8, hfz20_9⟩ := bf10 BK130.out) | ((with_reducible refine gate_callee (f := 63) rfl ?_); refine goesL_ (some 5) rfl rfl Try.func63 (by kernel_rfl) rfl #[.int .i64 a0_0, .int .i64 0, .int .i64 255] rfl (by (try simp only [List.map_toArray, List.map_cons, List.map_nil]); first | done | rfl | (simp only [List.length_drop, List.length_take]; rfl)) ?_; (with_reducible refine (palanquinref05_in.calls a0_0 0 255 true _ A2.out).mono ?_); rintro e w' ⟨rfl, ⟨nd, rfl⟩⟩; refine ⟨_, rfl, ?_⟩) | (go_at_call 63; (with_reducible refine (palanquinref05_in.calls a0_3 0 255 true _ A4.out).mono ?_); rintro e w' ⟨rfl, ⟨nd, rfl⟩⟩) | (go_at_call 63; (with_reducible refine (palanquinref05_in.calls a0_4 0 255 true _ A6.out).mono ?_); rintro e w' ⟨rfl, ⟨nd, rfl⟩⟩) | (go_at_call 63; (with_reducible refine (palanquinref05_in.calls a0_1 0 65535 true _ A8.out).mono ?_); rintro e w' ⟨rfl, ⟨nd, rfl⟩⟩) | (go_at_call 63; (with_reducible refine (palanquinref05_in.calls a0_2 0 8191 true _ A10.out).mono ?_); rintro e w' ⟨rfl, ⟨nd, rfl⟩⟩))
        go_ret
        exact ⟨by first | rfl | (simp [errW_none, errW_some] <;> rfl) | (simp [*, errW_none, errW_some] <;> rfl), by repeat (first | (with_reducible first | exact HB.out | apply bA | apply bN | apply bD | refine bS ?_ GE130.out) | exact HB.out)⟩
      ·rw [if_neg c12] at H
       have c12b0 : ((a0_7.size : Int) == 4) = false := beq_eq_false_iff_ne.mpr c12
       have c12b1 : ((a0_7.size : Int) != 4) = true := bne_iff_ne.mpr c12
       obtain rfl := Option.some.inj H
       go_enter Try.func44, Try.ntmps44
       go_wp2_with (first | ((with_reducible refine gate_dst (N := 1) rfl ?_); (try (refine gate_guard (by rfl) ?_; dsimp only)); refine box_event ?hg (N := 1) ?hd (cs := #[.int .i64 a0_0, .int .i64 a0_1, .int .i64 a0_2, .int .i64 a0_3, .int .i64 a0_4, .bool a0_5, .bool a0_6, .string a0_7, .string a0_8, .string a0_9]) (t := 50) ?hr ?_; (case hd => rfl); (case hg => rfl); (case hr => first | (go_simp; done) | (go_simp; rfl)); intro gb130 hg w21 hbox hb; obtain ⟨n0_, nq_⟩ := bpr (by repeat (first | (with_reducible first | exact HB.out | apply bA | apply bN | apply bD) | exact HB.out)) hb; have n1_ := mA (hbox); have n2_ := mA ((by rw [hg]; exact nq_ : w.heap.size ≤ gb130)); have n3_ := mA ((by rw [hg]; exact nq_ : w.heap.size ≤ gb130)); clear HB; have HB := n0_; have BK130 := n1_; have GW130 := n2_; have GE130 := n3_; clear nq_; clear n0_ n1_ n2_ n3_; clear hb hbox hg; obtain ⟨hcz22_0, hcz22_1, hcz22_2, hcz22_3, hcz22_4, hcz22_5, hcz22_6, hcz22_7, hcz22_8, hcz22_9⟩ := bc10 BK130.out; obtain ⟨hfz22_0, hfz22_1, hfz22_2, hfz22_3, hfz22_4, hfz22_5, hfz22_6, hfz22_7, hfz22_8, hfz22_9⟩ := bf10 BK130.out) | ((with_reducible refine gate_callee (f := 63) rfl ?_); refine goesL_ (some 5) rfl rfl Try.func63 (by kernel_rfl) rfl #[.int .i64 a0_0, .int .i64 0, .int .i64 255] rfl (by (try simp only [List.map_toArray, List.map_cons, List.map_nil]); first | done | rfl | (simp only [List.length_drop, List.length_take]; rfl)) ?_; (with_reducible refine (palanquinref05_in.calls a0_0 0 255 true _ A2.out).mono ?_); rintro e w' ⟨rfl, ⟨nd, rfl⟩⟩; refine ⟨_, rfl, ?_⟩) | (go_at_call 63; (with_reducible refine (palanquinref05_in.calls a0_3 0 255 true _ A4.out).mono ?_); rintro e w' ⟨rfl, ⟨nd, rfl⟩⟩) | (go_at_call 63; (with_reducible refine (palanquinref05_in.calls a0_4 0 255 true _ A6.out).mono ?_); rintro e w' ⟨rfl, ⟨nd, rfl⟩⟩) | (go_at_call 63; (with_reducible refine (palanquinref05_in.calls a0_1 0 65535 true _ A8.out).mono ?_); rintro e w' ⟨rfl, ⟨nd, rfl⟩⟩) | (go_at_call 63; (with_reducible refine (palanquinref05_in.calls a0_2 0 8191 true _ A10.out).mono ?_); rintro e w' ⟨rfl, ⟨nd, rfl⟩⟩))
       go_ret
       exact ⟨by first | rfl | (simp [errW_none, errW_some] <;> rfl) | (simp [*, errW_none, errW_some] <;> rfl), by repeat (first | (with_reducible first | exact HB.out | apply bA | apply bN | apply bD | refine bS ?_ GE130.out) | exact HB.out)⟩
     ·replace c11 := Bool.eq_false_iff.mpr c11
      subst c11
      rw [if_neg (show ¬ (false = true) by decide)] at H
      obtain rfl := Option.some.inj H
      go_enter Try.func44, Try.ntmps44
      go_wp2_with (first | ((with_reducible refine gate_dst (N := 1) rfl ?_); (try (refine gate_guard (by rfl) ?_; dsimp only)); refine box_event ?hg (N := 1) ?hd (cs := #[.int .i64 a0_0, .int .i64 a0_1, .int .i64 a0_2, .int .i64 a0_3, .int .i64 a0_4, .bool a0_5, .bool a0_6, .string a0_7, .string a0_8, .string a0_9]) (t := 50) ?hr ?_; (case hd => rfl); (case hg => rfl); (case hr => first | (go_simp; done) | (go_simp; rfl)); intro gb130 hg w23 hbox hb; obtain ⟨n0_, nq_⟩ := bpr (by repeat (first | (with_reducible first | exact HB.out | apply bA | apply bN | apply bD) | exact HB.out)) hb; have n1_ := mA (hbox); have n2_ := mA ((by rw [hg]; exact nq_ : w.heap.size ≤ gb130)); have n3_ := mA ((by rw [hg]; exact nq_ : w.heap.size ≤ gb130)); clear HB; have HB := n0_; have BK130 := n1_; have GW130 := n2_; have GE130 := n3_; clear nq_; clear n0_ n1_ n2_ n3_; clear hb hbox hg; obtain ⟨hcz24_0, hcz24_1, hcz24_2, hcz24_3, hcz24_4, hcz24_5, hcz24_6, hcz24_7, hcz24_8, hcz24_9⟩ := bc10 BK130.out; obtain ⟨hfz24_0, hfz24_1, hfz24_2, hfz24_3, hfz24_4, hfz24_5, hfz24_6, hfz24_7, hfz24_8, hfz24_9⟩ := bf10 BK130.out) | ((with_reducible refine gate_callee (f := 63) rfl ?_); refine goesL_ (some 5) rfl rfl Try.func63 (by kernel_rfl) rfl #[.int .i64 a0_0, .int .i64 0, .int .i64 255] rfl (by (try simp only [List.map_toArray, List.map_cons, List.map_nil]); first | done | rfl | (simp only [List.length_drop, List.length_take]; rfl)) ?_; (with_reducible refine (palanquinref05_in.calls a0_0 0 255 true _ A2.out).mono ?_); rintro e w' ⟨rfl, ⟨nd, rfl⟩⟩; refine ⟨_, rfl, ?_⟩) | (go_at_call 63; (with_reducible refine (palanquinref05_in.calls a0_3 0 255 true _ A4.out).mono ?_); rintro e w' ⟨rfl, ⟨nd, rfl⟩⟩) | (go_at_call 63; (with_reducible refine (palanquinref05_in.calls a0_4 0 255 true _ A6.out).mono ?_); rintro e w' ⟨rfl, ⟨nd, rfl⟩⟩) | (go_at_call 63; (with_reducible refine (palanquinref05_in.calls a0_1 0 65535 true _ A8.out).mono ?_); rintro e w' ⟨rfl, ⟨nd, rfl⟩⟩) | (go_at_call 63; (with_reducible refine (palanquinref05_in.calls a0_2 0 8191 false _ A10.out).mono ?_); rintro e w' ⟨rfl, ⟨nd, rfl⟩⟩))
      go_ret
      exact ⟨by first | rfl | (simp [errW_none, errW_some] <;> rfl) | (simp [*, errW_none, errW_some] <;> rfl), by repeat (first | (with_reducible first | exact HB.out | apply bA | apply bN | apply bD | refine bS ?_ GE130.out) | exact HB.out)⟩
    ·replace c9 := Bool.eq_false_iff.mpr c9
     subst c9
     rw [if_neg (show ¬ (false = true) by decide)] at H
     obtain rfl := Option.some.inj H
     go_enter Try.func44, Try.ntmps44
     go_wp2_with (first | ((with_reducible refine gate_dst (N := 1) rfl ?_); (try (refine gate_guard (by rfl) ?_; dsimp only)); refine box_event ?hg (N := 1) ?hd (cs := #[.int .i64 a0_0, .int .i64 a0_1, .int .i64 a0_2, .int .i64 a0_3, .int .i64 a0_4, .bool a0_5, .bool a0_6, .string a0_7, .string a0_8, .string a0_9]) (t := 50) ?hr ?_; (case hd => rfl); (case hg => rfl); (case hr => first | (go_simp; done) | (go_simp; rfl)); intro gb130 hg w25 hbox hb; obtain ⟨n0_, nq_⟩ := bpr (by repeat (first | (with_reducible first | exact HB.out | apply bA | apply bN | apply bD) | exact HB.out)) hb; have n1_ := mA (hbox); have n2_ := mA ((by rw [hg]; exact nq_ : w.heap.size ≤ gb130)); have n3_ := mA ((by rw [hg]; exact nq_ : w.heap.size ≤ gb130)); clear HB; have HB := n0_; have BK130 := n1_; have GW130 := n2_; have GE130 := n3_; clear nq_; clear n0_ n1_ n2_ n3_; clear hb hbox hg; obtain ⟨hcz26_0, hcz26_1, hcz26_2, hcz26_3, hcz26_4, hcz26_5, hcz26_6, hcz26_7, hcz26_8, hcz26_9⟩ := bc10 BK130.out; obtain ⟨hfz26_0, hfz26_1, hfz26_2, hfz26_3, hfz26_4, hfz26_5, hfz26_6, hfz26_7, hfz26_8, hfz26_9⟩ := bf10 BK130.out) | ((with_reducible refine gate_callee (f := 63) rfl ?_); refine goesL_ (some 5) rfl rfl Try.func63 (by kernel_rfl) rfl #[.int .i64 a0_0, .int .i64 0, .int .i64 255] rfl (by (try simp only [List.map_toArray, List.map_cons, List.map_nil]); first | done | rfl | (simp only [List.length_drop, List.length_take]; rfl)) ?_; (with_reducible refine (palanquinref05_in.calls a0_0 0 255 true _ A2.out).mono ?_); rintro e w' ⟨rfl, ⟨nd, rfl⟩⟩; refine ⟨_, rfl, ?_⟩) | (go_at_call 63; (with_reducible refine (palanquinref05_in.calls a0_3 0 255 true _ A4.out).mono ?_); rintro e w' ⟨rfl, ⟨nd, rfl⟩⟩) | (go_at_call 63; (with_reducible refine (palanquinref05_in.calls a0_4 0 255 true _ A6.out).mono ?_); rintro e w' ⟨rfl, ⟨nd, rfl⟩⟩) | (go_at_call 63; (with_reducible refine (palanquinref05_in.calls a0_1 0 65535 false _ A8.out).mono ?_); rintro e w' ⟨rfl, ⟨nd, rfl⟩⟩))
     go_ret
     exact ⟨by first | rfl | (simp [errW_none, errW_some] <;> rfl) | (simp [*, errW_none, errW_some] <;> rfl), by repeat (first | (with_reducible first | exact HB.out | apply bA | apply bN | apply bD | refine bS ?_ GE130.out) | exact HB.out)⟩
   ·replace c7 := Bool.eq_false_iff.mpr c7
    subst c7
    rw [if_neg (show ¬ (false = true) by decide)] at H
    obtain rfl := Option.some.inj H
    go_enter Try.func44, Try.ntmps44
    go_wp2_with (first | ((with_reducible refine gate_dst (N := 1) rfl ?_); (try (refine gate_guard (by rfl) ?_; dsimp only)); refine box_event ?hg (N := 1) ?hd (cs := #[.int .i64 a0_0, .int .i64 a0_1, .int .i64 a0_2, .int .i64 a0_3, .int .i64 a0_4, .bool a0_5, .bool a0_6, .string a0_7, .string a0_8, .string a0_9]) (t := 50) ?hr ?_; (case hd => rfl); (case hg => rfl); (case hr => first | (go_simp; done) | (go_simp; rfl)); intro gb130 hg w27 hbox hb; obtain ⟨n0_, nq_⟩ := bpr (by repeat (first | (with_reducible first | exact HB.out | apply bA | apply bN | apply bD) | exact HB.out)) hb; have n1_ := mA (hbox); have n2_ := mA ((by rw [hg]; exact nq_ : w.heap.size ≤ gb130)); have n3_ := mA ((by rw [hg]; exact nq_ : w.heap.size ≤ gb130)); clear HB; have HB := n0_; have BK130 := n1_; have GW130 := n2_; have GE130 := n3_; clear nq_; clear n0_ n1_ n2_ n3_; clear hb hbox hg; obtain ⟨hcz28_0, hcz28_1, hcz28_2, hcz28_3, hcz28_4, hcz28_5, hcz28_6, hcz28_7, hcz28_8, hcz28_9⟩ := bc10 BK130.out; obtain ⟨hfz28_0, hfz28_1, hfz28_2, hfz28_3, hfz28_4, hfz28_5, hfz28_6, hfz28_7, hfz28_8, hfz28_9⟩ := bf10 BK130.out) | ((with_reducible refine gate_callee (f := 63) rfl ?_); refine goesL_ (some 5) rfl rfl Try.func63 (by kernel_rfl) rfl #[.int .i64 a0_0, .int .i64 0, .int .i64 255] rfl (by (try simp only [List.map_toArray, List.map_cons, List.map_nil]); first | done | rfl | (simp only [List.length_drop, List.length_take]; rfl)) ?_; (with_reducible refine (palanquinref05_in.calls a0_0 0 255 true _ A2.out).mono ?_); rintro e w' ⟨rfl, ⟨nd, rfl⟩⟩; refine ⟨_, rfl, ?_⟩) | (go_at_call 63; (with_reducible refine (palanquinref05_in.calls a0_3 0 255 true _ A4.out).mono ?_); rintro e w' ⟨rfl, ⟨nd, rfl⟩⟩) | (go_at_call 63; (with_reducible refine (palanquinref05_in.calls a0_4 0 255 false _ A6.out).mono ?_); rintro e w' ⟨rfl, ⟨nd, rfl⟩⟩))
    go_ret
    exact ⟨by first | rfl | (simp [errW_none, errW_some] <;> rfl) | (simp [*, errW_none, errW_some] <;> rfl), by repeat (first | (with_reducible first | exact HB.out | apply bA | apply bN | apply bD | refine bS ?_ GE130.out) | exact HB.out)⟩
  ·replace c5 := Bool.eq_false_iff.mpr c5
   subst c5
   rw [if_neg (show ¬ (false = true) by decide)] at H
   obtain rfl := Option.some.inj H
   go_enter Try.func44, Try.ntmps44
   go_wp2_with (first | ((with_reducible refine gate_dst (N := 1) rfl ?_); (try (refine gate_guard (by rfl) ?_; dsimp only)); refine box_event ?hg (N := 1) ?hd (cs := #[.int .i64 a0_0, .int .i64 a0_1, .int .i64 a0_2, .int .i64 a0_3, .int .i64 a0_4, .bool a0_5, .bool a0_6, .string a0_7, .string a0_8, .string a0_9]) (t := 50) ?hr ?_; (case hd => rfl); (case hg => rfl); (case hr => first | (go_simp; done) | (go_simp; rfl)); intro gb130 hg w29 hbox hb; obtain ⟨n0_, nq_⟩ := bpr (by repeat (first | (with_reducible first | exact HB.out | apply bA | apply bN | apply bD) | exact HB.out)) hb; have n1_ := mA (hbox); have n2_ := mA ((by rw [hg]; exact nq_ : w.heap.size ≤ gb130)); have n3_ := mA ((by rw [hg]; exact nq_ : w.heap.size ≤ gb130)); clear HB; have HB := n0_; have BK130 := n1_; have GW130 := n2_; have GE130 := n3_; clear nq_; clear n0_ n1_ n2_ n3_; clear hb hbox hg; obtain ⟨hcz30_0, hcz30_1, hcz30_2, hcz30_3, hcz30_4, hcz30_5, hcz30_6, hcz30_7, hcz30_8, hcz30_9⟩ := bc10 BK130.out; obtain ⟨hfz30_0, hfz30_1, hfz30_2, hfz30_3, hfz30_4, hfz30_5, hfz30_6, hfz30_7, hfz30_8, hfz30_9⟩ := bf10 BK130.out) | ((with_reducible refine gate_callee (f := 63) rfl ?_); refine goesL_ (some 5) rfl rfl Try.func63 (by kernel_rfl) rfl #[.int .i64 a0_0, .int .i64 0, .int .i64 255] rfl (by (try simp only [List.map_toArray, List.map_cons, List.map_nil]); first | done | rfl | (simp only [List.length_drop, List.length_take]; rfl)) ?_; (with_reducible refine (palanquinref05_in.calls a0_0 0 255 true _ A2.out).mono ?_); rintro e w' ⟨rfl, ⟨nd, rfl⟩⟩; refine ⟨_, rfl, ?_⟩) | (go_at_call 63; (with_reducible refine (palanquinref05_in.calls a0_3 0 255 false _ A4.out).mono ?_); rintro e w' ⟨rfl, ⟨nd, rfl⟩⟩))
   go_ret
   exact ⟨by first | rfl | (simp [errW_none, errW_some] <;> rfl) | (simp [*, errW_none, errW_some] <;> rfl), by repeat (first | (with_reducible first | exact HB.out | apply bA | apply bN | apply bD | refine bS ?_ GE130.out) | exact HB.out)⟩
 ·replace c3 := Bool.eq_false_iff.mpr c3
  subst c3
  rw [if_neg (show ¬ (false = true) by decide)] at H
  obtain rfl := Option.some.inj H
  go_enter Try.func44, Try.ntmps44
  go_wp2_with (first | ((with_reducible refine gate_dst (N := 1) rfl ?_); (try (refine gate_guard (by rfl) ?_; dsimp only)); refine box_event ?hg (N := 1) ?hd (cs := #[.int .i64 a0_0, .int .i64 a0_1, .int .i64 a0_2, .int .i64 a0_3, .int .i64 a0_4, .bool a0_5, .bool a0_6, .string a0_7, .string a0_8, .string a0_9]) (t := 50) ?hr ?_; (case hd => rfl); (case hg => rfl); (case hr => first | (go_simp; done) | (go_simp; rfl)); intro gb130 hg w31 hbox hb; obtain ⟨n0_, nq_⟩ := bpr (by repeat (first | (with_reducible first | exact HB.out | apply bA | apply bN | apply bD) | exact HB.out)) hb; have n1_ := mA (hbox); have n2_ := mA ((by rw [hg]; exact nq_ : w.heap.size ≤ gb130)); have n3_ := mA ((by rw [hg]; exact nq_ : w.heap.size ≤ gb130)); clear HB; have HB := n0_; have BK130 := n1_; have GW130 := n2_; have GE130 := n3_; clear nq_; clear n0_ n1_ n2_ n3_; clear hb hbox hg; obtain ⟨hcz32_0, hcz32_1, hcz32_2, hcz32_3, hcz32_4, hcz32_5, hcz32_6, hcz32_7, hcz32_8, hcz32_9⟩ := bc10 BK130.out; obtain ⟨hfz32_0, hfz32_1, hfz32_2, hfz32_3, hfz32_4, hfz32_5, hfz32_6, hfz32_7, hfz32_8, hfz32_9⟩ := bf10 BK130.out) | ((with_reducible refine gate_callee (f := 63) rfl ?_); refine goesL_ (some 5) rfl rfl Try.func63 (by kernel_rfl) rfl #[.int .i64 a0_0, .int .i64 0, .int .i64 255] rfl (by (try simp only [List.map_toArray, List.map_cons, List.map_nil]); first | done | rfl | (simp only [List.length_drop, List.length_take]; rfl)) ?_; (with_reducible refine (palanquinref05_in.calls a0_0 0 255 false _ A2.out).mono ?_); rintro e w' ⟨rfl, ⟨nd, rfl⟩⟩; refine ⟨_, rfl, ?_⟩))
  go_ret
  exact ⟨by first | rfl | (simp [errW_none, errW_some] <;> rfl) | (simp [*, errW_none, errW_some] <;> rfl), by repeat (first | (with_reducible first | exact HB.out | apply bA | apply bN | apply bD | refine bS ?_ GE130.out) | exact HB.out)⟩

def palanquinref05_num.f (k : Nat) (a0 : Int) (a1 : Int) : Option (ByteArray) := (palanquinref01_Bytes.f k (IntKind.u64.wrap (a0)) a1).bind fun t139 => (some t139)
set_option maxHeartbeats 8000000 in
set_option maxRecDepth 100000 in
theorem palanquinref05_num.calls (k : Nat) (a0 : Int) (a1 : Int) (r : ByteArray) (w : World) (h : palanquinref05_num.f k a0 a1 = some r) :
  Calls Try.prog 45 #[.int .i64 a0, .int .i64 a1] w fun e w' => e = .returned (.string r) ∧ Below w.heap.size w w' := by
 have HB := mA (Below.refl w.heap.size w)
 have H : ((palanquinref01_Bytes.f k (IntKind.u64.wrap (a0)) a1).bind fun t139 => (some t139)) = some r := h
 clear h
 replace H := Option.bind_eq_some_iff.mp H
 obtain ⟨t139, A30, H⟩ := H
 try dsimp +instances only at H
 have A3 := mA A30
 clear A30
 obtain rfl := Option.some.inj H
 go_enter Try.func45, Try.ntmps45
 go_wp2_with (first | ((with_reducible refine gate_callee (f := 42) rfl ?_); refine goesL_ (some 8) rfl rfl Try.func42 (by kernel_rfl) rfl #[.int .u64 (IntKind.u64.wrap (a0)), .int .i64 a1] rfl (by (try simp only [List.map_toArray, List.map_cons, List.map_nil]); first | done | rfl | (simp only [List.length_drop, List.length_take]; rfl)) ?_; (with_reducible refine (palanquinref01_Bytes.calls k (IntKind.u64.wrap (a0)) a1 t139 _ A3.out).mono ?_); rintro e w4 ⟨rfl, hb⟩; refine ⟨_, rfl, ?_⟩; have n0_ := mA (bP (by repeat (first | (with_reducible first | exact HB.out | apply bA | apply bN | apply bD) | exact HB.out)) hb); clear HB; have HB := n0_; clear n0_; (try clear hb); (try clear hb2); (try clear hk); (try clear hi)))
 go_ret
 exact ⟨by first | rfl | (simp [errW_none, errW_some] <;> rfl) | (simp [*, errW_none, errW_some] <;> rfl), by repeat (first | (with_reducible first | exact HB.out | apply bA | apply bN | apply bD) | exact HB.out)⟩

def palanquinref05_at.f (k : Nat) (a0 : ByteArray) (a1 : Int) (a2 : Int) : Option (Int) := if 0 ≤ a1 then (if a1 ≤ (wrap64 (a1 + a2)) then (if (wrap64 (a1 + a2)) ≤ (a0.size : Int) then ((palanquinref01_Value.f k (a0.extract (a1 : Int).toNat ((wrap64 (a1 + a2)) : Int).toNat)).bind fun t183 => (some (wrap64 (t183)))) else (none)) else (none)) else (none)
set_option maxHeartbeats 8000000 in
set_option maxRecDepth 100000 in
theorem palanquinref05_at.calls (k : Nat) (a0 : ByteArray) (a1 : Int) (a2 : Int) (r : Int) (w : World) (h : palanquinref05_at.f k a0 a1 a2 = some r) :
  Calls Try.prog 78 #[.string a0, .int .i64 a1, .int .i64 a2] w fun e w' => e = .returned (.int .i64 r) ∧ Drawn0 w w' := by
 have H : (if 0 ≤ a1 then (if a1 ≤ (wrap64 (a1 + a2)) then (if (wrap64 (a1 + a2)) ≤ (a0.size : Int) then ((palanquinref01_Value.f k (a0.extract (a1 : Int).toNat ((wrap64 (a1 + a2)) : Int).toNat)).bind fun t183 => (some (wrap64 (t183)))) else (none)) else (none)) else (none)) = some r := h
 clear h
 by_cases c4 : 0 ≤ a1
 ·rw [if_pos c4] at H
  have c4b0 := eq_true c4
  have c4b1 : decide (0 ≤ a1) = true := decide_eq_true c4
  clear c4
  by_cases c5 : a1 ≤ (wrap64 (a1 + a2))
  ·rw [if_pos c5] at H
   have c5b0 := eq_true c5
   have c5b1 : decide (a1 ≤ (wrap64 (a1 + a2))) = true := decide_eq_true c5
   by_cases c6 : (wrap64 (a1 + a2)) ≤ (a0.size : Int)
   ·rw [if_pos c6] at H
    have c6b0 := eq_true c6
    have c6b1 : decide ((wrap64 (a1 + a2)) ≤ (a0.size : Int)) = true := decide_eq_true c6
    replace H := Option.bind_eq_some_iff.mp H
    obtain ⟨t183, A70, H⟩ := H
    try dsimp +instances only at H
    have A7 := mA A70
    clear A70
    obtain rfl := Option.some.inj H
    go_enter Try.func78, Try.ntmps78
    go_wp2_with (first | ((with_reducible refine gate_callee (f := 54) rfl ?_); refine goesL_ (some 13) rfl rfl Try.func54 (by kernel_rfl) rfl #[.string (a0.extract (a1 : Int).toNat ((wrap64 (a1 + a2)) : Int).toNat)] rfl (by (try simp only [List.map_toArray, List.map_cons, List.map_nil]); first | done | rfl | (simp only [List.length_drop, List.length_take]; rfl)) ?_; (with_reducible refine (palanquinref01_Value.calls k (a0.extract (a1 : Int).toNat ((wrap64 (a1 + a2)) : Int).toNat) t183 _ A7.out).mono ?_); rintro e w' ⟨rfl, ⟨nd, rfl⟩⟩; refine ⟨_, rfl, ?_⟩))
    go_ret
    exact ⟨by first | rfl | (simp; done) | (simp [*]; done), by repeat (first | exact Drawn0.refl _ | apply Drawn0.step)⟩
   ·rw [if_neg c6] at H
    exact absurd H (by simp)
  ·rw [if_neg c5] at H
   exact absurd H (by simp)
 ·rw [if_neg c4] at H
  exact absurd H (by simp)

end Go.Proofs.Ytcmalglippmocaa.G
end
