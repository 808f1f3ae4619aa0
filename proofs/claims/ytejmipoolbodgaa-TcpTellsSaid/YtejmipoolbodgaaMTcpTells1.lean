/- Texts of this session, joined: each is a section. -/
import Derived.Test.YtejmipoolbodgaaProg
import Derived.Below
import Derived.Deep.Draws
import Derived.Deep.AppendLies
import Derived.Maps.AppendAt
import Derived.OwnWalk
import Derived.Laws.BytesArg
import Derived.Laws.MakeOwn
import Derived.Laws.OwnMore
import Derived.Deep.OwnRows
import Derived.Tactics
import Derived.Lib.ConvBytes
import Derived.Laws.Slices
import Derived.WalkKit
import Derived.KernelRfl
import Derived.RowKit3
import Derived.Deep.LoopGhost
import Derived.Deep.QuietTactic
import Derived.BigQuiet
import Derived.WideLaws
import Derived.Deep.DeepCutAuto
import Derived.Deep.CutBlock
import Derived.Deep.RegionHeld3
import Derived.Laws.Rows
import Derived.Lib.AppendStr
import Derived.ArgAppend
import Derived.Laws.IdiomCopy
import Derived.OrdersHeld
import Derived.Laws.BitsLemmas
import Derived.RowKit
import Derived.Test.YtejmipoolbodgaaWWords
import Derived.Test.YtejmipoolbodgaaWLast
import Derived.Test.YtejmipoolbodgaaWTab
import Derived.Test.YtejmipoolbodgaaWFour
import Derived.Test.YtejmipoolbodgaaWQPut
import Derived.Test.YtejmipoolbodgaaWApart
import Derived.Test.YtejmipoolbodgaaWArr
import Derived.Test.YtejmipoolbodgaaWZeros
import Derived.Test.YtejmipoolbodgaaWFoot
import Derived.Test.YtejmipoolbodgaaWKept
import Derived.Test.YtejmipoolbodgaaWShare
import Derived.Test.YtejmipoolbodgaaWN
import Derived.Test.YtejmipoolbodgaaWFootNe
import Derived.Test.YtejmipoolbodgaaWAt
import Derived.Test.YtejmipoolbodgaaWEqStruct
import Derived.Test.YtejmipoolbodgaaWRepsOne
import Derived.Test.YtejmipoolbodgaaWInv
import Derived.Test.YtejmipoolbodgaaWInvWords
import Derived.Test.YtejmipoolbodgaaWGuard
import Derived.Test.YtejmipoolbodgaaWNEv
import Derived.Test.YtejmipoolbodgaaWMore
import Derived.Laws.Bits64
import Derived.Laws.BitsAllLaws
set_option linter.unusedVariables false
set_option linter.unusedSimpArgs false
section
namespace Go.Proofs.Ytejmipoolbodgaa.G
open Go.RowKit Go.Proofs.YtejmipoolbodgaaW.PrintWords Go.Proofs.YtejmipoolbodgaaW.PrintLast Go.Proofs.YtejmipoolbodgaaW.PrintMore
attribute [local go_sem] max2_int min2_int max_two min_two max_three min_three max_four min_four   -- for this text's walks alone
set_option linter.unusedVariables false
set_option linter.unusedSimpArgs false



def errW : Option Int → Value
  | none => .nilIface
  | some c => .iface 0 (.int .i64 c)
theorem errW_none : errW none = .nilIface := rfl
theorem errW_some (c : Int) : errW (some c) = .iface 0 (.int .i64 c) := rfl

theorem info3 : (Try.prog.info? 3).map (fun i => (i.zero, i.size, i.bytes)) = some (some (.int .i64 0), 1, 8) := by kernel_rfl
theorem info5 : (Try.prog.info? 5).map (fun i => (i.zero, i.size, i.bytes)) = some (some (.int .u8 0), 1, 1) := by kernel_rfl
theorem info9 : (Try.prog.info? 9).map (fun i => (i.zero, i.size, i.bytes)) = some (some (.string ⟨#[]⟩), 1, 16) := by kernel_rfl
theorem info90 : (Try.prog.info? 90).map (fun i => (i.zero, i.size, i.bytes)) = some (some (.agg #[(.int .u64 0), (.string ⟨#[]⟩), (.int .i64 0), (.int .i64 0)]), 4, 40) := by kernel_rfl
-- the values' own types
def rd_L3 (xs : List (List ByteArray)) (i : Int) : (List ByteArray) := xs.getD i.toNat ([] : List ByteArray)
theorem at_L3 {w : World} {A : Option Addr} {n : Nat} {xs : List (List ByteArray)} (h : Kd.C (Kd.slice 9 Kd.string) w A n xs) (i : Int) (h0 : 0 ≤ i) (h1 : i < n) : ∃ ad A0 c0, A = some ad ∧ w.cell? (ad.add i.toNat) = some (.slice A0 (rd_L3 xs i).length c0) ∧ (rd_L3 xs i).length ≤ c0 ∧ Kd.string.C w A0 (rd_L3 xs i).length (rd_L3 xs i) := by
  obtain ⟨ad, c, e, _, hK, hc0⟩ := Kd.C_get h ([] : List ByteArray) i h0 h1
  have hc : ∀ j u, c[j]? = some u → w.cell? (ad.add (i.toNat * 1 + j)) = some u := hc0
  obtain ⟨A0, c0, rfl, l0, g0⟩ := hK
  exact ⟨ad, A0, c0, e, by have hq := hc 0 _ rfl; rwa [Nat.mul_one, Nat.add_zero] at hq, l0, g0⟩

/-! #### struct type 87 -/
structure S87 where
  f0 : Int
  f1 : Int
  f2 : Int
  f3 : ByteArray
def z87 : S87 := ⟨(0 : Int), (0 : Int), (0 : Int), (⟨#[]⟩ : ByteArray)⟩
def k87 : Kd S87 := Kd.iso (Kd.pair (Kd.int .i64) (Kd.pair (Kd.int .i64) (Kd.pair (Kd.int .u64) Kd.string))) (fun x : S87 => (x.f0, x.f1, x.f2, x.f3))
theorem k87_open {w : World} {x : S87} {cs : List Value} (h : k87.K w x cs) : cs = [.int .i64 x.f0, .int .i64 x.f1, .int .u64 x.f2, .string x.f3] := by
  obtain ⟨_, _, rfl, rfl, ⟨_, _, rfl, rfl, ⟨_, _, rfl, rfl, rfl⟩⟩⟩ := h
  exact rfl
theorem k87_openM {w : World} {base : Nat} {ok : Nat → Prop} {x : S87} {cs : List Value} (h : k87.M w base ok x cs) : cs = [.int .i64 x.f0, .int .i64 x.f1, .int .u64 x.f2, .string x.f3] := by
  obtain ⟨_, _, rfl, rfl, ⟨_, _, rfl, rfl, ⟨_, _, rfl, rfl, rfl⟩⟩⟩ := h
  exact rfl
theorem k87_mk (w : World) (x : S87)  : k87.K w x [.int .i64 x.f0, .int .i64 x.f1, .int .u64 x.f2, .string x.f3] := ⟨[.int .i64 x.f0], [.int .i64 x.f1, .int .u64 x.f2, .string x.f3], rfl, rfl, ⟨[.int .i64 x.f1], [.int .u64 x.f2, .string x.f3], rfl, rfl, ⟨[.int .u64 x.f2], [.string x.f3], rfl, rfl, rfl⟩⟩⟩
theorem k87_mkM (w : World) (base : Nat) (ok : Nat → Prop) (x : S87)  : k87.M w base ok x [.int .i64 x.f0, .int .i64 x.f1, .int .u64 x.f2, .string x.f3] := ⟨[.int .i64 x.f0], [.int .i64 x.f1, .int .u64 x.f2, .string x.f3], rfl, rfl, ⟨[.int .i64 x.f1], [.int .u64 x.f2, .string x.f3], rfl, rfl, ⟨[.int .u64 x.f2], [.string x.f3], rfl, rfl, rfl⟩⟩⟩
def rd_T87 (xs : List S87) (i : Int) : S87 := xs.getD i.toNat z87
theorem at_T87 {w : World} {A : Option Addr} {n : Nat} {xs : List S87} (h : Kd.C k87 w A n xs) (i : Int) (h0 : 0 ≤ i) (h1 : i < n) : ∃ ad , A = some ad ∧ w.cell? (ad.add (i.toNat * 4)) = some (.int .i64 (rd_T87 xs i).f0) ∧ w.cell? ⟨(ad.add (i.toNat * 4)).block, (ad.add (i.toNat * 4)).off + 1, none⟩ = some (.int .i64 (rd_T87 xs i).f1) ∧ w.cell? ⟨(ad.add (i.toNat * 4)).block, (ad.add (i.toNat * 4)).off + 2, none⟩ = some (.int .u64 (rd_T87 xs i).f2) ∧ w.cell? ⟨(ad.add (i.toNat * 4)).block, (ad.add (i.toNat * 4)).off + 3, none⟩ = some (.string (rd_T87 xs i).f3) := by
  obtain ⟨ad, c, e, _, hK, hc0⟩ := Kd.C_get h z87 i h0 h1
  have hc : ∀ j u, c[j]? = some u → w.cell? (ad.add (i.toNat * 4 + j)) = some u := hc0
  obtain rfl := k87_open hK
  exact ⟨ad, e, hc 0 _ rfl, by rw [← add_field _ _ 1 (by omega)]; exact hc 1 _ rfl, by rw [← add_field _ _ 2 (by omega)]; exact hc 2 _ rfl, by rw [← add_field _ _ 3 (by omega)]; exact hc 3 _ rfl⟩

def rd_L7 (xs : List (List S87)) (i : Int) : (List S87) := xs.getD i.toNat ([] : List S87)
theorem at_L7 {w : World} {A : Option Addr} {n : Nat} {xs : List (List S87)} (h : Kd.C (Kd.slice 87 k87) w A n xs) (i : Int) (h0 : 0 ≤ i) (h1 : i < n) : ∃ ad A0 c0, A = some ad ∧ w.cell? (ad.add i.toNat) = some (.slice A0 (rd_L7 xs i).length c0) ∧ (rd_L7 xs i).length ≤ c0 ∧ k87.C w A0 (rd_L7 xs i).length (rd_L7 xs i) := by
  obtain ⟨ad, c, e, _, hK, hc0⟩ := Kd.C_get h ([] : List S87) i h0 h1
  have hc : ∀ j u, c[j]? = some u → w.cell? (ad.add (i.toNat * 1 + j)) = some u := hc0
  obtain ⟨A0, c0, rfl, l0, g0⟩ := hK
  exact ⟨ad, A0, c0, e, by have hq := hc 0 _ rfl; rwa [Nat.mul_one, Nat.add_zero] at hq, l0, g0⟩

/-! #### struct type 90 -/
structure S90 where
  f0 : Int
  f1 : ByteArray
  f2 : Int
  f3 : Int
def z90 : S90 := ⟨(0 : Int), (⟨#[]⟩ : ByteArray), (0 : Int), (0 : Int)⟩
def k90 : Kd S90 := Kd.iso (Kd.pair (Kd.int .u64) (Kd.pair Kd.string (Kd.pair (Kd.int .i64) (Kd.int .i64)))) (fun x : S90 => (x.f0, x.f1, x.f2, x.f3))
theorem k90_open {w : World} {x : S90} {cs : List Value} (h : k90.K w x cs) : cs = [.int .u64 x.f0, .string x.f1, .int .i64 x.f2, .int .i64 x.f3] := by
  obtain ⟨_, _, rfl, rfl, ⟨_, _, rfl, rfl, ⟨_, _, rfl, rfl, rfl⟩⟩⟩ := h
  exact rfl
theorem k90_openM {w : World} {base : Nat} {ok : Nat → Prop} {x : S90} {cs : List Value} (h : k90.M w base ok x cs) : cs = [.int .u64 x.f0, .string x.f1, .int .i64 x.f2, .int .i64 x.f3] := by
  obtain ⟨_, _, rfl, rfl, ⟨_, _, rfl, rfl, ⟨_, _, rfl, rfl, rfl⟩⟩⟩ := h
  exact rfl
theorem k90_mk (w : World) (x : S90)  : k90.K w x [.int .u64 x.f0, .string x.f1, .int .i64 x.f2, .int .i64 x.f3] := ⟨[.int .u64 x.f0], [.string x.f1, .int .i64 x.f2, .int .i64 x.f3], rfl, rfl, ⟨[.string x.f1], [.int .i64 x.f2, .int .i64 x.f3], rfl, rfl, ⟨[.int .i64 x.f2], [.int .i64 x.f3], rfl, rfl, rfl⟩⟩⟩
theorem k90_mkM (w : World) (base : Nat) (ok : Nat → Prop) (x : S90)  : k90.M w base ok x [.int .u64 x.f0, .string x.f1, .int .i64 x.f2, .int .i64 x.f3] := ⟨[.int .u64 x.f0], [.string x.f1, .int .i64 x.f2, .int .i64 x.f3], rfl, rfl, ⟨[.string x.f1], [.int .i64 x.f2, .int .i64 x.f3], rfl, rfl, ⟨[.int .i64 x.f2], [.int .i64 x.f3], rfl, rfl, rfl⟩⟩⟩
def rd_T90 (xs : List S90) (i : Int) : S90 := xs.getD i.toNat z90
theorem at_T90 {w : World} {A : Option Addr} {n : Nat} {xs : List S90} (h : Kd.C k90 w A n xs) (i : Int) (h0 : 0 ≤ i) (h1 : i < n) : ∃ ad , A = some ad ∧ w.cell? (ad.add (i.toNat * 4)) = some (.int .u64 (rd_T90 xs i).f0) ∧ w.cell? ⟨(ad.add (i.toNat * 4)).block, (ad.add (i.toNat * 4)).off + 1, none⟩ = some (.string (rd_T90 xs i).f1) ∧ w.cell? ⟨(ad.add (i.toNat * 4)).block, (ad.add (i.toNat * 4)).off + 2, none⟩ = some (.int .i64 (rd_T90 xs i).f2) ∧ w.cell? ⟨(ad.add (i.toNat * 4)).block, (ad.add (i.toNat * 4)).off + 3, none⟩ = some (.int .i64 (rd_T90 xs i).f3) := by
  obtain ⟨ad, c, e, _, hK, hc0⟩ := Kd.C_get h z90 i h0 h1
  have hc : ∀ j u, c[j]? = some u → w.cell? (ad.add (i.toNat * 4 + j)) = some u := hc0
  obtain rfl := k90_open hK
  exact ⟨ad, e, hc 0 _ rfl, by rw [← add_field _ _ 1 (by omega)]; exact hc 1 _ rfl, by rw [← add_field _ _ 2 (by omega)]; exact hc 2 _ rfl, by rw [← add_field _ _ 3 (by omega)]; exact hc 3 _ rfl⟩

def rd_L9 (xs : List (List S90)) (i : Int) : (List S90) := xs.getD i.toNat ([] : List S90)
theorem at_L9 {w : World} {A : Option Addr} {n : Nat} {xs : List (List S90)} (h : Kd.C (Kd.slice 90 k90) w A n xs) (i : Int) (h0 : 0 ≤ i) (h1 : i < n) : ∃ ad A0 c0, A = some ad ∧ w.cell? (ad.add i.toNat) = some (.slice A0 (rd_L9 xs i).length c0) ∧ (rd_L9 xs i).length ≤ c0 ∧ k90.C w A0 (rd_L9 xs i).length (rd_L9 xs i) := by
  obtain ⟨ad, c, e, _, hK, hc0⟩ := Kd.C_get h ([] : List S90) i h0 h1
  have hc : ∀ j u, c[j]? = some u → w.cell? (ad.add (i.toNat * 1 + j)) = some u := hc0
  obtain ⟨A0, c0, rfl, l0, g0⟩ := hK
  exact ⟨ad, A0, c0, e, by have hq := hc 0 _ rfl; rwa [Nat.mul_one, Nat.add_zero] at hq, l0, g0⟩

/-! #### struct type 69 -/
structure S69 where
  f0 : Int
  f1 : ByteArray
  f2 : ByteArray
  f3 : Int
  f4 : Int
def z69 : S69 := ⟨(0 : Int), (⟨#[]⟩ : ByteArray), (⟨#[]⟩ : ByteArray), (0 : Int), (0 : Int)⟩
def k69 : Kd S69 := Kd.iso (Kd.pair (Kd.int .i64) (Kd.pair Kd.string (Kd.pair Kd.string (Kd.pair (Kd.int .i64) (Kd.int .i64))))) (fun x : S69 => (x.f0, x.f1, x.f2, x.f3, x.f4))
theorem k69_open {w : World} {x : S69} {cs : List Value} (h : k69.K w x cs) : cs = [.int .i64 x.f0, .string x.f1, .string x.f2, .int .i64 x.f3, .int .i64 x.f4] := by
  obtain ⟨_, _, rfl, rfl, ⟨_, _, rfl, rfl, ⟨_, _, rfl, rfl, ⟨_, _, rfl, rfl, rfl⟩⟩⟩⟩ := h
  exact rfl
theorem k69_openM {w : World} {base : Nat} {ok : Nat → Prop} {x : S69} {cs : List Value} (h : k69.M w base ok x cs) : cs = [.int .i64 x.f0, .string x.f1, .string x.f2, .int .i64 x.f3, .int .i64 x.f4] := by
  obtain ⟨_, _, rfl, rfl, ⟨_, _, rfl, rfl, ⟨_, _, rfl, rfl, ⟨_, _, rfl, rfl, rfl⟩⟩⟩⟩ := h
  exact rfl
theorem k69_mk (w : World) (x : S69)  : k69.K w x [.int .i64 x.f0, .string x.f1, .string x.f2, .int .i64 x.f3, .int .i64 x.f4] := ⟨[.int .i64 x.f0], [.string x.f1, .string x.f2, .int .i64 x.f3, .int .i64 x.f4], rfl, rfl, ⟨[.string x.f1], [.string x.f2, .int .i64 x.f3, .int .i64 x.f4], rfl, rfl, ⟨[.string x.f2], [.int .i64 x.f3, .int .i64 x.f4], rfl, rfl, ⟨[.int .i64 x.f3], [.int .i64 x.f4], rfl, rfl, rfl⟩⟩⟩⟩
theorem k69_mkM (w : World) (base : Nat) (ok : Nat → Prop) (x : S69)  : k69.M w base ok x [.int .i64 x.f0, .string x.f1, .string x.f2, .int .i64 x.f3, .int .i64 x.f4] := ⟨[.int .i64 x.f0], [.string x.f1, .string x.f2, .int .i64 x.f3, .int .i64 x.f4], rfl, rfl, ⟨[.string x.f1], [.string x.f2, .int .i64 x.f3, .int .i64 x.f4], rfl, rfl, ⟨[.string x.f2], [.int .i64 x.f3, .int .i64 x.f4], rfl, rfl, ⟨[.int .i64 x.f3], [.int .i64 x.f4], rfl, rfl, rfl⟩⟩⟩⟩
def rd_T69 (xs : List S69) (i : Int) : S69 := xs.getD i.toNat z69
theorem at_T69 {w : World} {A : Option Addr} {n : Nat} {xs : List S69} (h : Kd.C k69 w A n xs) (i : Int) (h0 : 0 ≤ i) (h1 : i < n) : ∃ ad , A = some ad ∧ w.cell? (ad.add (i.toNat * 5)) = some (.int .i64 (rd_T69 xs i).f0) ∧ w.cell? ⟨(ad.add (i.toNat * 5)).block, (ad.add (i.toNat * 5)).off + 1, none⟩ = some (.string (rd_T69 xs i).f1) ∧ w.cell? ⟨(ad.add (i.toNat * 5)).block, (ad.add (i.toNat * 5)).off + 2, none⟩ = some (.string (rd_T69 xs i).f2) ∧ w.cell? ⟨(ad.add (i.toNat * 5)).block, (ad.add (i.toNat * 5)).off + 3, none⟩ = some (.int .i64 (rd_T69 xs i).f3) ∧ w.cell? ⟨(ad.add (i.toNat * 5)).block, (ad.add (i.toNat * 5)).off + 4, none⟩ = some (.int .i64 (rd_T69 xs i).f4) := by
  obtain ⟨ad, c, e, _, hK, hc0⟩ := Kd.C_get h z69 i h0 h1
  have hc : ∀ j u, c[j]? = some u → w.cell? (ad.add (i.toNat * 5 + j)) = some u := hc0
  obtain rfl := k69_open hK
  exact ⟨ad, e, hc 0 _ rfl, by rw [← add_field _ _ 1 (by omega)]; exact hc 1 _ rfl, by rw [← add_field _ _ 2 (by omega)]; exact hc 2 _ rfl, by rw [← add_field _ _ 3 (by omega)]; exact hc 3 _ rfl, by rw [← add_field _ _ 4 (by omega)]; exact hc 4 _ rfl⟩

/-! #### struct type 93 -/
structure S93 where
  f0 : Int
  f1 : Int
  f2 : Int
  f3 : Int
  f4 : Int
  f5 : Bool
  f6 : Bool
  f7 : ByteArray
  f8 : ByteArray
  f9 : ByteArray
def z93 : S93 := ⟨(0 : Int), (0 : Int), (0 : Int), (0 : Int), (0 : Int), false, false, (⟨#[]⟩ : ByteArray), (⟨#[]⟩ : ByteArray), (⟨#[]⟩ : ByteArray)⟩
def k93 : Kd S93 := Kd.iso (Kd.pair (Kd.int .i64) (Kd.pair (Kd.int .i64) (Kd.pair (Kd.int .i64) (Kd.pair (Kd.int .i64) (Kd.pair (Kd.int .i64) (Kd.pair Kd.bool (Kd.pair Kd.bool (Kd.pair Kd.string (Kd.pair Kd.string Kd.string))))))))) (fun x : S93 => (x.f0, x.f1, x.f2, x.f3, x.f4, x.f5, x.f6, x.f7, x.f8, x.f9))
theorem k93_open {w : World} {x : S93} {cs : List Value} (h : k93.K w x cs) : cs = [.int .i64 x.f0, .int .i64 x.f1, .int .i64 x.f2, .int .i64 x.f3, .int .i64 x.f4, .bool x.f5, .bool x.f6, .string x.f7, .string x.f8, .string x.f9] := by
  obtain ⟨_, _, rfl, rfl, ⟨_, _, rfl, rfl, ⟨_, _, rfl, rfl, ⟨_, _, rfl, rfl, ⟨_, _, rfl, rfl, ⟨_, _, rfl, rfl, ⟨_, _, rfl, rfl, ⟨_, _, rfl, rfl, ⟨_, _, rfl, rfl, rfl⟩⟩⟩⟩⟩⟩⟩⟩⟩ := h
  exact rfl
theorem k93_openM {w : World} {base : Nat} {ok : Nat → Prop} {x : S93} {cs : List Value} (h : k93.M w base ok x cs) : cs = [.int .i64 x.f0, .int .i64 x.f1, .int .i64 x.f2, .int .i64 x.f3, .int .i64 x.f4, .bool x.f5, .bool x.f6, .string x.f7, .string x.f8, .string x.f9] := by
  obtain ⟨_, _, rfl, rfl, ⟨_, _, rfl, rfl, ⟨_, _, rfl, rfl, ⟨_, _, rfl, rfl, ⟨_, _, rfl, rfl, ⟨_, _, rfl, rfl, ⟨_, _, rfl, rfl, ⟨_, _, rfl, rfl, ⟨_, _, rfl, rfl, rfl⟩⟩⟩⟩⟩⟩⟩⟩⟩ := h
  exact rfl
theorem k93_mk (w : World) (x : S93)  : k93.K w x [.int .i64 x.f0, .int .i64 x.f1, .int .i64 x.f2, .int .i64 x.f3, .int .i64 x.f4, .bool x.f5, .bool x.f6, .string x.f7, .string x.f8, .string x.f9] := ⟨[.int .i64 x.f0], [.int .i64 x.f1, .int .i64 x.f2, .int .i64 x.f3, .int .i64 x.f4, .bool x.f5, .bool x.f6, .string x.f7, .string x.f8, .string x.f9], rfl, rfl, ⟨[.int .i64 x.f1], [.int .i64 x.f2, .int .i64 x.f3, .int .i64 x.f4, .bool x.f5, .bool x.f6, .string x.f7, .string x.f8, .string x.f9], rfl, rfl, ⟨[.int .i64 x.f2], [.int .i64 x.f3, .int .i64 x.f4, .bool x.f5, .bool x.f6, .string x.f7, .string x.f8, .string x.f9], rfl, rfl, ⟨[.int .i64 x.f3], [.int .i64 x.f4, .bool x.f5, .bool x.f6, .string x.f7, .string x.f8, .string x.f9], rfl, rfl, ⟨[.int .i64 x.f4], [.bool x.f5, .bool x.f6, .string x.f7, .string x.f8, .string x.f9], rfl, rfl, ⟨[.bool x.f5], [.bool x.f6, .string x.f7, .string x.f8, .string x.f9], rfl, rfl, ⟨[.bool x.f6], [.string x.f7, .string x.f8, .string x.f9], rfl, rfl, ⟨[.string x.f7], [.string x.f8, .string x.f9], rfl, rfl, ⟨[.string x.f8], [.string x.f9], rfl, rfl, rfl⟩⟩⟩⟩⟩⟩⟩⟩⟩
theorem k93_mkM (w : World) (base : Nat) (ok : Nat → Prop) (x : S93)  : k93.M w base ok x [.int .i64 x.f0, .int .i64 x.f1, .int .i64 x.f2, .int .i64 x.f3, .int .i64 x.f4, .bool x.f5, .bool x.f6, .string x.f7, .string x.f8, .string x.f9] := ⟨[.int .i64 x.f0], [.int .i64 x.f1, .int .i64 x.f2, .int .i64 x.f3, .int .i64 x.f4, .bool x.f5, .bool x.f6, .string x.f7, .string x.f8, .string x.f9], rfl, rfl, ⟨[.int .i64 x.f1], [.int .i64 x.f2, .int .i64 x.f3, .int .i64 x.f4, .bool x.f5, .bool x.f6, .string x.f7, .string x.f8, .string x.f9], rfl, rfl, ⟨[.int .i64 x.f2], [.int .i64 x.f3, .int .i64 x.f4, .bool x.f5, .bool x.f6, .string x.f7, .string x.f8, .string x.f9], rfl, rfl, ⟨[.int .i64 x.f3], [.int .i64 x.f4, .bool x.f5, .bool x.f6, .string x.f7, .string x.f8, .string x.f9], rfl, rfl, ⟨[.int .i64 x.f4], [.bool x.f5, .bool x.f6, .string x.f7, .string x.f8, .string x.f9], rfl, rfl, ⟨[.bool x.f5], [.bool x.f6, .string x.f7, .string x.f8, .string x.f9], rfl, rfl, ⟨[.bool x.f6], [.string x.f7, .string x.f8, .string x.f9], rfl, rfl, ⟨[.string x.f7], [.string x.f8, .string x.f9], rfl, rfl, ⟨[.string x.f8], [.string x.f9], rfl, rfl, rfl⟩⟩⟩⟩⟩⟩⟩⟩⟩
def rd_T93 (xs : List S93) (i : Int) : S93 := xs.getD i.toNat z93
theorem at_T93 {w : World} {A : Option Addr} {n : Nat} {xs : List S93} (h : Kd.C k93 w A n xs) (i : Int) (h0 : 0 ≤ i) (h1 : i < n) : ∃ ad , A = some ad ∧ w.cell? (ad.add (i.toNat * 10)) = some (.int .i64 (rd_T93 xs i).f0) ∧ w.cell? ⟨(ad.add (i.toNat * 10)).block, (ad.add (i.toNat * 10)).off + 1, none⟩ = some (.int .i64 (rd_T93 xs i).f1) ∧ w.cell? ⟨(ad.add (i.toNat * 10)).block, (ad.add (i.toNat * 10)).off + 2, none⟩ = some (.int .i64 (rd_T93 xs i).f2) ∧ w.cell? ⟨(ad.add (i.toNat * 10)).block, (ad.add (i.toNat * 10)).off + 3, none⟩ = some (.int .i64 (rd_T93 xs i).f3) ∧ w.cell? ⟨(ad.add (i.toNat * 10)).block, (ad.add (i.toNat * 10)).off + 4, none⟩ = some (.int .i64 (rd_T93 xs i).f4) ∧ w.cell? ⟨(ad.add (i.toNat * 10)).block, (ad.add (i.toNat * 10)).off + 5, none⟩ = some (.bool (rd_T93 xs i).f5) ∧ w.cell? ⟨(ad.add (i.toNat * 10)).block, (ad.add (i.toNat * 10)).off + 6, none⟩ = some (.bool (rd_T93 xs i).f6) ∧ w.cell? ⟨(ad.add (i.toNat * 10)).block, (ad.add (i.toNat * 10)).off + 7, none⟩ = some (.string (rd_T93 xs i).f7) ∧ w.cell? ⟨(ad.add (i.toNat * 10)).block, (ad.add (i.toNat * 10)).off + 8, none⟩ = some (.string (rd_T93 xs i).f8) ∧ w.cell? ⟨(ad.add (i.toNat * 10)).block, (ad.add (i.toNat * 10)).off + 9, none⟩ = some (.string (rd_T93 xs i).f9) := by
  obtain ⟨ad, c, e, _, hK, hc0⟩ := Kd.C_get h z93 i h0 h1
  have hc : ∀ j u, c[j]? = some u → w.cell? (ad.add (i.toNat * 10 + j)) = some u := hc0
  obtain rfl := k93_open hK
  exact ⟨ad, e, hc 0 _ rfl, by rw [← add_field _ _ 1 (by omega)]; exact hc 1 _ rfl, by rw [← add_field _ _ 2 (by omega)]; exact hc 2 _ rfl, by rw [← add_field _ _ 3 (by omega)]; exact hc 3 _ rfl, by rw [← add_field _ _ 4 (by omega)]; exact hc 4 _ rfl, by rw [← add_field _ _ 5 (by omega)]; exact hc 5 _ rfl, by rw [← add_field _ _ 6 (by omega)]; exact hc 6 _ rfl, by rw [← add_field _ _ 7 (by omega)]; exact hc 7 _ rfl, by rw [← add_field _ _ 8 (by omega)]; exact hc 8 _ rfl, by rw [← add_field _ _ 9 (by omega)]; exact hc 9 _ rfl⟩

/-! #### struct type 102 -/
structure S102 where
  f0 : Int
  f1 : Int
  f2 : ByteArray
def z102 : S102 := ⟨(0 : Int), (0 : Int), (⟨#[]⟩ : ByteArray)⟩
def k102 : Kd S102 := Kd.iso (Kd.pair (Kd.int .i64) (Kd.pair (Kd.int .i64) Kd.string)) (fun x : S102 => (x.f0, x.f1, x.f2))
theorem k102_open {w : World} {x : S102} {cs : List Value} (h : k102.K w x cs) : cs = [.int .i64 x.f0, .int .i64 x.f1, .string x.f2] := by
  obtain ⟨_, _, rfl, rfl, ⟨_, _, rfl, rfl, rfl⟩⟩ := h
  exact rfl
theorem k102_openM {w : World} {base : Nat} {ok : Nat → Prop} {x : S102} {cs : List Value} (h : k102.M w base ok x cs) : cs = [.int .i64 x.f0, .int .i64 x.f1, .string x.f2] := by
  obtain ⟨_, _, rfl, rfl, ⟨_, _, rfl, rfl, rfl⟩⟩ := h
  exact rfl
theorem k102_mk (w : World) (x : S102)  : k102.K w x [.int .i64 x.f0, .int .i64 x.f1, .string x.f2] := ⟨[.int .i64 x.f0], [.int .i64 x.f1, .string x.f2], rfl, rfl, ⟨[.int .i64 x.f1], [.string x.f2], rfl, rfl, rfl⟩⟩
theorem k102_mkM (w : World) (base : Nat) (ok : Nat → Prop) (x : S102)  : k102.M w base ok x [.int .i64 x.f0, .int .i64 x.f1, .string x.f2] := ⟨[.int .i64 x.f0], [.int .i64 x.f1, .string x.f2], rfl, rfl, ⟨[.int .i64 x.f1], [.string x.f2], rfl, rfl, rfl⟩⟩
def rd_T102 (xs : List S102) (i : Int) : S102 := xs.getD i.toNat z102
theorem at_T102 {w : World} {A : Option Addr} {n : Nat} {xs : List S102} (h : Kd.C k102 w A n xs) (i : Int) (h0 : 0 ≤ i) (h1 : i < n) : ∃ ad , A = some ad ∧ w.cell? (ad.add (i.toNat * 3)) = some (.int .i64 (rd_T102 xs i).f0) ∧ w.cell? ⟨(ad.add (i.toNat * 3)).block, (ad.add (i.toNat * 3)).off + 1, none⟩ = some (.int .i64 (rd_T102 xs i).f1) ∧ w.cell? ⟨(ad.add (i.toNat * 3)).block, (ad.add (i.toNat * 3)).off + 2, none⟩ = some (.string (rd_T102 xs i).f2) := by
  obtain ⟨ad, c, e, _, hK, hc0⟩ := Kd.C_get h z102 i h0 h1
  have hc : ∀ j u, c[j]? = some u → w.cell? (ad.add (i.toNat * 3 + j)) = some u := hc0
  obtain rfl := k102_open hK
  exact ⟨ad, e, hc 0 _ rfl, by rw [← add_field _ _ 1 (by omega)]; exact hc 1 _ rfl, by rw [← add_field _ _ 2 (by omega)]; exact hc 2 _ rfl⟩

/-! #### struct type 114 -/
structure S114 where
  f0 : Int
  f1 : Int
  f2 : Int
  f3 : Int
  f4 : ByteArray
  f5 : ByteArray
def z114 : S114 := ⟨(0 : Int), (0 : Int), (0 : Int), (0 : Int), (⟨#[]⟩ : ByteArray), (⟨#[]⟩ : ByteArray)⟩
def k114 : Kd S114 := Kd.iso (Kd.pair (Kd.int .i64) (Kd.pair (Kd.int .i64) (Kd.pair (Kd.int .i64) (Kd.pair (Kd.int .i64) (Kd.pair Kd.string Kd.string))))) (fun x : S114 => (x.f0, x.f1, x.f2, x.f3, x.f4, x.f5))
theorem k114_open {w : World} {x : S114} {cs : List Value} (h : k114.K w x cs) : cs = [.int .i64 x.f0, .int .i64 x.f1, .int .i64 x.f2, .int .i64 x.f3, .string x.f4, .string x.f5] := by
  obtain ⟨_, _, rfl, rfl, ⟨_, _, rfl, rfl, ⟨_, _, rfl, rfl, ⟨_, _, rfl, rfl, ⟨_, _, rfl, rfl, rfl⟩⟩⟩⟩⟩ := h
  exact rfl
theorem k114_openM {w : World} {base : Nat} {ok : Nat → Prop} {x : S114} {cs : List Value} (h : k114.M w base ok x cs) : cs = [.int .i64 x.f0, .int .i64 x.f1, .int .i64 x.f2, .int .i64 x.f3, .string x.f4, .string x.f5] := by
  obtain ⟨_, _, rfl, rfl, ⟨_, _, rfl, rfl, ⟨_, _, rfl, rfl, ⟨_, _, rfl, rfl, ⟨_, _, rfl, rfl, rfl⟩⟩⟩⟩⟩ := h
  exact rfl
theorem k114_mk (w : World) (x : S114)  : k114.K w x [.int .i64 x.f0, .int .i64 x.f1, .int .i64 x.f2, .int .i64 x.f3, .string x.f4, .string x.f5] := ⟨[.int .i64 x.f0], [.int .i64 x.f1, .int .i64 x.f2, .int .i64 x.f3, .string x.f4, .string x.f5], rfl, rfl, ⟨[.int .i64 x.f1], [.int .i64 x.f2, .int .i64 x.f3, .string x.f4, .string x.f5], rfl, rfl, ⟨[.int .i64 x.f2], [.int .i64 x.f3, .string x.f4, .string x.f5], rfl, rfl, ⟨[.int .i64 x.f3], [.string x.f4, .string x.f5], rfl, rfl, ⟨[.string x.f4], [.string x.f5], rfl, rfl, rfl⟩⟩⟩⟩⟩
theorem k114_mkM (w : World) (base : Nat) (ok : Nat → Prop) (x : S114)  : k114.M w base ok x [.int .i64 x.f0, .int .i64 x.f1, .int .i64 x.f2, .int .i64 x.f3, .string x.f4, .string x.f5] := ⟨[.int .i64 x.f0], [.int .i64 x.f1, .int .i64 x.f2, .int .i64 x.f3, .string x.f4, .string x.f5], rfl, rfl, ⟨[.int .i64 x.f1], [.int .i64 x.f2, .int .i64 x.f3, .string x.f4, .string x.f5], rfl, rfl, ⟨[.int .i64 x.f2], [.int .i64 x.f3, .string x.f4, .string x.f5], rfl, rfl, ⟨[.int .i64 x.f3], [.string x.f4, .string x.f5], rfl, rfl, ⟨[.string x.f4], [.string x.f5], rfl, rfl, rfl⟩⟩⟩⟩⟩
def rd_T114 (xs : List S114) (i : Int) : S114 := xs.getD i.toNat z114
theorem at_T114 {w : World} {A : Option Addr} {n : Nat} {xs : List S114} (h : Kd.C k114 w A n xs) (i : Int) (h0 : 0 ≤ i) (h1 : i < n) : ∃ ad , A = some ad ∧ w.cell? (ad.add (i.toNat * 6)) = some (.int .i64 (rd_T114 xs i).f0) ∧ w.cell? ⟨(ad.add (i.toNat * 6)).block, (ad.add (i.toNat * 6)).off + 1, none⟩ = some (.int .i64 (rd_T114 xs i).f1) ∧ w.cell? ⟨(ad.add (i.toNat * 6)).block, (ad.add (i.toNat * 6)).off + 2, none⟩ = some (.int .i64 (rd_T114 xs i).f2) ∧ w.cell? ⟨(ad.add (i.toNat * 6)).block, (ad.add (i.toNat * 6)).off + 3, none⟩ = some (.int .i64 (rd_T114 xs i).f3) ∧ w.cell? ⟨(ad.add (i.toNat * 6)).block, (ad.add (i.toNat * 6)).off + 4, none⟩ = some (.string (rd_T114 xs i).f4) ∧ w.cell? ⟨(ad.add (i.toNat * 6)).block, (ad.add (i.toNat * 6)).off + 5, none⟩ = some (.string (rd_T114 xs i).f5) := by
  obtain ⟨ad, c, e, _, hK, hc0⟩ := Kd.C_get h z114 i h0 h1
  have hc : ∀ j u, c[j]? = some u → w.cell? (ad.add (i.toNat * 6 + j)) = some u := hc0
  obtain rfl := k114_open hK
  exact ⟨ad, e, hc 0 _ rfl, by rw [← add_field _ _ 1 (by omega)]; exact hc 1 _ rfl, by rw [← add_field _ _ 2 (by omega)]; exact hc 2 _ rfl, by rw [← add_field _ _ 3 (by omega)]; exact hc 3 _ rfl, by rw [← add_field _ _ 4 (by omega)]; exact hc 4 _ rfl, by rw [← add_field _ _ 5 (by omega)]; exact hc 5 _ rfl⟩

/-! #### struct type 127 -/
structure S127 where
  f0 : Int
  f1 : Int
  f2 : Int
  f3 : Int
  f4 : Int
  f5 : Int
  f6 : Int
  f7 : ByteArray
  f8 : ByteArray
def z127 : S127 := ⟨(0 : Int), (0 : Int), (0 : Int), (0 : Int), (0 : Int), (0 : Int), (0 : Int), (⟨#[]⟩ : ByteArray), (⟨#[]⟩ : ByteArray)⟩
def k127 : Kd S127 := Kd.iso (Kd.pair (Kd.int .i64) (Kd.pair (Kd.int .i64) (Kd.pair (Kd.int .u32) (Kd.pair (Kd.int .u32) (Kd.pair (Kd.int .i64) (Kd.pair (Kd.int .i64) (Kd.pair (Kd.int .i64) (Kd.pair Kd.string Kd.string)))))))) (fun x : S127 => (x.f0, x.f1, x.f2, x.f3, x.f4, x.f5, x.f6, x.f7, x.f8))
theorem k127_open {w : World} {x : S127} {cs : List Value} (h : k127.K w x cs) : cs = [.int .i64 x.f0, .int .i64 x.f1, .int .u32 x.f2, .int .u32 x.f3, .int .i64 x.f4, .int .i64 x.f5, .int .i64 x.f6, .string x.f7, .string x.f8] := by
  obtain ⟨_, _, rfl, rfl, ⟨_, _, rfl, rfl, ⟨_, _, rfl, rfl, ⟨_, _, rfl, rfl, ⟨_, _, rfl, rfl, ⟨_, _, rfl, rfl, ⟨_, _, rfl, rfl, ⟨_, _, rfl, rfl, rfl⟩⟩⟩⟩⟩⟩⟩⟩ := h
  exact rfl
theorem k127_openM {w : World} {base : Nat} {ok : Nat → Prop} {x : S127} {cs : List Value} (h : k127.M w base ok x cs) : cs = [.int .i64 x.f0, .int .i64 x.f1, .int .u32 x.f2, .int .u32 x.f3, .int .i64 x.f4, .int .i64 x.f5, .int .i64 x.f6, .string x.f7, .string x.f8] := by
  obtain ⟨_, _, rfl, rfl, ⟨_, _, rfl, rfl, ⟨_, _, rfl, rfl, ⟨_, _, rfl, rfl, ⟨_, _, rfl, rfl, ⟨_, _, rfl, rfl, ⟨_, _, rfl, rfl, ⟨_, _, rfl, rfl, rfl⟩⟩⟩⟩⟩⟩⟩⟩ := h
  exact rfl
theorem k127_mk (w : World) (x : S127)  : k127.K w x [.int .i64 x.f0, .int .i64 x.f1, .int .u32 x.f2, .int .u32 x.f3, .int .i64 x.f4, .int .i64 x.f5, .int .i64 x.f6, .string x.f7, .string x.f8] := ⟨[.int .i64 x.f0], [.int .i64 x.f1, .int .u32 x.f2, .int .u32 x.f3, .int .i64 x.f4, .int .i64 x.f5, .int .i64 x.f6, .string x.f7, .string x.f8], rfl, rfl, ⟨[.int .i64 x.f1], [.int .u32 x.f2, .int .u32 x.f3, .int .i64 x.f4, .int .i64 x.f5, .int .i64 x.f6, .string x.f7, .string x.f8], rfl, rfl, ⟨[.int .u32 x.f2], [.int .u32 x.f3, .int .i64 x.f4, .int .i64 x.f5, .int .i64 x.f6, .string x.f7, .string x.f8], rfl, rfl, ⟨[.int .u32 x.f3], [.int .i64 x.f4, .int .i64 x.f5, .int .i64 x.f6, .string x.f7, .string x.f8], rfl, rfl, ⟨[.int .i64 x.f4], [.int .i64 x.f5, .int .i64 x.f6, .string x.f7, .string x.f8], rfl, rfl, ⟨[.int .i64 x.f5], [.int .i64 x.f6, .string x.f7, .string x.f8], rfl, rfl, ⟨[.int .i64 x.f6], [.string x.f7, .string x.f8], rfl, rfl, ⟨[.string x.f7], [.string x.f8], rfl, rfl, rfl⟩⟩⟩⟩⟩⟩⟩⟩
theorem k127_mkM (w : World) (base : Nat) (ok : Nat → Prop) (x : S127)  : k127.M w base ok x [.int .i64 x.f0, .int .i64 x.f1, .int .u32 x.f2, .int .u32 x.f3, .int .i64 x.f4, .int .i64 x.f5, .int .i64 x.f6, .string x.f7, .string x.f8] := ⟨[.int .i64 x.f0], [.int .i64 x.f1, .int .u32 x.f2, .int .u32 x.f3, .int .i64 x.f4, .int .i64 x.f5, .int .i64 x.f6, .string x.f7, .string x.f8], rfl, rfl, ⟨[.int .i64 x.f1], [.int .u32 x.f2, .int .u32 x.f3, .int .i64 x.f4, .int .i64 x.f5, .int .i64 x.f6, .string x.f7, .string x.f8], rfl, rfl, ⟨[.int .u32 x.f2], [.int .u32 x.f3, .int .i64 x.f4, .int .i64 x.f5, .int .i64 x.f6, .string x.f7, .string x.f8], rfl, rfl, ⟨[.int .u32 x.f3], [.int .i64 x.f4, .int .i64 x.f5, .int .i64 x.f6, .string x.f7, .string x.f8], rfl, rfl, ⟨[.int .i64 x.f4], [.int .i64 x.f5, .int .i64 x.f6, .string x.f7, .string x.f8], rfl, rfl, ⟨[.int .i64 x.f5], [.int .i64 x.f6, .string x.f7, .string x.f8], rfl, rfl, ⟨[.int .i64 x.f6], [.string x.f7, .string x.f8], rfl, rfl, ⟨[.string x.f7], [.string x.f8], rfl, rfl, rfl⟩⟩⟩⟩⟩⟩⟩⟩
def rd_T127 (xs : List S127) (i : Int) : S127 := xs.getD i.toNat z127
theorem at_T127 {w : World} {A : Option Addr} {n : Nat} {xs : List S127} (h : Kd.C k127 w A n xs) (i : Int) (h0 : 0 ≤ i) (h1 : i < n) : ∃ ad , A = some ad ∧ w.cell? (ad.add (i.toNat * 9)) = some (.int .i64 (rd_T127 xs i).f0) ∧ w.cell? ⟨(ad.add (i.toNat * 9)).block, (ad.add (i.toNat * 9)).off + 1, none⟩ = some (.int .i64 (rd_T127 xs i).f1) ∧ w.cell? ⟨(ad.add (i.toNat * 9)).block, (ad.add (i.toNat * 9)).off + 2, none⟩ = some (.int .u32 (rd_T127 xs i).f2) ∧ w.cell? ⟨(ad.add (i.toNat * 9)).block, (ad.add (i.toNat * 9)).off + 3, none⟩ = some (.int .u32 (rd_T127 xs i).f3) ∧ w.cell? ⟨(ad.add (i.toNat * 9)).block, (ad.add (i.toNat * 9)).off + 4, none⟩ = some (.int .i64 (rd_T127 xs i).f4) ∧ w.cell? ⟨(ad.add (i.toNat * 9)).block, (ad.add (i.toNat * 9)).off + 5, none⟩ = some (.int .i64 (rd_T127 xs i).f5) ∧ w.cell? ⟨(ad.add (i.toNat * 9)).block, (ad.add (i.toNat * 9)).off + 6, none⟩ = some (.int .i64 (rd_T127 xs i).f6) ∧ w.cell? ⟨(ad.add (i.toNat * 9)).block, (ad.add (i.toNat * 9)).off + 7, none⟩ = some (.string (rd_T127 xs i).f7) ∧ w.cell? ⟨(ad.add (i.toNat * 9)).block, (ad.add (i.toNat * 9)).off + 8, none⟩ = some (.string (rd_T127 xs i).f8) := by
  obtain ⟨ad, c, e, _, hK, hc0⟩ := Kd.C_get h z127 i h0 h1
  have hc : ∀ j u, c[j]? = some u → w.cell? (ad.add (i.toNat * 9 + j)) = some u := hc0
  obtain rfl := k127_open hK
  exact ⟨ad, e, hc 0 _ rfl, by rw [← add_field _ _ 1 (by omega)]; exact hc 1 _ rfl, by rw [← add_field _ _ 2 (by omega)]; exact hc 2 _ rfl, by rw [← add_field _ _ 3 (by omega)]; exact hc 3 _ rfl, by rw [← add_field _ _ 4 (by omega)]; exact hc 4 _ rfl, by rw [← add_field _ _ 5 (by omega)]; exact hc 5 _ rfl, by rw [← add_field _ _ 6 (by omega)]; exact hc 6 _ rfl, by rw [← add_field _ _ 7 (by omega)]; exact hc 7 _ rfl, by rw [← add_field _ _ 8 (by omega)]; exact hc 8 _ rfl⟩

end Go.Proofs.Ytejmipoolbodgaa.G
end

section
namespace Go.Proofs.Ytejmipoolbodgaa.G
open Go.RowKit Go.Proofs.YtejmipoolbodgaaW.PrintWords Go.Proofs.YtejmipoolbodgaaW.PrintLast Go.Proofs.YtejmipoolbodgaaW.PrintMore
attribute [local go_sem] max2_int min2_int max_two min_two max_three min_three max_four min_four   -- for this text's walks alone
set_option linter.unusedVariables false
set_option linter.unusedSimpArgs false

theorem eqA127 (d : Nat) (w : World) (x0 y0 : Int) (x1 y1 : Int) (x2 y2 : Int) (x3 y3 : Int) (x4 y4 : Int) (x5 y5 : Int) (x6 y6 : Int) (x7 y7 : ByteArray) (x8 y8 : ByteArray) :
    (Op.equalIn (d + 2) 127 (.agg #[.int .i64 x0, .int .i64 x1, .int .u32 x2, .int .u32 x3, .int .i64 x4, .int .i64 x5, .int .i64 x6, .string x7, .string x8]) (.agg #[.int .i64 y0, .int .i64 y1, .int .u32 y2, .int .u32 y3, .int .i64 y4, .int .i64 y5, .int .i64 y6, .string y7, .string y8])).run Try.prog w = .ok (x0 == y0 && (x1 == y1 && (x2 == y2 && (x3 == y3 && (x4 == y4 && (x5 == y5 && (x6 == y6 && (x7.toList == y7.toList && (x8.toList == y8.toList))))))))) w := by
  refine eqA_of Try.underlying127 (by kernel_rfl) ?_
  refine eqf_cons (by rfl) (by go_simp; rfl) (by go_simp; rfl) (by go_simp) ?_
  refine eqf_cons (by rfl) (by go_simp; rfl) (by go_simp; rfl) (by go_simp) ?_
  refine eqf_cons (by rfl) (by go_simp; rfl) (by go_simp; rfl) (by go_simp) ?_
  refine eqf_cons (by rfl) (by go_simp; rfl) (by go_simp; rfl) (by go_simp) ?_
  refine eqf_cons (by rfl) (by go_simp; rfl) (by go_simp; rfl) (by go_simp) ?_
  refine eqf_cons (by rfl) (by go_simp; rfl) (by go_simp; rfl) (by go_simp) ?_
  refine eqf_cons (by rfl) (by go_simp; rfl) (by go_simp; rfl) (by go_simp) ?_
  refine eqf_cons (by rfl) (by go_simp; rfl) (by go_simp; rfl) (by go_simp) ?_
  exact eqf_last (by rfl) (by go_simp; rfl) (by go_simp; rfl) (by go_simp)
end Go.Proofs.Ytejmipoolbodgaa.G
end

section
/- Plain facts on bit operations of Go's whole numbers, at numbers that are not negative. No program in it. -/
namespace Go.Proofs.Ytejmipoolbodgaa.Pal
theorem wraps_i64 (n : Int) (h₀ : 0 ≤ n) (h₁ : n < 2 ^ 63) : IntKind.i64.wrap n = n := by rw [IntKind.wrap_i64]; omega
theorem wraps_u64 (n : Int) (h₀ : 0 ≤ n) (h₁ : n < 2 ^ 64) : IntKind.u64.wrap n = n := by rw [IntKind.wrap_u64]; omega
theorem wraps_u32 (n : Int) (h₀ : 0 ≤ n) (h₁ : n < 2 ^ 32) : IntKind.u32.wrap n = n := by rw [IntKind.wrap_u32]; omega
theorem i64_and (a b : Nat) (ha : a < 2 ^ 63) (hb : b < 2 ^ 63) : Go.bits .and .i64 (a : Int) (b : Int) = ((a &&& b : Nat) : Int) := (bits_nat .i64 63 (by decide) wraps_i64 a b ha hb).1
theorem i64_or (a b : Nat) (ha : a < 2 ^ 63) (hb : b < 2 ^ 63) : Go.bits .or .i64 (a : Int) (b : Int) = ((a ||| b : Nat) : Int) := (bits_nat .i64 63 (by decide) wraps_i64 a b ha hb).2
theorem i64_xor (a b : Nat) (ha : a < 2 ^ 63) (hb : b < 2 ^ 63) : Go.bits .xor .i64 (a : Int) (b : Int) = ((a ^^^ b : Nat) : Int) := by
  have ha' : a % 2 ^ IntKind.i64.bits = a := Nat.mod_eq_of_lt (Nat.lt_of_lt_of_le ha (by decide))
  have hb' : b % 2 ^ IntKind.i64.bits = b := Nat.mod_eq_of_lt (Nat.lt_of_lt_of_le hb (by decide))
  have hx := Nat.xor_lt_two_pow ha hb
  simp only [Go.bits, BitVec.ofInt_natCast, BitVec.toNat_xor, BitVec.toNat_ofNat, ha', hb']
  exact wraps_i64 _ (Int.natCast_nonneg _) (by exact_mod_cast hx)
theorem u64_and' (a b : Nat) (ha : a < 2 ^ 64) (hb : b < 2 ^ 64) : Go.bits .and .u64 (a : Int) (b : Int) = ((a &&& b : Nat) : Int) := (bits_nat .u64 64 (by decide) wraps_u64 a b ha hb).1
/-- A mask of the lowest bits. -/
theorem i64_mask (i : Nat) (hi : i ≤ 62) (x : Int) (h0 : 0 ≤ x) (h1 : x < 2 ^ 63) : Go.bits .and .i64 x (2 ^ i - 1) = x % 2 ^ i := bits_mask .i64 63 (by decide) wraps_i64 i (by omega) x h0 h1
theorem xor_ones (n : Nat) (h : n < 65536) : n ^^^ 65535 = 65535 - n := by
  have e := BitVec.toNat_not (x := BitVec.ofNat 16 n)
  rw [← BitVec.xor_allOnes, BitVec.toNat_xor, BitVec.toNat_ofNat, BitVec.toNat_allOnes] at e
  rw [Nat.mod_eq_of_lt (show n < 2 ^ 16 from h)] at e
  have h2 : (2 : Nat) ^ 16 - 1 = 65535 := by decide
  rw [h2] at e
  rw [e]
theorem i64_xor_ones (n : Nat) (h : n < 65536) : Go.bits .xor .i64 (n : Int) 65535 = ((65535 - n : Nat) : Int) := by
  have e := i64_xor n 65535 (by omega) (by decide)
  rw [xor_ones n h] at e
  exact e
end Go.Proofs.Ytejmipoolbodgaa.Pal
end

section
/- Plain theory of the Internet's checksum: weights of bytes, folding to 16 bits. No program in it. -/
namespace Go.Proofs.Ytejmipoolbodgaa.Pal
/-- A text's bytes. -/
def bl (s : ByteArray) : List UInt8 := s.data.toList
/-- The sum of 16-bit numbers, high byte first; `o`: the next byte is a low one. -/
def tot : Bool → List UInt8 → Nat
  | _, [] => 0
  | false, b :: r => b.toNat * 256 + tot true r
  | true, b :: r => b.toNat + tot false r
/-- Folded to 16 bits. -/
def fold16 (n : Nat) : Nat := if n = 0 then 0 else (n - 1) % 65535 + 1
/-- The checksum of bytes. -/
def csum (l : List UInt8) : Nat := 65535 - fold16 (tot false l)
def odd (l : List UInt8) : Bool := l.length % 2 == 1
theorem bl_length (s : ByteArray) : (bl s).length = s.size := by simp [bl]
theorem bl_append (a b : ByteArray) : bl (a ++ b) = bl a ++ bl b := by simp [bl]
theorem fold16_le (n : Nat) : fold16 n ≤ 65535 := by unfold fold16; split <;> omega
theorem fold16_id (n : Nat) (h : n ≤ 65535) : fold16 n = n := by unfold fold16; split <;> omega
theorem fold16_step (n : Nat) : fold16 (n % 65536 + n / 65536) = fold16 n := by unfold fold16; split <;> split <;> omega
theorem tot_append (a b : List UInt8) : ∀ o, tot o (a ++ b) = tot o a + tot (o != odd a) b := by
  induction a with
  | nil => intro o; cases o <;> simp [tot, odd]
  | cons x a ih =>
    intro o
    have hp : odd (x :: a) = !odd a := by
      unfold odd
      rw [List.length_cons]
      rcases Nat.mod_two_eq_zero_or_one a.length with h | h
      · have : (a.length + 1) % 2 = 1 := by omega
        rw [h, this]; rfl
      · have : (a.length + 1) % 2 = 0 := by omega
        rw [h, this]; rfl
    cases o
    · simp only [List.cons_append, tot, ih, hp]; cases odd a <;> simp <;> omega
    · simp only [List.cons_append, tot, ih, hp]; cases odd a <;> simp <;> omega
theorem tot_snoc (a : List UInt8) (x : UInt8) : tot false (a ++ [x]) = tot false a + (if odd a then x.toNat else x.toNat * 256) := by
  rw [tot_append]; cases odd a <;> simp [tot]
theorem odd_snoc (a : List UInt8) (x : UInt8) : odd (a ++ [x]) = !odd a := by
  unfold odd
  rw [List.length_append, List.length_singleton]
  rcases Nat.mod_two_eq_zero_or_one a.length with h | h
  · have : (a.length + 1) % 2 = 1 := by omega
    rw [h, this]; rfl
  · have : (a.length + 1) % 2 = 0 := by omega
    rw [h, this]; rfl
theorem tot_le (a : List UInt8) : ∀ o, tot o a ≤ 65280 * a.length := by
  induction a with
  | nil => intro o; cases o <;> simp [tot]
  | cons x a ih =>
    intro o
    have hx := x.toNat_lt
    have h1 := ih true
    have h2 := ih false
    cases o <;> simp only [tot, List.length_cons] <;> omega
/-- All parts' bytes. -/
def cat (l : List ByteArray) : List UInt8 := (l.map bl).flatten
theorem cat_nil : cat [] = [] := rfl
theorem cat_cons (s : ByteArray) (l : List ByteArray) : cat (s :: l) = bl s ++ cat l := rfl
end Go.Proofs.Ytejmipoolbodgaa.Pal
end

section
/- Plain theory of numbers by bytes, the highest first. No program in it. -/
namespace Go.Proofs.Ytejmipoolbodgaa.Pal
/-- The number of bytes, the highest first. -/
def be (l : List UInt8) : Nat := l.foldl (fun a b => a * 256 + b.toNat) 0
theorem be_snoc (l : List UInt8) (b : UInt8) : be (l ++ [b]) = be l * 256 + b.toNat := by simp [be]
theorem be_foldl (l : List UInt8) : ∀ a, l.foldl (fun a b => a * 256 + b.toNat) a = a * 256 ^ l.length + be l := by
  induction l with
  | nil => intro a; simp [be]
  | cons x l ih =>
    intro a
    rw [List.foldl_cons, ih]
    have e : be (x :: l) = x.toNat * 256 ^ l.length + be l := by
      unfold be
      rw [List.foldl_cons, ih]
      simp [be]
    rw [e, List.length_cons, Nat.pow_succ, Nat.add_mul, Nat.mul_assoc, Nat.mul_comm 256, Nat.add_assoc]
theorem be_cons (x : UInt8) (l : List UInt8) : be (x :: l) = x.toNat * 256 ^ l.length + be l := by
  unfold be
  rw [List.foldl_cons, be_foldl]
  simp [be]
theorem be_append (a b : List UInt8) : be (a ++ b) = be a * 256 ^ b.length + be b := by
  unfold be
  rw [List.foldl_append, be_foldl]
  rfl
theorem be_lt (l : List UInt8) : be l < 256 ^ l.length := by
  induction l with
  | nil => simp [be]
  | cons x l ih =>
    rw [be_cons, List.length_cons, Nat.pow_succ]
    have hx := x.toNat_lt
    have : x.toNat * 256 ^ l.length ≤ 255 * 256 ^ l.length := Nat.mul_le_mul_right _ (by omega)
    omega
theorem be_lt_of (l : List UInt8) (n : Nat) (h : l.length ≤ n) : be l < 256 ^ n := Nat.lt_of_lt_of_le (be_lt l) (Nat.pow_le_pow_right (by decide) h)
/-- A number by so many bytes, the highest first. -/
def nb : Nat → Nat → List UInt8
  | 0, _ => []
  | n + 1, x => nb n (x / 256) ++ [UInt8.ofNat x]
theorem nb_length (n : Nat) : ∀ x, (nb n x).length = n := by
  induction n with
  | zero => intro x; rfl
  | succ n ih => intro x; simp [nb, ih]
theorem be_nb (n : Nat) : ∀ x, be (nb n x) = x % 256 ^ n := by
  induction n with
  | zero => intro x; simp [nb, be, Nat.mod_one]
  | succ n ih =>
    intro x
    rw [nb, be_snoc, ih, Nat.pow_succ]
    have h1 : (UInt8.ofNat x).toNat = x % 256 := by simp
    rw [h1, Nat.mul_comm (256 ^ n) 256, Nat.mod_mul]
    omega
theorem nb_be (l : List UInt8) : nb l.length (be l) = l := by
  rcases List.eq_nil_or_concat l with rfl | ⟨a, b, rfl⟩
  · rfl
  · have ih := nb_be a
    rw [List.concat_eq_append, List.length_append, List.length_singleton, nb, be_snoc]
    have hb := b.toNat_lt
    have h1 : (be a * 256 + b.toNat) / 256 = be a := by omega
    have h2 : UInt8.ofNat (be a * 256 + b.toNat) = b := by
      apply UInt8.toNat_inj.1
      simp
    rw [h1, h2, ih]
termination_by l.length
decreasing_by simp_all
theorem nb_mod (n : Nat) : ∀ x, nb n (x % 256 ^ n) = nb n x := by
  intro x
  have h := nb_be (nb n x)
  rw [nb_length, be_nb] at h
  exact h
theorem nb_front (n : Nat) : ∀ x, nb (n + 1) x = UInt8.ofNat (x / 256 ^ n) :: nb n x := by
  induction n with
  | zero => intro x; simp [nb]
  | succ n ih =>
    intro x
    have e : x / 256 ^ (n + 1) = x / 256 / 256 ^ n := by rw [Nat.pow_succ, Nat.mul_comm, Nat.div_div_eq_div_mul]
    rw [nb, ih, e]
    rfl
theorem nb_drop (n : Nat) : ∀ j, j ≤ n → ∀ x, (nb n x).drop j = nb (n - j) x := by
  induction n with
  | zero => intro j hj x; obtain rfl : j = 0 := by omega
            simp
  | succ n ih =>
    intro j hj x
    cases j with
    | zero => simp
    | succ j => rw [nb_front, List.drop_succ_cons, ih j (by omega), Nat.add_sub_add_right]
theorem nb_take_succ (n j x : Nat) (h : j < n) : (nb n x).take (j + 1) = (nb n x).take j ++ [UInt8.ofNat (x / 256 ^ (n - 1 - j))] := by
  rw [List.take_succ_eq_append_getElem (by rw [nb_length]; exact h)]
  congr 2
  have e := nb_drop n j (by omega) x
  rw [List.drop_eq_getElem_cons (by rw [nb_length]; exact h), show n - j = (n - 1 - j) + 1 from by omega, nb_front] at e
  exact (List.cons.inj e).1
end Go.Proofs.Ytejmipoolbodgaa.Pal
end

section
/- Plain theory of TCP options: where each one begins, and how long it is. No program in it. -/
namespace Go.Proofs.Ytejmipoolbodgaa.Pal
/-- How long the option is that begins at i; none: it isn't right. -/
def optLen (l : List UInt8) (i : Nat) : Option Nat :=
  if l.getD i 0 = 1 then some 1 else if i + 1 = l.length ∨ (l.getD (i + 1) 0).toNat < 2 ∨ l.length < i + (l.getD (i + 1) 0).toNat then none else some (l.getD (i + 1) 0).toNat
/-- The options from i on, by so many steps: where each begins, how long it is; none: they aren't right. -/
def walkO : Nat → List UInt8 → Nat → Option (List (Nat × Nat))
  | 0, _, _ => some []
  | k + 1, l, i => if i < l.length ∧ l.getD i 0 ≠ 0 then (optLen l i).bind fun n => (walkO k l (i + n)).map ((i, n) :: ·) else some []
theorem optLen_bound {l : List UInt8} {i n : Nat} (hi : i < l.length) (h : optLen l i = some n) : 1 ≤ n ∧ i + n ≤ l.length := by
  unfold optLen at h
  split at h
  · obtain rfl := Option.some.inj h; omega
  · split at h
    · exact absurd h (by simp)
    · rename_i h1
      obtain rfl := Option.some.inj h
      omega
theorem walkO_fuel (l : List UInt8) : ∀ (k k' i : Nat), l.length < k + i → l.length < k' + i → walkO k l i = walkO k' l i
  | 0, 0, _, _, _ => rfl
  | 0, k' + 1, i, h, _ => by rw [walkO, walkO, if_neg (by omega)]
  | k + 1, 0, i, _, h => by rw [walkO, walkO, if_neg (by omega)]
  | k + 1, k' + 1, i, h, h' => by
    rw [walkO, walkO]
    by_cases c : i < l.length ∧ l.getD i 0 ≠ 0
    · rw [if_pos c, if_pos c]
      cases ho : optLen l i with
      | none => rfl
      | some n =>
        have hb := optLen_bound c.1 ho
        rw [Option.bind_some, Option.bind_some, walkO_fuel l k k' (i + n) (by omega) (by omega)]
    · rw [if_neg c, if_neg c]
def W (l : List UInt8) (i : Nat) : Option (List (Nat × Nat)) := walkO (l.length + 1) l i
theorem W_end {l : List UInt8} {i : Nat} (h : ¬ (i < l.length ∧ l.getD i 0 ≠ 0)) : W l i = some [] := by unfold W; rw [walkO, if_neg h]
theorem W_step {l : List UInt8} {i : Nat} (h : i < l.length ∧ l.getD i 0 ≠ 0) : W l i = (optLen l i).bind fun n => (W l (i + n)).map ((i, n) :: ·) := by
  unfold W
  rw [walkO, if_pos h]
  cases ho : optLen l i with
  | none => rfl
  | some n =>
    have hb := optLen_bound h.1 ho
    rw [Option.bind_some, Option.bind_some, walkO_fuel l l.length (l.length + 1) (i + n) (by omega) (by omega)]
/-- By what is left. -/
theorem W_ind {P : Nat → Prop} (l : List UInt8) (h : ∀ i, (∀ n, 1 ≤ n → i < l.length → P (i + n)) → P i) : ∀ i, P i := by
  have : ∀ (m i : Nat), l.length ≤ m + i → P i := by
    intro m
    induction m with
    | zero => intro i hi; exact h i fun n _ hl => absurd hl (by omega)
    | succ m ih => intro i hi; exact h i fun n hn hl => ih (i + n) (by omega)
  exact fun i => this l.length i (by omega)
/-- A walk that is right, step by step. -/
theorem W_cons {l : List UInt8} {i : Nat} {L : List (Nat × Nat)} (h : W l i = some L) :
    (¬ (i < l.length ∧ l.getD i 0 ≠ 0) ∧ L = []) ∨ ((i < l.length ∧ l.getD i 0 ≠ 0) ∧ ∃ n L', optLen l i = some n ∧ W l (i + n) = some L' ∧ L = (i, n) :: L') := by
  by_cases c : i < l.length ∧ l.getD i 0 ≠ 0
  · rw [W_step c] at h
    cases ho : optLen l i with
    | none => rw [ho] at h; exact absurd h (by simp)
    | some n =>
      rw [ho, Option.bind_some] at h
      cases hw : W l (i + n) with
      | none => rw [hw] at h; exact absurd h (by simp)
      | some L' =>
        rw [hw] at h
        exact .inr ⟨c, n, L', rfl, hw, (Option.some.inj h).symm⟩
  · rw [W_end c] at h
    exact .inl ⟨c, (Option.some.inj h).symm⟩
/-- What is told of an option hangs on its bytes alone. -/
theorem optLen_like {l l' : List UInt8} {i j n : Nat} (ho : optLen l i = some n) (h0 : l'.getD j 0 = l.getD i 0) (h1 : 2 ≤ n → l'.getD (j + 1) 0 = l.getD (i + 1) 0) (hn : j + n ≤ l'.length) (hj : j < l'.length) : optLen l' j = some n := by
  unfold optLen at ho ⊢
  rw [h0]
  split at ho
  · rename_i h; rw [if_pos h]; exact ho
  · rename_i h
    rw [if_neg h]
    split at ho
    · exact absurd ho (by simp)
    · rename_i h2
      have e := Option.some.inj ho
      rw [h1 (by omega), if_neg (by omega)]
      exact ho
theorem optLen_none_like {l l' : List UInt8} {i j : Nat} (ho : optLen l i = none) (h0 : l'.getD j 0 = l.getD i 0) (h1 : i + 1 < l.length → l'.getD (j + 1) 0 = l.getD (i + 1) 0) (hl : l'.length + i = l.length + j) (hi : i < l.length) : optLen l' j = none := by
  unfold optLen at ho ⊢
  rw [h0]
  split at ho
  · exact absurd ho (by simp)
  · rename_i h
    rw [if_neg h]
    split at ho
    · rename_i h2
      rw [if_pos ?_]
      by_cases h3 : i + 1 = l.length
      · exact .inl (by omega)
      · rw [h1 (by omega)]; omega
    · exact absurd ho (by simp)
/-- The same bytes from there on, to the end: the same options. -/
theorem W_shift {l l' : List UInt8} (d : Nat) (hl : l'.length = l.length + d) : ∀ i, (∀ j, i ≤ j → l'.getD (j + d) 0 = l.getD j 0) → W l' (i + d) = (W l i).map (·.map fun p => (p.1 + d, p.2)) := by
  refine W_ind l fun i ih h => ?_
  by_cases c : i < l.length ∧ l.getD i 0 ≠ 0
  · have c' : i + d < l'.length ∧ l'.getD (i + d) 0 ≠ 0 := ⟨by omega, by rw [h i (Nat.le_refl i)]; exact c.2⟩
    rw [W_step c, W_step c']
    cases ho : optLen l i with
    | none =>
      rw [optLen_none_like ho (h i (Nat.le_refl i)) (fun _ => by rw [← h (i + 1) (by omega)]; congr 1; omega) (by omega) c.1]
      rfl
    | some n =>
      have hb := optLen_bound c.1 ho
      rw [optLen_like ho (h i (Nat.le_refl i)) (fun _ => by rw [← h (i + 1) (by omega)]; congr 1; omega) (by omega) c'.1]
      rw [Option.bind_some, Option.bind_some, show i + d + n = i + n + d by omega, ih n hb.1 c.1 (fun j hj => h j (by omega))]
      cases W l (i + n) <;> rfl
  · have c' : ¬ (i + d < l'.length ∧ l'.getD (i + d) 0 ≠ 0) := fun hh => c ⟨by have := hh.1; omega, by rw [← h i (Nat.le_refl i)]; exact hh.2⟩
    rw [W_end c, W_end c']; rfl
/-- Options that are right, and more behind them. -/
theorem W_append (a b : List UInt8) : ∀ i L, i ≤ a.length → W a i = some L →
    ((∃ j, i ≤ j ∧ j < a.length ∧ a.getD j 0 = 0) ∧ W (a ++ b) i = some L) ∨ W (a ++ b) i = (W (a ++ b) a.length).map (L ++ ·) := by
  refine W_ind (P := fun i => ∀ L, i ≤ a.length → W a i = some L → ((∃ j, i ≤ j ∧ j < a.length ∧ a.getD j 0 = 0) ∧ W (a ++ b) i = some L) ∨ W (a ++ b) i = (W (a ++ b) a.length).map (L ++ ·)) a fun i ih L hi h => ?_
  have g : ∀ j, j < a.length → (a ++ b).getD j 0 = a.getD j 0 := fun j hj => by simp [List.getD_eq_getElem?_getD, List.getElem?_append_left hj]
  rcases W_cons h with ⟨c, rfl⟩ | ⟨c, n, L', ho, hw, rfl⟩
  · by_cases he : i < a.length
    · have h0 : a.getD i 0 = 0 := by
        by_cases h0 : a.getD i 0 = 0
        · exact h0
        · exact absurd ⟨he, h0⟩ c
      exact .inl ⟨⟨i, Nat.le_refl i, he, h0⟩, W_end (by rw [g i he]; exact fun h => h.2 h0)⟩
    · obtain rfl : i = a.length := by omega
      right
      cases W (a ++ b) a.length <;> rfl
  · have hb := optLen_bound c.1 ho
    have ho' : optLen (a ++ b) i = some n := optLen_like ho (g i c.1) (fun h2 => g (i + 1) (by omega)) (by rw [List.length_append]; omega) (by rw [List.length_append]; omega)
    have st := W_step (l := a ++ b) (i := i) ⟨by rw [List.length_append]; omega, by rw [g i c.1]; exact c.2⟩
    rw [ho', Option.bind_some] at st
    rcases ih n hb.1 c.1 L' (by omega) hw with ⟨⟨j, h1, h2, h3⟩, e⟩ | e
    · exact .inl ⟨⟨j, by omega, h2, h3⟩, by rw [st, e]; rfl⟩
    · right
      rw [st, e]
      cases W (a ++ b) a.length <;> rfl
/-- Where an option begins, the ones behind it begin behind its end. -/
theorem W_mem {l : List UInt8} : ∀ i L, W l i = some L → ∀ p ∈ L, i ≤ p.1 ∧ p.1 + p.2 ≤ l.length ∧ 1 ≤ p.2 ∧ optLen l p.1 = some p.2 := by
  refine W_ind (P := fun i => ∀ L, W l i = some L → ∀ p ∈ L, i ≤ p.1 ∧ p.1 + p.2 ≤ l.length ∧ 1 ≤ p.2 ∧ optLen l p.1 = some p.2) l fun i ih L h p hp => ?_
  rcases W_cons h with ⟨c, rfl⟩ | ⟨c, n, L', ho, hw, rfl⟩
  · exact absurd hp (by simp)
  · have hb := optLen_bound c.1 ho
    rcases List.mem_cons.1 hp with rfl | hp
    · exact ⟨Nat.le_refl _, hb.2, hb.1, ho⟩
    · have := ih n hb.1 c.1 L' hw p hp
      exact ⟨by omega, this.2⟩
/-- Cut off ahead of an option, the ones ahead of it are right. -/
theorem W_take (l : List UInt8) (L2 : List (Nat × Nat)) (q m : Nat) : ∀ i L1, W l i = some (L1 ++ (q, m) :: L2) → W (l.take q) i = some L1 := by
  refine W_ind (P := fun i => ∀ L1, W l i = some (L1 ++ (q, m) :: L2) → W (l.take q) i = some L1) l fun i ih L1 h => ?_
  have hq := W_mem i _ h (q, m) (by simp)
  have lt : (l.take q).length = q := by rw [List.length_take]; omega
  rcases W_cons h with ⟨c, e⟩ | ⟨c, n, L', ho, hw, e⟩
  · exact absurd e (by simp)
  · cases L1 with
    | nil =>
      obtain ⟨e1, e2⟩ := List.cons.inj e
      obtain ⟨rfl, rfl⟩ := Prod.mk.inj e1
      exact W_end (by rw [lt]; omega)
    | cons p L1 =>
      obtain ⟨rfl, e2⟩ := List.cons.inj e
      have hb := optLen_bound c.1 ho
      subst e2
      have hq' := W_mem (i + n) _ hw (q, m) (by simp)
      have g : ∀ j, j < q → (l.take q).getD j 0 = l.getD j 0 := fun j hj => by simp [List.getD_eq_getElem?_getD, List.getElem?_take, hj]
      dsimp only at hq hq'
      have ho' : optLen (l.take q) i = some n := optLen_like ho (g i (by omega)) (fun h2 => g (i + 1) (by omega)) (by omega) (by omega)
      rw [W_step (l := l.take q) (i := i) ⟨by omega, by rw [g i (by omega)]; exact c.2⟩, ho', Option.bind_some, ih n hb.1 c.1 L1 hw]
      rfl
/-- Another number in an option of four bytes changes nothing of where they begin. -/
theorem W_put (l l' : List UInt8) (hl : l'.length = l.length) (q : Nat) (hag : ∀ j, j < q + 2 ∨ q + 4 ≤ j → l'.getD j 0 = l.getD j 0) : ∀ i L, W l i = some L → (q, 4) ∈ L → W l' i = some L := by
  refine W_ind (P := fun i => ∀ L, W l i = some L → (q, 4) ∈ L → W l' i = some L) l fun i ih L h hm => ?_
  rcases W_cons h with ⟨c, rfl⟩ | ⟨c, n, L', ho, hw, rfl⟩
  · exact absurd hm (by simp)
  · have hb := optLen_bound c.1 ho
    have hq := W_mem i _ h (q, 4) hm
    dsimp only at hq
    rcases List.mem_cons.1 hm with e | hm'
    · obtain ⟨rfl, rfl⟩ := Prod.mk.inj e
      have ho' : optLen l' q = some 4 := optLen_like ho (hag q (by omega)) (fun _ => hag (q + 1) (by omega)) (by omega) (by omega)
      have e2 : W l' (q + 4) = W l (q + 4) := by
        have := W_shift (l := l) (l' := l') 0 hl (q + 4) (fun j hj => hag j (by omega))
        rw [Nat.add_zero] at this
        rw [this]
        cases W l (q + 4) <;> simp
      rw [W_step (l := l') (i := q) ⟨by omega, by rw [hag q (by omega)]; exact c.2⟩, ho', Option.bind_some, e2, hw]
      rfl
    · have hq' := W_mem (i + n) _ hw (q, 4) hm'
      dsimp only at hq'
      have ho' : optLen l' i = some n := optLen_like ho (hag i (by omega)) (fun _ => hag (i + 1) (by omega)) (by omega) (by omega)
      rw [W_step (l := l') (i := i) ⟨by omega, by rw [hag i (by omega)]; exact c.2⟩, ho', Option.bind_some, ih n hb.1 c.1 L' hw hm']
      rfl
/-- Is that option an MSS? -/
def isMSS (l : List UInt8) (p : Nat × Nat) : Bool := l.getD p.1 0 == 2 && p.2 == 4
/-- The number of an MSS, and where it stands. -/
def mssAt (l : List UInt8) (p : Nat × Nat) : Nat × Nat := ((l.getD (p.1 + 2) 0).toNat * 256 + (l.getD (p.1 + 3) 0).toNat, p.1 + 2)
def mssOf (l : List UInt8) : Option (Nat × Nat) := (W l 0).bind fun L => (L.find? (isMSS l)).map (mssAt l)
def rightO (l : List UInt8) : Bool := (W l 0).isSome
end Go.Proofs.Ytejmipoolbodgaa.Pal
end

section
/- What tcp.Right and tcp.MSS compute, as functions; plain facts of them. -/
namespace Go.Proofs.Ytejmipoolbodgaa.G
open Go.Proofs.Ytejmipoolbodgaa.Pal
def tcp_Right.f (s : ByteArray) : Option Bool := if s.size ≤ 140737488351232 then some (rightO (bl s)) else none
def mssR (o : Option (Nat × Nat)) : Int × Int × Bool := match o with | none => (0, 0, false) | some p => ((p.1 : Int), (p.2 : Int), true)
def tcp_MSS.f (s : ByteArray) : Option (Int × Int × Bool) := if s.size ≤ 140737488351232 then some (mssR (mssOf (bl s))) else none
end Go.Proofs.Ytejmipoolbodgaa.G
namespace Go.Proofs.Ytejmipoolbodgaa.Pure
open Go.Proofs.Ytejmipoolbodgaa.Pal Go.Proofs.Ytejmipoolbodgaa.G
theorem right_is (s : ByteArray) (h : s.size ≤ 140737488351232) : tcp_Right.f s = some (rightO (bl s)) := by unfold tcp_Right.f; rw [if_pos h]
theorem mss_is (s : ByteArray) (h : s.size ≤ 140737488351232) : tcp_MSS.f s = some (mssR (mssOf (bl s))) := by unfold tcp_MSS.f; rw [if_pos h]
theorem mssOf_not {l : List UInt8} (h : rightO l = false) : mssOf l = none := by
  unfold rightO at h; unfold mssOf
  cases hw : W l 0 with
  | none => rfl
  | some L => rw [hw] at h; exact absurd h (by simp)
theorem mssOf_of {l : List UInt8} {L : List (Nat × Nat)} (h : W l 0 = some L) : mssOf l = (L.find? (isMSS l)).map (mssAt l) := by unfold mssOf; rw [h]; rfl
theorem rightO_of {l : List UInt8} {L : List (Nat × Nat)} (h : W l 0 = some L) : rightO l = true := by unfold rightO; rw [h]; rfl
theorem rightO_some {l : List UInt8} (h : rightO l = true) : ∃ L, W l 0 = some L := by
  unfold rightO at h; exact Option.isSome_iff_exists.mp h
/-- Where an MSS is told, its option stands. -/
theorem mssOf_some {l : List UInt8} {n a : Nat} (h : mssOf l = some (n, a)) : ∃ L1 L2 q, W l 0 = some (L1 ++ (q, 4) :: L2) ∧ a = q + 2 ∧ q + 4 ≤ l.length ∧ l.getD q 0 = 2 ∧ l.getD (q + 1) 0 = 4 ∧ n = (l.getD (q + 2) 0).toNat * 256 + (l.getD (q + 3) 0).toNat ∧ ∀ p ∈ L1, isMSS l p = false := by
  unfold mssOf at h
  obtain ⟨L, hL, h⟩ := Option.bind_eq_some_iff.mp h
  obtain ⟨p, hp, hf⟩ := Option.map_eq_some_iff.mp h
  obtain ⟨h1, L1, L2, rfl, h2⟩ := List.find?_eq_some_iff_append.mp hp
  obtain ⟨q, m⟩ := p
  have h3 : l.getD q 0 = 2 ∧ m = 4 := by simpa [isMSS] using h1
  obtain ⟨h4, rfl⟩ := h3
  have hm := W_mem 0 _ hL (q, 4) (by simp)
  dsimp only at hm
  unfold mssAt at hf
  obtain ⟨rfl, rfl⟩ := Prod.mk.inj hf
  have ho : l.getD (q + 1) 0 = 4 := by
    have h5 := hm.2.2.2
    unfold optLen at h5
    rw [if_neg (by rw [h4]; decide)] at h5
    split at h5
    · exact absurd h5 (by simp)
    · have h6 := Option.some.inj h5
      exact UInt8.toNat_inj.1 h6
  exact ⟨L1, L2, q, hL, rfl, hm.2.1, h4, ho, rfl, fun p hp => by simpa using h2 p hp⟩
theorem mssOf_none {l : List UInt8} {L : List (Nat × Nat)} (hL : W l 0 = some L) (h : mssOf l = none) : ∀ p ∈ L, isMSS l p = false := fun p hp => by
  rw [mssOf_of hL] at h
  have := List.find?_eq_none.mp (Option.map_eq_none_iff.mp h) p hp
  simpa using this
/-- Told again by another text in which the same options stand. -/
theorem find_like {l l' : List UInt8} {L : List (Nat × Nat)} (d : Nat) (h : ∀ p ∈ L, l'.getD (p.1 + d) 0 = l.getD p.1 0 ∧ (isMSS l p = true → l'.getD (p.1 + d + 2) 0 = l.getD (p.1 + 2) 0 ∧ l'.getD (p.1 + d + 3) 0 = l.getD (p.1 + 3) 0)) :
    ((L.map fun p => (p.1 + d, p.2)).find? (isMSS l')).map (mssAt l') = ((L.find? (isMSS l)).map (mssAt l)).map fun r => (r.1, r.2 + d) := by
  induction L with
  | nil => rfl
  | cons p L ih =>
    have hp := h p List.mem_cons_self
    have e : isMSS l' (p.1 + d, p.2) = isMSS l p := by unfold isMSS; dsimp only; rw [hp.1]
    rw [List.map_cons, List.find?_cons, List.find?_cons, e]
    cases hm : isMSS l p with
    | true =>
      have h2 := hp.2 hm
      simp only [Option.map_some, mssAt]
      rw [h2.1, h2.2]
      congr 2
      omega
    | false => exact ih fun q hq => h q (List.mem_cons_of_mem _ hq)
end Go.Proofs.Ytejmipoolbodgaa.Pure
end
