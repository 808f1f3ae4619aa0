/- By hand: ip4.bit, ip4.header. -/
import Derived.Test.YtejmipoolbodgaaHWireW
import Derived.WalkLawsBesides
import Derived.StillTailTactics
import Derived.Deep.RegionWith
namespace Go.Proofs.Ytejmipoolbodgaa.G
open Go.RowKit Go.Proofs.YtejmipoolbodgaaW.PrintWords Go.Proofs.YtejmipoolbodgaaW.PrintLast Go.Proofs.YtejmipoolbodgaaW.PrintMore Go.Proofs.Ytejmipoolbodgaa.Pal
set_option linter.unusedVariables false
set_option linter.unusedSimpArgs false
set_option maxRecDepth 100000
theorem bit_no (n : Int) (w : World) :
    Calls Try.prog 162 #[.bool false, .int .i64 n] w fun e w' => e = .returned (.int .i64 0) ∧ w' = w := by
  go_enter Try.func162, Try.ntmps162
  go_wp2
  go_ret
  exact ⟨rfl, rfl⟩
/-- A flag's bit. -/
def bit14 (b : Bool) : Int := if b then 16384 else 0
def bit13 (b : Bool) : Int := if b then 8192 else 0
theorem bit_yes14 (w : World) :
    Calls Try.prog 162 #[.bool true, .int .i64 14] w fun e w' => e = .returned (.int .i64 16384) ∧ w' = w := by
  go_enter Try.func162, Try.ntmps162
  go_wp2
  go_ret
  exact ⟨rfl, rfl⟩
theorem bit_any14 (b : Bool) (w : World) :
    Calls Try.prog 162 #[.bool b, .int .i64 14] w fun e w' => e = .returned (.int .i64 (bit14 b)) ∧ w' = w := by
  cases b
  · exact bit_no _ w
  · exact bit_yes14 w
theorem bit_yes13 (w : World) :
    Calls Try.prog 162 #[.bool true, .int .i64 13] w fun e w' => e = .returned (.int .i64 8192) ∧ w' = w := by
  go_enter Try.func162, Try.ntmps162
  go_wp2
  go_ret
  exact ⟨rfl, rfl⟩
theorem bit_any13 (b : Bool) (w : World) :
    Calls Try.prog 162 #[.bool b, .int .i64 13] w fun e w' => e = .returned (.int .i64 (bit13 b)) ∧ w' = w := by
  cases b
  · exact bit_no _ w
  · exact bit_yes13 w
def bitV (b : Bool) (n : Int) : Int := if n = 14 then bit14 b else bit13 b
theorem bit_gen (b : Bool) (n : Int) (h : n = 14 ∨ n = 13) (w : World) :
    Calls Try.prog 162 #[.bool b, .int .i64 n] w fun e w' => e = .returned (.int .i64 (bitV b n)) ∧ w' = w := by
  rcases h with rfl | rfl
  · exact bit_any14 b w
  · exact bit_any13 b w
theorem WS.drew {B a b : Nat} {w w1 : World} {T : TypeId} {cs : Array Value} {l : List UInt8} (h : WS B a b w w1 T cs l) : WS B a b w w1.drew T cs l := ⟨⟨h.1.1, h.1.2.1, h.1.2.2.drew⟩, h.2⟩
def first4 (n : Nat) : Int := Go.bits .or .i64 64 (((20 + n) / 4 : Nat) : Int)
def flags4 (off : Int) (df mf : Bool) : Int := Go.bits .or .i64 (Go.bits .or .i64 (bit14 df) (bit13 mf)) off
def ip4Bytes (tos id off ttl proto : Int) (df mf : Bool) (src dst opt : ByteArray) (total check : Int) : List UInt8 :=
  nb 1 (u64n (first4 opt.size)) ++ nb 1 (u64n tos) ++ nb 2 (u64n total) ++ nb 2 (u64n id) ++ nb 2 (u64n (flags4 off df mf)) ++ nb 1 (u64n ttl) ++ nb 1 (u64n proto) ++ nb 2 (u64n check) ++ bl (src ++ dst ++ opt)
def ip4_header.f (a0_0 a0_1 a0_2 a0_3 a0_4 : Int) (a0_5 a0_6 : Bool) (a0_7 a0_8 a0_9 : ByteArray) (a1 a2 : Int) : Option ByteArray :=
  if a0_7.size + a0_8.size + a0_9.size ≤ 1099511627776 then some ⟨(ip4Bytes a0_0 a0_1 a0_2 a0_3 a0_4 a0_5 a0_6 a0_7 a0_8 a0_9 a1 a2).toArray⟩ else none

set_option maxHeartbeats 2000000 in
set_option maxRecDepth 100000 in
theorem ip4_header.calls (a0_0 a0_1 a0_2 a0_3 a0_4 : Int) (a0_5 a0_6 : Bool) (a0_7 a0_8 a0_9 : ByteArray) (a1 a2 : Int) (r : ByteArray) (w : World) (h : ip4_header.f a0_0 a0_1 a0_2 a0_3 a0_4 a0_5 a0_6 a0_7 a0_8 a0_9 a1 a2 = some r) :
    Calls Try.prog 142 #[.agg #[.int .i64 a0_0, .int .i64 a0_1, .int .i64 a0_2, .int .i64 a0_3, .int .i64 a0_4, .bool a0_5, .bool a0_6, .string a0_7, .string a0_8, .string a0_9], .int .i64 a1, .int .i64 a2] w fun e w' => e = .returned (.string r) ∧ Below w.heap.size w w' := by
  unfold ip4_header.f at h
  split at h
  case isFalse => exact absurd h (by simp)
  rename_i hs
  obtain rfl := Option.some.inj h
  clear h
  have hu := Try.underlying93
  have HZ := Aside0.mk hs
  have d3 : (9223372036854775807 < a0_7.size + a0_8.size) = False := eq_false (by omega)
  have d4 : (9223372036854775807 < a0_7.size + a0_8.size + a0_9.size) = False := eq_false (by omega)
  have q1 : wrap64 (20 + (a0_9.size : Int)) = 20 + (a0_9.size : Int) := by unfold wrap64; omega
  have q2 : IntKind.i64.wrap (20 + (a0_9.size : Int)) = 20 + (a0_9.size : Int) := by rw [IntKind.wrap_i64]; omega
  have q0 : Int.tdiv (20 + (a0_9.size : Int)) 4 = (((20 + a0_9.size) / 4 : Nat) : Int) := by rw [Int.tdiv_eq_ediv_of_nonneg (by omega)]; omega
  have q3 : wrap64 (Int.tdiv (20 + (a0_9.size : Int)) 4) = (((20 + a0_9.size) / 4 : Nat) : Int) := by rw [q0]; unfold wrap64; omega
  have q4 : IntKind.i64.wrap (Int.tdiv (20 + (a0_9.size : Int)) 4) = (((20 + a0_9.size) / 4 : Nat) : Int) := by rw [q0, IntKind.wrap_i64]; omega
  have q5 : wrap64 ((20 + (a0_9.size : Int)) / 4) = (((20 + a0_9.size) / 4 : Nat) : Int) := by unfold wrap64; omega
  clear hs
  go_enter Try.func142, Try.ntmps142
  have HS := Aside0.mk (WS.start w 93 #[.int .i64 a0_0, .int .i64 a0_1, .int .i64 a0_2, .int .i64 a0_3, .int .i64 a0_4, .bool a0_5, .bool a0_6, .string a0_7, .string a0_8, .string a0_9])
  have hc := HS.out.1.2.1.cells
  go_wp2_with fail
  rw [q5]
  clear q0 q1 q2 q3 q4 q5
  refine (Writer_U8.calls _ _ _ _ HS.out.1.1 (by simp only [List.length_append, List.length_nil, nb_length]; omega)).mono ?_
  rintro e w2 ⟨rfl, g1, g2⟩
  replace HS := Aside0.mk (HS.out.next g1 g2)
  clear g1 g2 hc
  have hc := HS.out.1.2.1.cells
  go_wp2_with fail
  refine (Writer_U8.calls _ _ _ _ HS.out.1.1 (by simp only [List.length_append, List.length_nil, nb_length]; omega)).mono ?_
  rintro e w3 ⟨rfl, g1, g2⟩
  replace HS := Aside0.mk (HS.out.next g1 g2)
  clear g1 g2 hc
  have hc := HS.out.1.2.1.cells
  go_wp2_with fail
  refine (Writer_U16.calls _ _ _ _ HS.out.1.1 (by simp only [List.length_append, List.length_nil, nb_length]; omega)).mono ?_
  rintro e w4 ⟨rfl, g1, g2⟩
  replace HS := Aside0.mk (HS.out.next g1 g2)
  clear g1 g2 hc
  have hc := HS.out.1.2.1.cells
  go_wp2_with fail
  refine (Writer_U16.calls _ _ _ _ HS.out.1.1 (by simp only [List.length_append, List.length_nil, nb_length]; omega)).mono ?_
  rintro e w5 ⟨rfl, g1, g2⟩
  replace HS := Aside0.mk (HS.out.next g1 g2)
  clear g1 g2 hc
  have hc := HS.out.1.2.1.cells
  go_wp2_with fail
  go_region_with ((first
      | (go_at_call 162; refine (bit_gen _ _ (by decide) _).mono ?_; rintro e wq ⟨rfl, rfl⟩)
      | (go_at_call 137; refine (Writer_U16.calls _ _ _ _ HS.out.drew.1.1 ?_).mono ?_; simp only [List.length_append, List.length_nil, nb_length]; omega; rintro e w6 ⟨rfl, g1, g2⟩; have HS6 := Aside0.mk (HS.out.drew.next g1 g2); clear g1 g2)))
  all_goals
    clear hc HS
    have HS := HS6
    clear HS6
    have hc := HS.out.1.2.1.cells
    go_wp2_with fail
    refine (Writer_U8.calls _ _ _ _ HS.out.1.1 (by simp only [List.length_append, List.length_nil, nb_length]; omega)).mono ?_
    rintro e w7 ⟨rfl, g1, g2⟩
    replace HS := Aside0.mk (HS.out.next g1 g2)
    clear g1 g2 hc
    have hc := HS.out.1.2.1.cells
    go_wp2_with fail
    refine (Writer_U8.calls _ _ _ _ HS.out.1.1 (by simp only [List.length_append, List.length_nil, nb_length]; omega)).mono ?_
    rintro e w8 ⟨rfl, g1, g2⟩
    replace HS := Aside0.mk (HS.out.next g1 g2)
    clear g1 g2 hc
    have hc := HS.out.1.2.1.cells
    go_wp2_with fail
    refine (Writer_U16.calls _ _ _ _ HS.out.1.1 (by simp only [List.length_append, List.length_nil, nb_length]; omega)).mono ?_
    rintro e w9 ⟨rfl, g1, g2⟩
    replace HS := Aside0.mk (HS.out.next g1 g2)
    clear g1 g2 hc
    have hc := HS.out.1.2.1.cells
    go_wp2_with fail
    refine (Writer_Text.calls _ _ _ _ HS.out.1.1 (by have := HZ.out; simp only [List.length_append, List.length_nil, nb_length, ByteArray.size_append]; omega)).mono ?_
    rintro e w10 ⟨rfl, g1, g2⟩
    replace HS := Aside0.mk (HS.out.next g1 g2)
    clear g1 g2 hc
    go_wp2_with fail
    refine (Writer_String.calls _ _ _ HS.out.1.1).mono ?_
    rintro e w11 ⟨rfl, g1, g2⟩
    replace HS := Aside0.mk (HS.out.next g1 g2)
    clear g1 g2
    go_wp2
    go_ret
    exact ⟨by simp [ip4Bytes, u64n, first4, flags4, bitV], HS.out.1.2.2⟩
end Go.Proofs.Ytejmipoolbodgaa.G
