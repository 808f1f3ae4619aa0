/- Texts of this session, joined: each is a section. -/
import Derived.Test.YtcmalglippmocaaDoorMFtun2
import Derived.WalkLawsBesides
import Derived.StillTailTactics
import Derived.Deep.RegionWith
import Derived.Test.YtcmalglippmocaaDoorMFtun1
import Derived.Test.YtcmalglippmocaaDoorMFtun9
import Derived.Test.YtcmalglippmocaaDoorMFtun8
import Derived.Test.YtcmalglippmocaaDoorMFtun6
import Derived.Test.YtcmalglippmocaaDoorMFtun5
import Derived.Test.YtcmalglippmocaaDoorMFtun3
set_option linter.unusedVariables false
set_option linter.unusedSimpArgs false
section
namespace Go.Proofs.YtcmalglippmocaaDoor.G
open Go.RowKit Go.Proofs.YtcmalglippmocaaDoorW.PrintWords Go.Proofs.YtcmalglippmocaaDoorW.PrintLast Go.Proofs.YtcmalglippmocaaDoorW.PrintMore Go.Proofs.YtcmalglippmocaaDoor.Pal
set_option maxRecDepth 100000
theorem bit_no (n : Int) (w : World) :
    Calls Tryd.prog 141 #[.bool false, .int .i64 n] w fun e w' => e = .returned (.int .i64 0) ∧ w' = w := by
  go_enter Tryd.func141, Tryd.ntmps141
  go_wp2
  go_ret
  exact ⟨rfl, rfl⟩
def bit14 (b : Bool) : Int := if b then 16384 else 0
def bit13 (b : Bool) : Int := if b then 8192 else 0
theorem bit_yes14 (w : World) :
    Calls Tryd.prog 141 #[.bool true, .int .i64 14] w fun e w' => e = .returned (.int .i64 16384) ∧ w' = w := by
  go_enter Tryd.func141, Tryd.ntmps141
  go_wp2
  go_ret
  exact ⟨rfl, rfl⟩
theorem bit_any14 (b : Bool) (w : World) :
    Calls Tryd.prog 141 #[.bool b, .int .i64 14] w fun e w' => e = .returned (.int .i64 (bit14 b)) ∧ w' = w := by
  cases b
  · exact bit_no _ w
  · exact bit_yes14 w
theorem bit_yes13 (w : World) :
    Calls Tryd.prog 141 #[.bool true, .int .i64 13] w fun e w' => e = .returned (.int .i64 8192) ∧ w' = w := by
  go_enter Tryd.func141, Tryd.ntmps141
  go_wp2
  go_ret
  exact ⟨rfl, rfl⟩
theorem bit_any13 (b : Bool) (w : World) :
    Calls Tryd.prog 141 #[.bool b, .int .i64 13] w fun e w' => e = .returned (.int .i64 (bit13 b)) ∧ w' = w := by
  cases b
  · exact bit_no _ w
  · exact bit_yes13 w
def bitV (b : Bool) (n : Int) : Int := if n = 14 then bit14 b else bit13 b
theorem bit_gen (b : Bool) (n : Int) (h : n = 14 ∨ n = 13) (w : World) :
    Calls Tryd.prog 141 #[.bool b, .int .i64 n] w fun e w' => e = .returned (.int .i64 (bitV b n)) ∧ w' = w := by
  rcases h with rfl | rfl
  · exact bit_any14 b w
  · exact bit_any13 b w
theorem WS.drew {B a b : Nat} {w w1 : World} {T : TypeId} {cs : Array Value} {l : List UInt8} (h : WS B a b w w1 T cs l) : WS B a b w w1.drew T cs l := ⟨⟨h.1.1, h.1.2.1, h.1.2.2.drew⟩, h.2⟩
def first4 (n : Nat) : Int := Go.bits .or .i64 64 (((20 + n) / 4 : Nat) : Int)
def flags4 (off : Int) (df mf : Bool) : Int := Go.bits .or .i64 (Go.bits .or .i64 (bit14 df) (bit13 mf)) off
def ip4Bytes (tos id off ttl proto : Int) (df mf : Bool) (src dst opt : ByteArray) (total check : Int) : List UInt8 :=
  nb 1 (u64n (first4 opt.size)) ++ nb 1 (u64n tos) ++ nb 2 (u64n total) ++ nb 2 (u64n id) ++ nb 2 (u64n (flags4 off df mf)) ++ nb 1 (u64n ttl) ++ nb 1 (u64n proto) ++ nb 2 (u64n check) ++ bl (src ++ dst ++ opt)
def ip4_header.f (a0_0 a0_1 a0_2 a0_3 a0_4 : Int) (a0_5 a0_6 : Bool) (a0_7 a0_8 a0_9 : ByteArray) (a1 a2 : Int) : Option ByteArray :=
  if a0_7.size + a0_8.size + a0_9.size ≤ 1099511627776 then some ⟨(ip4Bytes a0_0 a0_1 a0_2 a0_3 a0_4 a0_5 a0_6 a0_7 a0_8 a0_9 a1 a2).toArray⟩ else none

set_option maxHeartbeats 2000000 in
set_option maxRecDepth 100000 in
theorem ip4_header.calls (a0_0 a0_1 a0_2 a0_3 a0_4 : Int) (a0_5 a0_6 : Bool) (a0_7 a0_8 a0_9 : ByteArray) (a1 a2 : Int) (r : ByteArray) (w : World) (h : ip4_header.f a0_0 a0_1 a0_2 a0_3 a0_4 a0_5 a0_6 a0_7 a0_8 a0_9 a1 a2 = some r) :
    Calls Tryd.prog 117 #[.agg #[.int .i64 a0_0, .int .i64 a0_1, .int .i64 a0_2, .int .i64 a0_3, .int .i64 a0_4, .bool a0_5, .bool a0_6, .string a0_7, .string a0_8, .string a0_9], .int .i64 a1, .int .i64 a2] w fun e w' => e = .returned (.string r) ∧ Below w.heap.size w w' := by
  unfold ip4_header.f at h
  split at h
  case isFalse => exact absurd h (by simp)
  rename_i hs
  obtain rfl := Option.some.inj h
  clear h
  have hu := Tryd.underlying69
  have HZ := Aside0.mk hs
  have d3 : (9223372036854775807 < a0_7.size + a0_8.size) = False := eq_false (by omega)
  have d4 : (9223372036854775807 < a0_7.size + a0_8.size + a0_9.size) = False := eq_false (by omega)
  have q1 : wrap64 (20 + (a0_9.size : Int)) = 20 + (a0_9.size : Int) := by unfold wrap64; omega
  have q2 : IntKind.i64.wrap (20 + (a0_9.size : Int)) = 20 + (a0_9.size : Int) := by rw [IntKind.wrap_i64]; omega
  have q0 : Int.tdiv (20 + (a0_9.size : Int)) 4 = (((20 + a0_9.size) / 4 : Nat) : Int) := by rw [Int.tdiv_eq_ediv_of_nonneg (by omega)]; omega
  have q3 : wrap64 (Int.tdiv (20 + (a0_9.size : Int)) 4) = (((20 + a0_9.size) / 4 : Nat) : Int) := by rw [q0]; unfold wrap64; omega
  have q4 : IntKind.i64.wrap (Int.tdiv (20 + (a0_9.size : Int)) 4) = (((20 + a0_9.size) / 4 : Nat) : Int) := by rw [q0, IntKind.wrap_i64]; omega
  have q5 : wrap64 ((20 + (a0_9.size : Int)) / 4) = (((20 + a0_9.size) / 4 : Nat) : Int) := by unfold wrap64; omega
  clear hs
  go_enter Tryd.func117, Tryd.ntmps117
  have HS := Aside0.mk (WS.start w 69 #[.int .i64 a0_0, .int .i64 a0_1, .int .i64 a0_2, .int .i64 a0_3, .int .i64 a0_4, .bool a0_5, .bool a0_6, .string a0_7, .string a0_8, .string a0_9])
  have hc := HS.out.1.2.1.cells
  go_wp2_with fail
  rw [q5]
  clear q0 q1 q2 q3 q4 q5
  refine (Writer_U8.calls _ _ _ _ HS.out.1.1 (by simp only [List.length_append, List.length_nil, nb_length]; omega)).mono ?_
  rintro e w2 ⟨rfl, g1, g2⟩
  replace HS := Aside0.mk (HS.out.next g1 g2)
  clear g1 g2 hc
  have hc := HS.out.1.2.1.cells
  go_wp2_with fail
  refine (Writer_U8.calls _ _ _ _ HS.out.1.1 (by simp only [List.length_append, List.length_nil, nb_length]; omega)).mono ?_
  rintro e w3 ⟨rfl, g1, g2⟩
  replace HS := Aside0.mk (HS.out.next g1 g2)
  clear g1 g2 hc
  have hc := HS.out.1.2.1.cells
  go_wp2_with fail
  refine (Writer_U16.calls _ _ _ _ HS.out.1.1 (by simp only [List.length_append, List.length_nil, nb_length]; omega)).mono ?_
  rintro e w4 ⟨rfl, g1, g2⟩
  replace HS := Aside0.mk (HS.out.next g1 g2)
  clear g1 g2 hc
  have hc := HS.out.1.2.1.cells
  go_wp2_with fail
  refine (Writer_U16.calls _ _ _ _ HS.out.1.1 (by simp only [List.length_append, List.length_nil, nb_length]; omega)).mono ?_
  rintro e w5 ⟨rfl, g1, g2⟩
  replace HS := Aside0.mk (HS.out.next g1 g2)
  clear g1 g2 hc
  have hc := HS.out.1.2.1.cells
  go_wp2_with fail
  go_region_with ((first
      | (go_at_call 141; refine (bit_gen _ _ (by decide) _).mono ?_; rintro e wq ⟨rfl, rfl⟩)
      | (go_at_call 85; refine (Writer_U16.calls _ _ _ _ HS.out.drew.1.1 ?_).mono ?_; simp only [List.length_append, List.length_nil, nb_length]; omega; rintro e w6 ⟨rfl, g1, g2⟩; have HS6 := Aside0.mk (HS.out.drew.next g1 g2); clear g1 g2)))
  all_goals
    clear hc HS
    have HS := HS6
    clear HS6
    have hc := HS.out.1.2.1.cells
    go_wp2_with fail
    refine (Writer_U8.calls _ _ _ _ HS.out.1.1 (by simp only [List.length_append, List.length_nil, nb_length]; omega)).mono ?_
    rintro e w7 ⟨rfl, g1, g2⟩
    replace HS := Aside0.mk (HS.out.next g1 g2)
    clear g1 g2 hc
    have hc := HS.out.1.2.1.cells
    go_wp2_with fail
    refine (Writer_U8.calls _ _ _ _ HS.out.1.1 (by simp only [List.length_append, List.length_nil, nb_length]; omega)).mono ?_
    rintro e w8 ⟨rfl, g1, g2⟩
    replace HS := Aside0.mk (HS.out.next g1 g2)
    clear g1 g2 hc
    have hc := HS.out.1.2.1.cells
    go_wp2_with fail
    refine (Writer_U16.calls _ _ _ _ HS.out.1.1 (by simp only [List.length_append, List.length_nil, nb_length]; omega)).mono ?_
    rintro e w9 ⟨rfl, g1, g2⟩
    replace HS := Aside0.mk (HS.out.next g1 g2)
    clear g1 g2 hc
    have hc := HS.out.1.2.1.cells
    go_wp2_with fail
    refine (Writer_Text.calls _ _ _ _ HS.out.1.1 (by have := HZ.out; simp only [List.length_append, List.length_nil, nb_length, ByteArray.size_append]; omega)).mono ?_
    rintro e w10 ⟨rfl, g1, g2⟩
    replace HS := Aside0.mk (HS.out.next g1 g2)
    clear g1 g2 hc
    go_wp2_with fail
    refine (Writer_String.calls _ _ _ HS.out.1.1).mono ?_
    rintro e w11 ⟨rfl, g1, g2⟩
    replace HS := Aside0.mk (HS.out.next g1 g2)
    clear g1 g2
    go_wp2
    go_ret
    exact ⟨by simp [ip4Bytes, u64n, first4, flags4, bitV], HS.out.1.2.2⟩
end Go.Proofs.YtcmalglippmocaaDoor.G
end

section
namespace Go.Proofs.YtcmalglippmocaaDoor.G
open Go.RowKit Go.Proofs.YtcmalglippmocaaDoorW.PrintWords Go.Proofs.YtcmalglippmocaaDoorW.PrintLast Go.Proofs.YtcmalglippmocaaDoorW.PrintMore
attribute [local go_sem] max2_int min2_int max_two min_two max_three min_three max_four min_four

def ip4_Put.f (a0_0 : Int) (a0_1 : Int) (a0_2 : Int) (a0_3 : Int) (a0_4 : Int) (a0_5 : Bool) (a0_6 : Bool) (a0_7 : ByteArray) (a0_8 : ByteArray) (a0_9 : ByteArray) (a1 : ByteArray) : Option (ByteArray × Int) := (ip4_Check.f a0_0 a0_1 a0_2 a0_3 a0_4 a0_5 a0_6 a0_7 a0_8 a0_9).bind fun t417 => (if t417 = 0 then (if (wrap64 ((wrap64 (20 + (a0_9.size : Int))) + (a1.size : Int))) > 65535 then (some ((⟨#[]⟩ : ByteArray), 4)) else ((ip4_header.f a0_0 a0_1 a0_2 a0_3 a0_4 a0_5 a0_6 a0_7 a0_8 a0_9 (wrap64 ((wrap64 (20 + (a0_9.size : Int))) + (a1.size : Int))) 0).bind fun t418 => ((sum_Sum.f (([t418] : List ByteArray))).bind fun t422 => ((ip4_header.f a0_0 a0_1 a0_2 a0_3 a0_4 a0_5 a0_6 a0_7 a0_8 a0_9 (wrap64 ((wrap64 (20 + (a0_9.size : Int))) + (a1.size : Int))) t422).bind fun t423 => (if t423.size + a1.size ≤ 9223372036854775807 then (some (t423 ++ a1, 0)) else (none)))))) else (some ((⟨#[]⟩ : ByteArray), t417)))
def ip4_Put.T7 : Bool × List (List Nat × List Nat) := (true, [([], []), ([], []), ([], []), ([], []), ([2, 3], [2, 3]), ([4], [4]), ([5, 4], [5]), ([0, 1, 6, 6], [0, 1, 6]), ([], []), ([7, 8], [7, 8]), ([9, 7, 0, 1, 2, 3, 4, 5, 6, 7, 8, 9], [9]), ([10, 0, 1, 2, 3, 4, 5, 6, 7, 8, 9, 10], [])])
def ip4_Put.B7 : List Nat := [0, 0, 0, 0, 12, 28, 60, 127, 0, 511, 1023, 2047]
theorem ip4_Put.tab7 : rtab .any (opsOf Tryd.f87 7) = ip4_Put.T7 := by kernel_rfl
theorem ip4_Put.bits7 : waitsOk ip4_Put.T7.2 ip4_Put.B7 = true := by kernel_rfl
set_option maxHeartbeats 8000000 in
set_option maxRecDepth 100000 in
theorem ip4_Put.calls (a0_0 : Int) (a0_1 : Int) (a0_2 : Int) (a0_3 : Int) (a0_4 : Int) (a0_5 : Bool) (a0_6 : Bool) (a0_7 : ByteArray) (a0_8 : ByteArray) (a0_9 : ByteArray) (a1 : ByteArray) (r1 : ByteArray) (r2 : Int) (w : World) (h : ip4_Put.f a0_0 a0_1 a0_2 a0_3 a0_4 a0_5 a0_6 a0_7 a0_8 a0_9 a1 = some (r1, r2)) :
  Calls Tryd.prog 87 #[.agg #[.int .i64 a0_0, .int .i64 a0_1, .int .i64 a0_2, .int .i64 a0_3, .int .i64 a0_4, .bool a0_5, .bool a0_6, .string a0_7, .string a0_8, .string a0_9], .string a1] w fun e w' => e = .returned (.tuple #[.string r1, .int .i64 r2]) ∧ Below w.heap.size w w' := by
 have hu69 := Tryd.underlying69
 have HB := mA (Below.refl w.heap.size w)
 have H : ((ip4_Check.f a0_0 a0_1 a0_2 a0_3 a0_4 a0_5 a0_6 a0_7 a0_8 a0_9).bind fun t417 => (if t417 = 0 then (if (wrap64 ((wrap64 (20 + (a0_9.size : Int))) + (a1.size : Int))) > 65535 then (some ((⟨#[]⟩ : ByteArray), 4)) else ((ip4_header.f a0_0 a0_1 a0_2 a0_3 a0_4 a0_5 a0_6 a0_7 a0_8 a0_9 (wrap64 ((wrap64 (20 + (a0_9.size : Int))) + (a1.size : Int))) 0).bind fun t418 => ((sum_Sum.f (([t418] : List ByteArray))).bind fun t422 => ((ip4_header.f a0_0 a0_1 a0_2 a0_3 a0_4 a0_5 a0_6 a0_7 a0_8 a0_9 (wrap64 ((wrap64 (20 + (a0_9.size : Int))) + (a1.size : Int))) t422).bind fun t423 => (if t423.size + a1.size ≤ 9223372036854775807 then (some (t423 ++ a1, 0)) else (none)))))) else (some ((⟨#[]⟩ : ByteArray), t417)))) = some (r1, r2) := h
 clear h
 replace H := Option.bind_eq_some_iff.mp H
 obtain ⟨t417, A30, H⟩ := H
 try dsimp +instances only at H
 have A3 := mA A30
 clear A30
 by_cases c4 : t417 = 0
 ·rw [if_pos c4] at H
  have c4b0 : (t417 == 0) = true := beq_iff_eq.mpr c4
  have c4b1 : (t417 != 0) = false := bne_eq_false_iff_eq.mpr c4
  clear c4
  by_cases c5 : (wrap64 ((wrap64 (20 + (a0_9.size : Int))) + (a1.size : Int))) > 65535
  ·rw [if_pos c5] at H
   have c5b0 : decide (65535 < (wrap64 ((wrap64 (20 + (a0_9.size : Int))) + (a1.size : Int)))) = true := decide_eq_true c5
   clear c5
   simp only [Option.some.injEq, Prod.mk.injEq] at H
   obtain ⟨rfl, rfl⟩ := H
   go_enter Tryd.func87, Tryd.ntmps87
   go_wp2_with (first | ((with_reducible refine gate_dst (N := 2) rfl ?_); refine box_event ?hg (N := 2) ?hd (cs := #[.int .i64 a0_0, .int .i64 a0_1, .int .i64 a0_2, .int .i64 a0_3, .int .i64 a0_4, .bool a0_5, .bool a0_6, .string a0_7, .string a0_8, .string a0_9]) (t := 69) ?hr ?_; (case hd => rfl); (case hg => rfl); (case hr => first | (go_simp; done) | (go_simp; rfl)); intro gb416 hg w6 hbox hb; obtain ⟨n0_, nq_⟩ := bpr (by repeat (first | (with_reducible first | exact HB.out | apply bA | apply bN | apply bD) | exact HB.out)) hb; have n1_ := mA (hbox); have n2_ := mA ((by rw [hg]; exact nq_ : w.heap.size ≤ gb416)); have n3_ := mA ((by rw [hg]; exact nq_ : w.heap.size ≤ gb416)); clear HB; have HB := n0_; have BK416 := n1_; have GW416 := n2_; have GE416 := n3_; clear nq_; clear n0_ n1_ n2_ n3_; clear hb hbox hg; obtain ⟨hcz7_0, hcz7_1, hcz7_2, hcz7_3, hcz7_4, hcz7_5, hcz7_6, hcz7_7, hcz7_8, hcz7_9⟩ := bc10 BK416.out; obtain ⟨hfz7_0, hfz7_1, hfz7_2, hfz7_3, hfz7_4, hfz7_5, hfz7_6, hfz7_7, hfz7_8, hfz7_9⟩ := bf10 BK416.out) | ((with_reducible refine gate_callee (f := 116) rfl ?_); refine goesL_ (some 9) rfl rfl Tryd.func116 (by kernel_rfl) rfl #[.agg #[.int .i64 a0_0, .int .i64 a0_1, .int .i64 a0_2, .int .i64 a0_3, .int .i64 a0_4, .bool a0_5, .bool a0_6, .string a0_7, .string a0_8, .string a0_9]] rfl (by (try simp only [List.map_toArray, List.map_cons, List.map_nil]); first | done | rfl | (simp only [List.length_drop, List.length_take]; rfl)) ?_; (with_reducible refine (ip4_Check.calls a0_0 a0_1 a0_2 a0_3 a0_4 a0_5 a0_6 a0_7 a0_8 a0_9 t417 _ A3.out).mono ?_); rintro e w8 ⟨rfl, hb⟩; refine ⟨_, rfl, ?_⟩; have n0_ := mA (blk_below (g := gb416) (o := .cells #[.int .i64 a0_0, .int .i64 a0_1, .int .i64 a0_2, .int .i64 a0_3, .int .i64 a0_4, .bool a0_5, .bool a0_6, .string a0_7, .string a0_8, .string a0_9] 69 (0, 0)) (by (with_reducible repeat (first | apply kN | apply kD | apply kA)); exact BK416.out) hb); have n1_ := mA (bP (by repeat (first | (with_reducible first | exact HB.out | apply bA | apply bN | apply bD | refine bS ?_ GE416.out) | exact HB.out)) hb); clear BK416; clear HB; have BK416 := n0_; have HB := n1_; clear n0_ n1_; (try clear hb); (try clear hb2); (try clear hk); (try clear hi); obtain ⟨hcz9_0, hcz9_1, hcz9_2, hcz9_3, hcz9_4, hcz9_5, hcz9_6, hcz9_7, hcz9_8, hcz9_9⟩ := bc10 BK416.out; obtain ⟨hfz9_0, hfz9_1, hfz9_2, hfz9_3, hfz9_4, hfz9_5, hfz9_6, hfz9_7, hfz9_8, hfz9_9⟩ := bf10 BK416.out))
   go_ret2
   exact ⟨by first | rfl | (simp [errW_none, errW_some] <;> rfl) | (simp [*, errW_none, errW_some] <;> rfl), by repeat (first | (with_reducible first | exact HB.out | apply bA | apply bN | apply bD | refine bS ?_ GE416.out) | exact HB.out)⟩
  ·rw [if_neg c5] at H
   have c5b0 : decide (65535 < (wrap64 ((wrap64 (20 + (a0_9.size : Int))) + (a1.size : Int)))) = false := decide_eq_false c5
   clear c5
   replace H := Option.bind_eq_some_iff.mp H
   obtain ⟨t418, A100, H⟩ := H
   try dsimp +instances only at H
   have A10 := mA A100
   clear A100
   obtain ⟨y419, hy419⟩ : ∃ y_ : List ByteArray, y_ = (([t418] : List ByteArray)) := ⟨_, rfl⟩
   replace H : ((sum_Sum.f y419).bind fun t422 => ((ip4_header.f a0_0 a0_1 a0_2 a0_3 a0_4 a0_5 a0_6 a0_7 a0_8 a0_9 (wrap64 ((wrap64 (20 + (a0_9.size : Int))) + (a1.size : Int))) t422).bind fun t423 => (if t423.size + a1.size ≤ 9223372036854775807 then (some (t423 ++ a1, 0)) else (none)))) = some (r1, r2) := by first | (rw [hy419]; with_reducible exact H) | (have H2_ := (Option.bind_some _ _).symm.trans H; rw [hy419]; with_reducible exact H2_) | (have H2_ := (Option.bind_some _ _).symm.trans H; with_reducible exact H2_) | with_reducible exact H | (rw [hy419]; exact H) | exact H
   have Ny419 := mA hy419
   clear hy419
   replace H := Option.bind_eq_some_iff.mp H
   obtain ⟨t422, A110, H⟩ := H
   try dsimp +instances only at H
   have A11 := mA A110
   clear A110
   replace H := Option.bind_eq_some_iff.mp H
   obtain ⟨t423, A120, H⟩ := H
   try dsimp +instances only at H
   have A12 := mA A120
   clear A120
   by_cases c13 : t423.size + a1.size ≤ 9223372036854775807
   ·rw [if_pos c13] at H
    have c13b0 := eq_true c13
    have c13b1 : decide (t423.size + a1.size ≤ 9223372036854775807) = true := decide_eq_true c13
    try have c13b2 : (9223372036854775807 < t423.size + a1.size) = False := eq_false (Nat.not_lt.2 c13)
    simp only [Option.some.injEq, Prod.mk.injEq] at H
    obtain ⟨rfl, rfl⟩ := H
    go_enter Tryd.func87, Tryd.ntmps87
    try go_wp2_with (first | ((with_reducible refine gate_dst (N := 2) rfl ?_); refine box_event ?hg (N := 2) ?hd (cs := #[.int .i64 a0_0, .int .i64 a0_1, .int .i64 a0_2, .int .i64 a0_3, .int .i64 a0_4, .bool a0_5, .bool a0_6, .string a0_7, .string a0_8, .string a0_9]) (t := 69) ?hr ?_; (case hd => rfl); (case hg => rfl); (case hr => first | (go_simp; done) | (go_simp; rfl)); intro gb416 hg w14 hbox hb; obtain ⟨n0_, nq_⟩ := bpr (by repeat (first | (with_reducible first | exact HB.out | apply bA | apply bN | apply bD) | exact HB.out)) hb; have n1_ := mA (hbox); have n2_ := mA ((by rw [hg]; exact nq_ : w.heap.size ≤ gb416)); have n3_ := mA ((by rw [hg]; exact nq_ : w.heap.size ≤ gb416)); clear HB; have HB := n0_; have BK416 := n1_; have GW416 := n2_; have GE416 := n3_; clear nq_; clear n0_ n1_ n2_ n3_; clear hb hbox hg; obtain ⟨hcz15_0, hcz15_1, hcz15_2, hcz15_3, hcz15_4, hcz15_5, hcz15_6, hcz15_7, hcz15_8, hcz15_9⟩ := bc10 BK416.out; obtain ⟨hfz15_0, hfz15_1, hfz15_2, hfz15_3, hfz15_4, hfz15_5, hfz15_6, hfz15_7, hfz15_8, hfz15_9⟩ := bf10 BK416.out) | ((with_reducible refine gate_callee (f := 116) rfl ?_); refine goesL_ (some 9) rfl rfl Tryd.func116 (by kernel_rfl) rfl #[.agg #[.int .i64 a0_0, .int .i64 a0_1, .int .i64 a0_2, .int .i64 a0_3, .int .i64 a0_4, .bool a0_5, .bool a0_6, .string a0_7, .string a0_8, .string a0_9]] rfl (by (try simp only [List.map_toArray, List.map_cons, List.map_nil]); first | done | rfl | (simp only [List.length_drop, List.length_take]; rfl)) ?_; (with_reducible refine (ip4_Check.calls a0_0 a0_1 a0_2 a0_3 a0_4 a0_5 a0_6 a0_7 a0_8 a0_9 t417 _ A3.out).mono ?_); rintro e w16 ⟨rfl, hb⟩; refine ⟨_, rfl, ?_⟩; have n0_ := mA (blk_below (g := gb416) (o := .cells #[.int .i64 a0_0, .int .i64 a0_1, .int .i64 a0_2, .int .i64 a0_3, .int .i64 a0_4, .bool a0_5, .bool a0_6, .string a0_7, .string a0_8, .string a0_9] 69 (0, 0)) (by (with_reducible repeat (first | apply kN | apply kD | apply kA)); exact BK416.out) hb); have n1_ := mA (bP (by repeat (first | (with_reducible first | exact HB.out | apply bA | apply bN | apply bD | refine bS ?_ GE416.out) | exact HB.out)) hb); clear BK416; clear HB; have BK416 := n0_; have HB := n1_; clear n0_ n1_; (try clear hb); (try clear hb2); (try clear hk); (try clear hi); obtain ⟨hcz17_0, hcz17_1, hcz17_2, hcz17_3, hcz17_4, hcz17_5, hcz17_6, hcz17_7, hcz17_8, hcz17_9⟩ := bc10 BK416.out; obtain ⟨hfz17_0, hfz17_1, hfz17_2, hfz17_3, hfz17_4, hfz17_5, hfz17_6, hfz17_7, hfz17_8, hfz17_9⟩ := bf10 BK416.out))
    have n0_ := mA (kD BK416.out)
    have n1_ := mA (bD HB.out)
    clear BK416
    clear HB
    have BK416 := n0_
    have HB := n1_
    clear n0_ n1_
    refine start_ (n := 12) (S := fun w' => w'.cell? ⟨gb416, 0, none⟩ = some (.int .i64 a0_0) ∧ w'.cell? ⟨gb416, 1, none⟩ = some (.int .i64 a0_1) ∧ w'.cell? ⟨gb416, 2, none⟩ = some (.int .i64 a0_2) ∧ w'.cell? ⟨gb416, 3, none⟩ = some (.int .i64 a0_3) ∧ w'.cell? ⟨gb416, 4, none⟩ = some (.int .i64 a0_4) ∧ w'.cell? ⟨gb416, 5, none⟩ = some (.bool a0_5) ∧ w'.cell? ⟨gb416, 6, none⟩ = some (.bool a0_6) ∧ w'.cell? ⟨gb416, 7, none⟩ = some (.string a0_7) ∧ w'.cell? ⟨gb416, 8, none⟩ = some (.string a0_8) ∧ w'.cell? ⟨gb416, 9, none⟩ = some (.string a0_9)) (ds := []) (bv 12 0) (by kernel_rfl) rfl rfl ⟨(zC BK416.out 0).trans rfl, (zC BK416.out 1).trans rfl, (zC BK416.out 2).trans rfl, (zC BK416.out 3).trans rfl, (zC BK416.out 4).trans rfl, (zC BK416.out 5).trans rfl, (zC BK416.out 6).trans rfl, (zC BK416.out 7).trans rfl, (zC BK416.out 8).trans rfl, (zC BK416.out 9).trans rfl⟩ (fun hHeld => ?_); refine with_tabW ip4_Put.tab7 ip4_Put.bits7 (fun HT_ HW_ => ?_)
    generalize w16.drew = w18 at BK416 HB hHeld ⊢
    refine pure_ (i := 1) (N := some 23) (v := ?_) (a' := ?_) (bv 12 2) rfl rfl (any_of HT_.out (by kernel_rfl)) (fun _ _ _ h => h) (Or.inl ⟨by rfl, ?_⟩) ?_ ?_; rotate_left; (intro w'; go_simp; with_reducible rfl); rotate_left; (simp only [Act.put, List.setIfInBounds_toArray, List.set_cons_zero, List.set_cons_succ, i64_w, i32_w]; rfl)
    refine pure_ (i := 3) (N := some 25) (v := ?_) (a' := ?_) (bv 12 10) rfl rfl (any_of HT_.out (by kernel_rfl)) (fun _ _ _ h => h) (Or.inl ⟨by rfl, ?_⟩) ?_ ?_; rotate_left; (intro w'; go_simp; with_reducible rfl); rotate_left; (simp only [Act.put, List.setIfInBounds_toArray, List.set_cons_zero, List.set_cons_succ, i64_w, i32_w]; rfl)
    refine pure_ (i := 8) (N := some 30) (v := ?_) (a' := ?_) (bv 12 266) rfl rfl (any_of HT_.out (by kernel_rfl)) (fun _ _ _ h => h) (Or.inl ⟨by rfl, ?_⟩) ?_ ?_; rotate_left; (intro w'; go_simp; with_reducible rfl); rotate_left; (simp only [Act.put, List.setIfInBounds_toArray, List.set_cons_zero, List.set_cons_succ, i64_w, i32_w]; rfl)
    refine take_ (i := 0) (N := some 22) (v := ?_) (a' := ?_) (bv 12 267) rfl rfl (take_ofW HT_.out HW_.out (by kernel_rfl)) (fun _ _ _ h => h) (Or.inl ⟨by rfl, ?_⟩) hHeld ?_ ?_; rotate_left; (rintro w' ⟨s0, s1, s2, s3, s4, s5, s6, s7, s8, s9⟩; go_simp; with_reducible rfl); rotate_left; (simp only [Act.put, List.setIfInBounds_toArray, List.set_cons_zero, List.set_cons_succ, i64_w, i32_w]; rfl)
    refine take_ (i := 2) (N := some 24) (v := ?_) (a' := ?_) (bv 12 271) rfl rfl (take_ofW HT_.out HW_.out (by kernel_rfl)) (fun _ _ _ h => h) (Or.inl ⟨by rfl, ?_⟩) hHeld ?_ ?_; rotate_left; (rintro w' ⟨s0, s1, s2, s3, s4, s5, s6, s7, s8, s9⟩; go_simp; with_reducible rfl); rotate_left; (simp only [Act.put, List.setIfInBounds_toArray, List.set_cons_zero, List.set_cons_succ, i64_w, i32_w]; rfl)
    refine one_ (i := 4) (N := some 26) (bv 12 287) rfl rfl (one_of HT_.out (by kernel_rfl)) (by decide) (fun K hK => ?_)
    refine goes_ Tryd.func117 (by kernel_rfl) rfl #[.agg #[.int .i64 a0_0, .int .i64 a0_1, .int .i64 a0_2, .int .i64 a0_3, .int .i64 a0_4, .bool a0_5, .bool a0_6, .string a0_7, .string a0_8, .string a0_9], .int .i64 (wrap64 ((wrap64 (20 + (a0_9.size : Int))) + (a1.size : Int))), .int .i64 0] (by rfl) rfl rfl (by (try simp only [List.map_toArray, List.map_cons, List.map_nil]); first | done | rfl | (simp only [List.length_drop, List.length_take]; rfl)) ?_
    with_reducible refine (ip4_header.calls a0_0 a0_1 a0_2 a0_3 a0_4 a0_5 a0_6 a0_7 a0_8 a0_9 (wrap64 ((wrap64 (20 + (a0_9.size : Int))) + (a1.size : Int))) 0 t418 _ A10.out).mono ?_
    rintro e w19 ⟨rfl, hb⟩
    refine ⟨_, rfl, ?_⟩
    have n0_ := mA (blk_below (g := gb416) (o := .cells #[.int .i64 a0_0, .int .i64 a0_1, .int .i64 a0_2, .int .i64 a0_3, .int .i64 a0_4, .bool a0_5, .bool a0_6, .string a0_7, .string a0_8, .string a0_9] 69 (0, 0)) (by (with_reducible repeat (first | apply kN | apply kD | apply kA)); exact BK416.out) hb)
    have n1_ := mA (bP (by repeat (first | (with_reducible first | exact HB.out | apply bA | apply bN | apply bD | refine bS ?_ GE416.out) | exact HB.out)) hb)
    clear BK416
    clear HB
    have BK416 := n0_
    have HB := n1_
    clear n0_ n1_
    (try clear hb)
    (try clear hb2)
    (try clear hk)
    (try clear hi)
    refine hK.out _ _ ⟨(zC BK416.out 0).trans rfl, (zC BK416.out 1).trans rfl, (zC BK416.out 2).trans rfl, (zC BK416.out 3).trans rfl, (zC BK416.out 4).trans rfl, (zC BK416.out 5).trans rfl, (zC BK416.out 6).trans rfl, (zC BK416.out 7).trans rfl, (zC BK416.out 8).trans rfl, (zC BK416.out 9).trans rfl⟩ (fun hHeld => ?_)
    clear hK K
    refine norm_ (a' := ?_) ?_ ?_
    rotate_left
    ·show Act.put _ (some 26) _ = _
     simp only [Act.put, List.setIfInBounds_toArray, List.set_cons_zero, List.set_cons_succ, i64_w, i32_w]
     rfl
    refine one_ (i := 5) (N := some 27) (bv 12 319) rfl rfl (one_of HT_.out (by kernel_rfl)) (by decide) (fun K hK => ?_)
    refine Kd.R_lit_step Kd.string _ 9 ?hg (N := 27) ?hd (xs := ([t418] : List ByteArray)) (inner := [.string t418]) (ok := fun _ => True) (okp := fun _ => True) ?hr ?hp (fun _ hk => hk) trivial (Below.refl _ _) (Nat.le_refl _) (by simp) ?_; (case hd => rfl); (case hg => rfl); (case hr => first | (go_simp; done) | (go_simp; rfl)); (case hp => exact (Reps.one (show Kd.M Kd.string _ _ _ t418 [.string t418] from rfl) (Reps.none _ _)))
    intro v420 w20 ho21 hb hg_ hnew_
    clear hg_ hnew_
    (first | rw [← Ny419.out] at ho21 | (simp only [Int.reduceToNat] at ho21; rw [← Ny419.out] at ho21))
    have n0_ := mA (Kd.R_lower ho21 (below_size (by repeat (first | (with_reducible first | exact HB.out | apply bA | apply bN | apply bD | refine bS ?_ GE416.out) | exact HB.out))))
    have n1_ := mA (blk_below (g := gb416) (o := .cells #[.int .i64 a0_0, .int .i64 a0_1, .int .i64 a0_2, .int .i64 a0_3, .int .i64 a0_4, .bool a0_5, .bool a0_6, .string a0_7, .string a0_8, .string a0_9] 69 (0, 0)) (by (with_reducible repeat (first | apply kN | apply kD | apply kA)); exact BK416.out) hb)
    have n2_ := mA (bP (by repeat (first | (with_reducible first | exact HB.out | apply bA | apply bN | apply bD | refine bS ?_ GE416.out) | exact HB.out)) hb)
    clear BK416
    clear HB
    have HO421 := n0_
    have BK416 := n1_
    have HB := n2_
    clear n0_ n1_ n2_
    clear hb ho21
    obtain ⟨Ao22, co22, eo22⟩ := Kd.R_slice HO421.out
    (first | subst eo22 | (injection eo22 with f1_ f2_ f3_; have f4_ := f1_.symm; have f5_ := f3_.symm; clear f1_ f2_ f3_; subst f4_; subst f5_))
    refine hK.out _ _ ⟨(zC BK416.out 0).trans rfl, (zC BK416.out 1).trans rfl, (zC BK416.out 2).trans rfl, (zC BK416.out 3).trans rfl, (zC BK416.out 4).trans rfl, (zC BK416.out 5).trans rfl, (zC BK416.out 6).trans rfl, (zC BK416.out 7).trans rfl, (zC BK416.out 8).trans rfl, (zC BK416.out 9).trans rfl⟩ (fun hHeld => ?_)
    clear hK K
    refine norm_ (a' := ?_) ?_ ?_
    rotate_left
    ·show Act.put _ (some 27) _ = _
     simp only [Act.put, List.setIfInBounds_toArray, List.set_cons_zero, List.set_cons_succ, i64_w, i32_w]
     rfl
    refine one_ (i := 6) (N := some 28) (bv 12 383) rfl rfl (one_of HT_.out (by kernel_rfl)) (by decide) (fun K hK => ?_)
    refine goes_ Tryd.func60 (by kernel_rfl) rfl #[.slice Ao22 y419.length co22] (by rfl) rfl rfl (by (try simp only [List.map_toArray, List.map_cons, List.map_nil]); first | done | rfl | (simp only [List.length_drop, List.length_take]; rfl)) ?_
    with_reducible refine (sum_Sum.calls _ _ y419 t422 _ ?side1 ?side2 A11.out).mono ?_
    (case side1 => repeat (first | exact (Kd.R_reads' HO421.out).2.2 | (with_reducible refine Kd.C_alloc ?_ _) | (with_reducible refine Kd.C_drewN ?_ _) | (with_reducible refine Kd.C_drew ?_)))
    (case side2 => exact (Kd.R_reads' HO421.out).2.1)
    rintro e w23 ⟨rfl, hb⟩
    refine ⟨_, rfl, ?_⟩
    have n0_ := mA (Kd.R_below (by (with_reducible repeat (first | apply Kd.R_alloc | apply Kd.R_drewN | apply Kd.R_drew)); exact HO421.out) hb)
    have n1_ := mA (blk_below (g := gb416) (o := .cells #[.int .i64 a0_0, .int .i64 a0_1, .int .i64 a0_2, .int .i64 a0_3, .int .i64 a0_4, .bool a0_5, .bool a0_6, .string a0_7, .string a0_8, .string a0_9] 69 (0, 0)) (by (with_reducible repeat (first | apply kN | apply kD | apply kA)); exact BK416.out) hb)
    have n2_ := mA (bP (by repeat (first | (with_reducible first | exact HB.out | apply bA | apply bN | apply bD | refine bS ?_ GE416.out) | exact HB.out)) hb)
    clear HO421
    clear BK416
    clear HB
    have HO421 := n0_
    have BK416 := n1_
    have HB := n2_
    clear n0_ n1_ n2_
    (try clear hb)
    (try clear hb2)
    (try clear hk)
    (try clear hi)
    refine hK.out _ _ ⟨(zC BK416.out 0).trans rfl, (zC BK416.out 1).trans rfl, (zC BK416.out 2).trans rfl, (zC BK416.out 3).trans rfl, (zC BK416.out 4).trans rfl, (zC BK416.out 5).trans rfl, (zC BK416.out 6).trans rfl, (zC BK416.out 7).trans rfl, (zC BK416.out 8).trans rfl, (zC BK416.out 9).trans rfl⟩ (fun hHeld => ?_)
    clear hK K
    refine norm_ (a' := ?_) ?_ ?_
    rotate_left
    ·show Act.put _ (some 28) _ = _
     simp only [Act.put, List.setIfInBounds_toArray, List.set_cons_zero, List.set_cons_succ, i64_w, i32_w]
     rfl
    refine one_ (i := 7) (N := some 29) (bv 12 511) rfl rfl (one_of HT_.out (by kernel_rfl)) (by decide) (fun K hK => ?_)
    refine goes_ Tryd.func117 (by kernel_rfl) rfl #[.agg #[.int .i64 a0_0, .int .i64 a0_1, .int .i64 a0_2, .int .i64 a0_3, .int .i64 a0_4, .bool a0_5, .bool a0_6, .string a0_7, .string a0_8, .string a0_9], .int .i64 (wrap64 ((wrap64 (20 + (a0_9.size : Int))) + (a1.size : Int))), .int .i64 t422] (by rfl) rfl rfl (by (try simp only [List.map_toArray, List.map_cons, List.map_nil]); first | done | rfl | (simp only [List.length_drop, List.length_take]; rfl)) ?_
    with_reducible refine (ip4_header.calls a0_0 a0_1 a0_2 a0_3 a0_4 a0_5 a0_6 a0_7 a0_8 a0_9 (wrap64 ((wrap64 (20 + (a0_9.size : Int))) + (a1.size : Int))) t422 t423 _ A12.out).mono ?_
    rintro e w24 ⟨rfl, hb⟩
    refine ⟨_, rfl, ?_⟩
    have n0_ := mA (Kd.R_below (by (with_reducible repeat (first | apply Kd.R_alloc | apply Kd.R_drewN | apply Kd.R_drew)); exact HO421.out) hb)
    have n1_ := mA (blk_below (g := gb416) (o := .cells #[.int .i64 a0_0, .int .i64 a0_1, .int .i64 a0_2, .int .i64 a0_3, .int .i64 a0_4, .bool a0_5, .bool a0_6, .string a0_7, .string a0_8, .string a0_9] 69 (0, 0)) (by (with_reducible repeat (first | apply kN | apply kD | apply kA)); exact BK416.out) hb)
    have n2_ := mA (bP (by repeat (first | (with_reducible first | exact HB.out | apply bA | apply bN | apply bD | refine bS ?_ GE416.out) | exact HB.out)) hb)
    clear HO421
    clear BK416
    clear HB
    have HO421 := n0_
    have BK416 := n1_
    have HB := n2_
    clear n0_ n1_ n2_
    (try clear hb)
    (try clear hb2)
    (try clear hk)
    (try clear hi)
    refine hK.out _ _ ⟨(zC BK416.out 0).trans rfl, (zC BK416.out 1).trans rfl, (zC BK416.out 2).trans rfl, (zC BK416.out 3).trans rfl, (zC BK416.out 4).trans rfl, (zC BK416.out 5).trans rfl, (zC BK416.out 6).trans rfl, (zC BK416.out 7).trans rfl, (zC BK416.out 8).trans rfl, (zC BK416.out 9).trans rfl⟩ (fun hHeld => ?_)
    clear hK K
    refine norm_ (a' := ?_) ?_ ?_
    rotate_left
    ·show Act.put _ (some 29) _ = _
     simp only [Act.put, List.setIfInBounds_toArray, List.set_cons_zero, List.set_cons_succ, i64_w, i32_w]
     rfl
    refine pure_ (i := 9) (N := some 31) (v := ?_) (a' := ?_) (bv 12 1023) rfl rfl (any_of HT_.out (by kernel_rfl)) (fun _ _ _ h => h) (Or.inl ⟨by rfl, ?_⟩) ?_ ?_; rotate_left; (intro w'; go_simp; with_reducible rfl); rotate_left; (simp only [Act.put, List.setIfInBounds_toArray, List.set_cons_zero, List.set_cons_succ, i64_w, i32_w]; rfl)
    refine pure_ (i := 10) (N := some 4) (v := ?_) (a' := ?_) (bv 12 2047) rfl rfl (any_of HT_.out (by kernel_rfl)) (fun _ _ _ h => h) (Or.inl ⟨by rfl, ?_⟩) ?_ ?_; rotate_left; (intro w'; go_simp; with_reducible rfl); rotate_left; (simp only [Act.put, List.setIfInBounds_toArray, List.set_cons_zero, List.set_cons_succ, i64_w, i32_w]; rfl)
    refine pure_ (i := 11) (N := some 5) (v := ?_) (a' := ?_) (bv 12 4095) rfl rfl (any_of HT_.out (by kernel_rfl)) (fun _ _ _ h => h) (Or.inl ⟨by rfl, ?_⟩) ?_ ?_; rotate_left; (intro w'; go_simp; with_reducible rfl); rotate_left; (simp only [Act.put, List.setIfInBounds_toArray, List.set_cons_zero, List.set_cons_succ, i64_w, i32_w]; rfl)
    refine done_ (done_of HT_.out (by kernel_rfl)) ?_
    try go_wp2
    go_ret2
    exact ⟨by first | rfl | (simp [errW_none, errW_some] <;> rfl) | (simp [*, errW_none, errW_some] <;> rfl), by repeat (first | (with_reducible first | exact HB.out | apply bA | apply bN | apply bD | refine bS ?_ GE416.out) | exact HB.out)⟩
   ·rw [if_neg c13] at H
    exact absurd H (by simp)
 ·rw [if_neg c4] at H
  have c4b0 : (t417 == 0) = false := beq_eq_false_iff_ne.mpr c4
  have c4b1 : (t417 != 0) = true := bne_iff_ne.mpr c4
  simp only [Option.some.injEq, Prod.mk.injEq] at H
  obtain ⟨rfl, rfl⟩ := H
  go_enter Tryd.func87, Tryd.ntmps87
  go_wp2_with (first | ((with_reducible refine gate_dst (N := 2) rfl ?_); refine box_event ?hg (N := 2) ?hd (cs := #[.int .i64 a0_0, .int .i64 a0_1, .int .i64 a0_2, .int .i64 a0_3, .int .i64 a0_4, .bool a0_5, .bool a0_6, .string a0_7, .string a0_8, .string a0_9]) (t := 69) ?hr ?_; (case hd => rfl); (case hg => rfl); (case hr => first | (go_simp; done) | (go_simp; rfl)); intro gb416 hg w25 hbox hb; obtain ⟨n0_, nq_⟩ := bpr (by repeat (first | (with_reducible first | exact HB.out | apply bA | apply bN | apply bD) | exact HB.out)) hb; have n1_ := mA (hbox); have n2_ := mA ((by rw [hg]; exact nq_ : w.heap.size ≤ gb416)); have n3_ := mA ((by rw [hg]; exact nq_ : w.heap.size ≤ gb416)); clear HB; have HB := n0_; have BK416 := n1_; have GW416 := n2_; have GE416 := n3_; clear nq_; clear n0_ n1_ n2_ n3_; clear hb hbox hg; obtain ⟨hcz26_0, hcz26_1, hcz26_2, hcz26_3, hcz26_4, hcz26_5, hcz26_6, hcz26_7, hcz26_8, hcz26_9⟩ := bc10 BK416.out; obtain ⟨hfz26_0, hfz26_1, hfz26_2, hfz26_3, hfz26_4, hfz26_5, hfz26_6, hfz26_7, hfz26_8, hfz26_9⟩ := bf10 BK416.out) | ((with_reducible refine gate_callee (f := 116) rfl ?_); refine goesL_ (some 9) rfl rfl Tryd.func116 (by kernel_rfl) rfl #[.agg #[.int .i64 a0_0, .int .i64 a0_1, .int .i64 a0_2, .int .i64 a0_3, .int .i64 a0_4, .bool a0_5, .bool a0_6, .string a0_7, .string a0_8, .string a0_9]] rfl (by (try simp only [List.map_toArray, List.map_cons, List.map_nil]); first | done | rfl | (simp only [List.length_drop, List.length_take]; rfl)) ?_; (with_reducible refine (ip4_Check.calls a0_0 a0_1 a0_2 a0_3 a0_4 a0_5 a0_6 a0_7 a0_8 a0_9 t417 _ A3.out).mono ?_); rintro e w27 ⟨rfl, hb⟩; refine ⟨_, rfl, ?_⟩; have n0_ := mA (blk_below (g := gb416) (o := .cells #[.int .i64 a0_0, .int .i64 a0_1, .int .i64 a0_2, .int .i64 a0_3, .int .i64 a0_4, .bool a0_5, .bool a0_6, .string a0_7, .string a0_8, .string a0_9] 69 (0, 0)) (by (with_reducible repeat (first | apply kN | apply kD | apply kA)); exact BK416.out) hb); have n1_ := mA (bP (by repeat (first | (with_reducible first | exact HB.out | apply bA | apply bN | apply bD | refine bS ?_ GE416.out) | exact HB.out)) hb); clear BK416; clear HB; have BK416 := n0_; have HB := n1_; clear n0_ n1_; (try clear hb); (try clear hb2); (try clear hk); (try clear hi)))
  go_ret2
  exact ⟨by first | rfl | (simp [errW_none, errW_some] <;> rfl) | (simp [*, errW_none, errW_some] <;> rfl), by repeat (first | (with_reducible first | exact HB.out | apply bA | apply bN | apply bD | refine bS ?_ GE416.out) | exact HB.out)⟩

end Go.Proofs.YtcmalglippmocaaDoor.G
end

section
namespace Go.Proofs.YtcmalglippmocaaDoor.Pure
theorem and_low (i : Nat) (hi : i ≤ 62) (x : Nat) (hx : x < 9223372036854775808) : Go.bits .and .i64 (x : Int) (((2 ^ i - 1 : Nat)) : Int) = ((x % 2 ^ i : Nat) : Int) := by
  have hp : 2 ^ i ≤ 2 ^ 62 := Nat.pow_le_pow_right (by decide) hi
  have h1 : 1 ≤ 2 ^ i := Nat.one_le_two_pow
  rw [Pal.i64_and x (2 ^ i - 1) hx (by omega), Nat.and_two_pow_sub_one_eq_mod]
theorem and15 (x : Nat) (hx : x < 65536) : Go.bits .and .i64 (x : Int) 15 = ((x % 16 : Nat) : Int) := and_low 4 (by decide) x (by omega)
theorem and1 (x : Nat) (hx : x < 65536) : Go.bits .and .i64 (x : Int) 1 = ((x % 2 : Nat) : Int) := and_low 1 (by decide) x (by omega)
theorem and8191 (x : Nat) (hx : x < 65536) : Go.bits .and .i64 (x : Int) 8191 = ((x % 8192 : Nat) : Int) := and_low 13 (by decide) x (by omega)
end Go.Proofs.YtcmalglippmocaaDoor.Pure
namespace Go.Proofs.YtcmalglippmocaaDoor.G
open Go.Proofs.YtcmalglippmocaaDoor.Pal
def hl4 (s : ByteArray) : Nat := 4 * (be (bl (s.extract 0 1)) % 16)
def ip4Err (s : ByteArray) : Int :=
  if s.size < 20 then 2 else if be (bl (s.extract 0 1)) / 16 = 4 then (if 20 ≤ hl4 s ∧ hl4 s ≤ s.size ∧ be (bl (s.extract 2 4)) = s.size then (if csum (bl (s.extract 0 (hl4 s))) = 0 then (if be (bl (s.extract 6 8)) / 32768 = 0 then 0 else 9) else 5) else 4) else 3
end Go.Proofs.YtcmalglippmocaaDoor.G
end

section
namespace Go.Proofs.YtcmalglippmocaaDoor.G
open Go.Proofs.YtcmalglippmocaaDoor.Pal
def ip4_Get.f (s : ByteArray) : Option (Int × Int × Int × Int × Int × Bool × Bool × ByteArray × ByteArray × ByteArray × ByteArray × Int) :=
  if s.size ≤ 140737488351232 then some (if ip4Err s = 0 then (((be (bl (s.extract 1 2)) : Nat) : Int), ((be (bl (s.extract 4 6)) : Nat) : Int), ((be (bl (s.extract 6 8)) % 8192 : Nat) : Int), ((be (bl (s.extract 8 9)) : Nat) : Int), ((be (bl (s.extract 9 10)) : Nat) : Int), (be (bl (s.extract 6 8)) / 16384 % 2 == 1), (be (bl (s.extract 6 8)) / 8192 % 2 == 1), s.extract 12 16, s.extract 16 20, s.extract 20 (hl4 s), s.extract (hl4 s) s.size, 0) else (0, 0, 0, 0, 0, false, false, ⟨#[]⟩, ⟨#[]⟩, ⟨#[]⟩, ⟨#[]⟩, ip4Err s)) else none
end Go.Proofs.YtcmalglippmocaaDoor.G
end

section
namespace Go.Proofs.YtcmalglippmocaaDoor.G
open Go.RowKit Go.Proofs.YtcmalglippmocaaDoorW.PrintWords Go.Proofs.YtcmalglippmocaaDoorW.PrintLast Go.Proofs.YtcmalglippmocaaDoor.Pal
def tunBare (m : Int) (s k : Bool) (v : Int) : Bool := if m = 1 then (!s && !k && v == 0) else if m = 2 then (k || v == 0) else (!k && v == 0)
def tunMode (m : Int) : Prop := m = 1 ∨ m = 2 ∨ m = 3
instance (m : Int) : Decidable (tunMode m) := by unfold tunMode; infer_instance
def tunErr (m : Int) (s k : Bool) (v ttl tos : Int) : Int :=
  if ¬ tunMode m then 15 else if ¬ ((0 ≤ ttl ∧ ttl ≤ 255) ∧ 0 ≤ tos ∧ tos ≤ 255) then 1 else if tunBare m s k v = true then 0 else 9
def tunnel_Check.f (a0_0 : Int) (a0_1 a0_2 : Bool) (a0_3 : Int) (a0_4 : Bool) (a0_5 a0_6 : Int) : Option Int := some (tunErr a0_0 a0_1 a0_2 a0_3 a0_5 a0_6)
def tunMore (m : Int) (s k : Bool) : Nat := if m = 1 then 0 else if m = 2 then 4 + (if s then 4 else 0) + (if k then 4 else 0) else 12
def tunSize (m : Int) (s k : Bool) : Nat := if tunMode m then 20 + tunMore m s k else 0
def tunnel_Size.f (a0_0 : Int) (a0_1 a0_2 : Bool) (a0_3 : Int) (a0_4 : Bool) (a0_5 a0_6 : Int) : Option Int := some (tunSize a0_0 a0_1 a0_2 : Nat)
def tunPut (m : Int) (s k : Bool) (v port : Int) (src dst inner : ByteArray) : Option (Int × ByteArray × Int) :=
  if m = 1 then ipip_Put.f inner else if m = 2 then (gre_Put.f s k v inner).bind fun q => some (47, q.1, q.2) else (gue_Put.f port s src dst inner).bind fun q => some (17, q.1, q.2)
def tunWayOk (src dst : ByteArray) (id port : Int) : Prop := src.size = 4 ∧ dst.size = 4 ∧ (0 ≤ id ∧ id ≤ 65535) ∧ 0 ≤ port ∧ port ≤ 65535
instance (src dst : ByteArray) (id port : Int) : Decidable (tunWayOk src dst id port) := by unfold tunWayOk; infer_instance
def tunnel_Wrap.f (m : Int) (s k : Bool) (v : Int) (df : Bool) (ttl tos : Int) (src dst : ByteArray) (id port : Int) (inner : ByteArray) : Option (ByteArray × Int) :=
  if ¬ (src.size ≤ 300 ∧ dst.size ≤ 300) then none else if tunErr m s k v ttl tos ≠ 0 then some (⟨#[]⟩, tunErr m s k v ttl tos) else if ¬ tunWayOk src dst id port then some (⟨#[]⟩, 1) else
  (tunPut m s k v port src dst inner).bind fun q => if q.2.2 ≠ 0 then some (⟨#[]⟩, q.2.2) else ip4_Put.f tos id 0 ttl q.1 df false src dst ⟨#[]⟩ q.2.1
abbrev TunR := Int × Bool × Bool × Int × Bool × Int × Int × ByteArray × ByteArray × Int × Int × ByteArray × Int
def tun_bad (e : Int) : TunR := (0, false, false, 0, false, 0, 0, ⟨#[]⟩, ⟨#[]⟩, 0, 0, ⟨#[]⟩, e)
def tunGet (proto : Int) (src dst pay : ByteArray) : Option (Int × Bool × Bool × Int × Int × ByteArray × Int) :=
  if proto = 4 ∨ proto = 41 then (ipip_Get.f proto pay).bind fun q => some (1, false, false, 0, 0, q.1, q.2)
  else if proto = 47 then (gre_Get.f pay).bind fun q => some (2, q.1, q.2.1, q.2.2.1, 0, q.2.2.2.1, q.2.2.2.2)
  else if proto = 17 then (gue_Get.f src dst pay).bind fun q => some (3, q.2.1, false, 0, q.1, q.2.2.1, q.2.2.2) else some (0, false, false, 0, 0, ⟨#[]⟩, 6)
def tunnel_Unwrap.f (p : ByteArray) : Option TunR :=
  (ip4_Get.f p).bind fun h => if h.2.2.2.2.2.2.2.2.2.2.2 ≠ 0 then some (tun_bad h.2.2.2.2.2.2.2.2.2.2.2) else if h.2.2.2.2.2.2.1 = true ∨ h.2.2.1 ≠ 0 then some (tun_bad 14) else
  (tunGet h.2.2.2.2.1 h.2.2.2.2.2.2.2.1 h.2.2.2.2.2.2.2.2.1 h.2.2.2.2.2.2.2.2.2.2.1).bind fun g => if g.2.2.2.2.2.2 ≠ 0 then some (tun_bad g.2.2.2.2.2.2) else
  some (g.1, g.2.1, g.2.2.1, g.2.2.2.1, h.2.2.2.2.2.1, h.2.2.2.1, h.1, h.2.2.2.2.2.2.2.1, h.2.2.2.2.2.2.2.2.1, h.2.1, g.2.2.2.2.1, g.2.2.2.2.2.1, 0)
end Go.Proofs.YtcmalglippmocaaDoor.G
end

section
namespace Go.Proofs.YtcmalglippmocaaDoor.G
open Go.RowKit Go.Proofs.YtcmalglippmocaaDoorW.PrintWords Go.Proofs.YtcmalglippmocaaDoorW.PrintLast Go.Proofs.YtcmalglippmocaaDoorW.PrintMore
attribute [local go_sem] max2_int min2_int max_two min_two max_three min_three max_four min_four

end Go.Proofs.YtcmalglippmocaaDoor.G
end

section
namespace Go.Proofs.YtcmalglippmocaaDoor.G
open Go.RowKit Go.Proofs.YtcmalglippmocaaDoorW.PrintWords Go.Proofs.YtcmalglippmocaaDoorW.PrintLast Go.Proofs.YtcmalglippmocaaDoorW.PrintMore
attribute [local go_sem] max2_int min2_int max_two min_two max_three min_three max_four min_four

end Go.Proofs.YtcmalglippmocaaDoor.G
end

section
namespace Go.Proofs.YtcmalglippmocaaDoor.G
open Go.RowKit Go.Proofs.YtcmalglippmocaaDoorW.PrintWords Go.Proofs.YtcmalglippmocaaDoorW.PrintLast Go.Proofs.YtcmalglippmocaaDoorW.PrintMore
attribute [local go_sem] max2_int min2_int max_two min_two max_three min_three max_four min_four

end Go.Proofs.YtcmalglippmocaaDoor.G
end

section
namespace Go.Proofs.YtcmalglippmocaaDoor.Pure
open Go.RowKit Go.Proofs.YtcmalglippmocaaDoorW.PrintWords Go.Proofs.YtcmalglippmocaaDoorW.PrintLast Go.Proofs.YtcmalglippmocaaDoor.G Go.Proofs.YtcmalglippmocaaDoor.Pal
theorem ver_cases (s : ByteArray) : (s.size = 0 ∧ verOf s = (0, 0, 0, 2)) ∨ (s.size ≠ 0 ∧ bt s 0 / 16 = 4 ∧ verOf s = (4, 4, 2048, 0)) ∨ (s.size ≠ 0 ∧ bt s 0 / 16 = 6 ∧ verOf s = (6, 41, 34525, 0)) ∨ (s.size ≠ 0 ∧ bt s 0 / 16 ≠ 4 ∧ bt s 0 / 16 ≠ 6 ∧ verOf s = (0, 0, 0, 3)) := by
  unfold verOf
  by_cases h0 : s.size = 0
  · left; exact ⟨h0, if_pos h0⟩
  right
  rw [if_neg h0]
  by_cases h4 : bt s 0 / 16 = 4
  · left; exact ⟨h0, h4, if_pos h4⟩
  right
  rw [if_neg h4]
  by_cases h6 : bt s 0 / 16 = 6
  · left; exact ⟨h0, h6, if_pos h6⟩
  right
  exact ⟨h0, h4, h6, if_neg h6⟩
theorem proto_is (s : ByteArray) : ipip_Proto.f s = some ((verOf s).2.1, (verOf s).2.2.2) := rfl
theorem kind_is (s : ByteArray) : ipip_Kind.f s = some ((verOf s).2.2.1, (verOf s).2.2.2) := rfl
theorem put_is (s : ByteArray) : ipip_Put.f s = some (if (verOf s).2.2.2 = 0 then ((verOf s).2.1, s, 0) else (0, ⟨#[]⟩, (verOf s).2.2.2)) := by
  unfold ipip_Put.f
  rw [proto_is, Option.bind_some]
  split <;> rfl
theorem get_own {s : ByteArray} (h : (verOf s).2.2.2 = 0) : ipip_Get.f (verOf s).2.1 s = some (s, 0) := by
  unfold ipip_Get.f
  have hp : ¬ ((verOf s).2.1 ≠ 4 ∧ (verOf s).2.1 ≠ 41) := by
    rcases ver_cases s with ⟨_, e⟩ | ⟨_, _, e⟩ | ⟨_, _, e⟩ | ⟨_, _, _, e⟩ <;> rw [e] at h ⊢ <;> simp at h ⊢
  rw [if_neg hp, if_neg (by simpa using h), if_neg (by simp)]
end Go.Proofs.YtcmalglippmocaaDoor.Pure
end

section
namespace Go.Proofs.YtcmalglippmocaaDoor.Pal
theorem nb2_is (c : Nat) : nb 2 c = [UInt8.ofNat (c / 256), UInt8.ofNat c] := rfl
theorem nb2_tot (c : Nat) (h : c ≤ 65535) : tot false (nb 2 c) = c := by
  rw [nb2_is]
  simp only [tot, UInt8.toNat_ofNat']
  omega
theorem tot_mid (A B : List UInt8) (c : Nat) (hA : odd A = false) (hc : c ≤ 65535) : tot false (A ++ nb 2 c ++ B) = tot false (A ++ nb 2 0 ++ B) + c := by
  have e : ∀ d, odd (A ++ nb 2 d) = false := fun d => by
    unfold odd at hA ⊢
    rw [List.length_append, nb_length]
    simp only [beq_eq_false_iff_ne] at hA ⊢
    omega
  have t : ∀ d, tot false (A ++ nb 2 d ++ B) = tot false A + tot false (nb 2 d) + tot false B := fun d => by
    rw [tot_append, tot_append, e d, hA]
    rfl
  rw [t, t, nb2_tot c hc, nb2_tot 0 (by decide)]
  omega
theorem csum_bound (l : List UInt8) : csum l ≤ 65535 := by unfold csum; omega
theorem inSealed (A B : List UInt8) (hA : odd A = false) : csum (A ++ nb 2 (csum (A ++ nb 2 0 ++ B)) ++ B) = 0 := by
  unfold csum at *
  rw [tot_mid A B _ hA (by omega)]
  generalize tot false (A ++ nb 2 0 ++ B) = t
  unfold fold16
  split <;> split <;> omega
end Go.Proofs.YtcmalglippmocaaDoor.Pal
end

section
namespace Go.Proofs.YtcmalglippmocaaDoor.Pal
def flipByte (b : UInt8) (k : Nat) : UInt8 := UInt8.ofNat (b.toNat ^^^ 2 ^ (k % 8))
def flip (l : List UInt8) (i : Nat) : List UInt8 := l.set (i / 8) (flipByte (l.getD (i / 8) 0) i)
theorem flip_length (l : List UInt8) (i : Nat) : (flip l i).length = l.length := by simp [flip]
theorem flip_fin : ∀ b : Fin 256, ∀ k : Fin 8, (b.val ^^^ 2 ^ k.val) < 256 ∧ ((b.val ^^^ 2 ^ k.val) = b.val + 2 ^ k.val ∨ b.val = (b.val ^^^ 2 ^ k.val) + 2 ^ k.val) ∧ 1 ≤ 2 ^ k.val ∧ 2 ^ k.val ≤ 128 := by decide +kernel
theorem flipByte_is (b : UInt8) (k : Nat) : ∃ d, 1 ≤ d ∧ d ≤ 128 ∧ d = 2 ^ (k % 8) ∧ ((flipByte b k).toNat = b.toNat + d ∨ b.toNat = (flipByte b k).toNat + d) := by
  have h := flip_fin ⟨b.toNat, b.toNat_lt⟩ ⟨k % 8, Nat.mod_lt _ (by decide)⟩
  dsimp only at h
  have e : (flipByte b k).toNat = b.toNat ^^^ 2 ^ (k % 8) := by
    unfold flipByte
    simp only [UInt8.toNat_ofNat']
    exact Nat.mod_eq_of_lt h.1
  rw [e]
  exact ⟨2 ^ (k % 8), h.2.2.1, h.2.2.2, rfl, h.2.1⟩
theorem tot_set (b : UInt8) : ∀ (l : List UInt8) (j : Nat) (o : Bool), j < l.length → ∃ w, (w = 1 ∨ w = 256) ∧ tot o (l.set j b) + w * (l.getD j 0).toNat = tot o l + w * b.toNat
  | [], _, _, h => absurd h (by simp)
  | x :: l, 0, false, _ => ⟨256, .inr rfl, by simp [tot]; omega⟩
  | x :: l, 0, true, _ => ⟨1, .inl rfl, by simp [tot]; omega⟩
  | x :: l, j + 1, false, h => by
    obtain ⟨w, h1, h2⟩ := tot_set b l j true (by simpa using h)
    exact ⟨w, h1, by simp only [List.set_cons_succ, tot, List.getD_cons_succ]; omega⟩
  | x :: l, j + 1, true, h => by
    obtain ⟨w, h1, h2⟩ := tot_set b l j false (by simpa using h)
    exact ⟨w, h1, by simp only [List.set_cons_succ, tot, List.getD_cons_succ]; omega⟩
theorem flip_tot (l : List UInt8) (i : Nat) (h : i / 8 < l.length) (o : Bool) : ∃ D, 1 ≤ D ∧ D ≤ 32768 ∧ (tot o (flip l i) = tot o l + D ∨ tot o l = tot o (flip l i) + D) := by
  obtain ⟨w, hw, h1⟩ := tot_set (flipByte (l.getD (i / 8) 0) i) l (i / 8) o h
  obtain ⟨d, d1, d2, _, h2⟩ := flipByte_is (l.getD (i / 8) 0) i
  unfold flip
  rcases hw with rfl | rfl
  · exact ⟨d, d1, by omega, by omega⟩
  · exact ⟨256 * d, by omega, by omega, by omega⟩
theorem flip_wrong (l : List UInt8) (i : Nat) (h : i / 8 < l.length) (h0 : csum l = 0) : csum (flip l i) ≠ 0 := by
  obtain ⟨D, d1, d2, h1⟩ := flip_tot l i h false
  unfold csum fold16 at *
  split at h0
  · omega
  · split
    · omega
    · omega
theorem cut_bl (s : ByteArray) (n m : Nat) : bl (s.extract n m) = ((bl s).take m).drop n := by simp [bl, ByteArray.data_extract, List.drop_take]
theorem take_bl (s : ByteArray) : (bl s).take s.size = bl s := List.take_of_length_le (by rw [bl_length]; exact Nat.le_refl _)
theorem flip_bits_fin : ∀ b : Fin 256, ∀ k : Fin 8, Go.bits .xor .u8 (b.val : Int) (2 ^ k.val % 256) = ((b.val ^^^ 2 ^ k.val : Nat) : Int) := by decide +kernel
theorem flip_bits (b : UInt8) (i : Nat) : Go.bits .xor .u8 (b.toNat : Int) (2 ^ (i % 8) % 256) = ((flipByte b i).toNat : Int) := by
  have h := flip_bits_fin ⟨b.toNat, b.toNat_lt⟩ ⟨i % 8, Nat.mod_lt _ (by decide)⟩
  have h2 := flip_fin ⟨b.toNat, b.toNat_lt⟩ ⟨i % 8, Nat.mod_lt _ (by decide)⟩
  dsimp only at h h2
  rw [h]
  unfold flipByte
  simp only [UInt8.toNat_ofNat']
  rw [Nat.mod_eq_of_lt h2.1]
theorem flip_cells {w : World} {b : Nat} {l : List UInt8} (h : ∀ j, j < l.length → w.cell? ⟨b, j, none⟩ = some (.int .u8 (l.getD j 0).toNat)) (i : Nat) (hi : i / 8 < l.length) :
    ∀ j (hj : j < (flip l i).length), (w.setCell ⟨b, i / 8, none⟩ (.int .u8 ((flipByte (l.getD (i / 8) 0) i).toNat : Int))).cell? ((⟨b, 0, none⟩ : Addr).add j) = some (.int .u8 ((flip l i)[j].toNat : Int)) := fun j hj => by
  have e : (⟨b, 0, none⟩ : Addr).add j = ⟨b, j, none⟩ := by cases j <;> simp [Addr.add]
  have hj' : j < l.length := by rw [flip_length] at hj; exact hj
  rw [e]
  by_cases c : j = i / 8
  · subst c
    rw [World.cell?_setCell_same' _ _ _ (by rw [h _ hj']; rfl)]
    simp [flip]
  · rw [World.cell?_setCell_other w ⟨b, i / 8, none⟩ ⟨b, j, none⟩ _ (by intro h; injection h with h1 h2; exact c h2.symm), h j hj']
    simp [flip, List.getElem_set, c, Ne.symm c, List.getD_eq_getElem?_getD, List.getElem?_eq_getElem hj']
end Go.Proofs.YtcmalglippmocaaDoor.Pal
end

section
namespace Go.Proofs.YtcmalglippmocaaDoor.Pal
def seal17 (t : Nat) : Nat := if t = 0 then 65535 else t
theorem seal17_le {t : Nat} (h : t ≤ 65535) : 1 ≤ seal17 t ∧ seal17 t ≤ 65535 := by unfold seal17; split <;> omega
theorem seal17_fold (t : Nat) : 65535 - fold16 (t + seal17 (65535 - fold16 t)) = 0 := by
  unfold fold16 seal17
  by_cases h : t = 0
  · subst h; rfl
  · rw [if_neg h]
    have := Nat.mod_lt (t - 1) (show 0 < 65535 by decide)
    by_cases h2 : 65535 - ((t - 1) % 65535 + 1) = 0
    · rw [if_pos h2, if_neg (by omega)]; omega
    · rw [if_neg h2, if_neg (by omega)]; omega
theorem inSealed17 (A B : List UInt8) (hA : odd A = false) : csum (A ++ nb 2 (seal17 (csum (A ++ nb 2 0 ++ B))) ++ B) = 0 := by
  have e := tot_mid A B _ hA (seal17_le (csum_bound (A ++ nb 2 0 ++ B))).2
  unfold csum at *
  rw [e]
  exact seal17_fold _
end Go.Proofs.YtcmalglippmocaaDoor.Pal
end

section
namespace Go.Proofs.YtcmalglippmocaaDoor.Pure
open Go.RowKit Go.Proofs.YtcmalglippmocaaDoorW.PrintWords Go.Proofs.YtcmalglippmocaaDoorW.PrintLast Go.Proofs.YtcmalglippmocaaDoor.G Go.Proofs.YtcmalglippmocaaDoor.Pal
theorem bl_inj {a b : ByteArray} (h : bl a = bl b) : a = b := ByteArray.ext (Array.toList_inj.mp h)
theorem bl_mk (l : List UInt8) : bl ⟨l.toArray⟩ = l := by simp [bl]
theorem u64n_of {a : Int} (h0 : 0 ≤ a) (h1 : a ≤ 18446744073709551615) : u64n a = a.toNat := by
  unfold u64n; rw [IntKind.wrap_u64]; omega
theorem be_nb2 {a : Int} (h : in16 a) : ((be (nb 2 (u64n a)) : Nat) : Int) = a := by
  rw [be_nb, u64n_of h.1 (by have := h.2; omega)]; have := h.1; have := h.2; omega
theorem check_zero {a b : Int} {n : Nat} : udpCheck a b n = 0 ↔ in16 a ∧ in16 b ∧ n ≤ 65527 := by
  unfold udpCheck
  split
  · split <;> simp_all
  · rename_i h; constructor
    · intro h; omega
    · intro h2; exact absurd ⟨h2.1, h2.2.1⟩ h
theorem parts {x : ByteArray} {A B L S : List UInt8} {p : ByteArray} (hx : bl x = A ++ B ++ L ++ S ++ bl p) (hA : A.length = 2) (hB : B.length = 2) (hL : L.length = 2) (hS : S.length = 2) :
    x.size = 8 + p.size ∧ bl (x.extract 0 2) = A ∧ bl (x.extract 2 4) = B ∧ bl (x.extract 4 6) = L ∧ bl (x.extract 6 8) = S ∧ x.extract 8 x.size = p := by
  match A, hA, B, hB, L, hL, S, hS with
  | [a0, a1], _, [b0, b1], _, [l0, l1], _, [s0, s1], _ =>
    have hsz : x.size = 8 + p.size := by rw [← bl_length, hx, ← bl_length]; simp; omega
    refine ⟨hsz, ?_, ?_, ?_, ?_, bl_inj ?_⟩ <;> rw [bl_extract, hx]
    · simp
    · simp
    · simp
    · simp
    · rw [List.take_of_length_le (by simp [bl_length, hsz]; omega)]; simp
theorem put_ok {a b : Int} {p : ByteArray} {n : Int} (h0 : udpCheck a b p.size = 0) (hn : in16 n) : udp_Put.f a b p n = some (⟨(udpBytes a b p n).toArray⟩, 0) := by
  unfold udp_Put.f; rw [if_neg (by omega), if_pos hn]
theorem put_len {a b : Int} {p : ByteArray} {n : Int} (h0 : udpCheck a b p.size ≠ 0) : udp_Put.f a b p n = some (empty, udpCheck a b p.size) := by
  unfold udp_Put.f; rw [if_pos h0]
theorem get_is {s : ByteArray} (hs : s.size ≤ 140737488351232) : udp_Get.f s = some (if udpErr s = 0 then (((be (bl (s.extract 0 2)) : Nat) : Int), ((be (bl (s.extract 2 4)) : Nat) : Int), s.extract 8 s.size, ((be (bl (s.extract 6 8)) : Nat) : Int), 0) else (0, 0, empty, 0, udpErr s)) := by
  unfold udp_Get.f; rw [if_pos hs]
theorem get_put {a b : Int} {p : ByteArray} {n : Int} {x : ByteArray} (ha : in16 a) (hb : in16 b) (hp : p.size ≤ 65527) (hn : in16 n) (hx : bl x = udpBytes a b p n) : udp_Get.f x = some (a, b, p, n, 0) := by
  obtain ⟨h0, h1, h2, h3, h4, h5⟩ := parts hx (nb_length _ _) (nb_length _ _) (nb_length _ _) (nb_length _ _)
  have he : udpErr x = 0 := by
    unfold udpErr
    rw [if_neg (by omega), if_pos (by
      rw [h3]
      have := be_nb2 (a := 8 + (p.size : Int)) (by unfold in16; omega)
      omega)]
  rw [get_is (by omega), if_pos he, h1, h2, h4, h5, be_nb2 ha, be_nb2 hb, be_nb2 hn]
theorem udpBytes_length (a b : Int) (p : ByteArray) (n : Int) : (udpBytes a b p n).length = 8 + p.size := by
  unfold udpBytes; simp only [List.length_append, nb_length, bl_length]
end Go.Proofs.YtcmalglippmocaaDoor.Pure
end

section
namespace Go.Proofs.YtcmalglippmocaaDoor.G
open Go.RowKit Go.Proofs.YtcmalglippmocaaDoorW.PrintWords Go.Proofs.YtcmalglippmocaaDoorW.PrintLast Go.Proofs.YtcmalglippmocaaDoorW.PrintMore
attribute [local go_sem] max2_int min2_int max_two min_two max_three min_three max_four min_four

end Go.Proofs.YtcmalglippmocaaDoor.G
end

section
namespace Go.Proofs.YtcmalglippmocaaDoor.Pure
open Go.RowKit Go.Proofs.YtcmalglippmocaaDoorW.PrintWords Go.Proofs.YtcmalglippmocaaDoorW.PrintLast Go.Proofs.YtcmalglippmocaaDoor.G Go.Proofs.YtcmalglippmocaaDoor.Pal
end Go.Proofs.YtcmalglippmocaaDoor.Pure
end

section
namespace Go.Proofs.YtcmalglippmocaaDoor.Pure
open Go.RowKit Go.Proofs.YtcmalglippmocaaDoorW.PrintWords Go.Proofs.YtcmalglippmocaaDoorW.PrintLast Go.Proofs.YtcmalglippmocaaDoor.G Go.Proofs.YtcmalglippmocaaDoor.Pal
def psT (six : Bool) (a b : Int) : ByteArray := if six then strOfNums [b / 16777216 % 256, b / 65536 % 256, b / 256 % 256, b % 256, 0, 0, 0, a % 256] else strOfNums [0, a % 256, b / 256 % 256, b % 256]
theorem psT_size (six : Bool) (a b : Int) : (psT six a b).size % 2 = 0 ∧ (psT six a b).size ≤ 8 := by
  have sz_nums : ∀ xs : List Int, (strOfNums xs).size = xs.length := fun xs => by rw [← bl_length]; simp [bl, strOfNums]
  unfold psT; split <;> rw [sz_nums] <;> exact ⟨by simp, by simp⟩
def psB (s d : ByteArray) (a b : Int) : ByteArray := s ++ d ++ psT (s.size == 16) a b
theorem pseudo_some (s d : ByteArray) (hs : s.size ≤ 300) (hd : d.size ≤ 300) (a b : Int) : sum_Pseudo.f s d a b = some (psB s d a b) := by
  have sz_nums : ∀ xs : List Int, (strOfNums xs).size = xs.length := fun xs => by rw [← bl_length]; simp [bl, strOfNums]
  unfold sum_Pseudo.f psB psT
  by_cases h : (s.size : Int) = 16
  · have h' : (s.size == 16) = true := beq_iff_eq.mpr (by omega)
    rw [if_pos h, if_pos (by omega), Option.bind_some, if_pos (by rw [sz_nums, ByteArray.size_append]; simp; omega), if_pos h']
  · have h' : (s.size == 16) = false := beq_eq_false_iff_ne.mpr (by omega)
    rw [if_neg h, if_pos (by omega), Option.bind_some, if_pos (by rw [sz_nums, ByteArray.size_append]; simp; omega), if_neg (by rw [h']; decide)]
theorem psB_size (s d : ByteArray) (a b : Int) : (psB s d a b).size = s.size + d.size + (psT (s.size == 16) a b).size := by unfold psB; rw [ByteArray.size_append, ByteArray.size_append]
theorem psB_even (s d : ByteArray) (a b : Int) (h : (s.size + d.size) % 2 = 0) : odd (bl (psB s d a b)) = false := by
  have := (psT_size (s.size == 16) a b).1
  unfold odd; rw [bl_length, psB_size]; simp only [beq_eq_false_iff_ne]; omega
theorem sum_is (l : List ByteArray) (h : (cat l).length ≤ 1099511627776) : sum_Sum.f l = some ((csum (cat l) : Nat) : Int) := by unfold sum_Sum.f; rw [if_pos h]
theorem right2 (a b : ByteArray) (h : a.size + b.size ≤ 1099511627776) : sum_Right.f [a, b] = some (decide (csum (bl a ++ bl b) = 0)) := by
  unfold sum_Right.f
  rw [sum_is _ (by rw [cat_cons, cat_cons, cat_nil, List.append_nil, List.length_append, bl_length, bl_length]; exact h), Option.bind_some, cat_cons, cat_cons, cat_nil, List.append_nil]
  congr 1
  by_cases hc : csum (bl a ++ bl b) = 0
  · rw [hc]; rfl
  · rw [decide_eq_false hc]; exact beq_eq_false_iff_ne.mpr (by omega)
def sealC (p : Int) (t : Nat) : Nat := if t = 0 ∧ p = 17 then 65535 else t
theorem sealC_le {p : Int} {t : Nat} (h : t ≤ 65535) : sealC p t ≤ 65535 := by unfold sealC; split <;> omega
theorem sealNo_is (p : Int) (t : Nat) : sealNo p (t : Int) = ((sealC p t : Nat) : Int) := by
  unfold sealNo sealC
  by_cases h : t = 0 ∧ p = 17
  · rw [if_pos h, if_pos ⟨by omega, h.2⟩]; rfl
  · rw [if_neg h, if_neg (fun h' => h ⟨by omega, h'.2⟩)]
theorem sealC_17 (t : Nat) : sealC 17 t = seal17 t := by unfold sealC seal17; simp
def putAt (s : ByteArray) (q c : Nat) : ByteArray := ⟨((bl s).take q ++ nb 2 c ++ (bl s).drop (q + 2)).toArray⟩
theorem bl_putAt (s : ByteArray) (q c : Nat) : bl (putAt s q c) = (bl s).take q ++ nb 2 c ++ (bl s).drop (q + 2) := by unfold putAt; simp [bl]
def sumAt (ps : ByteArray) (s : ByteArray) (q : Nat) : Nat := csum (bl ps ++ bl (putAt s q 0))
theorem ext_front (s : ByteArray) (q : Nat) : bl (s.extract 0 q) = (bl s).take q := by rw [cut_bl, List.drop_zero]
theorem ext_back (s : ByteArray) (q : Nat) : bl (s.extract q s.size) = (bl s).drop q := by rw [cut_bl, take_bl]
theorem seal_some {p : Int} {a b s : ByteArray} {q : Nat} (h : sealAt p s.size = q) (h0 : q ≠ 0) (hs : s.size ≤ 1000000000) (ha : a.size ≤ 300) (hb : b.size ≤ 300) :
    flow_Seal.f p a b s = some (putAt s q (sealC p (sumAt (psB a b p s.size) s q))) := by
  unfold flow_Seal.f
  rw [if_pos hs, h, if_neg h0]
  unfold seal_with
  rw [pseudo_some a b ha hb, Option.bind_some]
  have hz := psB_size a b p s.size
  have hz2 := (psT_size (a.size == 16) p s.size).2
  have hcat : cat [psB a b p s.size, s.extract 0 q, ⟨#[0, 0]⟩, s.extract (q + 2) s.size] = bl (psB a b p s.size) ++ bl (putAt s q 0) := by
    rw [bl_putAt, cat_cons, cat_cons, cat_cons, cat_cons, cat_nil, List.append_nil, ext_front, ext_back, show bl (⟨#[0, 0]⟩ : ByteArray) = nb 2 0 from rfl]
    simp only [List.append_assoc]
  rw [sum_is _ (by rw [hcat, bl_putAt]; simp only [List.length_append, List.length_take, List.length_drop, nb_length, bl_length]; omega), Option.bind_some, hcat, sealNo_is]
  unfold sealBytes
  rw [u64n_of (by omega) (by have := sealC_le (p := p) (csum_bound (bl (psB a b p s.size) ++ bl (putAt s q 0))); omega), Int.toNat_natCast, ext_front, ext_back]
  rfl
theorem sealed_right {ps s : ByteArray} {q : Nat} {p : Int} (hp : odd (bl ps) = false) (hq : q % 2 = 0) (hl : q + 2 ≤ s.size) : csum (bl ps ++ bl (putAt s q (sealC p (sumAt ps s q)))) = 0 := by
  have hA : odd (bl ps ++ (bl s).take q) = false := by
    have e : ((bl s).take q).length = q := by rw [List.length_take, bl_length]; omega
    unfold odd at hp ⊢
    simp only [beq_eq_false_iff_ne] at hp ⊢
    rw [List.length_append, e]; omega
  have e : ∀ c, bl ps ++ bl (putAt s q c) = (bl ps ++ (bl s).take q) ++ nb 2 c ++ (bl s).drop (q + 2) := fun c => by rw [bl_putAt]; simp only [List.append_assoc]
  unfold sumAt
  rw [e, e]
  unfold sealC
  split
  · rename_i h
    have := inSealed17 (bl ps ++ (bl s).take q) ((bl s).drop (q + 2)) hA
    unfold seal17 at this
    rw [if_pos h.1] at this
    exact this
  · exact inSealed _ _ hA
end Go.Proofs.YtcmalglippmocaaDoor.Pure
end

section
namespace Go.Proofs.YtcmalglippmocaaDoor.Pure
open Go.RowKit Go.Proofs.YtcmalglippmocaaDoorW.PrintWords Go.Proofs.YtcmalglippmocaaDoorW.PrintLast Go.Proofs.YtcmalglippmocaaDoor.G Go.Proofs.YtcmalglippmocaaDoor.Pal
def gueHd (p : Int) : ByteArray := ⟨(nb 1 0 ++ nb 1 (u64n p) ++ nb 2 0).toArray⟩
theorem gueHd_bl (p : Int) : bl (gueHd p) = nb 1 0 ++ nb 1 (u64n p) ++ nb 2 0 := by unfold gueHd; simp [bl]
theorem gueHd_size (p : Int) : (gueHd p).size = 4 := by rw [← bl_length, gueHd_bl]; simp [nb_length]
def guePay (x : ByteArray) : ByteArray := gueHd (verOf x).2.1 ++ x
theorem guePay_size (x : ByteArray) : (guePay x).size = 4 + x.size := by unfold guePay; rw [ByteArray.size_append, gueHd_size]
def gueRaw (port : Int) (x : ByteArray) (c : Nat) : ByteArray := ⟨(udpBytes port 6080 (guePay x) (c : Int)).toArray⟩
theorem bl_raw (port : Int) (x : ByteArray) (c : Nat) : bl (gueRaw port x c) = udpBytes port 6080 (guePay x) (c : Int) := by unfold gueRaw; exact bl_mk _
theorem raw_size (port : Int) (x : ByteArray) (c : Nat) : (gueRaw port x c).size = 12 + x.size := by
  rw [← bl_length, bl_raw, udpBytes_length, guePay_size]; omega
theorem u64n_c (c : Nat) (h : c ≤ 65535) : u64n (c : Int) = c := by rw [u64n_of (by omega) (by omega), Int.toNat_natCast]
theorem raw_put (port : Int) (x : ByteArray) (c d : Nat) (hc : c ≤ 65535) (hd : d ≤ 65535) : putAt (gueRaw port x c) 6 d = gueRaw port x d := by
  apply bl_inj
  rw [bl_putAt, bl_raw, bl_raw]
  unfold udpBytes
  rw [u64n_c c hc, u64n_c d hd]
  generalize hA : nb 2 (u64n port) ++ nb 2 (u64n 6080) ++ nb 2 (u64n (8 + ((guePay x).size : Int))) = A
  have h6 : A.length = 6 := by rw [← hA]; simp [nb_length]
  have e1 : (A ++ nb 2 c ++ bl (guePay x)).take 6 = A := by rw [List.append_assoc]; exact List.take_left' h6
  have e2 : (A ++ nb 2 c ++ bl (guePay x)).drop (6 + 2) = bl (guePay x) := List.drop_left' (by rw [List.length_append, nb_length, h6])
  rw [e1, e2]
theorem sealAt_raw (port : Int) (x : ByteArray) (c : Nat) : sealAt 17 (gueRaw port x c).size = 6 := by
  rw [raw_size]; unfold sealAt; rw [if_neg (fun h => absurd h.1 (by decide)), if_pos ⟨rfl, by omega⟩]
theorem gue_put_no {port : Int} {s : Bool} {a b x : ByteArray} (h : (verOf x).2.2.2 ≠ 0) : gue_Put.f port s a b x = some (⟨#[]⟩, (verOf x).2.2.2) := by
  unfold gue_Put.f; rw [proto_is, Option.bind_some, if_neg h]
theorem header_is (p : Int) : gue_header.f p = some (gueHd p) := rfl
theorem gue_put_bad {port : Int} {s : Bool} {a b x : ByteArray} (h : (verOf x).2.2.2 = 0) (hx : x.size ≤ 140737488351232) (hc : udpCheck port 6080 (4 + x.size) ≠ 0) : gue_Put.f port s a b x = some (⟨#[]⟩, udpCheck port 6080 (4 + x.size)) := by
  unfold gue_Put.f
  rw [proto_is, Option.bind_some, if_pos h, header_is, Option.bind_some, if_pos (by rw [gueHd_size]; omega)]
  have e := put_len (a := port) (b := 6080) (p := guePay x) (n := 0) (by rw [guePay_size]; exact hc)
  rw [guePay_size] at e
  rw [show udp_Put.f port 6080 (gueHd (verOf x).2.1 ++ x) 0 = _ from e, Option.bind_some, if_neg hc]
  rfl
def gueC (s : Bool) (port : Int) (a b x : ByteArray) : Nat := if s then seal17 (csum (bl (psB a b 17 ((12 + x.size : Nat) : Int)) ++ bl (gueRaw port x 0))) else 0
theorem gueC_le (s : Bool) (port : Int) (a b x : ByteArray) : gueC s port a b x ≤ 65535 := by
  unfold gueC; split
  · exact (seal17_le (csum_bound _)).2
  · omega
theorem gueC_zero (s : Bool) (port : Int) (a b x : ByteArray) : (gueC s port a b x = 0) ↔ s = false := by
  unfold gueC; cases s with
  | false => simp
  | true => rw [if_pos rfl]; have := (seal17_le (csum_bound (bl (psB a b 17 ((12 + x.size : Nat) : Int)) ++ bl (gueRaw port x 0)))).1; constructor; intro h; omega; intro h; cases h
theorem seal_raw {port : Int} {a b x : ByteArray} (hx : x.size ≤ 100000) (ha : a.size ≤ 300) (hb : b.size ≤ 300) : flow_Seal.f 17 a b (gueRaw port x 0) = some (gueRaw port x (gueC true port a b x)) := by
  have hz := raw_size port x 0
  rw [seal_some (sealAt_raw port x 0) (by decide) (by omega) ha hb]
  unfold gueC sumAt
  rw [if_pos rfl, raw_put port x 0 0 (by decide) (by decide), raw_put port x 0 _ (by decide) (sealC_le (csum_bound _)), sealC_17, hz]
theorem gue_put_ok {port : Int} {s : Bool} {a b x : ByteArray} (h : (verOf x).2.2.2 = 0) (hx : x.size ≤ 65523) (hp : in16 port) (ha : a.size ≤ 300) (hb : b.size ≤ 300) :
    gue_Put.f port s a b x = some (gueRaw port x (gueC s port a b x), 0) := by
  have hc : udpCheck port 6080 (guePay x).size = 0 := check_zero.mpr ⟨hp, by unfold in16; omega, by rw [guePay_size]; omega⟩
  unfold gue_Put.f
  rw [proto_is, Option.bind_some, if_pos h, header_is, Option.bind_some, if_pos (by rw [gueHd_size]; omega)]
  rw [show udp_Put.f port 6080 (gueHd (verOf x).2.1 ++ x) 0 = some (gueRaw port x 0, 0) from put_ok (p := guePay x) hc (by unfold in16; omega), Option.bind_some, if_pos rfl]
  cases s with
  | false => rfl
  | true =>
    rw [if_pos rfl, seal_raw (by omega) ha hb, Option.bind_some]
theorem ver_proto {x : ByteArray} (h : (verOf x).2.2.2 = 0) : (verOf x).2.1 = 4 ∨ (verOf x).2.1 = 41 := by
  rcases ver_cases x with ⟨_, e⟩ | ⟨_, _, e⟩ | ⟨_, _, e⟩ | ⟨_, _, _, e⟩ <;> rw [e] at h ⊢ <;> simp at h ⊢
theorem pay_bl (x : ByteArray) : bl (guePay x) = nb 1 0 ++ nb 1 (u64n (verOf x).2.1) ++ nb 2 0 ++ bl x := by unfold guePay; rw [bl_append, gueHd_bl]
theorem pay_parts {x : ByteArray} (h : (verOf x).2.2.2 = 0) : ue0 (guePay x) = 0 ∧ ue2 (guePay x) = 0 ∧ gueIn (guePay x) = (x, 0) := by
  have hb := pay_bl x
  have e0 : bl ((guePay x).extract 0 1) = nb 1 0 := by rw [cut_bl, hb]; rfl
  have e1 : bl ((guePay x).extract 1 2) = nb 1 (u64n (verOf x).2.1) := by rw [cut_bl, hb]; rfl
  have e2 : bl ((guePay x).extract 2 4) = nb 2 0 := by rw [cut_bl, hb]; rfl
  have e4 : (guePay x).extract 4 (guePay x).size = x := by
    apply bl_inj
    rw [ext_back, hb]
    rfl
  refine ⟨by unfold ue0; rw [e0]; rfl, by unfold ue2; rw [e2]; rfl, ?_⟩
  unfold gueIn
  have h1 : ue1 (guePay x) = (verOf x).2.1 := by
    unfold ue1; rw [e1]
    rcases ver_proto h with e | e <;> rw [e] <;> decide +kernel
  rw [h1, e4]
  unfold ipipR
  rw [if_neg (by rcases ver_proto h with e | e <;> omega), if_neg (fun h' => h' h), if_neg (fun h' => h' rfl)]
theorem fin_true {port n : Int} {x : ByteArray} (h : (verOf x).2.2.2 = 0) : gue_fin port 6080 n (guePay x) true = (port, n != 0, x, 0) := by
  obtain ⟨h0, h2, hi⟩ := pay_parts h
  have he : gueErr 6080 true (guePay x) = 0 := by
    unfold gueErr
    rw [if_neg (by decide), if_neg (by decide), if_neg (by rw [guePay_size]; omega), if_neg (by rw [h0]; decide), if_neg (fun h' => h' ⟨h0, h2⟩), hi]
  unfold gue_fin
  rw [if_pos he, hi]
theorem fin_false (port n : Int) (P : ByteArray) : gue_fin port 6080 n P false = (0, false, ⟨#[]⟩, 5) := by
  have he : gueErr 6080 false P = 5 := by unfold gueErr; rw [if_neg (by decide), if_pos rfl]
  unfold gue_fin
  rw [if_neg (by rw [he]; decide), he]
def rightB (n : Int) (a b y : ByteArray) : Bool := if n = 0 then true else decide (csum (bl (psB a b 17 (y.size : Int)) ++ bl y) = 0)
theorem right_some {n : Int} {a b y : ByteArray} (ha : a.size ≤ 300) (hb : b.size ≤ 300) (hy : y.size ≤ 1000000000) : gue_right n a b y = some (rightB n a b y) := by
  unfold gue_right rightB
  by_cases hn : n = 0
  · rw [if_pos hn, if_pos hn]
  · have hz := psB_size a b 17 (y.size : Int)
    have hz2 := (psT_size (a.size == 16) 17 (y.size : Int)).2
    rw [if_neg hn, if_neg hn, pseudo_some a b ha hb, Option.bind_some, right2 _ _ (by omega)]
theorem gue_get_raw {port : Int} {a b x : ByteArray} {c : Nat} (h : (verOf x).2.2.2 = 0) (hx : x.size ≤ 65523) (hp : in16 port) (ha : a.size ≤ 300) (hb : b.size ≤ 300) (hc : c ≤ 65535) :
    gue_Get.f a b (gueRaw port x c) = some (if rightB (c : Int) a b (gueRaw port x c) = true then (port, (c : Int) != 0, x, 0) else (0, false, ⟨#[]⟩, 5)) := by
  have hu := get_put (a := port) (b := 6080) (p := guePay x) (n := (c : Int)) hp (by unfold in16; omega) (by rw [guePay_size]; omega) (by unfold in16; omega) (bl_raw port x c)
  have hz := raw_size port x c
  unfold gue_Get.f
  rw [hu, Option.bind_some]
  dsimp +instances only
  rw [if_neg (by decide), right_some ha hb (by omega), Option.bind_some]
  cases rightB (c : Int) a b (gueRaw port x c) with
  | true => rw [fin_true h]; rfl
  | false => rw [fin_false]; rfl
theorem right_sealed {s : Bool} {port : Int} {a b x : ByteArray} (he : (a.size + b.size) % 2 = 0) : rightB ((gueC s port a b x : Nat) : Int) a b (gueRaw port x (gueC s port a b x)) = true := by
  unfold rightB
  cases s with
  | false => rw [if_pos (by rfl)]
  | true =>
    have h0 : gueC true port a b x ≠ 0 := fun h => absurd ((gueC_zero _ _ _ _ _).1 h) (by decide)
    rw [if_neg (by omega), raw_size]
    refine decide_eq_true ?_
    have hs := sealed_right (ps := psB a b 17 ((12 + x.size : Nat) : Int)) (s := gueRaw port x 0) (q := 6) (p := 17) (psB_even a b _ _ he) rfl (by rw [raw_size]; omega)
    unfold sumAt at hs
    rw [raw_put port x 0 0 (by decide) (by decide), raw_put port x 0 _ (by decide) (sealC_le (csum_bound _)), sealC_17] at hs
    unfold gueC
    rw [if_pos rfl]
    exact hs
theorem gue_put_some (port : Int) (s : Bool) {a b x : ByteArray} (hx : x.size ≤ 140737488351232) (ha : a.size ≤ 300) (hb : b.size ≤ 300) :
    ((verOf x).2.2.2 = 0 ∧ x.size ≤ 65523 ∧ in16 port ∧ gue_Put.f port s a b x = some (gueRaw port x (gueC s port a b x), 0)) ∨ ∃ e, e ≠ 0 ∧ (∀ s' a' b', gue_Put.f port s' a' b' x = some (⟨#[]⟩, e)) ∧ ((verOf x).2.2.2 = 0 → x.size ≤ 65523 → ¬ in16 port) := by
  by_cases h : (verOf x).2.2.2 = 0
  · by_cases hc : udpCheck port 6080 (4 + x.size) = 0
    · obtain ⟨h1, h2, h3⟩ := check_zero.mp hc
      exact .inl ⟨h, by omega, h1, gue_put_ok h (by omega) h1 ha hb⟩
    · exact .inr ⟨_, hc, fun s' a' b' => gue_put_bad h hx hc, fun _ hz hp => hc (check_zero.mpr ⟨hp, by unfold in16; omega, by omega⟩)⟩
  · exact .inr ⟨_, h, fun s' a' b' => gue_put_no h, fun h' => absurd h' h⟩
end Go.Proofs.YtcmalglippmocaaDoor.Pure
end

section
namespace Go.Proofs.YtcmalglippmocaaDoor.G
open Go.RowKit Go.Proofs.YtcmalglippmocaaDoorW.PrintWords Go.Proofs.YtcmalglippmocaaDoorW.PrintLast Go.Proofs.YtcmalglippmocaaDoorW.PrintMore
attribute [local go_sem] max2_int min2_int max_two min_two max_three min_three max_four min_four

end Go.Proofs.YtcmalglippmocaaDoor.G
end

section
namespace Go.Proofs.YtcmalglippmocaaDoor.Pure
open Go.RowKit Go.Proofs.YtcmalglippmocaaDoorW.PrintWords Go.Proofs.YtcmalglippmocaaDoorW.PrintLast Go.Proofs.YtcmalglippmocaaDoor.G Go.Proofs.YtcmalglippmocaaDoor.Pal
theorem andNot_nat (x : Nat) (hx : x < 65536) : Go.bits .andNot .i64 (x : Int) 40960 = ((x &&& (2 ^ 64 - 40961) : Nat) : Int) := by
  have e : (BitVec.ofInt IntKind.i64.bits (x : Int) &&& ~~~ BitVec.ofInt IntKind.i64.bits 40960).toNat = x &&& (2 ^ 64 - 40961) := by
    rw [BitVec.toNat_and, show (~~~ BitVec.ofInt IntKind.i64.bits 40960).toNat = 2 ^ 64 - 40961 by decide, BitVec.ofInt_natCast, BitVec.toNat_ofNat, Nat.mod_eq_of_lt (Nat.lt_of_lt_of_le hx (by decide))]
  have hl : x &&& (2 ^ 64 - 40961) ≤ x := Nat.and_le_left
  show IntKind.i64.wrap ((BitVec.ofInt IntKind.i64.bits (x : Int) &&& ~~~ BitVec.ofInt IntKind.i64.bits 40960).toNat : Int) = _
  rw [e, IntKind.wrap_i64]
  omega
theorem andNot_zero (x : Nat) (hx : x < 65536) : Go.bits .andNot .i64 (x : Int) 40960 = 0 ↔ x = 0 ∨ x = 8192 ∨ x = 32768 ∨ x = 40960 := by
  constructor
  · intro h
    rw [andNot_nat x hx] at h
    have h0 : x &&& (2 ^ 64 - 40961) = 0 := by omega
    have h1 : x % 2 ^ 13 = 0 := by
      rw [← Nat.and_two_pow_sub_one_eq_mod]
      have : (x &&& (2 ^ 64 - 40961)) &&& (2 ^ 13 - 1) = x &&& (2 ^ 13 - 1) := by rw [Nat.and_assoc]; congr 1
      rw [← this, h0, Nat.zero_and]
    have h2 : x / 2 ^ 14 % 2 = 0 := by
      have := congrArg (Nat.testBit · 14) h0
      simp only [Nat.testBit_and, Nat.zero_testBit, show (2 ^ 64 - 40961 : Nat).testBit 14 = true by decide, Bool.and_true] at this
      rw [Nat.testBit_eq_decide_div_mod_eq] at this
      have := of_decide_eq_false this
      omega
    omega
  · rintro (rfl | rfl | rfl | rfl) <;> decide +kernel
theorem bits_cases (x : Nat) (h : x = 0 ∨ x = 8192 ∨ x = 32768 ∨ x = 40960) : x = greBits (Go.bits .and .i64 (x : Int) 32768 != 0) (Go.bits .and .i64 (x : Int) 8192 != 0) ∧ Go.bits .and .i64 (x : Int) 7 = 0 := by
  rcases h with rfl | rfl | rfl | rfl <;> decide +kernel
theorem bits_back (S K : Bool) : (greBits S K = 0 ∨ greBits S K = 8192 ∨ greBits S K = 32768 ∨ greBits S K = 40960) ∧ (Go.bits .and .i64 (greBits S K : Int) 32768 != 0) = S ∧ (Go.bits .and .i64 (greBits S K : Int) 8192 != 0) = K ∧ greBits S K < 65536 := by
  cases S <;> cases K <;> decide +kernel
theorem cutG (s : ByteArray) (n m : Nat) : bl (s.extract n m) = ((bl s).take m).drop n := by simp [bl, ByteArray.data_extract, List.drop_take]
theorem segG {x : ByteArray} (A B C : List UInt8) {i j : Nat} (hx : bl x = A ++ B ++ C) (hA : A.length = i) (hB : i + B.length = j) : bl (x.extract i j) = B := by
  rw [cutG, hx, List.take_append_of_le_length (by rw [List.length_append]; omega), List.take_of_length_le (by rw [List.length_append]; omega), List.drop_append_of_le_length (by omega), List.drop_of_length_le (by omega), List.nil_append]
theorem blG_inj {a b : ByteArray} (h : bl a = bl b) : a = b := ByteArray.ext (Array.toList_inj.mp h)
def greTail (S K : Bool) (v c : Nat) : List UInt8 := (if S then nb 2 c ++ nb 2 0 else []) ++ (if K then nb 4 v else [])
theorem tail_len (S K : Bool) (v c : Nat) : (greTail S K v c).length = (if S then 4 else 0) + (if K then 4 else 0) := by
  unfold greTail; cases S <;> cases K <;> simp [nb_length]
theorem got_parts {y x : ByteArray} {S K : Bool} {v c kd : Nat} (hy : bl y = nb 2 (greBits S K) ++ nb 2 kd ++ greTail S K v c ++ bl x) (hk : kd < 65536) (hv : v < 4294967296) :
    y.size = 4 + (if S then 4 else 0) + (if K then 4 else 0) + x.size ∧ gx y = (greBits S K : Nat) ∧ gkd y = (kd : Nat) ∧ gS y = S ∧ gK y = K ∧ gAt y = 4 + (if S then 4 else 0) + (if K then 4 else 0) ∧ gIn y = x ∧ gVal y = (if K then (v : Int) else 0) ∧ (S = true → be (bl (y.extract 6 8)) = 0 ∧ be (bl (y.extract 4 6)) = c % 65536) := by
  have hsz : y.size = 4 + (if S then 4 else 0) + (if K then 4 else 0) + x.size := by
    rw [← bl_length, hy]; simp only [List.length_append, nb_length, tail_len, bl_length]; omega
  have hx0 : gx y = (greBits S K : Nat) := by
    unfold gx
    rw [segG [] (nb 2 (greBits S K)) (nb 2 kd ++ greTail S K v c ++ bl x) (i := 0) (j := 2) (by rw [hy]; simp [List.append_assoc]) rfl (by rw [nb_length]), be_nb, Nat.mod_eq_of_lt (bits_back S K).2.2.2]
  have hkd : gkd y = (kd : Nat) := by
    unfold gkd
    rw [segG (nb 2 (greBits S K)) (nb 2 kd) (greTail S K v c ++ bl x) (by rw [hy]; simp [List.append_assoc]) (nb_length _ _) (by rw [nb_length]), be_nb, Nat.mod_eq_of_lt hk]
  have hS : gS y = S := by unfold gS; rw [hx0]; exact (bits_back S K).2.1
  have hK : gK y = K := by unfold gK; rw [hx0]; exact (bits_back S K).2.2.1
  have hat : gAt y = 4 + (if S then 4 else 0) + (if K then 4 else 0) := by unfold gAt; rw [hS, hK]
  refine ⟨hsz, hx0, hkd, hS, hK, hat, ?_, ?_, ?_⟩
  · apply blG_inj
    unfold gIn
    rw [hat]
    have := segG (nb 2 (greBits S K) ++ nb 2 kd ++ greTail S K v c) (bl x) [] (x := y) (i := 4 + (if S then 4 else 0) + (if K then 4 else 0)) (j := y.size) (by rw [hy]; simp) (by simp only [List.length_append, nb_length, tail_len]; omega) (by rw [bl_length, hsz])
    exact this
  · unfold gVal
    rw [hK, hat]
    cases K with
    | false => rfl
    | true =>
      rw [if_pos rfl, if_pos rfl]
      have := segG (nb 2 (greBits S true) ++ nb 2 kd ++ (if S then nb 2 c ++ nb 2 0 else [])) (nb 4 v) (bl x) (x := y) (i := 4 + (if S then 4 else 0)) (j := 4 + (if S then 4 else 0) + 4) (by rw [hy]; simp [greTail, List.append_assoc]) (by cases S <;> simp [nb_length]) (by rw [nb_length])
      rw [show (4 + (if S = true then 4 else 0)) + 4 - 4 = 4 + (if S = true then 4 else 0) by omega, if_pos rfl, this, be_nb, Nat.mod_eq_of_lt hv]
  · intro h
    subst h
    refine ⟨?_, ?_⟩
    · rw [segG (nb 2 (greBits true K) ++ nb 2 kd ++ nb 2 c) (nb 2 0) ((if K then nb 4 v else []) ++ bl x) (by rw [hy]; simp [greTail, List.append_assoc]) (by simp [nb_length]) (by rw [nb_length]), be_nb]
    · rw [segG (nb 2 (greBits true K) ++ nb 2 kd) (nb 2 c) (nb 2 0 ++ (if K then nb 4 v else []) ++ bl x) (by rw [hy]; simp [greTail, List.append_assoc]) (by simp [nb_length]) (by rw [nb_length]), be_nb]
theorem got_err {y x : ByteArray} {S K : Bool} {v c kd : Nat} (hy : bl y = nb 2 (greBits S K) ++ nb 2 kd ++ greTail S K v c ++ bl x) (hk : kd < 65536) (hv : v < 4294967296) :
    greErr y = if S = true ∧ csum (bl y) ≠ 0 then 5 else if ¬ ((kd : Int) == 2048 || (kd : Int) == 34525) = true then 6 else if (verOf x).2.2.2 ≠ 0 then (verOf x).2.2.2 else if (verOf x).2.2.1 ≠ (kd : Int) then 3 else 0 := by
  obtain ⟨hsz, hx0, hkd, hS, hK, hat, hin, hval, h6⟩ := got_parts hy hk hv
  have hb := bits_back S K
  unfold greErr
  rw [hx0, hkd, hS, hat, hin, hsz, if_neg (by omega), if_neg (fun h => h (bits_cases _ hb.1).2), if_neg (fun h => h ((andNot_zero _ hb.2.2.2).2 hb.1)), if_neg (by omega), if_neg (fun h => h.2 (h6 h.1).1)]
theorem got_ok {y x : ByteArray} {S K : Bool} {v c kd : Nat} (hy : bl y = nb 2 (greBits S K) ++ nb 2 kd ++ greTail S K v c ++ bl x) (hk : kd < 65536) (hv : v < 4294967296) (hs : y.size ≤ 1099511627776)
    (h5 : S = true → csum (bl y) = 0) (he : (verOf x).2.2.2 = 0) (hk2 : (verOf x).2.2.1 = (kd : Int)) : gre_Get.f y = some (S, K, (if K then (v : Int) else 0), x, 0) := by
  obtain ⟨hsz, hx0, hkd, hS, hK, hat, hin, hval, h6⟩ := got_parts hy hk hv
  have h9 : ((kd : Int) == 2048 || (kd : Int) == 34525) = true := by
    rw [← hk2]
    rcases ver_cases x with ⟨_, e⟩ | ⟨_, _, e⟩ | ⟨_, _, e⟩ | ⟨_, _, _, e⟩ <;> rw [e] at he ⊢ <;> simp at he ⊢
  have h0 : greErr y = 0 := by
    rw [got_err hy hk hv, if_neg (fun h => h.2 (h5 h.1)), if_neg (fun h => h h9), if_neg (fun h => h he), if_neg (fun h => h hk2)]
  unfold gre_Get.f
  rw [if_pos hs, if_pos h0, hS, hK, hval, hin]
theorem bytes_is' (S K : Bool) (v : Nat) (kd c : Nat) (hv : v < 4294967296) (hk : kd < 65536) (hc : c ≤ 65535) : greBytes S K v kd c = nb 2 (greBits S K) ++ nb 2 kd ++ greTail S K v c := by
  have w : ∀ n : Nat, n < 4294967296 → u64n (n : Int) = n := fun n hn => by unfold u64n; rw [IntKind.wrap_u64]; omega
  unfold greBytes greTail
  rw [w v hv, w kd (by omega), w c (by omega)]
  simp [List.append_assoc]
theorem gput_ok {S K : Bool} {v : Nat} {x : ByteArray} (hv : v < 4294967296) (hx : x.size ≤ 1000000) (he : (verOf x).2.2.2 = 0) :
    ∃ y kd c, gre_Put.f S K v x = some (y, 0) ∧ bl y = nb 2 (greBits S K) ++ nb 2 kd ++ greTail S K v c ++ bl x ∧ (verOf x).2.2.1 = (kd : Nat) ∧ kd < 65536 ∧ c ≤ 65535 ∧ c = csum (nb 2 (greBits S K) ++ nb 2 kd ++ greTail S K v 0 ++ bl x) ∧ (S = true → csum (bl y) = 0) := by
  obtain ⟨kd, hkd, hk⟩ : ∃ kd : Nat, (verOf x).2.2.1 = (kd : Nat) ∧ kd < 65536 := by
    rcases ver_cases x with ⟨_, e⟩ | ⟨_, _, e⟩ | ⟨_, _, e⟩ | ⟨_, _, _, e⟩ <;> rw [e] at he ⊢
    · exact absurd he (by decide)
    · exact ⟨2048, rfl, by decide⟩
    · exact ⟨34525, rfl, by decide⟩
    · exact absurd he (by decide)
  have hc := csum_bound (nb 2 (greBits S K) ++ nb 2 kd ++ greTail S K v 0 ++ bl x)
  obtain ⟨c, hcc⟩ : ∃ c, c = csum (nb 2 (greBits S K) ++ nb 2 kd ++ greTail S K v 0 ++ bl x) := ⟨_, rfl⟩
  rw [← hcc] at hc
  have hlen : ∀ c' : Nat, (nb 2 (greBits S K) ++ nb 2 kd ++ greTail S K v c').length ≤ 12 := fun c' => by simp only [List.length_append, nb_length, tail_len]; split <;> split <;> omega
  obtain ⟨t0, ht0⟩ : ∃ t0 : ByteArray, t0 = ⟨(nb 2 (greBits S K) ++ nb 2 kd ++ greTail S K v 0).toArray⟩ := ⟨_, rfl⟩
  obtain ⟨t1, ht1⟩ : ∃ t1 : ByteArray, t1 = ⟨(nb 2 (greBits S K) ++ nb 2 kd ++ greTail S K v c).toArray⟩ := ⟨_, rfl⟩
  have b0 : bl t0 = nb 2 (greBits S K) ++ nb 2 kd ++ greTail S K v 0 := by rw [ht0]; simp [bl]
  have b1 : bl t1 = nb 2 (greBits S K) ++ nb 2 kd ++ greTail S K v c := by rw [ht1]; simp [bl]
  have z0 : t0.size ≤ 12 := by rw [← bl_length, b0]; exact hlen 0
  have z1 : t1.size ≤ 12 := by rw [← bl_length, b1]; exact hlen c
  have e0 : gre_bytes.f S K v kd 0 = some t0 := by
    unfold gre_bytes.f
    have := bytes_is' S K v kd 0 hv hk (by decide)
    rw [if_pos ⟨by omega, by omega⟩, ht0, ← this]; rfl
  have e1 : gre_bytes.f S K v kd (c : Int) = some t1 := by
    unfold gre_bytes.f
    rw [if_pos ⟨by omega, by omega⟩, ht1, ← bytes_is' S K v kd c hv hk hc]
  have hs : sum_Sum.f [t0, x] = some ((c : Nat) : Int) := by
    unfold sum_Sum.f
    rw [cat_cons, cat_cons, cat_nil, List.append_nil, if_pos (by rw [List.length_append, bl_length, bl_length]; omega), b0, ← hcc]
  refine ⟨t1 ++ x, kd, c, ?_, by rw [bl_append, b1], hkd, hk, hc, hcc, ?_⟩
  · unfold gre_Put.f
    rw [kind_is, Option.bind_some]
    dsimp +instances only
    rw [if_pos he, hkd, e0, Option.bind_some, hs, Option.bind_some, e1, Option.bind_some, if_pos (by omega)]
  · intro h
    subst h
    rw [bl_append, b1]
    have := inSealed (nb 2 (greBits true K) ++ nb 2 kd) (nb 2 0 ++ (if K then nb 4 v else []) ++ bl x) (by simp [odd, nb_length])
    have e2 : ∀ c' : Nat, nb 2 (greBits true K) ++ nb 2 kd ++ greTail true K v c' ++ bl x = nb 2 (greBits true K) ++ nb 2 kd ++ nb 2 c' ++ (nb 2 0 ++ (if K then nb 4 v else []) ++ bl x) := fun c' => by simp [greTail, List.append_assoc]
    rw [e2, hcc, e2]
    exact this
theorem put_no {S K : Bool} {v : Int} {x : ByteArray} (he : (verOf x).2.2.2 ≠ 0) : gre_Put.f S K v x = some (⟨#[]⟩, (verOf x).2.2.2) := by
  unfold gre_Put.f
  rw [kind_is, Option.bind_some]
  dsimp +instances only
  rw [if_neg he]
end Go.Proofs.YtcmalglippmocaaDoor.Pure
end

section
namespace Go.Proofs.YtcmalglippmocaaDoor.Pure
open Go.RowKit Go.Proofs.YtcmalglippmocaaDoorW.PrintWords Go.Proofs.YtcmalglippmocaaDoorW.PrintLast Go.Proofs.YtcmalglippmocaaDoor.G Go.Proofs.YtcmalglippmocaaDoor.Pal
theorem bl4_inj {a b : ByteArray} (h : bl a = bl b) : a = b := ByteArray.ext (Array.toList_inj.mp h)
theorem bl4_mk (l : List UInt8) : bl ⟨l.toArray⟩ = l := by simp [bl]
theorem size4_mk (l : List UInt8) : (⟨l.toArray⟩ : ByteArray).size = l.length := by simp [ByteArray.size]
theorem or_add4 (i x y : Nat) (hy : y < 2 ^ i) : 2 ^ i * x ||| y = 2 ^ i * x + y := (Nat.two_pow_add_eq_or_of_lt hy x).symm
theorem u64n_nat (x : Nat) (h : x ≤ 18446744073709551615) : u64n (x : Int) = x := by unfold u64n; rw [IntKind.wrap_u64]; omega
def fl (df mf : Bool) (off : Nat) : Nat := (if df then 16384 else 0) + (if mf then 8192 else 0) + off
theorem fl_lt {df mf : Bool} {off : Nat} (h : off < 8192) : fl df mf off < 32768 := by unfold fl; split <;> split <;> omega
theorem flags_is (df mf : Bool) (off : Nat) (h : off < 8192) : flags4 (off : Int) df mf = ((fl df mf off : Nat) : Int) := by
  have hb : ∃ k, k ≤ 3 ∧ Go.bits .or .i64 (bit14 df) (bit13 mf) = ((8192 * k : Nat) : Int) ∧ fl df mf off = 8192 * k + off := by
    cases df <;> cases mf
    · exact ⟨0, by decide, by decide +kernel, by simp [fl]⟩
    · exact ⟨1, by decide, by decide +kernel, by simp [fl]⟩
    · exact ⟨2, by decide, by decide +kernel, by simp [fl]⟩
    · exact ⟨3, by decide, by decide +kernel, by simp [fl]⟩
  obtain ⟨k, hk, e1, e2⟩ := hb
  unfold flags4
  rw [e1, i64_or _ _ (by omega) (by omega), e2]
  have := or_add4 13 k off h
  rw [show (2 : Nat) ^ 13 = 8192 from rfl] at this
  rw [this]
theorem first_is (n : Nat) (h : n ≤ 40) : first4 n = ((64 + (20 + n) / 4 : Nat) : Int) := by
  unfold first4
  have e := i64_or 64 ((20 + n) / 4) (by decide) (by omega)
  have := or_add4 6 1 ((20 + n) / 4) (by omega)
  rw [show (2 : Nat) ^ 6 * 1 = 64 from rfl] at this
  rw [this] at e
  exact e
def head4 (tos id off ttl proto : Nat) (df mf : Bool) (src dst opt : ByteArray) (total check : Nat) : List UInt8 :=
  nb 1 (64 + (20 + opt.size) / 4) ++ nb 1 tos ++ nb 2 total ++ nb 2 id ++ nb 2 (fl df mf off) ++ nb 1 ttl ++ nb 1 proto ++ nb 2 check ++ (bl src ++ bl dst ++ bl opt)
theorem head4_length (tos id off ttl proto : Nat) (df mf : Bool) (src dst opt : ByteArray) (total check : Nat) : (head4 tos id off ttl proto df mf src dst opt total check).length = 12 + src.size + dst.size + opt.size := by
  unfold head4; simp only [List.length_append, nb_length, bl_length]; omega
theorem bytes4_is {tos id off ttl proto : Nat} {df mf : Bool} {src dst opt : ByteArray} {total check : Nat} (h : ok4 tos id off ttl proto src dst opt) (ht : total ≤ 65535) (hc : check ≤ 65535) :
    ip4Bytes tos id off ttl proto df mf src dst opt total check = head4 tos id off ttl proto df mf src dst opt total check := by
  obtain ⟨h1, h2, h3, h4, h5, h6, h7, h8, h9⟩ := h
  unfold ip4Bytes head4
  rw [first_is _ h8, flags_is _ _ _ (by omega), u64n_nat _ (by omega), u64n_nat _ (by omega), u64n_nat _ (by omega), u64n_nat _ (by omega), u64n_nat _ (by have := fl_lt (df := df) (mf := mf) (show off < 8192 by omega); omega), u64n_nat _ (by omega), u64n_nat _ (by omega), u64n_nat _ (by omega), bl_append, bl_append]
def put4 (tos id off ttl proto : Nat) (df mf : Bool) (src dst opt p : ByteArray) : List UInt8 :=
  head4 tos id off ttl proto df mf src dst opt (20 + opt.size + p.size) (csum (head4 tos id off ttl proto df mf src dst opt (20 + opt.size + p.size) 0)) ++ bl p
theorem csum4_le (l : List UInt8) : csum l ≤ 65535 := by unfold csum; omega
theorem sum4_one (t : ByteArray) (h : t.size ≤ 1099511627776) : sum_Sum.f [t] = some ((csum (bl t) : Nat) : Int) := by
  have e : cat [t] = bl t := by rw [cat_cons, cat_nil, List.append_nil]
  unfold sum_Sum.f; rw [if_pos (by rw [e, bl_length]; exact h), e]
theorem check4 {tos id off ttl proto : Int} {df mf : Bool} {src dst opt : ByteArray} (h1 : src.size ≤ 281474976710656) (h2 : dst.size ≤ 281474976710656) (h3 : opt.size ≤ 281474976710656) :
    ip4_Check.f tos id off ttl proto df mf src dst opt = some (if ok4 tos id off ttl proto src dst opt then 0 else 1) := by
  unfold ip4_Check.f; rw [if_pos ⟨by omega, by omega, by omega⟩]
theorem put4_ok {tos id off ttl proto : Nat} {df mf : Bool} {src dst opt p : ByteArray} (h : ok4 tos id off ttl proto src dst opt) (hp : 20 + opt.size + p.size ≤ 65535) :
    ip4_Put.f tos id off ttl proto df mf src dst opt p = some (⟨(put4 tos id off ttl proto df mf src dst opt p).toArray⟩, 0) := by
  have hs := h.2.2.2.2.2
  unfold ip4_Put.f
  rw [check4 (by omega) (by omega) (by omega), Option.bind_some, if_pos h, if_pos rfl, show wrap64 (wrap64 (20 + (opt.size : Int)) + (p.size : Int)) = ((20 + opt.size + p.size : Nat) : Int) by unfold wrap64; omega, if_neg (by omega)]
  unfold ip4_header.f
  rw [if_pos (by omega), Option.bind_some, show (0 : Int) = ((0 : Nat) : Int) from rfl, bytes4_is h hp (by decide)]
  have hl := head4_length tos id off ttl proto df mf src dst opt (20 + opt.size + p.size) 0
  rw [sum4_one _ (by rw [size4_mk, hl]; omega), Option.bind_some, bl4_mk, if_pos (by omega), Option.bind_some, bytes4_is h hp (csum4_le _), if_pos (by rw [size4_mk, head4_length]; omega)]
  refine congrArg some (Prod.ext (bl4_inj ?_) rfl)
  dsimp only
  rw [bl_append]
  refine Eq.trans ?_ (bl4_mk _).symm
  unfold put4
  congr 1
theorem put4_big {tos id off ttl proto : Nat} {df mf : Bool} {src dst opt p : ByteArray} (h : ok4 tos id off ttl proto src dst opt) (hp : ¬ 20 + opt.size + p.size ≤ 65535) (hq : p.size ≤ 140737488351232) :
    ip4_Put.f tos id off ttl proto df mf src dst opt p = some (⟨#[]⟩, 4) := by
  have hs := h.2.2.2.2.2
  unfold ip4_Put.f
  rw [check4 (by omega) (by omega) (by omega), Option.bind_some, if_pos h, if_pos rfl, show wrap64 (wrap64 (20 + (opt.size : Int)) + (p.size : Int)) = ((20 + opt.size + p.size : Nat) : Int) by unfold wrap64; omega, if_pos (by omega)]
end Go.Proofs.YtcmalglippmocaaDoor.Pure
end

section
namespace Go.Proofs.YtcmalglippmocaaDoor.Pure
open Go.RowKit Go.Proofs.YtcmalglippmocaaDoorW.PrintWords Go.Proofs.YtcmalglippmocaaDoorW.PrintLast Go.Proofs.YtcmalglippmocaaDoor.G Go.Proofs.YtcmalglippmocaaDoor.Pal
theorem cut4 (s : ByteArray) (n m : Nat) : bl (s.extract n m) = ((bl s).take m).drop n := by simp [bl, ByteArray.data_extract, List.drop_take]
theorem seg4 {x : ByteArray} (A B C : List UInt8) {i j : Nat} (hx : bl x = A ++ B ++ C) (hA : A.length = i) (hB : i + B.length = j) : bl (x.extract i j) = B := by
  rw [cut4, hx, List.take_left' (by rw [List.length_append]; omega), List.drop_left' hA]
theorem parts4 {x src dst opt p : ByteArray} {a b c d e f g h : List UInt8} (hx : bl x = a ++ b ++ c ++ d ++ e ++ f ++ g ++ h ++ (bl src ++ bl dst ++ bl opt) ++ bl p) (ha : a.length = 1) (hb : b.length = 1) (hc : c.length = 2) (hd : d.length = 2) (he : e.length = 2) (hf : f.length = 1) (hg : g.length = 1) (hh : h.length = 2) (hs : src.size = 4) (ht : dst.size = 4) :
    x.size = 20 + opt.size + p.size ∧ bl (x.extract 0 1) = a ∧ bl (x.extract 1 2) = b ∧ bl (x.extract 2 4) = c ∧ bl (x.extract 4 6) = d ∧ bl (x.extract 6 8) = e ∧ bl (x.extract 8 9) = f ∧ bl (x.extract 9 10) = g ∧ bl (x.extract 10 12) = h ∧ x.extract 12 16 = src ∧ x.extract 16 20 = dst ∧ x.extract 20 (20 + opt.size) = opt ∧ x.extract (20 + opt.size) x.size = p ∧ bl (x.extract 0 (20 + opt.size)) = a ++ b ++ c ++ d ++ e ++ f ++ g ++ h ++ (bl src ++ bl dst ++ bl opt) := by
  have ls := bl_length src
  have lt := bl_length dst
  have lo := bl_length opt
  have lp := bl_length p
  have hsz : x.size = 20 + opt.size + p.size := by rw [← bl_length, hx]; simp only [List.length_append]; omega
  refine ⟨hsz, seg4 [] a (b ++ c ++ d ++ e ++ f ++ g ++ h ++ (bl src ++ bl dst ++ bl opt) ++ bl p) (by rw [hx]; simp only [List.append_assoc, List.nil_append]) rfl (by omega),
    seg4 a b (c ++ d ++ e ++ f ++ g ++ h ++ (bl src ++ bl dst ++ bl opt) ++ bl p) (by rw [hx]; simp only [List.append_assoc]) ha (by omega),
    seg4 (a ++ b) c (d ++ e ++ f ++ g ++ h ++ (bl src ++ bl dst ++ bl opt) ++ bl p) (by rw [hx]; simp only [List.append_assoc]) (by simp only [List.length_append]; omega) (by omega),
    seg4 (a ++ b ++ c) d (e ++ f ++ g ++ h ++ (bl src ++ bl dst ++ bl opt) ++ bl p) (by rw [hx]; simp only [List.append_assoc]) (by simp only [List.length_append]; omega) (by omega),
    seg4 (a ++ b ++ c ++ d) e (f ++ g ++ h ++ (bl src ++ bl dst ++ bl opt) ++ bl p) (by rw [hx]; simp only [List.append_assoc]) (by simp only [List.length_append]; omega) (by omega),
    seg4 (a ++ b ++ c ++ d ++ e) f (g ++ h ++ (bl src ++ bl dst ++ bl opt) ++ bl p) (by rw [hx]; simp only [List.append_assoc]) (by simp only [List.length_append]; omega) (by omega),
    seg4 (a ++ b ++ c ++ d ++ e ++ f) g (h ++ (bl src ++ bl dst ++ bl opt) ++ bl p) (by rw [hx]; simp only [List.append_assoc]) (by simp only [List.length_append]; omega) (by omega),
    seg4 (a ++ b ++ c ++ d ++ e ++ f ++ g) h ((bl src ++ bl dst ++ bl opt) ++ bl p) (by rw [hx]; simp only [List.append_assoc]) (by simp only [List.length_append]; omega) (by omega),
    bl4_inj (seg4 (a ++ b ++ c ++ d ++ e ++ f ++ g ++ h) (bl src) (bl dst ++ bl opt ++ bl p) (by rw [hx]; simp only [List.append_assoc]) (by simp only [List.length_append]; omega) (by omega)),
    bl4_inj (seg4 (a ++ b ++ c ++ d ++ e ++ f ++ g ++ h ++ bl src) (bl dst) (bl opt ++ bl p) (by rw [hx]; simp only [List.append_assoc]) (by simp only [List.length_append]; omega) (by omega)),
    bl4_inj (seg4 (a ++ b ++ c ++ d ++ e ++ f ++ g ++ h ++ bl src ++ bl dst) (bl opt) (bl p) (by rw [hx]; simp only [List.append_assoc]) (by simp only [List.length_append]; omega) (by omega)),
    bl4_inj (seg4 (a ++ b ++ c ++ d ++ e ++ f ++ g ++ h ++ bl src ++ bl dst ++ bl opt) (bl p) [] (by rw [hx]; simp only [List.append_assoc, List.append_nil]) (by simp only [List.length_append]; omega) (by omega)),
    seg4 [] (a ++ b ++ c ++ d ++ e ++ f ++ g ++ h ++ (bl src ++ bl dst ++ bl opt)) (bl p) (by rw [hx]; simp only [List.nil_append]) rfl (by simp only [List.length_append]; omega)⟩
theorem one4 (v : Nat) (h : v < 256) : be (nb 1 v) = v := by rw [be_nb]; omega
theorem two4 (v : Nat) (h : v < 65536) : be (nb 2 v) = v := by rw [be_nb]; omega
theorem head4_mid (tos id off ttl proto : Nat) (df mf : Bool) (src dst opt : ByteArray) (T C : Nat) :
    head4 tos id off ttl proto df mf src dst opt T C = (nb 1 (64 + (20 + opt.size) / 4) ++ nb 1 tos ++ nb 2 T ++ nb 2 id ++ nb 2 (fl df mf off) ++ nb 1 ttl ++ nb 1 proto) ++ nb 2 C ++ (bl src ++ bl dst ++ bl opt) := rfl
theorem head4_seal (tos id off ttl proto : Nat) (df mf : Bool) (src dst opt : ByteArray) (T : Nat) : csum (head4 tos id off ttl proto df mf src dst opt T (csum (head4 tos id off ttl proto df mf src dst opt T 0))) = 0 := by
  rw [head4_mid, head4_mid]
  refine inSealed _ _ ?_
  unfold odd
  simp only [List.length_append, nb_length]
  rfl
theorem fl_parts (df mf : Bool) (off : Nat) (h : off < 8192) : fl df mf off % 8192 = off ∧ (fl df mf off / 16384 % 2 == 1) = df ∧ (fl df mf off / 8192 % 2 == 1) = mf ∧ fl df mf off / 32768 = 0 := by
  have b1 : ∀ x : Nat, x = 1 → (x == 1) = true := fun x hx => by rw [hx]; rfl
  have b0 : ∀ x : Nat, x = 0 → (x == 1) = false := fun x hx => by rw [hx]; rfl
  cases df <;> cases mf <;> simp only [fl, Bool.false_eq_true, if_false, if_true]
  · exact ⟨by omega, b0 _ (by omega), b0 _ (by omega), by omega⟩
  · exact ⟨by omega, b0 _ (by omega), b1 _ (by omega), by omega⟩
  · exact ⟨by omega, b1 _ (by omega), b0 _ (by omega), by omega⟩
  · exact ⟨by omega, b1 _ (by omega), b1 _ (by omega), by omega⟩
theorem get_put4 {tos id off ttl proto : Nat} {df mf : Bool} {src dst opt p x : ByteArray} (h : ok4 tos id off ttl proto src dst opt) (hp : 20 + opt.size + p.size ≤ 65535) (hx : bl x = put4 tos id off ttl proto df mf src dst opt p) :
    ip4_Get.f x = some ((tos : Int), (id : Int), (off : Int), (ttl : Int), (proto : Int), df, mf, src, dst, opt, p, 0) := by
  obtain ⟨h1, h2, h3, h4, h5, h6, h7, h8, h9⟩ := h
  have hseal := head4_seal tos id off ttl proto df mf src dst opt (20 + opt.size + p.size)
  have hC := csum_bound (head4 tos id off ttl proto df mf src dst opt (20 + opt.size + p.size) 0)
  unfold put4 at hx
  generalize csum (head4 tos id off ttl proto df mf src dst opt (20 + opt.size + p.size) 0) = C at hseal hC hx
  have hx' := hx
  unfold head4 at hx' hseal
  obtain ⟨z, q1, q2, q3, q4, q5, q6, q7, q8, q9, q10, q11, q12, q13⟩ := parts4 hx' (nb_length _ _) (nb_length _ _) (nb_length _ _) (nb_length _ _) (nb_length _ _) (nb_length _ _) (nb_length _ _) (nb_length _ _) h6 h7
  obtain ⟨f1, f2, f3, f4⟩ := fl_parts df mf off (by omega)
  have hb : be (bl (x.extract 0 1)) = 64 + (20 + opt.size) / 4 := by rw [q1]; exact one4 _ (by omega)
  have hh : hl4 x = 20 + opt.size := by unfold hl4; rw [hb]; omega
  have hF : be (bl (x.extract 6 8)) = fl df mf off := by rw [q5]; exact two4 _ (by have := fl_lt (df := df) (mf := mf) (show off < 8192 by omega); omega)
  have hT : be (bl (x.extract 2 4)) = x.size := by rw [q3, z]; exact two4 _ (by omega)
  have he : ip4Err x = 0 := by
    unfold ip4Err
    rw [if_neg (by omega), if_pos (by rw [hb]; omega), if_pos ⟨by omega, by omega, hT⟩, hh, q13, hseal, if_pos rfl, hF, if_pos f4]
  unfold ip4_Get.f
  rw [if_pos (by omega), if_pos he, hF, f1, f2, f3, hh, q9, q10, q11, q12, q2, q4, q6, q7, one4 tos (by omega), two4 id (by omega), one4 ttl (by omega), one4 proto (by omega)]
theorem err4_zero {s : ByteArray} (h : ip4Err s = 0) : 20 ≤ s.size ∧ be (bl (s.extract 0 1)) / 16 = 4 ∧ (20 ≤ hl4 s ∧ hl4 s ≤ s.size ∧ be (bl (s.extract 2 4)) = s.size) ∧ csum (bl (s.extract 0 (hl4 s))) = 0 ∧ be (bl (s.extract 6 8)) / 32768 = 0 := by
  unfold ip4Err at h
  by_cases h1 : s.size < 20
  · rw [if_pos h1] at h; exact absurd h (by decide)
  rw [if_neg h1] at h
  by_cases h2 : be (bl (s.extract 0 1)) / 16 = 4
  case neg => rw [if_neg h2] at h; exact absurd h (by decide)
  rw [if_pos h2] at h
  by_cases h3 : 20 ≤ hl4 s ∧ hl4 s ≤ s.size ∧ be (bl (s.extract 2 4)) = s.size
  case neg => rw [if_neg h3] at h; exact absurd h (by decide)
  rw [if_pos h3] at h
  by_cases h4 : csum (bl (s.extract 0 (hl4 s))) = 0
  case neg => rw [if_neg h4] at h; exact absurd h (by decide)
  rw [if_pos h4] at h
  by_cases h5 : be (bl (s.extract 6 8)) / 32768 = 0
  case neg => rw [if_neg h5] at h; exact absurd h (by decide)
  exact ⟨by omega, h2, h3, h4, h5⟩
end Go.Proofs.YtcmalglippmocaaDoor.Pure
end

section
namespace Go.Proofs.YtcmalglippmocaaDoor.Pure
open Go.RowKit Go.Proofs.YtcmalglippmocaaDoorW.PrintWords Go.Proofs.YtcmalglippmocaaDoorW.PrintLast Go.Proofs.YtcmalglippmocaaDoor.G Go.Proofs.YtcmalglippmocaaDoor.Pal
theorem flip_take (l : List UInt8) (i n : Nat) (h : i / 8 < n) : (Pal.flip l i).take n = Pal.flip (l.take n) i := by
  unfold Pal.flip
  rw [List.take_set]
  congr 2
  simp [List.getD_eq_getElem?_getD, List.getElem?_take, h]
theorem flip_take_out (l : List UInt8) (i n : Nat) (h : n ≤ i / 8) : (Pal.flip l i).take n = l.take n := by
  unfold Pal.flip
  rw [List.take_set]
  exact List.set_eq_of_length_le (by rw [List.length_take]; omega)
theorem flip_low_fin : ∀ b : Fin 256, ∀ k : Fin 8, 4 ≤ k.val → (b.val ^^^ 2 ^ k.val) % 16 = b.val % 16 := by decide +kernel
theorem flipByte_low (b : UInt8) (k : Nat) (h : 4 ≤ k % 8) : (flipByte b k).toNat % 16 = b.toNat % 16 := by
  have h1 := flip_low_fin ⟨b.toNat, b.toNat_lt⟩ ⟨k % 8, Nat.mod_lt _ (by decide)⟩ h
  have h2 := flip_fin ⟨b.toNat, b.toNat_lt⟩ ⟨k % 8, Nat.mod_lt _ (by decide)⟩
  dsimp only at h1 h2
  unfold flipByte
  simp only [UInt8.toNat_ofNat']
  rw [Nat.mod_eq_of_lt h2.1, h1]
theorem be_one (l : List UInt8) (h : 0 < l.length) : be (l.take 1) = (l.getD 0 0).toNat := by
  cases l with
  | nil => exact absurd h (by simp)
  | cons x l => simp [be]
theorem hl4_flip {x z : ByteArray} {i : Nat} (hz : bl z = Pal.flip (bl x) i) (h4 : 4 ≤ i) (h0 : 0 < x.size) : hl4 z = hl4 x := by
  unfold hl4
  rw [cut_bl, cut_bl, List.drop_zero, List.drop_zero, hz]
  by_cases c : i / 8 = 0
  · have hx : 0 < (bl x).length := by rw [bl_length]; exact h0
    rw [be_one _ (by rw [flip_length]; exact hx), be_one _ hx]
    have e : (Pal.flip (bl x) i).getD 0 0 = flipByte ((bl x).getD 0 0) i := by
      unfold Pal.flip
      rw [c]
      cases hb : bl x with
      | nil => rw [hb] at hx; exact absurd hx (by simp)
      | cons a l => simp
    rw [e, flipByte_low _ _ (by omega)]
  · rw [flip_take_out _ _ _ (by omega)]
theorem err4_flip {x z : ByteArray} {i : Nat} (hx : ip4Err x = 0) (hz : bl z = Pal.flip (bl x) i) (h4 : 4 ≤ i) (hi : i / 8 < hl4 x) : ip4Err z ≠ 0 := fun h => by
  obtain ⟨h20, _, ⟨_, hl, _⟩, hc, _⟩ := err4_zero hx
  obtain ⟨_, _, _, hc', _⟩ := err4_zero h
  rw [hl4_flip hz h4 (by omega), cut_bl, List.drop_zero, hz, flip_take _ _ _ hi] at hc'
  rw [cut_bl, List.drop_zero] at hc
  exact flip_wrong _ i (by rw [List.length_take, bl_length]; omega) hc hc'
theorem get4_bad {z : ByteArray} (hs : z.size ≤ 140737488351232) (h : ip4Err z ≠ 0) : ip4_Get.f z = some (0, 0, 0, 0, 0, false, false, ⟨#[]⟩, ⟨#[]⟩, ⟨#[]⟩, ⟨#[]⟩, ip4Err z) := by
  unfold ip4_Get.f
  rw [if_pos hs, if_neg h]
theorem put4_err {tos id off ttl proto : Nat} {df mf : Bool} {src dst opt p x : ByteArray} (h : ok4 tos id off ttl proto src dst opt) (hp : 20 + opt.size + p.size ≤ 65535) (hx : bl x = put4 tos id off ttl proto df mf src dst opt p) :
    ip4Err x = 0 ∧ hl4 x = 20 + opt.size ∧ x.size = 20 + opt.size + p.size := by
  have hg := get_put4 h hp hx
  have hsz : x.size = 20 + opt.size + p.size := by
    obtain ⟨_, _, _, _, _, h6, h7, _, _⟩ := h
    rw [← bl_length, hx]
    unfold put4 head4
    simp only [List.length_append, nb_length, bl_length]
    omega
  unfold ip4_Get.f at hg
  rw [if_pos (by omega)] at hg
  by_cases he : ip4Err x = 0
  · rw [if_pos he] at hg
    have h10 := congrArg (fun o => (o.map fun t => t.2.2.2.2.2.2.2.2.2.1.size).getD 0) hg
    dsimp only [Option.map_some, Option.getD_some] at h10
    obtain ⟨_, hl, hm⟩ := (err4_zero he).2.2.1
    rw [ByteArray.size_extract] at h10
    exact ⟨he, by omega, hsz⟩
  · rw [if_neg he] at hg
    have h12 := congrArg (fun o => (o.map fun t => t.2.2.2.2.2.2.2.2.2.2.2).getD 0) hg
    dsimp only [Option.map_some, Option.getD_some] at h12
    exact absurd h12 he
end Go.Proofs.YtcmalglippmocaaDoor.Pure
end

section
namespace Go.Proofs.YtcmalglippmocaaDoor.Pure
open Go.RowKit Go.Proofs.YtcmalglippmocaaDoorW.PrintWords Go.Proofs.YtcmalglippmocaaDoorW.PrintLast Go.Proofs.YtcmalglippmocaaDoor.G Go.Proofs.YtcmalglippmocaaDoor.Pal
namespace TN
theorem err_zero {m v ttl tos : Int} {s k : Bool} (h : tunErr m s k v ttl tos = 0) : tunMode m ∧ ((0 ≤ ttl ∧ ttl ≤ 255) ∧ 0 ≤ tos ∧ tos ≤ 255) ∧ tunBare m s k v = true := by
  unfold tunErr at h
  split at h
  · exact absurd h (by decide)
  split at h
  · exact absurd h (by decide)
  split at h
  · exact ⟨by rename_i a _ _; exact Classical.not_not.1 a, by rename_i a _; exact Classical.not_not.1 a, by assumption⟩
  · exact absurd h (by decide)
theorem err_of {m v ttl tos : Int} {s k : Bool} (h1 : tunMode m) (h2 : (0 ≤ ttl ∧ ttl ≤ 255) ∧ 0 ≤ tos ∧ tos ≤ 255) (h3 : tunBare m s k v = true) : tunErr m s k v ttl tos = 0 := by
  unfold tunErr
  rw [if_neg (fun h => h h1), if_neg (fun h => h h2), if_pos h3]
def Pay (m : Int) (s k : Bool) (v port : Int) (src dst inner : ByteArray) (proto : Nat) (pay : ByteArray) : Prop :=
  proto ≤ 255 ∧ pay.size = inner.size + tunMore m s k ∧ tunPut m s k v port src dst inner = some ((proto : Int), pay, 0) ∧ tunGet (proto : Int) src dst pay = some (m, s, k, v, (if m = 3 then port else 0), inner, 0)
theorem tail_size {y x : ByteArray} {S K : Bool} {v c kd : Nat} (h : bl y = nb 2 (greBits S K) ++ nb 2 kd ++ greTail S K v c ++ bl x) : y.size = x.size + (4 + (if S then 4 else 0) + (if K then 4 else 0)) := by
  rw [← bl_length, h]
  simp only [List.length_append, nb_length, tail_len, bl_length]
  omega
theorem pay_cases {m v port : Int} {s k : Bool} {src dst inner : ByteArray} (hm : tunMode m) (hb : tunBare m s k v = true) (hv : 0 ≤ v ∧ v < 4294967296) (hs : src.size = 4) (hd : dst.size = 4) (hi : inner.size ≤ 1000000) (hp : 0 ≤ port ∧ port ≤ 65535) :
    (∃ proto pay, Pay m s k v port src dst inner proto pay) ∨ ∃ (e : Int) (q : Int × ByteArray), e ≠ 0 ∧ tunPut m s k v port src dst inner = some (q.1, q.2, e) := by
  rcases hm with rfl | rfl | rfl
  · unfold tunBare at hb
    rw [if_pos rfl] at hb
    simp only [Bool.and_eq_true, Bool.not_eq_true', beq_iff_eq] at hb
    obtain ⟨⟨rfl, rfl⟩, rfl⟩ := hb
    by_cases he : (verOf inner).2.2.2 = 0
    · left
      obtain ⟨n, hn, hn2⟩ : ∃ n : Nat, (verOf inner).2.1 = n ∧ (n = 4 ∨ n = 41) := by
        rcases ver_proto he with e | e
        · exact ⟨4, e, .inl rfl⟩
        · exact ⟨41, e, .inr rfl⟩
      have hg := get_own he
      rw [hn] at hg
      refine ⟨n, inner, by omega, by unfold tunMore; rw [if_pos rfl]; rfl, ?_, ?_⟩
      · unfold tunPut
        rw [if_pos rfl, put_is, if_pos he, hn]
      · unfold tunGet
        rw [if_pos (by omega), hg, Option.bind_some]
        rfl
    · right
      refine ⟨(verOf inner).2.2.2, (0, ⟨#[]⟩), he, ?_⟩
      unfold tunPut
      rw [if_pos rfl, put_is, if_neg he]
  · unfold tunBare at hb
    rw [if_neg (by decide), if_pos rfl] at hb
    simp only [Bool.or_eq_true, beq_iff_eq] at hb
    obtain ⟨v, rfl⟩ := Int.eq_ofNat_of_zero_le hv.1
    by_cases he : (verOf inner).2.2.2 = 0
    · left
      obtain ⟨y, kd, c, hput, hy, hk, hkd, hc, hcc, h5⟩ := gput_ok (S := s) (K := k) (v := v) (x := inner) (by omega) hi he
      have hz := tail_size hy
      have hg := got_ok (y := y) (x := inner) hy hkd (by omega) (by rw [hz]; split <;> split <;> omega) h5 he hk
      have hvv : (if k = true then (v : Int) else 0) = v := by
        rcases hb with h | h
        · rw [if_pos h]
        · rw [h]; split <;> rfl
      rw [hvv] at hg
      refine ⟨47, y, by decide, by unfold tunMore; rw [if_neg (by decide), if_pos rfl]; exact hz, ?_, ?_⟩
      · unfold tunPut
        rw [if_neg (by decide), if_pos rfl, hput, Option.bind_some]
        rfl
      · unfold tunGet
        rw [if_neg (by decide), if_pos (by decide), hg, Option.bind_some, if_neg (by decide)]
    · right
      refine ⟨(verOf inner).2.2.2, (47, ⟨#[]⟩), he, ?_⟩
      unfold tunPut
      rw [if_neg (by decide), if_pos rfl, put_no he, Option.bind_some]
  · unfold tunBare at hb
    rw [if_neg (by decide), if_neg (by decide)] at hb
    simp only [Bool.and_eq_true, Bool.not_eq_true', beq_iff_eq] at hb
    obtain ⟨rfl, rfl⟩ := hb
    rcases gue_put_some port s (a := src) (b := dst) (x := inner) (by omega) (by omega) (by omega) with ⟨he, hz, hip, hput⟩ | ⟨e, he, hput, _⟩
    · left
      have hr := right_sealed (s := s) (port := port) (a := src) (b := dst) (x := inner) (by omega)
      have hg := gue_get_raw (port := port) (a := src) (b := dst) (x := inner) (c := gueC s port src dst inner) he hz hip (by omega) (by omega) (gueC_le _ _ _ _ _)
      rw [if_pos hr] at hg
      have hc0 := gueC_zero s port src dst inner
      have hcs : (((gueC s port src dst inner : Nat) : Int) != 0) = s := by
        cases s with
        | false => rw [hc0.2 rfl]; rfl
        | true => exact bne_iff_ne.mpr (by have : gueC true port src dst inner ≠ 0 := fun h => absurd (hc0.1 h) (by decide); omega)
      rw [hcs] at hg
      refine ⟨17, gueRaw port inner (gueC s port src dst inner), by decide, by unfold tunMore; rw [if_neg (by decide), if_neg (by decide), raw_size]; omega, ?_, ?_⟩
      · unfold tunPut
        rw [if_neg (by decide), if_neg (by decide), hput, Option.bind_some]
        rfl
      · unfold tunGet
        rw [if_neg (by decide), if_neg (by decide), if_pos (by decide), hg, Option.bind_some, if_pos rfl]
    · right
      refine ⟨e, (17, ⟨#[]⟩), he, ?_⟩
      unfold tunPut
      rw [if_neg (by decide), if_neg (by decide), hput, Option.bind_some]
def Wr (tos id ttl proto : Nat) (df : Bool) (src dst pay x : ByteArray) : Prop := bl x = put4 tos id 0 ttl proto df false src dst ⟨#[]⟩ pay
theorem wrap_cases {m v ttl tos id port : Int} {s k df : Bool} {src dst inner : ByteArray} (hv : 0 ≤ v ∧ v < 4294967296) (hi : inner.size ≤ 1000000) (h1 : src.size ≤ 300) (h2 : dst.size ≤ 300) :
    (∃ proto pay, tunErr m s k v ttl tos = 0 ∧ tunWayOk src dst id port ∧ Pay m s k v port src dst inner proto pay ∧ 20 + pay.size ≤ 65535) ∨ ∃ e, e ≠ 0 ∧ tunnel_Wrap.f m s k v df ttl tos src dst id port inner = some (⟨#[]⟩, e) := by
  by_cases hn : tunErr m s k v ttl tos ≠ 0
  · right; exact ⟨_, hn, by unfold tunnel_Wrap.f; rw [if_neg (fun h => h ⟨h1, h2⟩), if_pos hn]⟩
  have he := Classical.not_not.1 hn
  by_cases hwn : ¬ tunWayOk src dst id port
  · right; exact ⟨1, by decide, by unfold tunnel_Wrap.f; rw [if_neg (fun h => h ⟨h1, h2⟩), if_neg (fun h => h he), if_pos hwn]⟩
  have hw := Classical.not_not.1 hwn
  obtain ⟨hm, hr, hb⟩ := err_zero he
  obtain ⟨ws, wd, wi, wp⟩ := hw
  rcases (pay_cases hm hb hv ws wd hi wp).symm with ⟨e, q, h0, hq⟩ | ⟨proto, pay, hpay⟩
  · right
    refine ⟨e, h0, ?_⟩
    unfold tunnel_Wrap.f
    rw [if_neg (fun h => h ⟨by omega, by omega⟩), if_neg (fun h => h he), if_neg (fun h => h ⟨ws, wd, wi, wp⟩), hq, Option.bind_some, if_pos h0]
  by_cases hz : 20 + pay.size ≤ 65535
  · exact .inl ⟨proto, pay, he, ⟨ws, wd, wi, wp⟩, hpay, hz⟩
  · right
    obtain ⟨a, ha⟩ := Int.eq_ofNat_of_zero_le hr.1.1
    obtain ⟨b, hb'⟩ := Int.eq_ofNat_of_zero_le hr.2.1
    obtain ⟨c, hc⟩ := Int.eq_ofNat_of_zero_le wi.1
    refine ⟨4, by decide, ?_⟩
    unfold tunnel_Wrap.f
    obtain ⟨q1, q2, q3, q4⟩ := hpay
    rw [if_neg (fun h => h ⟨by omega, by omega⟩), if_neg (fun h => h he), if_neg (fun h => h ⟨ws, wd, wi, wp⟩), q3, Option.bind_some, if_neg (fun h => h rfl), ha, hb', hc]
    have hmore : tunMore m s k ≤ 12 := by unfold tunMore; cases s <;> cases k <;> simp <;> (repeat' split) <;> omega
    have := put4_big (tos := b) (id := c) (off := 0) (ttl := a) (proto := proto) (df := df) (mf := false) (src := src) (dst := dst) (opt := ⟨#[]⟩) (p := pay) ⟨by omega, by omega, by omega, by omega, by omega, ws, wd, by decide, by decide⟩ (by rw [show (⟨#[]⟩ : ByteArray).size = 0 from rfl]; omega) (by omega)
    exact this
theorem nil_size : (⟨#[]⟩ : ByteArray).size = 0 := rfl
theorem wr_ok {tos id ttl proto : Nat} {src dst : ByteArray} (h1 : tos ≤ 255) (h2 : id ≤ 65535) (h3 : ttl ≤ 255) (h4 : proto ≤ 255) (hs : src.size = 4) (hd : dst.size = 4) : ok4 (tos : Int) (id : Int) ((0 : Nat) : Int) (ttl : Int) (proto : Int) src dst ⟨#[]⟩ :=
  ⟨by omega, by omega, by omega, by omega, by omega, hs, hd, by decide, by decide⟩
theorem wrap_ok {m v ttl tos id port : Int} {s k df : Bool} {src dst inner pay : ByteArray} {proto : Nat} (he : tunErr m s k v ttl tos = 0) (hw : tunWayOk src dst id port) (hp : Pay m s k v port src dst inner proto pay) (hz : 20 + pay.size ≤ 65535) :
    ∃ x, tunnel_Wrap.f m s k v df ttl tos src dst id port inner = some (x, 0) ∧ Wr tos.toNat id.toNat ttl.toNat proto df src dst pay x ∧ x.size = 20 + pay.size ∧ ip4Err x = 0 ∧ hl4 x = 20 ∧
      tunnel_Unwrap.f x = some (m, s, k, v, df, ttl, tos, src, dst, id, (if m = 3 then port else 0), inner, 0) := by
  obtain ⟨hm, hr, hb⟩ := err_zero he
  obtain ⟨ws, wd, wi, wp⟩ := hw
  obtain ⟨a, rfl⟩ := Int.eq_ofNat_of_zero_le hr.1.1
  obtain ⟨b, rfl⟩ := Int.eq_ofNat_of_zero_le hr.2.1
  obtain ⟨c, rfl⟩ := Int.eq_ofNat_of_zero_le wi.1
  obtain ⟨q1, q2, q3, q4⟩ := hp
  have hok := wr_ok (tos := b) (id := c) (ttl := a) (proto := proto) (src := src) (dst := dst) (by omega) (by omega) (by omega) q1 ws wd
  have hput := put4_ok (df := df) (mf := false) (p := pay) hok (by rw [nil_size]; omega)
  obtain ⟨x, hx⟩ : ∃ x : ByteArray, x = ⟨(put4 b c 0 a proto df false src dst ⟨#[]⟩ pay).toArray⟩ := ⟨_, rfl⟩
  rw [← hx] at hput
  have hbx : bl x = put4 b c 0 a proto df false src dst ⟨#[]⟩ pay := by rw [hx]; exact bl4_mk _
  have hget := get_put4 hok (by rw [nil_size]; omega) hbx
  obtain ⟨e1, e2, e3⟩ := put4_err hok (by rw [nil_size]; omega) hbx
  refine ⟨x, ?_, by rw [Int.toNat_natCast, Int.toNat_natCast, Int.toNat_natCast]; exact hbx, by rw [e3, nil_size], e1, by rw [e2, nil_size], ?_⟩
  · unfold tunnel_Wrap.f
    rw [if_neg (fun h => h ⟨by omega, by omega⟩), if_neg (fun h => h he), if_neg (fun h => h ⟨ws, wd, wi, wp⟩), q3, Option.bind_some, if_neg (fun h => h rfl)]
    exact hput
  · unfold tunnel_Unwrap.f
    rw [hget, Option.bind_some, if_neg (fun h => h rfl), if_neg (fun h => by rcases h with h | h; exact absurd h Bool.false_ne_true; exact h rfl), q4, Option.bind_some, if_neg (fun h => h rfl)]
theorem wr_parts {tos id ttl proto : Nat} {df : Bool} {src dst pay x : ByteArray} (hs : src.size = 4) (hd : dst.size = 4) (h : Wr tos id ttl proto df src dst pay x) :
    bl (x.extract 0 1) = nb 1 69 ∧ bl (x.extract 2 4) = nb 2 (20 + pay.size) ∧ bl (x.extract 9 10) = nb 1 proto ∧ bl (x.extract 12 20) = bl src ++ bl dst ∧ bl (x.extract 20 x.size) = bl pay := by
  unfold Wr put4 at h
  generalize csum (head4 tos id 0 ttl proto df false src dst ⟨#[]⟩ (20 + (⟨#[]⟩ : ByteArray).size + pay.size) 0) = C at h
  unfold head4 at h
  rw [nil_size] at h
  have e : bl (⟨#[]⟩ : ByteArray) = [] := rfl
  rw [e, List.append_nil] at h
  have hl := bl_length src
  have hl2 := bl_length dst
  refine ⟨?_, ?_, ?_, ?_, ?_⟩
  · exact seg4 [] (nb 1 69) (nb 1 tos ++ nb 2 (20 + 0 + pay.size) ++ nb 2 id ++ nb 2 (fl df false 0) ++ nb 1 ttl ++ nb 1 proto ++ nb 2 C ++ (bl src ++ bl dst) ++ bl pay) (by rw [h]; try simp [List.append_assoc]) rfl (by rw [nb_length])
  · exact seg4 (nb 1 69 ++ nb 1 tos) (nb 2 (20 + pay.size)) (nb 2 id ++ nb 2 (fl df false 0) ++ nb 1 ttl ++ nb 1 proto ++ nb 2 C ++ (bl src ++ bl dst) ++ bl pay) (by rw [h]; try simp [List.append_assoc]) (by simp [nb_length]) (by simp [nb_length])
  · exact seg4 (nb 1 69 ++ nb 1 tos ++ nb 2 (20 + pay.size) ++ nb 2 id ++ nb 2 (fl df false 0) ++ nb 1 ttl) (nb 1 proto) (nb 2 C ++ (bl src ++ bl dst) ++ bl pay) (by rw [h]; try simp [List.append_assoc]) (by simp [nb_length]) (by simp [nb_length])
  · exact seg4 (nb 1 69 ++ nb 1 tos ++ nb 2 (20 + pay.size) ++ nb 2 id ++ nb 2 (fl df false 0) ++ nb 1 ttl ++ nb 1 proto ++ nb 2 C) (bl src ++ bl dst) (bl pay) (by rw [h]; try simp [List.append_assoc]) (by simp [nb_length]) (by simp only [List.length_append]; omega)
  · have hz : x.size = 20 + pay.size := by rw [← bl_length, h]; simp only [List.length_append, nb_length, bl_length]; omega
    exact seg4 (nb 1 69 ++ nb 1 tos ++ nb 2 (20 + pay.size) ++ nb 2 id ++ nb 2 (fl df false 0) ++ nb 1 ttl ++ nb 1 proto ++ nb 2 C ++ (bl src ++ bl dst)) (bl pay) [] (by rw [h]; try simp [List.append_assoc]) (by simp only [List.length_append, nb_length]; omega) (by rw [bl_length]; omega)
theorem wr_same {tos id ttl tos' id' ttl' proto : Nat} {df df' : Bool} {src dst pay x y : ByteArray} (hs : src.size = 4) (hd : dst.size = 4) (h : Wr tos id ttl proto df src dst pay x) (h' : Wr tos' id' ttl' proto df' src dst pay y) :
    x.extract 0 1 = y.extract 0 1 ∧ x.extract 2 4 = y.extract 2 4 ∧ x.extract 9 10 = y.extract 9 10 ∧ x.extract 12 20 = y.extract 12 20 ∧ x.extract 20 x.size = y.extract 20 y.size := by
  obtain ⟨a1, a2, a3, a4, a5⟩ := wr_parts hs hd h
  obtain ⟨b1, b2, b3, b4, b5⟩ := wr_parts hs hd h'
  exact ⟨bl4_inj (a1.trans b1.symm), bl4_inj (a2.trans b2.symm), bl4_inj (a3.trans b3.symm), bl4_inj (a4.trans b4.symm), bl4_inj (a5.trans b5.symm)⟩
theorem unwrap_flip {x z : ByteArray} {i : Nat} (hx : ip4Err x = 0) (hl : hl4 x = 20) (hs : x.size ≤ 1000000) (hz : bl z = Pal.flip (bl x) i) (h4 : 4 ≤ i) (hi : i < 160) : ∃ e, e ≠ 0 ∧ tunnel_Unwrap.f z = some (tun_bad e) := by
  have hne := err4_flip hx hz h4 (by omega)
  have hzs : z.size = x.size := by rw [← bl_length, hz, flip_length, bl_length]
  refine ⟨ip4Err z, hne, ?_⟩
  unfold tunnel_Unwrap.f
  rw [get4_bad (by omega) hne, Option.bind_some, if_pos hne]
end TN
end Go.Proofs.YtcmalglippmocaaDoor.Pure
end
