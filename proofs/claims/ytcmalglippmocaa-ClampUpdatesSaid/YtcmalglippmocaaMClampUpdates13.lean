/- Texts of this session, joined: each is a section. -/
import Derived.Test.YtcmalglippmocaaMClampUpdates2
import Derived.Test.YtcmalglippmocaaMClampUpdates6
import Derived.Test.YtcmalglippmocaaMClampUpdates12
import Derived.Test.YtcmalglippmocaaMClampUpdates7
import Derived.Test.YtcmalglippmocaaMClampUpdates9
import Derived.Test.YtcmalglippmocaaMClampUpdates5
import Derived.Test.YtcmalglippmocaaMClampUpdates8
import Derived.Test.YtcmalglippmocaaMClampUpdates10
set_option linter.unusedVariables false
set_option linter.unusedSimpArgs false
section
namespace Go.Proofs.Ytcmalglippmocaa.G
open Go.RowKit Go.Proofs.YtcmalglippmocaaW.PrintWords Go.Proofs.YtcmalglippmocaaW.PrintLast Go.Proofs.YtcmalglippmocaaW.PrintMore
attribute [local go_sem] max2_int min2_int max_two min_two max_three min_three max_four min_four

def palanquinlaw10_awake.f (k : Nat)  : Option (Bool) := (palanquinref07_Put.f k 0 0 0 0 2 0 0 (⟨#[2, 4, 5, 180]⟩ : ByteArray) (⟨#[]⟩ : ByteArray) 0).bind fun bt327 => ((palanquinref09_Build4.f k 0 0 0 0 6 false false (⟨#[97, 98, 99, 100]⟩ : ByteArray) (⟨#[101, 102, 103, 104]⟩ : ByteArray) (⟨#[]⟩ : ByteArray) bt327.1).bind fun bt329 => ((clamp_Clamp.f bt329.1 1400).bind fun t331 => ((clamp_MSS.f k t331).bind fun bt332 => (if bt332.1 = 1400 then (if bt332.2 = true then ((clamp_Clamp.f bt329.1 1500).bind fun t334 => (some (t334.toList == bt329.1.toList))) else (some false)) else (some false)))))
set_option maxHeartbeats 8000000 in
set_option maxRecDepth 100000 in
theorem palanquinlaw10_awake.calls (k : Nat)  (r : Bool) (w : World) (h : palanquinlaw10_awake.f k  = some r) :
  Calls Try.prog 13 #[] w fun e w' => e = .returned (.bool r) ∧ Below w.heap.size w w' := by
 have hu69 := Try.underlying69
 have hu50 := Try.underlying50
 have HB := mA (Below.refl w.heap.size w)
 have H : ((palanquinref07_Put.f k 0 0 0 0 2 0 0 (⟨#[2, 4, 5, 180]⟩ : ByteArray) (⟨#[]⟩ : ByteArray) 0).bind fun bt327 => ((palanquinref09_Build4.f k 0 0 0 0 6 false false (⟨#[97, 98, 99, 100]⟩ : ByteArray) (⟨#[101, 102, 103, 104]⟩ : ByteArray) (⟨#[]⟩ : ByteArray) bt327.1).bind fun bt329 => ((clamp_Clamp.f bt329.1 1400).bind fun t331 => ((clamp_MSS.f k t331).bind fun bt332 => (if bt332.1 = 1400 then (if bt332.2 = true then ((clamp_Clamp.f bt329.1 1500).bind fun t334 => (some (t334.toList == bt329.1.toList))) else (some false)) else (some false)))))) = some r := h
 clear h
 replace H := Option.bind_eq_some_iff.mp H
 obtain ⟨⟨t327, t328⟩, A10, H⟩ := H
 try dsimp +instances only at H
 have A1 := mA A10
 clear A10
 replace H := Option.bind_eq_some_iff.mp H
 obtain ⟨⟨t329, t330⟩, A20, H⟩ := H
 try dsimp +instances only at H
 have A2 := mA A20
 clear A20
 replace H := Option.bind_eq_some_iff.mp H
 obtain ⟨t331, A30, H⟩ := H
 try dsimp +instances only at H
 have A3 := mA A30
 clear A30
 replace H := Option.bind_eq_some_iff.mp H
 obtain ⟨⟨t332, t333⟩, A40, H⟩ := H
 try dsimp +instances only at H
 have A4 := mA A40
 clear A40
 by_cases c5 : t332 = 1400
 ·rw [if_pos c5] at H
  have c5b0 : (t332 == 1400) = true := beq_iff_eq.mpr c5
  have c5b1 : (t332 != 1400) = false := bne_eq_false_iff_eq.mpr c5
  clear c5
  by_cases c6 : t333 = true
  ·subst c6
   rw [if_pos rfl] at H
   replace H := Option.bind_eq_some_iff.mp H
   obtain ⟨t334, A70, H⟩ := H
   try dsimp +instances only at H
   have A7 := mA A70
   clear A70
   obtain rfl := Option.some.inj H
   go_enter Try.func13, Try.ntmps13
   go_wp2_with (first | ((with_reducible refine gate_callee (f := 34) rfl ?_); refine goesL_ (some 9) rfl rfl Try.func34 (by kernel_rfl) rfl #[.agg #[.int .i64 0, .int .i64 0, .int .u32 0, .int .u32 0, .int .i64 2, .int .i64 0, .int .i64 0, .string (⟨#[2, 4, 5, 180]⟩ : ByteArray), .string ⟨#[]⟩], .int .i64 0] rfl (by (try simp only [List.map_toArray, List.map_cons, List.map_nil]); first | done | rfl | (simp only [List.length_drop, List.length_take]; rfl)) ?_; (with_reducible refine (palanquinref07_Put.calls k 0 0 0 0 2 0 0 (⟨#[2, 4, 5, 180]⟩ : ByteArray) (⟨#[]⟩ : ByteArray) 0 t327 t328 _ A1.out).mono ?_); rintro e w8 ⟨rfl, hb⟩; refine ⟨_, rfl, ?_⟩; have n0_ := mA (bP (by repeat (first | (with_reducible first | exact HB.out | apply bA | apply bN | apply bD) | exact HB.out)) hb); clear HB; have HB := n0_; clear n0_; (try clear hb); (try clear hb2); (try clear hk); (try clear hi)) | ((with_reducible refine gate_callee (f := 35) rfl ?_); refine goesL_ (some 15) rfl rfl Try.func35 (by kernel_rfl) rfl #[.agg #[.int .i64 0, .int .i64 0, .int .i64 0, .int .i64 0, .int .i64 6, .bool false, .bool false, .string (⟨#[97, 98, 99, 100]⟩ : ByteArray), .string (⟨#[101, 102, 103, 104]⟩ : ByteArray), .string ⟨#[]⟩], .string t327] rfl (by (try simp only [List.map_toArray, List.map_cons, List.map_nil]); first | done | rfl | (simp only [List.length_drop, List.length_take]; rfl)) ?_; (with_reducible refine (palanquinref09_Build4.calls k 0 0 0 0 6 false false (⟨#[97, 98, 99, 100]⟩ : ByteArray) (⟨#[101, 102, 103, 104]⟩ : ByteArray) (⟨#[]⟩ : ByteArray) t327 t329 t330 _ A2.out).mono ?_); rintro e w9 ⟨rfl, hb⟩; refine ⟨_, rfl, ?_⟩; have n0_ := mA (bP (by repeat (first | (with_reducible first | exact HB.out | apply bA | apply bN | apply bD) | exact HB.out)) hb); clear HB; have HB := n0_; clear n0_; (try clear hb); (try clear hb2); (try clear hk); (try clear hi)) | ((with_reducible refine gate_callee (f := 14) rfl ?_); refine goesL_ (some 20) rfl rfl Try.func14 (by kernel_rfl) rfl #[.string t329, .int .i64 1400] rfl (by (try simp only [List.map_toArray, List.map_cons, List.map_nil]); first | done | rfl | (simp only [List.length_drop, List.length_take]; rfl)) ?_; (with_reducible refine (clamp_Clamp.calls t329 1400 t331 _ A3.out).mono ?_); rintro e w10 ⟨rfl, hb⟩; refine ⟨_, rfl, ?_⟩; have n0_ := mA (bP (by repeat (first | (with_reducible first | exact HB.out | apply bA | apply bN | apply bD) | exact HB.out)) hb); clear HB; have HB := n0_; clear n0_; (try clear hb); (try clear hb2); (try clear hk); (try clear hi)) | ((with_reducible refine gate_callee (f := 15) rfl ?_); refine goesL_ (some 21) rfl rfl Try.func15 (by kernel_rfl) rfl #[.string t331] rfl (by (try simp only [List.map_toArray, List.map_cons, List.map_nil]); first | done | rfl | (simp only [List.length_drop, List.length_take]; rfl)) ?_; (with_reducible refine (clamp_MSS.calls k t331 t332 true _ A4.out).mono ?_); rintro e w11 ⟨rfl, hb⟩; refine ⟨_, rfl, ?_⟩; have n0_ := mA (bP (by repeat (first | (with_reducible first | exact HB.out | apply bA | apply bN | apply bD) | exact HB.out)) hb); clear HB; have HB := n0_; clear n0_; (try clear hb); (try clear hb2); (try clear hk); (try clear hi)) | (go_at_call 14; (with_reducible refine (clamp_Clamp.calls t329 1500 t334 _ A7.out).mono ?_); rintro e w12 ⟨rfl, hb⟩; have n0_ := mA (bP (by repeat (first | (with_reducible first | exact HB.out | apply bA | apply bN | apply bD) | exact HB.out)) hb); clear HB; have HB := n0_; clear n0_; (try clear hb); (try clear hb2); (try clear hk); (try clear hi)))
   go_ret
   exact ⟨by first | rfl | (simp [errW_none, errW_some] <;> rfl) | (simp [*, errW_none, errW_some] <;> rfl), by repeat (first | (with_reducible first | exact HB.out | apply bA | apply bN | apply bD) | exact HB.out)⟩
  ·replace c6 := Bool.eq_false_iff.mpr c6
   subst c6
   rw [if_neg (show ¬ (false = true) by decide)] at H
   obtain rfl := Option.some.inj H
   go_enter Try.func13, Try.ntmps13
   go_wp2_with (first | ((with_reducible refine gate_callee (f := 34) rfl ?_); refine goesL_ (some 9) rfl rfl Try.func34 (by kernel_rfl) rfl #[.agg #[.int .i64 0, .int .i64 0, .int .u32 0, .int .u32 0, .int .i64 2, .int .i64 0, .int .i64 0, .string (⟨#[2, 4, 5, 180]⟩ : ByteArray), .string ⟨#[]⟩], .int .i64 0] rfl (by (try simp only [List.map_toArray, List.map_cons, List.map_nil]); first | done | rfl | (simp only [List.length_drop, List.length_take]; rfl)) ?_; (with_reducible refine (palanquinref07_Put.calls k 0 0 0 0 2 0 0 (⟨#[2, 4, 5, 180]⟩ : ByteArray) (⟨#[]⟩ : ByteArray) 0 t327 t328 _ A1.out).mono ?_); rintro e w13 ⟨rfl, hb⟩; refine ⟨_, rfl, ?_⟩; have n0_ := mA (bP (by repeat (first | (with_reducible first | exact HB.out | apply bA | apply bN | apply bD) | exact HB.out)) hb); clear HB; have HB := n0_; clear n0_; (try clear hb); (try clear hb2); (try clear hk); (try clear hi)) | ((with_reducible refine gate_callee (f := 35) rfl ?_); refine goesL_ (some 15) rfl rfl Try.func35 (by kernel_rfl) rfl #[.agg #[.int .i64 0, .int .i64 0, .int .i64 0, .int .i64 0, .int .i64 6, .bool false, .bool false, .string (⟨#[97, 98, 99, 100]⟩ : ByteArray), .string (⟨#[101, 102, 103, 104]⟩ : ByteArray), .string ⟨#[]⟩], .string t327] rfl (by (try simp only [List.map_toArray, List.map_cons, List.map_nil]); first | done | rfl | (simp only [List.length_drop, List.length_take]; rfl)) ?_; (with_reducible refine (palanquinref09_Build4.calls k 0 0 0 0 6 false false (⟨#[97, 98, 99, 100]⟩ : ByteArray) (⟨#[101, 102, 103, 104]⟩ : ByteArray) (⟨#[]⟩ : ByteArray) t327 t329 t330 _ A2.out).mono ?_); rintro e w14 ⟨rfl, hb⟩; refine ⟨_, rfl, ?_⟩; have n0_ := mA (bP (by repeat (first | (with_reducible first | exact HB.out | apply bA | apply bN | apply bD) | exact HB.out)) hb); clear HB; have HB := n0_; clear n0_; (try clear hb); (try clear hb2); (try clear hk); (try clear hi)) | ((with_reducible refine gate_callee (f := 14) rfl ?_); refine goesL_ (some 20) rfl rfl Try.func14 (by kernel_rfl) rfl #[.string t329, .int .i64 1400] rfl (by (try simp only [List.map_toArray, List.map_cons, List.map_nil]); first | done | rfl | (simp only [List.length_drop, List.length_take]; rfl)) ?_; (with_reducible refine (clamp_Clamp.calls t329 1400 t331 _ A3.out).mono ?_); rintro e w15 ⟨rfl, hb⟩; refine ⟨_, rfl, ?_⟩; have n0_ := mA (bP (by repeat (first | (with_reducible first | exact HB.out | apply bA | apply bN | apply bD) | exact HB.out)) hb); clear HB; have HB := n0_; clear n0_; (try clear hb); (try clear hb2); (try clear hk); (try clear hi)) | ((with_reducible refine gate_callee (f := 15) rfl ?_); refine goesL_ (some 21) rfl rfl Try.func15 (by kernel_rfl) rfl #[.string t331] rfl (by (try simp only [List.map_toArray, List.map_cons, List.map_nil]); first | done | rfl | (simp only [List.length_drop, List.length_take]; rfl)) ?_; (with_reducible refine (clamp_MSS.calls k t331 t332 false _ A4.out).mono ?_); rintro e w16 ⟨rfl, hb⟩; refine ⟨_, rfl, ?_⟩; have n0_ := mA (bP (by repeat (first | (with_reducible first | exact HB.out | apply bA | apply bN | apply bD) | exact HB.out)) hb); clear HB; have HB := n0_; clear n0_; (try clear hb); (try clear hb2); (try clear hk); (try clear hi)))
   go_ret
   exact ⟨by first | rfl | (simp [errW_none, errW_some] <;> rfl) | (simp [*, errW_none, errW_some] <;> rfl), by repeat (first | (with_reducible first | exact HB.out | apply bA | apply bN | apply bD) | exact HB.out)⟩
 ·rw [if_neg c5] at H
  have c5b0 : (t332 == 1400) = false := beq_eq_false_iff_ne.mpr c5
  have c5b1 : (t332 != 1400) = true := bne_iff_ne.mpr c5
  obtain rfl := Option.some.inj H
  go_enter Try.func13, Try.ntmps13
  go_wp2_with (first | ((with_reducible refine gate_callee (f := 34) rfl ?_); refine goesL_ (some 9) rfl rfl Try.func34 (by kernel_rfl) rfl #[.agg #[.int .i64 0, .int .i64 0, .int .u32 0, .int .u32 0, .int .i64 2, .int .i64 0, .int .i64 0, .string (⟨#[2, 4, 5, 180]⟩ : ByteArray), .string ⟨#[]⟩], .int .i64 0] rfl (by (try simp only [List.map_toArray, List.map_cons, List.map_nil]); first | done | rfl | (simp only [List.length_drop, List.length_take]; rfl)) ?_; (with_reducible refine (palanquinref07_Put.calls k 0 0 0 0 2 0 0 (⟨#[2, 4, 5, 180]⟩ : ByteArray) (⟨#[]⟩ : ByteArray) 0 t327 t328 _ A1.out).mono ?_); rintro e w17 ⟨rfl, hb⟩; refine ⟨_, rfl, ?_⟩; have n0_ := mA (bP (by repeat (first | (with_reducible first | exact HB.out | apply bA | apply bN | apply bD) | exact HB.out)) hb); clear HB; have HB := n0_; clear n0_; (try clear hb); (try clear hb2); (try clear hk); (try clear hi)) | ((with_reducible refine gate_callee (f := 35) rfl ?_); refine goesL_ (some 15) rfl rfl Try.func35 (by kernel_rfl) rfl #[.agg #[.int .i64 0, .int .i64 0, .int .i64 0, .int .i64 0, .int .i64 6, .bool false, .bool false, .string (⟨#[97, 98, 99, 100]⟩ : ByteArray), .string (⟨#[101, 102, 103, 104]⟩ : ByteArray), .string ⟨#[]⟩], .string t327] rfl (by (try simp only [List.map_toArray, List.map_cons, List.map_nil]); first | done | rfl | (simp only [List.length_drop, List.length_take]; rfl)) ?_; (with_reducible refine (palanquinref09_Build4.calls k 0 0 0 0 6 false false (⟨#[97, 98, 99, 100]⟩ : ByteArray) (⟨#[101, 102, 103, 104]⟩ : ByteArray) (⟨#[]⟩ : ByteArray) t327 t329 t330 _ A2.out).mono ?_); rintro e w18 ⟨rfl, hb⟩; refine ⟨_, rfl, ?_⟩; have n0_ := mA (bP (by repeat (first | (with_reducible first | exact HB.out | apply bA | apply bN | apply bD) | exact HB.out)) hb); clear HB; have HB := n0_; clear n0_; (try clear hb); (try clear hb2); (try clear hk); (try clear hi)) | ((with_reducible refine gate_callee (f := 14) rfl ?_); refine goesL_ (some 20) rfl rfl Try.func14 (by kernel_rfl) rfl #[.string t329, .int .i64 1400] rfl (by (try simp only [List.map_toArray, List.map_cons, List.map_nil]); first | done | rfl | (simp only [List.length_drop, List.length_take]; rfl)) ?_; (with_reducible refine (clamp_Clamp.calls t329 1400 t331 _ A3.out).mono ?_); rintro e w19 ⟨rfl, hb⟩; refine ⟨_, rfl, ?_⟩; have n0_ := mA (bP (by repeat (first | (with_reducible first | exact HB.out | apply bA | apply bN | apply bD) | exact HB.out)) hb); clear HB; have HB := n0_; clear n0_; (try clear hb); (try clear hb2); (try clear hk); (try clear hi)) | ((with_reducible refine gate_callee (f := 15) rfl ?_); refine goesL_ (some 21) rfl rfl Try.func15 (by kernel_rfl) rfl #[.string t331] rfl (by (try simp only [List.map_toArray, List.map_cons, List.map_nil]); first | done | rfl | (simp only [List.length_drop, List.length_take]; rfl)) ?_; (with_reducible refine (clamp_MSS.calls k t331 t332 t333 _ A4.out).mono ?_); rintro e w20 ⟨rfl, hb⟩; refine ⟨_, rfl, ?_⟩; have n0_ := mA (bP (by repeat (first | (with_reducible first | exact HB.out | apply bA | apply bN | apply bD) | exact HB.out)) hb); clear HB; have HB := n0_; clear n0_; (try clear hb); (try clear hb2); (try clear hk); (try clear hi)))
  go_ret
  exact ⟨by first | rfl | (simp [errW_none, errW_some] <;> rfl) | (simp [*, errW_none, errW_some] <;> rfl), by repeat (first | (with_reducible first | exact HB.out | apply bA | apply bN | apply bD) | exact HB.out)⟩

end Go.Proofs.Ytcmalglippmocaa.G
end

section
namespace Go.Proofs.Ytcmalglippmocaa.G
open Go.RowKit Go.Proofs.YtcmalglippmocaaW.PrintWords Go.Proofs.YtcmalglippmocaaW.PrintLast Go.Proofs.YtcmalglippmocaaW.PrintMore
attribute [local go_sem] max2_int min2_int max_two min_two max_three min_three max_four min_four

mutual
def palanquinref10_Find.j0 : Nat → ByteArray → Bool → Int → ByteArray → ByteArray → Int → Int → Option (Int × Int × Int × Bool)
 | 0, _, _, _, _, _, _, _ => none
 | k + 1, x0, x26, x384000, x384001, x384002, x384003, x384004 => if x26 = true then (some (0, 0, 0, false)) else (if (x384001.size : Int) = 4 then (if 0 < (x0.size : Int) then (palanquinref10_Find.j1 k x0 (wrap64 ((wrap64 (Int.tmod (bt x0 0) 16)) * 4))) else (none)) else (palanquinref10_Find.j1 k x0 40))
def palanquinref10_Find.j1 : Nat → ByteArray → Int → Option (Int × Int × Int × Bool)
 | 0, _, _ => none
 | k + 1, x0, x8 => if 0 ≤ x8 then (if x8 ≤ (x0.size : Int) then ((palanquinref07_Get.f (x0.extract (x8 : Int).toNat x0.size)).bind fun bt384 => ((palanquinref07_MSS.f k bt384.2.2.2.2.2.2.2.1).bind fun bt396 => (if bt396.2.2 = true then (if (Int.tmod (wrap64 (Int.tdiv bt384.2.2.2.2.1 2)) 2) = 0 then (some (0, 0, 0, false)) else (some (x8, wrap64 (20 + bt396.2.1), bt396.1, true))) else (some (0, 0, 0, false))))) else (none)) else (none)
end
def palanquinref10_Find.f (k : Nat) (a0 : ByteArray) : Option (Int × Int × Int × Bool) := (palanquinref09_Get.f k a0).bind fun bt377 => (if bt377.2.2.2.2.2 = 0 then (palanquinref10_Find.j0 k a0 (bt377.1 != 6) bt377.1 bt377.2.1 bt377.2.2.1 bt377.2.2.2.1 bt377.2.2.2.2.1) else (palanquinref10_Find.j0 k a0 true bt377.1 bt377.2.1 bt377.2.2.1 bt377.2.2.2.1 bt377.2.2.2.2.1))
set_option maxHeartbeats 8000000 in
set_option maxRecDepth 100000 in
theorem palanquinref10_Find.calls (k : Nat) (a0 : ByteArray) (r1 : Int) (r2 : Int) (r3 : Int) (r4 : Bool) (w : World) (h : palanquinref10_Find.f k a0 = some (r1, r2, r3, r4)) :
  Calls Try.prog 16 #[.string a0] w fun e w' => e = .returned (.tuple #[.int .i64 r1, .int .i64 r2, .int .i64 r3, .bool r4]) ∧ Below w.heap.size w w' := by
 have hu24 := Try.underlying24
 have hu69 := Try.underlying69
 have HB := mA (Below.refl w.heap.size w)
 have H : ((palanquinref09_Get.f k a0).bind fun bt377 => (if bt377.2.2.2.2.2 = 0 then (palanquinref10_Find.j0 k a0 (bt377.1 != 6) bt377.1 bt377.2.1 bt377.2.2.1 bt377.2.2.2.1 bt377.2.2.2.2.1) else (palanquinref10_Find.j0 k a0 true bt377.1 bt377.2.1 bt377.2.2.1 bt377.2.2.2.1 bt377.2.2.2.2.1))) = some (r1, r2, r3, r4) := h
 clear h
 replace H := Option.bind_eq_some_iff.mp H
 obtain ⟨⟨t377, t378, t379, t380, t381, t382⟩, A20, H⟩ := H
 try dsimp +instances only at H
 have A2 := mA A20
 clear A20
 have HC3 := mA H
 clear H
 go_enter Try.func16, Try.ntmps16
 go_upto_region 2 with (first | ((with_reducible refine gate_callee (f := 12) rfl ?_); refine goesL_ (some 17) rfl rfl Try.func12 (by kernel_rfl) rfl #[.string a0] rfl (by (try simp only [List.map_toArray, List.map_cons, List.map_nil]); first | done | rfl | (simp only [List.length_drop, List.length_take]; rfl)) ?_; (with_reducible refine (palanquinref09_Get.calls k a0 t377 t378 t379 t380 t381 t382 _ A2.out).mono ?_); rintro e w4 ⟨rfl, hb⟩; refine ⟨_, rfl, ?_⟩; have n0_ := mA (bP (by repeat (first | (with_reducible first | exact HB.out | apply bA | apply bN | apply bD) | exact HB.out)) hb); clear HB; have HB := n0_; clear n0_; (try clear hb); (try clear hb2); (try clear hk); (try clear hi)) | ((with_reducible refine gate_dst (N := 6) rfl ?_); refine box_event ?hg (N := 6) ?hd (cs := #[.int .i64 0, .string ⟨#[]⟩, .string ⟨#[]⟩, .int .i64 0, .int .i64 0]) (t := 24) ?hr ?_; (case hd => rfl); (case hg => rfl); (case hr => first | (go_simp; done) | (go_simp; rfl)); intro gb383 hg w5 hbox hb; obtain ⟨n0_, nq_⟩ := bpr (by repeat (first | (with_reducible first | exact HB.out | apply bA | apply bN | apply bD) | exact HB.out)) hb; have n1_ := mA (hbox); have n2_ := mA ((by rw [hg]; exact nq_ : w.heap.size ≤ gb383)); have n3_ := mA ((by rw [hg]; exact nq_ : w.heap.size ≤ gb383)); clear HB; have HB := n0_; have BK383 := n1_; have GW383 := n2_; have GE383 := n3_; clear nq_; clear n0_ n1_ n2_ n3_; clear hb hbox hg; obtain ⟨hcz6_0, hcz6_1, hcz6_2, hcz6_3, hcz6_4⟩ := bc5 BK383.out; obtain ⟨hfz6_0, hfz6_1, hfz6_2, hfz6_3, hfz6_4⟩ := bf5 BK383.out))
 (try simp only [Act.put, List.setIfInBounds_toArray, List.set_cons_zero, List.set_cons_succ])
 go_cut [26] (fun v26 wc => ∃ (kq : Nat) (x26_2 : Bool), v26 = .bool x26_2 ∧ Aside0 (palanquinref10_Find.j0 kq a0 x26_2 t377 t378 t379 t380 t381 = some (r1, r2, r3, r4)) ∧ Aside0 (kq ≤ k) ∧ Aside0 (wc.heap[gb383]? = some (.cells #[.int .i64 t377, .string t378, .string t379, .int .i64 t380, .int .i64 t381] 24 (0, 0))) ∧ Aside0 (Below w.heap.size w wc))
 case first =>
  have H := HC3.out
  clear HC3
  by_cases c7 : t382 = 0
  ·rw [if_pos c7] at H
   have c7b0 : (t382 == 0) = true := beq_iff_eq.mpr c7
   have c7b1 : (t382 != 0) = false := bne_eq_false_iff_eq.mpr c7
   clear c7
   (first | rw [c7b0] | (simp only [i64_w, i32_w]; rw [c7b0]) | skip)
   have H' := mA H
   clear H
   obtain ⟨hcz8_0, hcz8_1, hcz8_2, hcz8_3, hcz8_4⟩ := bc5 BK383.out
   obtain ⟨hfz8_0, hfz8_1, hfz8_2, hfz8_3, hfz8_4⟩ := bf5 BK383.out
   go_wp2
   go_meet
   case rel => exact ⟨_, ((t377 != 6)), (by first | rfl | (simp; done) | (simp [*]; done)), H', ⟨by first | omega | exact Nat.le_refl _⟩, ⟨by (with_reducible repeat (first | apply kN | apply kD | apply kA)); refine blk_put (cs := #[.int .i64 t377, .string t378, .string t379, .int .i64 t380, .int .i64 0]) ?_ 4 _ (by first | rfl | (simp [*]; done)); (with_reducible repeat (first | apply kN | apply kD | apply kA)); refine blk_put (cs := #[.int .i64 t377, .string t378, .string t379, .int .i64 0, .int .i64 0]) ?_ 3 _ (by first | rfl | (simp [*]; done)); (with_reducible repeat (first | apply kN | apply kD | apply kA)); refine blk_put (cs := #[.int .i64 t377, .string t378, .string ⟨#[]⟩, .int .i64 0, .int .i64 0]) ?_ 2 _ (by first | rfl | (simp [*]; done)); (with_reducible repeat (first | apply kN | apply kD | apply kA)); refine blk_put (cs := #[.int .i64 t377, .string ⟨#[]⟩, .string ⟨#[]⟩, .int .i64 0, .int .i64 0]) ?_ 1 _ (by first | rfl | (simp [*]; done)); (with_reducible repeat (first | apply kN | apply kD | apply kA)); refine blk_put (cs := #[.int .i64 0, .string ⟨#[]⟩, .string ⟨#[]⟩, .int .i64 0, .int .i64 0]) ?_ 0 _ (by first | rfl | (simp [*]; done)); (with_reducible repeat (first | apply kN | apply kD | apply kA)); exact BK383.out⟩, ⟨by repeat (first | (with_reducible first | exact HB.out | apply bA | apply bN | apply bD | refine bS ?_ GE383.out) | exact HB.out)⟩⟩
  ·rw [if_neg c7] at H
   have c7b0 : (t382 == 0) = false := beq_eq_false_iff_ne.mpr c7
   have c7b1 : (t382 != 0) = true := bne_iff_ne.mpr c7
   (first | rw [c7b0] | (simp only [i64_w, i32_w]; rw [c7b0]) | skip)
   have H' := mA H
   clear H
   go_wp2
   go_meet
   case rel => exact ⟨_, (true), (by first | rfl | (simp; done) | (simp [*]; done)), H', ⟨by first | omega | exact Nat.le_refl _⟩, ⟨by (with_reducible repeat (first | apply kN | apply kD | apply kA)); refine blk_put (cs := #[.int .i64 t377, .string t378, .string t379, .int .i64 t380, .int .i64 0]) ?_ 4 _ (by first | rfl | (simp [*]; done)); (with_reducible repeat (first | apply kN | apply kD | apply kA)); refine blk_put (cs := #[.int .i64 t377, .string t378, .string t379, .int .i64 0, .int .i64 0]) ?_ 3 _ (by first | rfl | (simp [*]; done)); (with_reducible repeat (first | apply kN | apply kD | apply kA)); refine blk_put (cs := #[.int .i64 t377, .string t378, .string ⟨#[]⟩, .int .i64 0, .int .i64 0]) ?_ 2 _ (by first | rfl | (simp [*]; done)); (with_reducible repeat (first | apply kN | apply kD | apply kA)); refine blk_put (cs := #[.int .i64 t377, .string ⟨#[]⟩, .string ⟨#[]⟩, .int .i64 0, .int .i64 0]) ?_ 1 _ (by first | rfl | (simp [*]; done)); (with_reducible repeat (first | apply kN | apply kD | apply kA)); refine blk_put (cs := #[.int .i64 0, .string ⟨#[]⟩, .string ⟨#[]⟩, .int .i64 0, .int .i64 0]) ?_ 0 _ (by first | rfl | (simp [*]; done)); (with_reducible repeat (first | apply kN | apply kD | apply kA)); exact BK383.out⟩, ⟨by repeat (first | (with_reducible first | exact HB.out | apply bA | apply bN | apply bD | refine bS ?_ GE383.out) | exact HB.out)⟩⟩
 case rest =>
  clear HC3
  try clear c1
  try clear p2
  try clear c7
  try clear c7b0
  try clear c7b1
  try clear hcz6_0 hcz6_1 hcz6_2 hcz6_3 hcz6_4
  try clear hcz8_0 hcz8_1 hcz8_2 hcz8_3 hcz8_4
  try clear hfz6_0 hfz6_1 hfz6_2 hfz6_3 hfz6_4
  try clear hfz8_0 hfz8_1 hfz8_2 hfz8_3 hfz8_4
  obtain ⟨kq, x26_2, rfl, HA, HJ2, BK383, HB⟩ := hcut
  cases kq with
  | zero => exact absurd HA.out (by simp [palanquinref10_Find.j0])
  | succ kj2 =>
   have H := HA.out
   clear HA
   simp only [palanquinref10_Find.j0] at H
   by_cases c9 : x26_2 = true
   ·subst c9
    rw [if_pos rfl] at H
    simp only [Option.some.injEq, Prod.mk.injEq] at H
    obtain ⟨rfl, rfl, rfl, rfl⟩ := H
    go_wp2
    refine bodyPost_ret (results_list (rs := [.tmp 2, .tmp 3, .tmp 4, .tmp 5]) rfl (by simp) (.tmp (.tmp (.tmp (.tmp .nil))))) rfl ?_
    exact ⟨by first | rfl | (simp [errW_none, errW_some] <;> rfl) | (simp [*, errW_none, errW_some] <;> rfl), by repeat (first | (with_reducible first | exact HB.out | apply bA | apply bN | apply bD | refine bS ?_ GE383.out) | exact HB.out)⟩
   ·replace c9 := Bool.eq_false_iff.mpr c9
    subst c9
    rw [if_neg (show ¬ (false = true) by decide)] at H
    have HC10 := mA H
    clear H
    obtain ⟨hcz11_0, hcz11_1, hcz11_2, hcz11_3, hcz11_4⟩ := bc5 BK383.out
    obtain ⟨hfz11_0, hfz11_1, hfz11_2, hfz11_3, hfz11_4⟩ := bf5 BK383.out
    go_upto_if 30 with (fail)
    go_cut [8] (fun v8 wc => ∃ (kq : Nat) (x8_9 : Int), v8 = .int .i64 x8_9 ∧ Aside0 (palanquinref10_Find.j1 kq a0 x8_9 = some (r1, r2, r3, r4)) ∧ Aside0 (kq ≤ kj2) ∧ Aside0 (wc.heap[gb383]? = some (.cells #[.int .i64 t377, .string t378, .string t379, .int .i64 t380, .int .i64 t381] 24 (0, 0))) ∧ Aside0 (Below w.heap.size w wc))
    case first =>
     have H := HC10.out
     clear HC10
     by_cases c12 : (t378.size : Int) = 4
     ·rw [if_pos c12] at H
      have c12b0 : ((t378.size : Int) == 4) = true := beq_iff_eq.mpr c12
      have c12b1 : ((t378.size : Int) != 4) = false := bne_eq_false_iff_eq.mpr c12
      clear c12
      (first | rw [c12b0] | (simp only [i64_w, i32_w]; rw [c12b0]) | skip)
      by_cases c13 : 0 < (a0.size : Int)
      ·rw [if_pos c13] at H
       have c13b0 : decide (0 < (a0.size : Int)) = true := decide_eq_true c13
       have c13b1 : decide (0 < a0.size) = true := decide_eq_true (by omega)
       clear c13
       have H' := mA H
       clear H
       have p14 : 0 ≤ (0 : Int) := (by omega)
       have q14 : 0 < a0.size := (by have : (0 : Int) < (a0.size : Int) := of_decide_eq_true (by first | (with_reducible assumption) | assumption); omega)
       have hx14 : ∀ h : 0 < a0.size, ((a0[0]'h).toNat : Int) = bt a0 0 := bt_at a0 0
       clear p14
       have qi14 : (0 < (a0.size : Int)) = True := eq_true (of_decide_eq_true (by first | (with_reducible assumption) | assumption))
       replace q14 := eq_true q14
       go_wp2
       go_meet
       case rel => exact ⟨_, (wrap64 ((wrap64 (Int.tmod (bt a0 0) 16)) * 4)), (by first | rfl | (simp; done) | (simp [*]; done)), H', ⟨by have := HJ2.out; first | omega | exact Nat.le_refl _⟩, ⟨by (with_reducible repeat (first | apply kN | apply kD | apply kA)); exact BK383.out⟩, ⟨by repeat (first | (with_reducible first | exact HB.out | apply bA | apply bN | apply bD | refine bS ?_ GE383.out) | exact HB.out)⟩⟩
      ·rw [if_neg c13] at H
       exact absurd H (by simp)
     ·rw [if_neg c12] at H
      have c12b0 : ((t378.size : Int) == 4) = false := beq_eq_false_iff_ne.mpr c12
      have c12b1 : ((t378.size : Int) != 4) = true := bne_iff_ne.mpr c12
      (first | rw [c12b0] | (simp only [i64_w, i32_w]; rw [c12b0]) | skip)
      have H' := mA H
      clear H
      go_wp2
      go_meet
      case rel => exact ⟨_, (40), (by first | rfl | (simp; done) | (simp [*]; done)), H', ⟨by have := HJ2.out; first | omega | exact Nat.le_refl _⟩, ⟨by (with_reducible repeat (first | apply kN | apply kD | apply kA)); exact BK383.out⟩, ⟨by repeat (first | (with_reducible first | exact HB.out | apply bA | apply bN | apply bD | refine bS ?_ GE383.out) | exact HB.out)⟩⟩
    case rest =>
     clear HC10
     try clear c1
     try clear p1
     try clear q1
     try clear hx1
     try clear qi1
     try clear p2
     try clear p6
     try clear c7
     try clear c7b0
     try clear c7b1
     try clear c9
     try clear c12
     try clear c12b0
     try clear c12b1
     try clear c13
     try clear c13b0
     try clear c13b1
     try clear p14
     try clear q14
     try clear hx14
     try clear qi14
     try clear hcz11_0 hcz11_1 hcz11_2 hcz11_3 hcz11_4
     try clear hcz6_0 hcz6_1 hcz6_2 hcz6_3 hcz6_4
     try clear hcz8_0 hcz8_1 hcz8_2 hcz8_3 hcz8_4
     try clear hfz11_0 hfz11_1 hfz11_2 hfz11_3 hfz11_4
     try clear hfz6_0 hfz6_1 hfz6_2 hfz6_3 hfz6_4
     try clear hfz8_0 hfz8_1 hfz8_2 hfz8_3 hfz8_4
     try clear p14
     try clear p2
     try clear q14
     obtain ⟨kq, x8_9, rfl, HA, HJ9, BK383, HB⟩ := hcut
     cases kq with
     | zero => exact absurd HA.out (by simp [palanquinref10_Find.j1])
     | succ kj9 =>
      have H := HA.out
      clear HA
      simp only [palanquinref10_Find.j1] at H
      by_cases c15 : 0 ≤ x8_9
      ·rw [if_pos c15] at H
       have c15b0 := eq_true c15
       have c15b1 : decide (0 ≤ x8_9) = true := decide_eq_true c15
       clear c15
       by_cases c16 : x8_9 ≤ (a0.size : Int)
       ·rw [if_pos c16] at H
        have c16b0 := eq_true c16
        have c16b1 : decide (x8_9 ≤ (a0.size : Int)) = true := decide_eq_true c16
        clear c16
        replace H := Option.bind_eq_some_iff.mp H
        obtain ⟨⟨t384, t385, t386, t387, t388, t389, t390, t391, t392, t393, t394⟩, A170, H⟩ := H
        try dsimp +instances only at H
        have A17 := mA A170
        clear A170
        replace H := Option.bind_eq_some_iff.mp H
        obtain ⟨⟨t396, t397, t398⟩, A180, H⟩ := H
        try dsimp +instances only at H
        have A18 := mA A180
        clear A180
        by_cases c19 : t398 = true
        ·subst c19
         rw [if_pos rfl] at H
         by_cases c20 : (Int.tmod (wrap64 (Int.tdiv t388 2)) 2) = 0
         ·rw [if_pos c20] at H
          have c20b0 : ((Int.tmod (wrap64 (Int.tdiv t388 2)) 2) == 0) = true := beq_iff_eq.mpr c20
          have c20b1 : ((Int.tmod (wrap64 (Int.tdiv t388 2)) 2) != 0) = false := bne_eq_false_iff_eq.mpr c20
          clear c20
          simp only [Option.some.injEq, Prod.mk.injEq] at H
          obtain ⟨rfl, rfl, rfl, rfl⟩ := H
          go_wp2_with (first | ((with_reducible refine gate_callee (f := 30) rfl ?_); refine goesL_ (some 40) rfl rfl Try.func30 (by kernel_rfl) rfl #[.string (a0.extract (x8_9 : Int).toNat a0.size)] rfl (by (try simp only [List.map_toArray, List.map_cons, List.map_nil]); first | done | rfl | (simp only [List.length_drop, List.length_take]; rfl)) ?_; (with_reducible refine (palanquinref07_Get.calls (a0.extract (x8_9 : Int).toNat a0.size) t384 t385 t386 t387 t388 t389 t390 t391 t392 t393 t394 _ A17.out).mono ?_); rintro e w21 ⟨rfl, hb⟩; refine ⟨_, rfl, ?_⟩; have n0_ := mA (blk_below (g := gb383) (o := .cells #[.int .i64 t377, .string t378, .string t379, .int .i64 t380, .int .i64 t381] 24 (0, 0)) (by (with_reducible repeat (first | apply kN | apply kD | apply kA)); exact BK383.out) hb); have n1_ := mA (bP (by repeat (first | (with_reducible first | exact HB.out | apply bA | apply bN | apply bD | refine bS ?_ GE383.out) | exact HB.out)) hb); clear BK383; clear HB; have BK383 := n0_; have HB := n1_; clear n0_ n1_; (try clear hb); (try clear hb2); (try clear hk); (try clear hi)) | ((with_reducible refine gate_dst (N := 9) rfl ?_); refine box_event ?hg (N := 9) ?hd (cs := #[.int .i64 0, .int .i64 0, .int .u32 0, .int .u32 0, .int .i64 0, .int .i64 0, .int .i64 0, .string ⟨#[]⟩, .string ⟨#[]⟩]) (t := 69) ?hr ?_; (case hd => rfl); (case hg => rfl); (case hr => first | (go_simp; done) | (go_simp; rfl)); intro gb395 hg w22 hbox hb; obtain ⟨n0_, nl383_⟩ := bt3 (g := gb383) (o := .cells #[.int .i64 t377, .string t378, .string t379, .int .i64 t380, .int .i64 t381] 24 (0, 0)) (by (with_reducible repeat (first | apply kN | apply kD | apply kA)); exact BK383.out) hb; obtain ⟨n1_, nq_⟩ := bpr (by repeat (first | (with_reducible first | exact HB.out | apply bA | apply bN | apply bD | refine bS ?_ GE383.out) | exact HB.out)) hb; have n2_ := mA (hbox); have n3_ := mA ((by rw [hg]; exact nq_ : w.heap.size ≤ gb395)); have n4_ := mA ((by rw [hg]; exact nq_ : w.heap.size ≤ gb395)); have n5_ := mA ((by rw [hg]; exact Nat.ne_of_lt nl383_ : gb383 ≠ gb395)); have n6_ := mA ((by rw [hg]; exact Nat.ne_of_gt nl383_ : gb395 ≠ gb383)); clear BK383; clear HB; have BK383 := n0_; have HB := n1_; have BK395 := n2_; have GW395 := n3_; have GE395 := n4_; have NB383_395 := n5_; have NB395_383 := n6_; clear nl383_; clear nq_; clear n0_ n1_ n2_ n3_ n4_ n5_ n6_; clear hb hbox hg; have hnb23 := NB395_383.out; have hnc23 := NB383_395.out; obtain ⟨hcz24_0, hcz24_1, hcz24_2, hcz24_3, hcz24_4, hcz24_5, hcz24_6, hcz24_7, hcz24_8⟩ := bc9 BK395.out; obtain ⟨hfz24_0, hfz24_1, hfz24_2, hfz24_3, hfz24_4, hfz24_5, hfz24_6, hfz24_7, hfz24_8⟩ := bf9 BK395.out) | ((with_reducible refine gate_callee (f := 41) rfl ?_); refine goesL_ (some 47) rfl rfl Try.func41 (by kernel_rfl) rfl #[.string t391] rfl (by (try simp only [List.map_toArray, List.map_cons, List.map_nil]); first | done | rfl | (simp only [List.length_drop, List.length_take]; rfl)) ?_; (with_reducible refine (palanquinref07_MSS.calls kj9 t391 t396 t397 true _ A18.out).mono ?_); rintro e w25 ⟨rfl, hb⟩; refine ⟨_, rfl, ?_⟩; have n0_ := mA (blk_below (g := gb383) (o := .cells #[.int .i64 t377, .string t378, .string t379, .int .i64 t380, .int .i64 t381] 24 (0, 0)) (by (with_reducible repeat (first | apply kN | apply kD | apply kA | refine blk_far ?_ NB383_395.out _)); exact BK383.out) hb); have n1_ := mA (blk_below (g := gb395) (o := .cells #[.int .i64 t384, .int .i64 t385, .int .u32 t386, .int .u32 t387, .int .i64 t388, .int .i64 t389, .int .i64 t390, .string t391, .string t392] 69 (0, 0)) (by (with_reducible repeat (first | apply kN | apply kD | apply kA)); refine blk_put (cs := #[.int .i64 t384, .int .i64 t385, .int .u32 t386, .int .u32 t387, .int .i64 t388, .int .i64 t389, .int .i64 t390, .string t391, .string ⟨#[]⟩]) ?_ 8 _ (by first | rfl | (simp [*]; done)); (with_reducible repeat (first | apply kN | apply kD | apply kA)); refine blk_put (cs := #[.int .i64 t384, .int .i64 t385, .int .u32 t386, .int .u32 t387, .int .i64 t388, .int .i64 t389, .int .i64 t390, .string ⟨#[]⟩, .string ⟨#[]⟩]) ?_ 7 _ (by first | rfl | (simp [*]; done)); (with_reducible repeat (first | apply kN | apply kD | apply kA)); refine blk_put (cs := #[.int .i64 t384, .int .i64 t385, .int .u32 t386, .int .u32 t387, .int .i64 t388, .int .i64 t389, .int .i64 0, .string ⟨#[]⟩, .string ⟨#[]⟩]) ?_ 6 _ (by first | rfl | (simp [*]; done)); (with_reducible repeat (first | apply kN | apply kD | apply kA)); refine blk_put (cs := #[.int .i64 t384, .int .i64 t385, .int .u32 t386, .int .u32 t387, .int .i64 t388, .int .i64 0, .int .i64 0, .string ⟨#[]⟩, .string ⟨#[]⟩]) ?_ 5 _ (by first | rfl | (simp [*]; done)); (with_reducible repeat (first | apply kN | apply kD | apply kA)); refine blk_put (cs := #[.int .i64 t384, .int .i64 t385, .int .u32 t386, .int .u32 t387, .int .i64 0, .int .i64 0, .int .i64 0, .string ⟨#[]⟩, .string ⟨#[]⟩]) ?_ 4 _ (by first | rfl | (simp [*]; done)); (with_reducible repeat (first | apply kN | apply kD | apply kA)); refine blk_put (cs := #[.int .i64 t384, .int .i64 t385, .int .u32 t386, .int .u32 0, .int .i64 0, .int .i64 0, .int .i64 0, .string ⟨#[]⟩, .string ⟨#[]⟩]) ?_ 3 _ (by first | rfl | (simp [*]; done)); (with_reducible repeat (first | apply kN | apply kD | apply kA)); refine blk_put (cs := #[.int .i64 t384, .int .i64 t385, .int .u32 0, .int .u32 0, .int .i64 0, .int .i64 0, .int .i64 0, .string ⟨#[]⟩, .string ⟨#[]⟩]) ?_ 2 _ (by first | rfl | (simp [*]; done)); (with_reducible repeat (first | apply kN | apply kD | apply kA)); refine blk_put (cs := #[.int .i64 t384, .int .i64 0, .int .u32 0, .int .u32 0, .int .i64 0, .int .i64 0, .int .i64 0, .string ⟨#[]⟩, .string ⟨#[]⟩]) ?_ 1 _ (by first | rfl | (simp [*]; done)); (with_reducible repeat (first | apply kN | apply kD | apply kA)); refine blk_put (cs := #[.int .i64 0, .int .i64 0, .int .u32 0, .int .u32 0, .int .i64 0, .int .i64 0, .int .i64 0, .string ⟨#[]⟩, .string ⟨#[]⟩]) ?_ 0 _ (by first | rfl | (simp [*]; done)); (with_reducible repeat (first | apply kN | apply kD | apply kA)); exact BK395.out) hb); have n2_ := mA (bP (by repeat (first | (with_reducible first | exact HB.out | apply bA | apply bN | apply bD | refine bS ?_ GE383.out | refine bS ?_ GE395.out) | exact HB.out)) hb); clear BK383; clear BK395; clear HB; have BK383 := n0_; have BK395 := n1_; have HB := n2_; clear n0_ n1_ n2_; (try clear hb); (try clear hb2); (try clear hk); (try clear hi); obtain ⟨hcz26_0, hcz26_1, hcz26_2, hcz26_3, hcz26_4, hcz26_5, hcz26_6, hcz26_7, hcz26_8⟩ := bc9 BK395.out; obtain ⟨hfz26_0, hfz26_1, hfz26_2, hfz26_3, hfz26_4, hfz26_5, hfz26_6, hfz26_7, hfz26_8⟩ := bf9 BK395.out))
          refine bodyPost_ret (results_list (rs := [.tmp 2, .tmp 3, .tmp 4, .tmp 5]) rfl (by simp) (.tmp (.tmp (.tmp (.tmp .nil))))) rfl ?_
          exact ⟨by first | rfl | (simp [errW_none, errW_some] <;> rfl) | (simp [*, errW_none, errW_some] <;> rfl), by repeat (first | (with_reducible first | exact HB.out | apply bA | apply bN | apply bD | refine bS ?_ GE383.out | refine bS ?_ GE395.out) | exact HB.out)⟩
         ·rw [if_neg c20] at H
          have c20b0 : ((Int.tmod (wrap64 (Int.tdiv t388 2)) 2) == 0) = false := beq_eq_false_iff_ne.mpr c20
          have c20b1 : ((Int.tmod (wrap64 (Int.tdiv t388 2)) 2) != 0) = true := bne_iff_ne.mpr c20
          simp only [Option.some.injEq, Prod.mk.injEq] at H
          obtain ⟨rfl, rfl, rfl, rfl⟩ := H
          go_wp2_with (first | ((with_reducible refine gate_callee (f := 30) rfl ?_); refine goesL_ (some 40) rfl rfl Try.func30 (by kernel_rfl) rfl #[.string (a0.extract (x8_9 : Int).toNat a0.size)] rfl (by (try simp only [List.map_toArray, List.map_cons, List.map_nil]); first | done | rfl | (simp only [List.length_drop, List.length_take]; rfl)) ?_; (with_reducible refine (palanquinref07_Get.calls (a0.extract (x8_9 : Int).toNat a0.size) t384 t385 t386 t387 t388 t389 t390 t391 t392 t393 t394 _ A17.out).mono ?_); rintro e w27 ⟨rfl, hb⟩; refine ⟨_, rfl, ?_⟩; have n0_ := mA (blk_below (g := gb383) (o := .cells #[.int .i64 t377, .string t378, .string t379, .int .i64 t380, .int .i64 t381] 24 (0, 0)) (by (with_reducible repeat (first | apply kN | apply kD | apply kA)); exact BK383.out) hb); have n1_ := mA (bP (by repeat (first | (with_reducible first | exact HB.out | apply bA | apply bN | apply bD | refine bS ?_ GE383.out) | exact HB.out)) hb); clear BK383; clear HB; have BK383 := n0_; have HB := n1_; clear n0_ n1_; (try clear hb); (try clear hb2); (try clear hk); (try clear hi)) | ((with_reducible refine gate_dst (N := 9) rfl ?_); refine box_event ?hg (N := 9) ?hd (cs := #[.int .i64 0, .int .i64 0, .int .u32 0, .int .u32 0, .int .i64 0, .int .i64 0, .int .i64 0, .string ⟨#[]⟩, .string ⟨#[]⟩]) (t := 69) ?hr ?_; (case hd => rfl); (case hg => rfl); (case hr => first | (go_simp; done) | (go_simp; rfl)); intro gb395 hg w28 hbox hb; obtain ⟨n0_, nl383_⟩ := bt3 (g := gb383) (o := .cells #[.int .i64 t377, .string t378, .string t379, .int .i64 t380, .int .i64 t381] 24 (0, 0)) (by (with_reducible repeat (first | apply kN | apply kD | apply kA)); exact BK383.out) hb; obtain ⟨n1_, nq_⟩ := bpr (by repeat (first | (with_reducible first | exact HB.out | apply bA | apply bN | apply bD | refine bS ?_ GE383.out) | exact HB.out)) hb; have n2_ := mA (hbox); have n3_ := mA ((by rw [hg]; exact nq_ : w.heap.size ≤ gb395)); have n4_ := mA ((by rw [hg]; exact nq_ : w.heap.size ≤ gb395)); have n5_ := mA ((by rw [hg]; exact Nat.ne_of_lt nl383_ : gb383 ≠ gb395)); have n6_ := mA ((by rw [hg]; exact Nat.ne_of_gt nl383_ : gb395 ≠ gb383)); clear BK383; clear HB; have BK383 := n0_; have HB := n1_; have BK395 := n2_; have GW395 := n3_; have GE395 := n4_; have NB383_395 := n5_; have NB395_383 := n6_; clear nl383_; clear nq_; clear n0_ n1_ n2_ n3_ n4_ n5_ n6_; clear hb hbox hg; have hnb29 := NB395_383.out; have hnc29 := NB383_395.out; obtain ⟨hcz30_0, hcz30_1, hcz30_2, hcz30_3, hcz30_4, hcz30_5, hcz30_6, hcz30_7, hcz30_8⟩ := bc9 BK395.out; obtain ⟨hfz30_0, hfz30_1, hfz30_2, hfz30_3, hfz30_4, hfz30_5, hfz30_6, hfz30_7, hfz30_8⟩ := bf9 BK395.out) | ((with_reducible refine gate_callee (f := 41) rfl ?_); refine goesL_ (some 47) rfl rfl Try.func41 (by kernel_rfl) rfl #[.string t391] rfl (by (try simp only [List.map_toArray, List.map_cons, List.map_nil]); first | done | rfl | (simp only [List.length_drop, List.length_take]; rfl)) ?_; (with_reducible refine (palanquinref07_MSS.calls kj9 t391 t396 t397 true _ A18.out).mono ?_); rintro e w31 ⟨rfl, hb⟩; refine ⟨_, rfl, ?_⟩; have n0_ := mA (blk_below (g := gb383) (o := .cells #[.int .i64 t377, .string t378, .string t379, .int .i64 t380, .int .i64 t381] 24 (0, 0)) (by (with_reducible repeat (first | apply kN | apply kD | apply kA | refine blk_far ?_ NB383_395.out _)); exact BK383.out) hb); have n1_ := mA (blk_below (g := gb395) (o := .cells #[.int .i64 t384, .int .i64 t385, .int .u32 t386, .int .u32 t387, .int .i64 t388, .int .i64 t389, .int .i64 t390, .string t391, .string t392] 69 (0, 0)) (by (with_reducible repeat (first | apply kN | apply kD | apply kA)); refine blk_put (cs := #[.int .i64 t384, .int .i64 t385, .int .u32 t386, .int .u32 t387, .int .i64 t388, .int .i64 t389, .int .i64 t390, .string t391, .string ⟨#[]⟩]) ?_ 8 _ (by first | rfl | (simp [*]; done)); (with_reducible repeat (first | apply kN | apply kD | apply kA)); refine blk_put (cs := #[.int .i64 t384, .int .i64 t385, .int .u32 t386, .int .u32 t387, .int .i64 t388, .int .i64 t389, .int .i64 t390, .string ⟨#[]⟩, .string ⟨#[]⟩]) ?_ 7 _ (by first | rfl | (simp [*]; done)); (with_reducible repeat (first | apply kN | apply kD | apply kA)); refine blk_put (cs := #[.int .i64 t384, .int .i64 t385, .int .u32 t386, .int .u32 t387, .int .i64 t388, .int .i64 t389, .int .i64 0, .string ⟨#[]⟩, .string ⟨#[]⟩]) ?_ 6 _ (by first | rfl | (simp [*]; done)); (with_reducible repeat (first | apply kN | apply kD | apply kA)); refine blk_put (cs := #[.int .i64 t384, .int .i64 t385, .int .u32 t386, .int .u32 t387, .int .i64 t388, .int .i64 0, .int .i64 0, .string ⟨#[]⟩, .string ⟨#[]⟩]) ?_ 5 _ (by first | rfl | (simp [*]; done)); (with_reducible repeat (first | apply kN | apply kD | apply kA)); refine blk_put (cs := #[.int .i64 t384, .int .i64 t385, .int .u32 t386, .int .u32 t387, .int .i64 0, .int .i64 0, .int .i64 0, .string ⟨#[]⟩, .string ⟨#[]⟩]) ?_ 4 _ (by first | rfl | (simp [*]; done)); (with_reducible repeat (first | apply kN | apply kD | apply kA)); refine blk_put (cs := #[.int .i64 t384, .int .i64 t385, .int .u32 t386, .int .u32 0, .int .i64 0, .int .i64 0, .int .i64 0, .string ⟨#[]⟩, .string ⟨#[]⟩]) ?_ 3 _ (by first | rfl | (simp [*]; done)); (with_reducible repeat (first | apply kN | apply kD | apply kA)); refine blk_put (cs := #[.int .i64 t384, .int .i64 t385, .int .u32 0, .int .u32 0, .int .i64 0, .int .i64 0, .int .i64 0, .string ⟨#[]⟩, .string ⟨#[]⟩]) ?_ 2 _ (by first | rfl | (simp [*]; done)); (with_reducible repeat (first | apply kN | apply kD | apply kA)); refine blk_put (cs := #[.int .i64 t384, .int .i64 0, .int .u32 0, .int .u32 0, .int .i64 0, .int .i64 0, .int .i64 0, .string ⟨#[]⟩, .string ⟨#[]⟩]) ?_ 1 _ (by first | rfl | (simp [*]; done)); (with_reducible repeat (first | apply kN | apply kD | apply kA)); refine blk_put (cs := #[.int .i64 0, .int .i64 0, .int .u32 0, .int .u32 0, .int .i64 0, .int .i64 0, .int .i64 0, .string ⟨#[]⟩, .string ⟨#[]⟩]) ?_ 0 _ (by first | rfl | (simp [*]; done)); (with_reducible repeat (first | apply kN | apply kD | apply kA)); exact BK395.out) hb); have n2_ := mA (bP (by repeat (first | (with_reducible first | exact HB.out | apply bA | apply bN | apply bD | refine bS ?_ GE383.out | refine bS ?_ GE395.out) | exact HB.out)) hb); clear BK383; clear BK395; clear HB; have BK383 := n0_; have BK395 := n1_; have HB := n2_; clear n0_ n1_ n2_; (try clear hb); (try clear hb2); (try clear hk); (try clear hi); obtain ⟨hcz32_0, hcz32_1, hcz32_2, hcz32_3, hcz32_4, hcz32_5, hcz32_6, hcz32_7, hcz32_8⟩ := bc9 BK395.out; obtain ⟨hfz32_0, hfz32_1, hfz32_2, hfz32_3, hfz32_4, hfz32_5, hfz32_6, hfz32_7, hfz32_8⟩ := bf9 BK395.out))
          refine bodyPost_ret (results_list (rs := [.tmp 2, .tmp 3, .tmp 4, .tmp 5]) rfl (by simp) (.tmp (.tmp (.tmp (.tmp .nil))))) rfl ?_
          exact ⟨by first | rfl | (simp [errW_none, errW_some] <;> rfl) | (simp [*, errW_none, errW_some] <;> rfl), by repeat (first | (with_reducible first | exact HB.out | apply bA | apply bN | apply bD | refine bS ?_ GE383.out | refine bS ?_ GE395.out) | exact HB.out)⟩
        ·replace c19 := Bool.eq_false_iff.mpr c19
         subst c19
         rw [if_neg (show ¬ (false = true) by decide)] at H
         simp only [Option.some.injEq, Prod.mk.injEq] at H
         obtain ⟨rfl, rfl, rfl, rfl⟩ := H
         go_wp2_with (first | ((with_reducible refine gate_callee (f := 30) rfl ?_); refine goesL_ (some 40) rfl rfl Try.func30 (by kernel_rfl) rfl #[.string (a0.extract (x8_9 : Int).toNat a0.size)] rfl (by (try simp only [List.map_toArray, List.map_cons, List.map_nil]); first | done | rfl | (simp only [List.length_drop, List.length_take]; rfl)) ?_; (with_reducible refine (palanquinref07_Get.calls (a0.extract (x8_9 : Int).toNat a0.size) t384 t385 t386 t387 t388 t389 t390 t391 t392 t393 t394 _ A17.out).mono ?_); rintro e w33 ⟨rfl, hb⟩; refine ⟨_, rfl, ?_⟩; have n0_ := mA (blk_below (g := gb383) (o := .cells #[.int .i64 t377, .string t378, .string t379, .int .i64 t380, .int .i64 t381] 24 (0, 0)) (by (with_reducible repeat (first | apply kN | apply kD | apply kA)); exact BK383.out) hb); have n1_ := mA (bP (by repeat (first | (with_reducible first | exact HB.out | apply bA | apply bN | apply bD | refine bS ?_ GE383.out) | exact HB.out)) hb); clear BK383; clear HB; have BK383 := n0_; have HB := n1_; clear n0_ n1_; (try clear hb); (try clear hb2); (try clear hk); (try clear hi)) | ((with_reducible refine gate_dst (N := 9) rfl ?_); refine box_event ?hg (N := 9) ?hd (cs := #[.int .i64 0, .int .i64 0, .int .u32 0, .int .u32 0, .int .i64 0, .int .i64 0, .int .i64 0, .string ⟨#[]⟩, .string ⟨#[]⟩]) (t := 69) ?hr ?_; (case hd => rfl); (case hg => rfl); (case hr => first | (go_simp; done) | (go_simp; rfl)); intro gb395 hg w34 hbox hb; obtain ⟨n0_, nl383_⟩ := bt3 (g := gb383) (o := .cells #[.int .i64 t377, .string t378, .string t379, .int .i64 t380, .int .i64 t381] 24 (0, 0)) (by (with_reducible repeat (first | apply kN | apply kD | apply kA)); exact BK383.out) hb; obtain ⟨n1_, nq_⟩ := bpr (by repeat (first | (with_reducible first | exact HB.out | apply bA | apply bN | apply bD | refine bS ?_ GE383.out) | exact HB.out)) hb; have n2_ := mA (hbox); have n3_ := mA ((by rw [hg]; exact nq_ : w.heap.size ≤ gb395)); have n4_ := mA ((by rw [hg]; exact nq_ : w.heap.size ≤ gb395)); have n5_ := mA ((by rw [hg]; exact Nat.ne_of_lt nl383_ : gb383 ≠ gb395)); have n6_ := mA ((by rw [hg]; exact Nat.ne_of_gt nl383_ : gb395 ≠ gb383)); clear BK383; clear HB; have BK383 := n0_; have HB := n1_; have BK395 := n2_; have GW395 := n3_; have GE395 := n4_; have NB383_395 := n5_; have NB395_383 := n6_; clear nl383_; clear nq_; clear n0_ n1_ n2_ n3_ n4_ n5_ n6_; clear hb hbox hg; have hnb35 := NB395_383.out; have hnc35 := NB383_395.out; obtain ⟨hcz36_0, hcz36_1, hcz36_2, hcz36_3, hcz36_4, hcz36_5, hcz36_6, hcz36_7, hcz36_8⟩ := bc9 BK395.out; obtain ⟨hfz36_0, hfz36_1, hfz36_2, hfz36_3, hfz36_4, hfz36_5, hfz36_6, hfz36_7, hfz36_8⟩ := bf9 BK395.out) | ((with_reducible refine gate_callee (f := 41) rfl ?_); refine goesL_ (some 47) rfl rfl Try.func41 (by kernel_rfl) rfl #[.string t391] rfl (by (try simp only [List.map_toArray, List.map_cons, List.map_nil]); first | done | rfl | (simp only [List.length_drop, List.length_take]; rfl)) ?_; (with_reducible refine (palanquinref07_MSS.calls kj9 t391 t396 t397 false _ A18.out).mono ?_); rintro e w37 ⟨rfl, hb⟩; refine ⟨_, rfl, ?_⟩; have n0_ := mA (blk_below (g := gb383) (o := .cells #[.int .i64 t377, .string t378, .string t379, .int .i64 t380, .int .i64 t381] 24 (0, 0)) (by (with_reducible repeat (first | apply kN | apply kD | apply kA | refine blk_far ?_ NB383_395.out _)); exact BK383.out) hb); have n1_ := mA (blk_below (g := gb395) (o := .cells #[.int .i64 t384, .int .i64 t385, .int .u32 t386, .int .u32 t387, .int .i64 t388, .int .i64 t389, .int .i64 t390, .string t391, .string t392] 69 (0, 0)) (by (with_reducible repeat (first | apply kN | apply kD | apply kA)); refine blk_put (cs := #[.int .i64 t384, .int .i64 t385, .int .u32 t386, .int .u32 t387, .int .i64 t388, .int .i64 t389, .int .i64 t390, .string t391, .string ⟨#[]⟩]) ?_ 8 _ (by first | rfl | (simp [*]; done)); (with_reducible repeat (first | apply kN | apply kD | apply kA)); refine blk_put (cs := #[.int .i64 t384, .int .i64 t385, .int .u32 t386, .int .u32 t387, .int .i64 t388, .int .i64 t389, .int .i64 t390, .string ⟨#[]⟩, .string ⟨#[]⟩]) ?_ 7 _ (by first | rfl | (simp [*]; done)); (with_reducible repeat (first | apply kN | apply kD | apply kA)); refine blk_put (cs := #[.int .i64 t384, .int .i64 t385, .int .u32 t386, .int .u32 t387, .int .i64 t388, .int .i64 t389, .int .i64 0, .string ⟨#[]⟩, .string ⟨#[]⟩]) ?_ 6 _ (by first | rfl | (simp [*]; done)); (with_reducible repeat (first | apply kN | apply kD | apply kA)); refine blk_put (cs := #[.int .i64 t384, .int .i64 t385, .int .u32 t386, .int .u32 t387, .int .i64 t388, .int .i64 0, .int .i64 0, .string ⟨#[]⟩, .string ⟨#[]⟩]) ?_ 5 _ (by first | rfl | (simp [*]; done)); (with_reducible repeat (first | apply kN | apply kD | apply kA)); refine blk_put (cs := #[.int .i64 t384, .int .i64 t385, .int .u32 t386, .int .u32 t387, .int .i64 0, .int .i64 0, .int .i64 0, .string ⟨#[]⟩, .string ⟨#[]⟩]) ?_ 4 _ (by first | rfl | (simp [*]; done)); (with_reducible repeat (first | apply kN | apply kD | apply kA)); refine blk_put (cs := #[.int .i64 t384, .int .i64 t385, .int .u32 t386, .int .u32 0, .int .i64 0, .int .i64 0, .int .i64 0, .string ⟨#[]⟩, .string ⟨#[]⟩]) ?_ 3 _ (by first | rfl | (simp [*]; done)); (with_reducible repeat (first | apply kN | apply kD | apply kA)); refine blk_put (cs := #[.int .i64 t384, .int .i64 t385, .int .u32 0, .int .u32 0, .int .i64 0, .int .i64 0, .int .i64 0, .string ⟨#[]⟩, .string ⟨#[]⟩]) ?_ 2 _ (by first | rfl | (simp [*]; done)); (with_reducible repeat (first | apply kN | apply kD | apply kA)); refine blk_put (cs := #[.int .i64 t384, .int .i64 0, .int .u32 0, .int .u32 0, .int .i64 0, .int .i64 0, .int .i64 0, .string ⟨#[]⟩, .string ⟨#[]⟩]) ?_ 1 _ (by first | rfl | (simp [*]; done)); (with_reducible repeat (first | apply kN | apply kD | apply kA)); refine blk_put (cs := #[.int .i64 0, .int .i64 0, .int .u32 0, .int .u32 0, .int .i64 0, .int .i64 0, .int .i64 0, .string ⟨#[]⟩, .string ⟨#[]⟩]) ?_ 0 _ (by first | rfl | (simp [*]; done)); (with_reducible repeat (first | apply kN | apply kD | apply kA)); exact BK395.out) hb); have n2_ := mA (bP (by repeat (first | (with_reducible first | exact HB.out | apply bA | apply bN | apply bD | refine bS ?_ GE383.out | refine bS ?_ GE395.out) | exact HB.out)) hb); clear BK383; clear BK395; clear HB; have BK383 := n0_; have BK395 := n1_; have HB := n2_; clear n0_ n1_ n2_; (try clear hb); (try clear hb2); (try clear hk); (try clear hi)))
         refine bodyPost_ret (results_list (rs := [.tmp 2, .tmp 3, .tmp 4, .tmp 5]) rfl (by simp) (.tmp (.tmp (.tmp (.tmp .nil))))) rfl ?_
         exact ⟨by first | rfl | (simp [errW_none, errW_some] <;> rfl) | (simp [*, errW_none, errW_some] <;> rfl), by repeat (first | (with_reducible first | exact HB.out | apply bA | apply bN | apply bD | refine bS ?_ GE383.out | refine bS ?_ GE395.out) | exact HB.out)⟩
       ·rw [if_neg c16] at H
        exact absurd H (by simp)
      ·rw [if_neg c15] at H
       exact absurd H (by simp)

mutual
def palanquinref10_Clamp.j0 : Nat → ByteArray → Int → Option (ByteArray)
 | 0, _, _ => none
 | k + 1, x0, x1 => if x1 > 65535 then (palanquinref10_Clamp.j1 k x0 65535) else (palanquinref10_Clamp.j1 k x0 x1)
def palanquinref10_Clamp.j1 : Nat → ByteArray → Int → Option (ByteArray)
 | 0, _, _ => none
 | k + 1, x0, x1 => (palanquinref10_Find.f k x0).bind fun bt419 => (if bt419.2.2.2 = true then (palanquinref10_Clamp.j2 k x0 x1 bt419.1 bt419.2.1 (decide (bt419.2.2.1 ≤ x1))) else (palanquinref10_Clamp.j2 k x0 x1 bt419.1 bt419.2.1 true))
def palanquinref10_Clamp.j2 : Nat → ByteArray → Int → Int → Int → Bool → Option (ByteArray)
 | 0, _, _, _, _, _ => none
 | k + 1, x0, x1, x5, x6, x29 => if x29 = true then (some x0) else ((palanquinref09_Get.f k x0).bind fun bt423 => (if 0 ≤ x5 then (if x5 ≤ (x0.size : Int) then (if 0 ≤ x6 then (if x6 ≤ ((x0.extract (x5 : Int).toNat x0.size).size : Int) then ((palanquinref01_Bytes.f k (IntKind.u64.wrap (x1)) 2).bind fun t430 => (if ((x0.extract (x5 : Int).toNat x0.size).extract 0 (x6 : Int).toNat).size + t430.size ≤ 9223372036854775807 then (if 0 ≤ (wrap64 (x6 + 2)) then (if (wrap64 (x6 + 2)) ≤ ((x0.extract (x5 : Int).toNat x0.size).size : Int) then (if (((x0.extract (x5 : Int).toNat x0.size).extract 0 (x6 : Int).toNat) ++ t430).size + ((x0.extract (x5 : Int).toNat x0.size).extract ((wrap64 (x6 + 2)) : Int).toNat (x0.extract (x5 : Int).toNat x0.size).size).size ≤ 9223372036854775807 then ((palanquinref09_Seal.f k 6 bt423.2.1 bt423.2.2.1 ((((x0.extract (x5 : Int).toNat x0.size).extract 0 (x6 : Int).toNat) ++ t430) ++ ((x0.extract (x5 : Int).toNat x0.size).extract ((wrap64 (x6 + 2)) : Int).toNat (x0.extract (x5 : Int).toNat x0.size).size))).bind fun t431 => (if (x0.extract 0 (x5 : Int).toNat).size + t431.size ≤ 9223372036854775807 then (some ((x0.extract 0 (x5 : Int).toNat) ++ t431)) else (none))) else (none)) else (none)) else (none)) else (none))) else (none)) else (none)) else (none)) else (none)))
end
end Go.Proofs.Ytcmalglippmocaa.G
end

section
namespace Go.Proofs.Ytcmalglippmocaa.G
open Go.RowKit Go.Proofs.YtcmalglippmocaaW.PrintWords Go.Proofs.YtcmalglippmocaaW.PrintLast Go.Proofs.YtcmalglippmocaaW.PrintMore
attribute [local go_sem] max2_int min2_int max_two min_two max_three min_three max_four min_four

def palanquinlaw10_ClampUpdates.j0 : Nat → ByteArray → Int → Int → Int → Bool → Option (Bool)
 | 0, _, _, _, _, _ => none
 | k + 1, x0, x1, x5, x7, x38 => if x38 = true then (some true) else ((palanquinref09_Get.f k x0).bind fun bt405 => (if 0 ≤ x5 then (if x5 ≤ (x0.size : Int) then ((palanquinref09_Seal.f k 6 bt405.2.1 bt405.2.2.1 (x0.extract (x5 : Int).toNat x0.size)).bind fun t412 => (if t412.toList = (x0.extract (x5 : Int).toNat x0.size).toList then ((clamp_Clamp.f x0 (wrap64 (x1))).bind fun t413 => (if (t413.size : Int) = (x0.size : Int) then (if 16 < ((x0.extract (x5 : Int).toNat x0.size).size : Int) then (if 17 < ((x0.extract (x5 : Int).toNat x0.size).size : Int) then ((sum_Update.f (Go.bits .or .i64 (wrap64 ((wrap64 (bt (x0.extract (x5 : Int).toNat x0.size) 16)) * 256)) (wrap64 (bt (x0.extract (x5 : Int).toNat x0.size) 17))) x7 (wrap64 (x1))).bind fun t414 => (if 0 ≤ (wrap64 (x5 + 16)) then (if (wrap64 (x5 + 16)) < (t413.size : Int) then (if 0 ≤ (wrap64 (x5 + 17)) then (if (wrap64 (x5 + 17)) < (t413.size : Int) then (some ((Go.bits .or .i64 (wrap64 ((wrap64 (bt t413 (wrap64 (x5 + 16)))) * 256)) (wrap64 (bt t413 (wrap64 (x5 + 17))))) == t414)) else (none)) else (none)) else (none)) else (none))) else (none)) else (none)) else (some false))) else (some true))) else (none)) else (none)))
def palanquinlaw10_ClampUpdates.f (k : Nat) (a0 : ByteArray) (a1 : Int) : Option (Bool) := (palanquinlaw10_awake.f k).bind fun t400 => (if t400 = true then (if (a0.size : Int) > 5000 then (some true) else ((palanquinref10_Find.f k a0).bind fun bt401 => (if bt401.2.2.2 = true then (if (Int.tmod bt401.2.1 2) = 1 then (palanquinlaw10_ClampUpdates.j0 k a0 a1 bt401.1 bt401.2.2.1 true) else (palanquinlaw10_ClampUpdates.j0 k a0 a1 bt401.1 bt401.2.2.1 (decide (bt401.2.2.1 ≤ (wrap64 (a1)))))) else (palanquinlaw10_ClampUpdates.j0 k a0 a1 bt401.1 bt401.2.2.1 true)))) else (some false))
def palanquinlaw10_ClampUpdates.T15 : Bool × List (List Nat × List Nat) := (true, [([], []), ([0], [0]), ([1], [1]), ([2], [2]), ([], []), ([4], [4]), ([5], [5]), ([3, 6], [3, 6]), ([], []), ([], []), ([9], [9]), ([7, 8, 10], [7, 8, 10]), ([11, 11, 0, 1, 2, 3, 4, 5, 6, 7, 8, 9, 10, 11], [11])])
def palanquinlaw10_ClampUpdates.B15 : List Nat := [0, 1, 3, 7, 0, 16, 48, 127, 0, 0, 512, 2047, 4095]
theorem palanquinlaw10_ClampUpdates.tab15 : rtab .any (opsOf Try.f7 15) = palanquinlaw10_ClampUpdates.T15 := by kernel_rfl
theorem palanquinlaw10_ClampUpdates.bits15 : waitsOk palanquinlaw10_ClampUpdates.T15.2 palanquinlaw10_ClampUpdates.B15 = true := by kernel_rfl
def palanquinlaw10_ClampUpdates.T16 : Bool × List (List Nat × List Nat) := (true, [([], []), ([], []), ([1], [1]), ([0, 2], [0, 2]), ([3], [3]), ([4], [4]), ([], []), ([], []), ([7], [7]), ([6, 8], [6, 8]), ([9], [9]), ([5, 10], [5, 10]), ([], []), ([11, 12], [11, 12]), ([13, 0, 1, 2, 3, 4, 5, 6, 7, 8, 9, 10, 11, 12, 13], [13])])
def palanquinlaw10_ClampUpdates.B16 : List Nat := [0, 0, 2, 7, 15, 31, 0, 0, 128, 448, 960, 2047, 0, 8191, 16383]
theorem palanquinlaw10_ClampUpdates.tab16 : rtab .any (opsOf Try.f7 16) = palanquinlaw10_ClampUpdates.T16 := by kernel_rfl
theorem palanquinlaw10_ClampUpdates.bits16 : waitsOk palanquinlaw10_ClampUpdates.T16.2 palanquinlaw10_ClampUpdates.B16 = true := by kernel_rfl
set_option maxHeartbeats 8000000 in
set_option maxRecDepth 100000 in
theorem palanquinlaw10_ClampUpdates.calls (k : Nat) (a0 : ByteArray) (a1 : Int) (r : Bool) (w : World) (h : palanquinlaw10_ClampUpdates.f k a0 a1 = some r) (hrt_ : Aside0 (r = true)) :
  Calls Try.prog 7 #[.string a0, .int .u16 a1] w fun e w' => e = .returned (.bool r) ∧ Below w.heap.size w w' := by
 have hu24 := Try.underlying24
 have HB := mA (Below.refl w.heap.size w)
 have H : ((palanquinlaw10_awake.f k).bind fun t400 => (if t400 = true then (if (a0.size : Int) > 5000 then (some true) else ((palanquinref10_Find.f k a0).bind fun bt401 => (if bt401.2.2.2 = true then (if (Int.tmod bt401.2.1 2) = 1 then (palanquinlaw10_ClampUpdates.j0 k a0 a1 bt401.1 bt401.2.2.1 true) else (palanquinlaw10_ClampUpdates.j0 k a0 a1 bt401.1 bt401.2.2.1 (decide (bt401.2.2.1 ≤ (wrap64 (a1)))))) else (palanquinlaw10_ClampUpdates.j0 k a0 a1 bt401.1 bt401.2.2.1 true)))) else (some false))) = some r := h
 clear h
 replace H := Option.bind_eq_some_iff.mp H
 obtain ⟨t400, A30, H⟩ := H
 try dsimp +instances only at H
 have A3 := mA A30
 clear A30
 by_cases c4 : t400 = true
 ·subst c4
  rw [if_pos rfl] at H
  by_cases c5 : (a0.size : Int) > 5000
  ·rw [if_pos c5] at H
   have c5b0 : decide (5000 < (a0.size : Int)) = true := decide_eq_true c5
   have c5b1 : decide (5000 < a0.size) = true := decide_eq_true (by omega)
   clear c5
   obtain rfl := Option.some.inj H
   go_enter Try.func7, Try.ntmps7
   go_wp2_with (first | ((with_reducible refine gate_callee (f := 13) rfl ?_); refine goesL_ (some 14) rfl rfl Try.func13 (by kernel_rfl) rfl #[] rfl (by (try simp only [List.map_toArray, List.map_cons, List.map_nil]); first | done | rfl | (simp only [List.length_drop, List.length_take]; rfl)) ?_; (with_reducible refine (palanquinlaw10_awake.calls k  true _ A3.out).mono ?_); rintro e w6 ⟨rfl, hb⟩; refine ⟨_, rfl, ?_⟩; have n0_ := mA (bP (by repeat (first | (with_reducible first | exact HB.out | apply bA | apply bN | apply bD) | exact HB.out)) hb); clear HB; have HB := n0_; clear n0_; (try clear hb); (try clear hb2); (try clear hk); (try clear hi)))
   go_ret
   exact ⟨by first | rfl | (simp [errW_none, errW_some] <;> rfl) | (simp [*, errW_none, errW_some] <;> rfl), by repeat (first | (with_reducible first | exact HB.out | apply bA | apply bN | apply bD) | exact HB.out)⟩
  ·rw [if_neg c5] at H
   have c5b0 : decide (5000 < (a0.size : Int)) = false := decide_eq_false c5
   have c5b1 : decide (5000 < a0.size) = false := decide_eq_false (by omega)
   clear c5
   replace H := Option.bind_eq_some_iff.mp H
   obtain ⟨⟨t401, t402, t403, t404⟩, A70, H⟩ := H
   try dsimp +instances only at H
   have A7 := mA A70
   clear A70
   have HC8 := mA H
   clear H
   go_enter Try.func7, Try.ntmps7
   go_upto_region 6 with (first | ((with_reducible refine gate_callee (f := 13) rfl ?_); refine goesL_ (some 14) rfl rfl Try.func13 (by kernel_rfl) rfl #[] rfl (by (try simp only [List.map_toArray, List.map_cons, List.map_nil]); first | done | rfl | (simp only [List.length_drop, List.length_take]; rfl)) ?_; (with_reducible refine (palanquinlaw10_awake.calls k  true _ A3.out).mono ?_); rintro e w9 ⟨rfl, hb⟩; refine ⟨_, rfl, ?_⟩; have n0_ := mA (bP (by repeat (first | (with_reducible first | exact HB.out | apply bA | apply bN | apply bD) | exact HB.out)) hb); clear HB; have HB := n0_; clear n0_; (try clear hb); (try clear hb2); (try clear hk); (try clear hi)) | ((with_reducible refine gate_callee (f := 16) rfl ?_); refine goesL_ (some 21) rfl rfl Try.func16 (by kernel_rfl) rfl #[.string a0] rfl (by (try simp only [List.map_toArray, List.map_cons, List.map_nil]); first | done | rfl | (simp only [List.length_drop, List.length_take]; rfl)) ?_; (with_reducible refine (palanquinref10_Find.calls k a0 t401 t402 t403 t404 _ A7.out).mono ?_); rintro e w10 ⟨rfl, hb⟩; refine ⟨_, rfl, ?_⟩; have n0_ := mA (bP (by repeat (first | (with_reducible first | exact HB.out | apply bA | apply bN | apply bD) | exact HB.out)) hb); clear HB; have HB := n0_; clear n0_; (try clear hb); (try clear hb2); (try clear hk); (try clear hi)))
   (try simp only [Act.put, List.setIfInBounds_toArray, List.set_cons_zero, List.set_cons_succ])
   go_cut [38] (fun v38 wc => ∃ (kq : Nat) (x38_7 : Bool), v38 = .bool x38_7 ∧ Aside0 (palanquinlaw10_ClampUpdates.j0 kq a0 a1 t401 t403 x38_7 = some r) ∧ Aside0 (kq ≤ k) ∧ Aside0 (Below w.heap.size w wc))
   case first =>
    have H := HC8.out
    clear HC8
    by_cases c11 : t404 = true
    ·subst c11
     rw [if_pos rfl] at H
     by_cases c12 : (Int.tmod t402 2) = 1
     ·rw [if_pos c12] at H
      have c12b0 : ((Int.tmod t402 2) == 1) = true := beq_iff_eq.mpr c12
      have c12b1 : ((Int.tmod t402 2) != 1) = false := bne_eq_false_iff_eq.mpr c12
      clear c12
      (first | rw [c12b0] | (simp only [i64_w, i32_w]; rw [c12b0]) | skip)
      have H' := mA H
      clear H
      go_wp2
      go_meet
      case rel => exact ⟨_, (true), (by first | rfl | (simp; done) | (simp [*]; done)), H', ⟨by first | omega | exact Nat.le_refl _⟩, ⟨by repeat (first | (with_reducible first | exact HB.out | apply bA | apply bN | apply bD) | exact HB.out)⟩⟩
     ·rw [if_neg c12] at H
      have c12b0 : ((Int.tmod t402 2) == 1) = false := beq_eq_false_iff_ne.mpr c12
      have c12b1 : ((Int.tmod t402 2) != 1) = true := bne_iff_ne.mpr c12
      (first | rw [c12b0] | (simp only [i64_w, i32_w]; rw [c12b0]) | skip)
      have H' := mA H
      clear H
      go_wp2
      go_meet
      case rel => exact ⟨_, (decide (t403 ≤ (wrap64 (a1)))), (by first | rfl | (simp; done) | (simp [*]; done)), H', ⟨by first | omega | exact Nat.le_refl _⟩, ⟨by repeat (first | (with_reducible first | exact HB.out | apply bA | apply bN | apply bD) | exact HB.out)⟩⟩
    ·replace c11 := Bool.eq_false_iff.mpr c11
     subst c11
     rw [if_neg (show ¬ (false = true) by decide)] at H
     have H' := mA H
     clear H
     go_wp2
     go_meet
     case rel => exact ⟨_, (true), (by first | rfl | (simp; done) | (simp [*]; done)), H', ⟨by first | omega | exact Nat.le_refl _⟩, ⟨by repeat (first | (with_reducible first | exact HB.out | apply bA | apply bN | apply bD) | exact HB.out)⟩⟩
   case rest =>
    clear HC8
    try clear c1
    try clear p2
    try clear c4
    try clear c5
    try clear c5b0
    try clear c5b1
    try clear p6
    try clear c7
    try clear c11
    try clear c12
    try clear c12b0
    try clear c12b1
    obtain ⟨kq, x38_7, rfl, HA, HJ7, HB⟩ := hcut
    cases kq with
    | zero => exact absurd HA.out (by simp [palanquinlaw10_ClampUpdates.j0])
    | succ kj7 =>
     have H := HA.out
     clear HA
     simp only [palanquinlaw10_ClampUpdates.j0] at H
     by_cases c13 : x38_7 = true
     ·subst c13
      rw [if_pos rfl] at H
      obtain rfl := Option.some.inj H
      go_wp2
      go_ret
      exact ⟨by first | rfl | (simp [errW_none, errW_some] <;> rfl) | (simp [*, errW_none, errW_some] <;> rfl), by repeat (first | (with_reducible first | exact HB.out | apply bA | apply bN | apply bD) | exact HB.out)⟩
     ·replace c13 := Bool.eq_false_iff.mpr c13
      subst c13
      rw [if_neg (show ¬ (false = true) by decide)] at H
      replace H := Option.bind_eq_some_iff.mp H
      obtain ⟨⟨t405, t406, t407, t408, t409, t410⟩, A140, H⟩ := H
      try dsimp +instances only at H
      have A14 := mA A140
      clear A140
      by_cases c15 : 0 ≤ t401
      ·rw [if_pos c15] at H
       have c15b0 := eq_true c15
       have c15b1 : decide (0 ≤ t401) = true := decide_eq_true c15
       clear c15
       by_cases c16 : t401 ≤ (a0.size : Int)
       ·rw [if_pos c16] at H
        have c16b0 := eq_true c16
        have c16b1 : decide (t401 ≤ (a0.size : Int)) = true := decide_eq_true c16
        clear c16
        replace H := Option.bind_eq_some_iff.mp H
        obtain ⟨t412, A170, H⟩ := H
        try dsimp +instances only at H
        have A17 := mA A170
        clear A170
        by_cases c18 : t412.toList = (a0.extract (t401 : Int).toNat a0.size).toList
        ·rw [if_pos c18] at H
         have c18b0 : (t412.toList == (a0.extract (t401 : Int).toNat a0.size).toList) = true := beq_iff_eq.mpr c18
         have c18b1 : (t412.toList != (a0.extract (t401 : Int).toNat a0.size).toList) = false := bne_eq_false_iff_eq.mpr c18
         clear c18
         replace H := Option.bind_eq_some_iff.mp H
         obtain ⟨t413, A190, H⟩ := H
         try dsimp +instances only at H
         have A19 := mA A190
         clear A190
         by_cases c20 : (t413.size : Int) = (a0.size : Int)
         ·rw [if_pos c20] at H
          have c20b0 : ((t413.size : Int) == (a0.size : Int)) = true := beq_iff_eq.mpr c20
          have c20b1 : ((t413.size : Int) != (a0.size : Int)) = false := bne_eq_false_iff_eq.mpr c20
          have c20b2 : (t413.size == a0.size) = true := by first | simpa using c20 | (simp at c20 ⊢; omega)
          clear c20
          by_cases c21 : 16 < ((a0.extract (t401 : Int).toNat a0.size).size : Int)
          ·rw [if_pos c21] at H
           have c21b0 : decide (16 < ((a0.extract (t401 : Int).toNat a0.size).size : Int)) = true := decide_eq_true c21
           have c21b1 : decide (16 < (a0.extract (t401 : Int).toNat a0.size).size) = true := decide_eq_true (by omega)
           clear c21
           by_cases c23 : 17 < ((a0.extract (t401 : Int).toNat a0.size).size : Int)
           ·rw [if_pos c23] at H
            have c23b0 : decide (17 < ((a0.extract (t401 : Int).toNat a0.size).size : Int)) = true := decide_eq_true c23
            have c23b1 : decide (17 < (a0.extract (t401 : Int).toNat a0.size).size) = true := decide_eq_true (by omega)
            clear c23
            replace H := Option.bind_eq_some_iff.mp H
            obtain ⟨t414, A250, H⟩ := H
            try dsimp +instances only at H
            have A25 := mA A250
            clear A250
            obtain ⟨ji26, hji26⟩ : ∃ j_ : Int, (wrap64 (t401 + 16)) = j_ := ⟨_, rfl⟩
            replace H : (if 0 ≤ (ji26) then (if (ji26) < (t413.size : Int) then (if 0 ≤ (wrap64 (t401 + 17)) then (if (wrap64 (t401 + 17)) < (t413.size : Int) then (some ((Go.bits .or .i64 (wrap64 ((wrap64 (bt t413 (ji26))) * 256)) (wrap64 (bt t413 (wrap64 (t401 + 17))))) == t414)) else (none)) else (none)) else (none)) else (none)) = some r := by first | (rw [hji26] at H; exact H) | (simp only [hji26] at H ⊢; exact H)
            (try rw [hji26] at A14)
            (try rw [hji26] at A17)
            (try rw [hji26] at A19)
            (try rw [hji26] at A25)
            have hji26w : (IntKind.i64.wrap (t401 + 16)) = ji26 := (i64_w _).trans hji26
            by_cases c27 : 0 ≤ (ji26)
            ·rw [if_pos c27] at H
             have c27b0 : decide (0 ≤ (ji26)) = true := decide_eq_true c27
             clear c27
             by_cases c28 : (ji26) < (t413.size : Int)
             ·rw [if_pos c28] at H
              have c28b0 : decide ((ji26) < (t413.size : Int)) = true := decide_eq_true c28
              clear c28
              obtain ⟨ji30, hji30⟩ : ∃ j_ : Int, (wrap64 (t401 + 17)) = j_ := ⟨_, rfl⟩
              replace H : (if 0 ≤ (ji30) then (if (ji30) < (t413.size : Int) then (some ((Go.bits .or .i64 (wrap64 ((wrap64 (bt t413 (ji26))) * 256)) (wrap64 (bt t413 (ji30)))) == t414)) else (none)) else (none)) = some r := by first | (rw [hji30] at H; exact H) | (simp only [hji30] at H ⊢; exact H)
              (try rw [hji30] at A14)
              (try rw [hji30] at A17)
              (try rw [hji30] at A19)
              (try rw [hji30] at A25)
              have hji30w : (IntKind.i64.wrap (t401 + 17)) = ji30 := (i64_w _).trans hji30
              by_cases c31 : 0 ≤ (ji30)
              ·rw [if_pos c31] at H
               have c31b0 : decide (0 ≤ (ji30)) = true := decide_eq_true c31
               clear c31
               by_cases c32 : (ji30) < (t413.size : Int)
               ·rw [if_pos c32] at H
                have c32b0 : decide ((ji30) < (t413.size : Int)) = true := decide_eq_true c32
                clear c32
                obtain rfl := Option.some.inj H
                try go_wp2_with (first | ((with_reducible refine gate_callee (f := 12) rfl ?_); refine goesL_ (some 41) rfl rfl Try.func12 (by kernel_rfl) rfl #[.string a0] rfl (by (try simp only [List.map_toArray, List.map_cons, List.map_nil]); first | done | rfl | (simp only [List.length_drop, List.length_take]; rfl)) ?_; (with_reducible refine (palanquinref09_Get.calls kj7 a0 t405 t406 t407 t408 t409 t410 _ A14.out).mono ?_); rintro e w34 ⟨rfl, hb⟩; refine ⟨_, rfl, ?_⟩; have n0_ := mA (bP (by repeat (first | (with_reducible first | exact HB.out | apply bA | apply bN | apply bD) | exact HB.out)) hb); clear HB; have HB := n0_; clear n0_; (try clear hb); (try clear hb2); (try clear hk); (try clear hi)) | ((with_reducible refine gate_dst (N := 9) rfl ?_); refine box_event ?hg (N := 9) ?hd (cs := #[.int .i64 0, .string ⟨#[]⟩, .string ⟨#[]⟩, .int .i64 0, .int .i64 0]) (t := 24) ?hr ?_; (case hd => rfl); (case hg => rfl); (case hr => first | (go_simp; done) | (go_simp; rfl)); intro gb411 hg w35 hbox hb; obtain ⟨n0_, nq_⟩ := bpr (by repeat (first | (with_reducible first | exact HB.out | apply bA | apply bN | apply bD) | exact HB.out)) hb; have n1_ := mA (hbox); have n2_ := mA ((by rw [hg]; exact nq_ : w.heap.size ≤ gb411)); have n3_ := mA ((by rw [hg]; exact nq_ : w.heap.size ≤ gb411)); clear HB; have HB := n0_; have BK411 := n1_; have GW411 := n2_; have GE411 := n3_; clear nq_; clear n0_ n1_ n2_ n3_; clear hb hbox hg; obtain ⟨hcz36_0, hcz36_1, hcz36_2, hcz36_3, hcz36_4⟩ := bc5 BK411.out; obtain ⟨hfz36_0, hfz36_1, hfz36_2, hfz36_3, hfz36_4⟩ := bf5 BK411.out) | ((with_reducible refine gate_callee (f := 17) rfl ?_); refine goesL_ (some 52) rfl rfl Try.func17 (by kernel_rfl) rfl #[.int .i64 6, .string t406, .string t407, .string (a0.extract (t401 : Int).toNat a0.size)] rfl (by (try simp only [List.map_toArray, List.map_cons, List.map_nil]); first | done | rfl | (simp only [List.length_drop, List.length_take]; rfl)) ?_; (with_reducible refine (palanquinref09_Seal.calls kj7 6 t406 t407 (a0.extract (t401 : Int).toNat a0.size) t412 _ A17.out).mono ?_); rintro e w37 ⟨rfl, hb⟩; refine ⟨_, rfl, ?_⟩; have n0_ := mA (blk_below (g := gb411) (o := .cells #[.int .i64 t405, .string t406, .string t407, .int .i64 t408, .int .i64 t409] 24 (0, 0)) (by (with_reducible repeat (first | apply kN | apply kD | apply kA)); refine blk_put (cs := #[.int .i64 t405, .string t406, .string t407, .int .i64 t408, .int .i64 0]) ?_ 4 _ (by first | rfl | (simp [*]; done)); (with_reducible repeat (first | apply kN | apply kD | apply kA)); refine blk_put (cs := #[.int .i64 t405, .string t406, .string t407, .int .i64 0, .int .i64 0]) ?_ 3 _ (by first | rfl | (simp [*]; done)); (with_reducible repeat (first | apply kN | apply kD | apply kA)); refine blk_put (cs := #[.int .i64 t405, .string t406, .string ⟨#[]⟩, .int .i64 0, .int .i64 0]) ?_ 2 _ (by first | rfl | (simp [*]; done)); (with_reducible repeat (first | apply kN | apply kD | apply kA)); refine blk_put (cs := #[.int .i64 t405, .string ⟨#[]⟩, .string ⟨#[]⟩, .int .i64 0, .int .i64 0]) ?_ 1 _ (by first | rfl | (simp [*]; done)); (with_reducible repeat (first | apply kN | apply kD | apply kA)); refine blk_put (cs := #[.int .i64 0, .string ⟨#[]⟩, .string ⟨#[]⟩, .int .i64 0, .int .i64 0]) ?_ 0 _ (by first | rfl | (simp [*]; done)); (with_reducible repeat (first | apply kN | apply kD | apply kA)); exact BK411.out) hb); have n1_ := mA (bP (by repeat (first | (with_reducible first | exact HB.out | apply bA | apply bN | apply bD | refine bS ?_ GE411.out) | exact HB.out)) hb); clear BK411; clear HB; have BK411 := n0_; have HB := n1_; clear n0_ n1_; (try clear hb); (try clear hb2); (try clear hk); (try clear hi)) | ((with_reducible refine gate_callee (f := 14) rfl ?_); refine goesL_ (some 58) rfl rfl Try.func14 (by kernel_rfl) rfl #[.string a0, .int .i64 (wrap64 (a1))] rfl (by (try simp only [List.map_toArray, List.map_cons, List.map_nil]); first | done | rfl | (simp only [List.length_drop, List.length_take]; rfl)) ?_; (with_reducible refine (clamp_Clamp.calls a0 (wrap64 (a1)) t413 _ A19.out).mono ?_); rintro e w38 ⟨rfl, hb⟩; refine ⟨_, rfl, ?_⟩; have n0_ := mA (blk_below (g := gb411) (o := .cells #[.int .i64 t405, .string t406, .string t407, .int .i64 t408, .int .i64 t409] 24 (0, 0)) (by (with_reducible repeat (first | apply kN | apply kD | apply kA)); exact BK411.out) hb); have n1_ := mA (bP (by repeat (first | (with_reducible first | exact HB.out | apply bA | apply bN | apply bD | refine bS ?_ GE411.out) | exact HB.out)) hb); clear BK411; clear HB; have BK411 := n0_; have HB := n1_; clear n0_ n1_; (try clear hb); (try clear hb2); (try clear hk); (try clear hi)))
                have n0_ := mA (kD BK411.out)
                have n1_ := mA (bD HB.out)
                clear BK411
                clear HB
                have BK411 := n0_
                have HB := n1_
                clear n0_ n1_
                have p22 : 0 ≤ (16 : Int) := (by omega)
                have q22 : 16 < (a0.extract (t401 : Int).toNat a0.size).size := (by have : (16 : Int) < ((a0.extract (t401 : Int).toNat a0.size).size : Int) := of_decide_eq_true (by first | (with_reducible assumption) | assumption); omega)
                have hx22 : ∀ h : 16 < (a0.extract (t401 : Int).toNat a0.size).size, (((a0.extract (t401 : Int).toNat a0.size)[16]'h).toNat : Int) = bt (a0.extract (t401 : Int).toNat a0.size) 16 := bt_at (a0.extract (t401 : Int).toNat a0.size) 16
                clear p22
                have qi22 : (16 < ((a0.extract (t401 : Int).toNat a0.size).size : Int)) = True := eq_true (of_decide_eq_true (by first | (with_reducible assumption) | assumption))
                have qj22 := qi22; simp only [ByteArray.size_extract, Nat.min_self] at qj22
                replace q22 := eq_true q22
                have p24 : 0 ≤ (17 : Int) := (by omega)
                have q24 : 17 < (a0.extract (t401 : Int).toNat a0.size).size := (by have : (17 : Int) < ((a0.extract (t401 : Int).toNat a0.size).size : Int) := of_decide_eq_true (by first | (with_reducible assumption) | assumption); omega)
                have hx24 : ∀ h : 17 < (a0.extract (t401 : Int).toNat a0.size).size, (((a0.extract (t401 : Int).toNat a0.size)[17]'h).toNat : Int) = bt (a0.extract (t401 : Int).toNat a0.size) 17 := bt_at (a0.extract (t401 : Int).toNat a0.size) 17
                clear p24
                have qi24 : (17 < ((a0.extract (t401 : Int).toNat a0.size).size : Int)) = True := eq_true (of_decide_eq_true (by first | (with_reducible assumption) | assumption))
                have qj24 := qi24; simp only [ByteArray.size_extract, Nat.min_self] at qj24
                replace q24 := eq_true q24
                refine start_ (n := 13) (S := fun w' => True) (ds := []) (bv 13 0) (by kernel_rfl) rfl rfl trivial (fun hHeld => ?_); refine with_tabW palanquinlaw10_ClampUpdates.tab15 palanquinlaw10_ClampUpdates.bits15 (fun HT_ HW_ => ?_)
                generalize w38.drew = w39 at BK411 HB hHeld ⊢
                refine pure_ (i := 0) (N := some 64) (v := ?_) (a' := ?_) (bv 13 1) rfl rfl (any_of HT_.out (by kernel_rfl)) (fun _ _ _ h => h) (Or.inl ⟨by rfl, ?_⟩) ?_ ?_; rotate_left; (intro w'; go_simp; with_reducible rfl); rotate_left; (simp only [Act.put, List.setIfInBounds_toArray, List.set_cons_zero, List.set_cons_succ, i64_w, i32_w]; rfl)
                refine pure_ (i := 4) (N := some 68) (v := ?_) (a' := ?_) (bv 13 17) rfl rfl (any_of HT_.out (by kernel_rfl)) (fun _ _ _ h => h) (Or.inl ⟨by rfl, ?_⟩) ?_ ?_; rotate_left; (intro w'; go_simp; with_reducible rfl); rotate_left; (simp only [Act.put, List.setIfInBounds_toArray, List.set_cons_zero, List.set_cons_succ, i64_w, i32_w]; rfl)
                refine pure_ (i := 8) (N := some 72) (v := ?_) (a' := ?_) (bv 13 273) rfl rfl (any_of HT_.out (by kernel_rfl)) (fun _ _ _ h => h) (Or.inl ⟨by rfl, ?_⟩) ?_ ?_; rotate_left; (intro w'; go_simp; with_reducible rfl); rotate_left; (simp only [Act.put, List.setIfInBounds_toArray, List.set_cons_zero, List.set_cons_succ, i64_w, i32_w]; rfl)
                refine pure_ (i := 9) (N := some 73) (v := ?_) (a' := ?_) (bv 13 785) rfl rfl (any_of HT_.out (by kernel_rfl)) (fun _ _ _ h => h) (Or.inl ⟨by rfl, ?_⟩) ?_ ?_; rotate_left; (intro w'; go_simp; with_reducible rfl); rotate_left; (simp only [Act.put, List.setIfInBounds_toArray, List.set_cons_zero, List.set_cons_succ, i64_w, i32_w]; rfl)
                refine pure_ (i := 10) (N := some 74) (v := ?_) (a' := ?_) (bv 13 1809) rfl rfl (any_of HT_.out (by kernel_rfl)) (fun _ _ _ h => h) (Or.inl ⟨by rfl, ?_⟩) ?_ ?_; rotate_left; (intro w'; go_simp; with_reducible rfl); rotate_left; (simp only [Act.put, List.setIfInBounds_toArray, List.set_cons_zero, List.set_cons_succ, i64_w, i32_w]; rfl)
                refine take_ (i := 1) (N := some 65) (v := ?_) (a' := ?_) (bv 13 1811) rfl rfl (take_ofW HT_.out HW_.out (by kernel_rfl)) (fun _ _ _ h => h) (Or.inl ⟨by rfl, ?_⟩) hHeld ?_ ?_
                rotate_left
                ·intro w' _
                 go_simp
                 with_reducible rfl
                rotate_left
                ·simp only [Act.put, List.setIfInBounds_toArray, List.set_cons_zero, List.set_cons_succ, i64_w, i32_w]
                 rfl
                refine pure_ (i := 2) (N := some 66) (v := ?_) (a' := ?_) (bv 13 1815) rfl rfl (any_of HT_.out (by kernel_rfl)) (fun _ _ _ h => h) (Or.inl ⟨by rfl, ?_⟩) ?_ ?_; rotate_left; (intro w'; go_simp; with_reducible rfl); rotate_left; (simp only [Act.put, List.setIfInBounds_toArray, List.set_cons_zero, List.set_cons_succ, i64_w, i32_w]; rfl)
                refine pure_ (i := 3) (N := some 67) (v := ?_) (a' := ?_) (bv 13 1823) rfl rfl (any_of HT_.out (by kernel_rfl)) (fun _ _ _ h => h) (Or.inl ⟨by rfl, ?_⟩) ?_ ?_; rotate_left; (intro w'; go_simp; with_reducible rfl); rotate_left; (simp only [Act.put, List.setIfInBounds_toArray, List.set_cons_zero, List.set_cons_succ, i64_w, i32_w]; rfl)
                refine take_ (i := 5) (N := some 69) (v := ?_) (a' := ?_) (bv 13 1855) rfl rfl (take_ofW HT_.out HW_.out (by kernel_rfl)) (fun _ _ _ h => h) (Or.inl ⟨by rfl, ?_⟩) hHeld ?_ ?_
                rotate_left
                ·intro w' _
                 go_simp
                 with_reducible rfl
                rotate_left
                ·simp only [Act.put, List.setIfInBounds_toArray, List.set_cons_zero, List.set_cons_succ, i64_w, i32_w]
                 rfl
                refine pure_ (i := 6) (N := some 70) (v := ?_) (a' := ?_) (bv 13 1919) rfl rfl (any_of HT_.out (by kernel_rfl)) (fun _ _ _ h => h) (Or.inl ⟨by rfl, ?_⟩) ?_ ?_; rotate_left; (intro w'; go_simp; with_reducible rfl); rotate_left; (simp only [Act.put, List.setIfInBounds_toArray, List.set_cons_zero, List.set_cons_succ, i64_w, i32_w]; rfl)
                refine pure_ (i := 7) (N := some 71) (v := ?_) (a' := ?_) (bv 13 2047) rfl rfl (any_of HT_.out (by kernel_rfl)) (fun _ _ _ h => h) (Or.inl ⟨by rfl, ?_⟩) ?_ ?_; rotate_left; (intro w'; go_simp; with_reducible rfl); rotate_left; (simp only [Act.put, List.setIfInBounds_toArray, List.set_cons_zero, List.set_cons_succ, i64_w, i32_w]; rfl)
                refine one_ (i := 11) (N := some 75) (bv 13 4095) rfl rfl (one_of HT_.out (by kernel_rfl)) (by decide) (fun K hK => ?_)
                refine goes_ Try.func18 (by kernel_rfl) rfl #[.int .i64 (Go.bits .or .i64 (wrap64 ((wrap64 (bt (a0.extract (t401 : Int).toNat a0.size) 16)) * 256)) (wrap64 (bt (a0.extract (t401 : Int).toNat a0.size) 17))), .int .i64 t403, .int .i64 (wrap64 (a1))] (by rfl) rfl rfl (by (try simp only [List.map_toArray, List.map_cons, List.map_nil]); first | done | rfl | (simp only [List.length_drop, List.length_take]; rfl)) ?_
                with_reducible refine (sum_Update.calls (Go.bits .or .i64 (wrap64 ((wrap64 (bt (a0.extract (t401 : Int).toNat a0.size) 16)) * 256)) (wrap64 (bt (a0.extract (t401 : Int).toNat a0.size) 17))) t403 (wrap64 (a1)) t414 _ A25.out).mono ?_
                rintro e w40 ⟨rfl, hb⟩
                refine ⟨_, rfl, ?_⟩
                have n0_ := mA (blk_below (g := gb411) (o := .cells #[.int .i64 t405, .string t406, .string t407, .int .i64 t408, .int .i64 t409] 24 (0, 0)) (by (with_reducible repeat (first | apply kN | apply kD | apply kA)); exact BK411.out) hb)
                have n1_ := mA (bP (by repeat (first | (with_reducible first | exact HB.out | apply bA | apply bN | apply bD | refine bS ?_ GE411.out) | exact HB.out)) hb)
                clear BK411
                clear HB
                have BK411 := n0_
                have HB := n1_
                clear n0_ n1_
                (try clear hb)
                (try clear hb2)
                (try clear hk)
                (try clear hi)
                refine hK.out _ _ trivial (fun hHeld => ?_)
                clear hK K
                refine norm_ (a' := ?_) ?_ ?_
                rotate_left
                ·show Act.put _ (some 75) _ = _
                 simp only [Act.put, List.setIfInBounds_toArray, List.set_cons_zero, List.set_cons_succ, i64_w, i32_w]
                 rfl
                refine pure_ (i := 12) (N := some 13) (v := ?_) (a' := ?_) (bv 13 8191) rfl rfl (any_of HT_.out (by kernel_rfl)) (fun _ _ _ h => h) (Or.inl ⟨by rfl, ?_⟩) ?_ ?_; rotate_left; (intro w'; go_simp; with_reducible rfl); rotate_left; (simp only [Act.put, List.setIfInBounds_toArray, List.set_cons_zero, List.set_cons_succ, i64_w, i32_w]; rfl)
                refine done_ (done_of HT_.out (by kernel_rfl)) ?_
                try go_wp2
                have n0_ := mA (kD BK411.out)
                have n1_ := mA (bD HB.out)
                clear BK411
                clear HB
                have BK411 := n0_
                have HB := n1_
                clear n0_ n1_
                have p29 : 0 ≤ ((ji26) : Int) := of_decide_eq_true (by first | (with_reducible assumption) | assumption)
                have q29 : (ji26) < (t413.size : Int) := of_decide_eq_true (by first | (with_reducible assumption) | assumption)
                have hx29 := bt_at t413 (ji26)
                replace p29 := eq_true p29
                replace q29 := eq_true q29
                have p33 : 0 ≤ ((ji30) : Int) := of_decide_eq_true (by first | (with_reducible assumption) | assumption)
                have q33 : (ji30) < (t413.size : Int) := of_decide_eq_true (by first | (with_reducible assumption) | assumption)
                have hx33 := bt_at t413 (ji30)
                replace p33 := eq_true p33
                replace q33 := eq_true q33
                refine start_ (n := 15) (S := fun w' => True) (ds := []) (bv 15 0) (by kernel_rfl) rfl rfl trivial (fun hHeld => ?_); refine with_tabW palanquinlaw10_ClampUpdates.tab16 palanquinlaw10_ClampUpdates.bits16 (fun HT_ HW_ => ?_)
                generalize w40.drew = w41 at BK411 HB hHeld ⊢
                refine pure_ (i := 0) (N := some 76) (v := ?_) (a' := ?_) (bv 15 1) rfl rfl (any_of HT_.out (by kernel_rfl)) (fun _ _ _ h => h) (Or.inl ⟨by rfl, ?_⟩) ?_ ?_; rotate_left; (intro w'; go_simp; with_reducible rfl); rotate_left; (simp only [Act.put, List.setIfInBounds_toArray, List.set_cons_zero, List.set_cons_succ, i64_w, i32_w]; rfl)
                refine pure_ (i := 1) (N := some 77) (v := ?_) (a' := ?_) (bv 15 3) rfl rfl (any_of HT_.out (by kernel_rfl)) (fun _ _ _ h => h) (Or.inl ⟨by rfl, ?_⟩) ?_ ?_; rotate_left; (intro w'; go_simp; with_reducible rfl); rotate_left; (simp only [Act.put, List.setIfInBounds_toArray, List.set_cons_zero, List.set_cons_succ, i64_w, i32_w]; rfl)
                refine pure_ (i := 2) (N := some 78) (v := ?_) (a' := ?_) (bv 15 7) rfl rfl (any_of HT_.out (by kernel_rfl)) (fun _ _ _ h => h) (Or.inl ⟨by rfl, ?_⟩) ?_ ?_; rotate_left; (intro w'; go_simp; with_reducible rfl); rotate_left; (simp only [Act.put, List.setIfInBounds_toArray, List.set_cons_zero, List.set_cons_succ, i64_w, i32_w]; rfl)
                refine pure_ (i := 6) (N := some 82) (v := ?_) (a' := ?_) (bv 15 71) rfl rfl (any_of HT_.out (by kernel_rfl)) (fun _ _ _ h => h) (Or.inl ⟨by rfl, ?_⟩) ?_ ?_; rotate_left; (intro w'; go_simp; with_reducible rfl); rotate_left; (simp only [Act.put, List.setIfInBounds_toArray, List.set_cons_zero, List.set_cons_succ, i64_w, i32_w]; rfl)
                refine pure_ (i := 7) (N := some 83) (v := ?_) (a' := ?_) (bv 15 199) rfl rfl (any_of HT_.out (by kernel_rfl)) (fun _ _ _ h => h) (Or.inl ⟨by rfl, ?_⟩) ?_ ?_; rotate_left; (intro w'; go_simp; with_reducible rfl); rotate_left; (simp only [Act.put, List.setIfInBounds_toArray, List.set_cons_zero, List.set_cons_succ, i64_w, i32_w]; rfl)
                refine pure_ (i := 8) (N := some 84) (v := ?_) (a' := ?_) (bv 15 455) rfl rfl (any_of HT_.out (by kernel_rfl)) (fun _ _ _ h => h) (Or.inl ⟨by rfl, ?_⟩) ?_ ?_; rotate_left; (intro w'; go_simp; with_reducible rfl); rotate_left; (simp only [Act.put, List.setIfInBounds_toArray, List.set_cons_zero, List.set_cons_succ, i64_w, i32_w]; rfl)
                refine pure_ (i := 12) (N := some 88) (v := ?_) (a' := ?_) (bv 15 4551) rfl rfl (any_of HT_.out (by kernel_rfl)) (fun _ _ _ h => h) (Or.inl ⟨by rfl, ?_⟩) ?_ ?_; rotate_left; (intro w'; go_simp; with_reducible rfl); rotate_left; (simp only [Act.put, List.setIfInBounds_toArray, List.set_cons_zero, List.set_cons_succ, i64_w, i32_w]; rfl)
                refine take_ (i := 3) (N := some 79) (v := ?_) (a' := ?_) (bv 15 4559) rfl rfl (take_ofW HT_.out HW_.out (by kernel_rfl)) (fun _ _ _ h => h) (Or.inl ⟨by rfl, ?_⟩) hHeld ?_ ?_
                rotate_left
                ·intro w' _
                 go_simp
                 with_reducible rfl
                rotate_left
                ·simp only [Act.put, List.setIfInBounds_toArray, List.set_cons_zero, List.set_cons_succ, i64_w, i32_w]
                 rfl
                refine pure_ (i := 4) (N := some 80) (v := ?_) (a' := ?_) (bv 15 4575) rfl rfl (any_of HT_.out (by kernel_rfl)) (fun _ _ _ h => h) (Or.inl ⟨by rfl, ?_⟩) ?_ ?_; rotate_left; (intro w'; go_simp; with_reducible rfl); rotate_left; (simp only [Act.put, List.setIfInBounds_toArray, List.set_cons_zero, List.set_cons_succ, i64_w, i32_w]; rfl)
                refine pure_ (i := 5) (N := some 81) (v := ?_) (a' := ?_) (bv 15 4607) rfl rfl (any_of HT_.out (by kernel_rfl)) (fun _ _ _ h => h) (Or.inl ⟨by rfl, ?_⟩) ?_ ?_; rotate_left; (intro w'; go_simp; with_reducible rfl); rotate_left; (simp only [Act.put, List.setIfInBounds_toArray, List.set_cons_zero, List.set_cons_succ, i64_w, i32_w]; rfl)
                refine take_ (i := 9) (N := some 85) (v := ?_) (a' := ?_) (bv 15 5119) rfl rfl (take_ofW HT_.out HW_.out (by kernel_rfl)) (fun _ _ _ h => h) (Or.inl ⟨by rfl, ?_⟩) hHeld ?_ ?_
                rotate_left
                ·intro w' _
                 go_simp
                 with_reducible rfl
                rotate_left
                ·simp only [Act.put, List.setIfInBounds_toArray, List.set_cons_zero, List.set_cons_succ, i64_w, i32_w]
                 rfl
                refine pure_ (i := 10) (N := some 86) (v := ?_) (a' := ?_) (bv 15 6143) rfl rfl (any_of HT_.out (by kernel_rfl)) (fun _ _ _ h => h) (Or.inl ⟨by rfl, ?_⟩) ?_ ?_; rotate_left; (intro w'; go_simp; with_reducible rfl); rotate_left; (simp only [Act.put, List.setIfInBounds_toArray, List.set_cons_zero, List.set_cons_succ, i64_w, i32_w]; rfl)
                refine pure_ (i := 11) (N := some 87) (v := ?_) (a' := ?_) (bv 15 8191) rfl rfl (any_of HT_.out (by kernel_rfl)) (fun _ _ _ h => h) (Or.inl ⟨by rfl, ?_⟩) ?_ ?_; rotate_left; (intro w'; go_simp; with_reducible rfl); rotate_left; (simp only [Act.put, List.setIfInBounds_toArray, List.set_cons_zero, List.set_cons_succ, i64_w, i32_w]; rfl)
                refine pure_ (i := 13) (N := some 89) (v := ?_) (a' := ?_) (bv 15 16383) rfl rfl (any_of HT_.out (by kernel_rfl)) (fun _ _ _ h => h) (Or.inl ⟨by rfl, ?_⟩) ?_ ?_; rotate_left; (intro w'; go_simp; with_reducible rfl); rotate_left; (simp only [Act.put, List.setIfInBounds_toArray, List.set_cons_zero, List.set_cons_succ, i64_w, i32_w]; rfl)
                refine pure_ (i := 14) (N := some 4) (v := ?_) (a' := ?_) (bv 15 32767) rfl rfl (any_of HT_.out (by kernel_rfl)) (fun _ _ _ h => h) (Or.inl ⟨by rfl, ?_⟩) ?_ ?_; rotate_left; (intro w'; go_simp; with_reducible rfl); rotate_left; (simp only [Act.put, List.setIfInBounds_toArray, List.set_cons_zero, List.set_cons_succ, i64_w, i32_w]; rfl)
                refine done_ (done_of HT_.out (by kernel_rfl)) ?_
                try go_wp2
                go_ret
                exact ⟨by first | rfl | (simp [errW_none, errW_some] <;> rfl) | (simp only [← hji26, ← hji30]; first | rfl | (simp [errW_none, errW_some] <;> rfl)) | (simp [*, errW_none, errW_some] <;> rfl), by repeat (first | (with_reducible first | exact HB.out | apply bA | apply bN | apply bD | refine bS ?_ GE411.out) | exact HB.out)⟩
               ·rw [if_neg c32] at H
                exact absurd H (by simp)
              ·rw [if_neg c31] at H
               exact absurd H (by simp)
             ·rw [if_neg c28] at H
              exact absurd H (by simp)
            ·rw [if_neg c27] at H
             exact absurd H (by simp)
           ·rw [if_neg c23] at H
            exact absurd H (by simp)
          ·rw [if_neg c21] at H
           exact absurd H (by simp)
         ·rw [if_neg c20] at H
          exact absurd ((Option.some.inj H).trans hrt_.out) (by decide)
        ·rw [if_neg c18] at H
         have c18b0 : (t412.toList == (a0.extract (t401 : Int).toNat a0.size).toList) = false := beq_eq_false_iff_ne.mpr c18
         have c18b1 : (t412.toList != (a0.extract (t401 : Int).toNat a0.size).toList) = true := bne_iff_ne.mpr c18
         obtain rfl := Option.some.inj H
         go_wp2_with (first | ((with_reducible refine gate_callee (f := 12) rfl ?_); refine goesL_ (some 41) rfl rfl Try.func12 (by kernel_rfl) rfl #[.string a0] rfl (by (try simp only [List.map_toArray, List.map_cons, List.map_nil]); first | done | rfl | (simp only [List.length_drop, List.length_take]; rfl)) ?_; (with_reducible refine (palanquinref09_Get.calls kj7 a0 t405 t406 t407 t408 t409 t410 _ A14.out).mono ?_); rintro e w47 ⟨rfl, hb⟩; refine ⟨_, rfl, ?_⟩; have n0_ := mA (bP (by repeat (first | (with_reducible first | exact HB.out | apply bA | apply bN | apply bD) | exact HB.out)) hb); clear HB; have HB := n0_; clear n0_; (try clear hb); (try clear hb2); (try clear hk); (try clear hi)) | ((with_reducible refine gate_dst (N := 9) rfl ?_); refine box_event ?hg (N := 9) ?hd (cs := #[.int .i64 0, .string ⟨#[]⟩, .string ⟨#[]⟩, .int .i64 0, .int .i64 0]) (t := 24) ?hr ?_; (case hd => rfl); (case hg => rfl); (case hr => first | (go_simp; done) | (go_simp; rfl)); intro gb411 hg w48 hbox hb; obtain ⟨n0_, nq_⟩ := bpr (by repeat (first | (with_reducible first | exact HB.out | apply bA | apply bN | apply bD) | exact HB.out)) hb; have n1_ := mA (hbox); have n2_ := mA ((by rw [hg]; exact nq_ : w.heap.size ≤ gb411)); have n3_ := mA ((by rw [hg]; exact nq_ : w.heap.size ≤ gb411)); clear HB; have HB := n0_; have BK411 := n1_; have GW411 := n2_; have GE411 := n3_; clear nq_; clear n0_ n1_ n2_ n3_; clear hb hbox hg; obtain ⟨hcz49_0, hcz49_1, hcz49_2, hcz49_3, hcz49_4⟩ := bc5 BK411.out; obtain ⟨hfz49_0, hfz49_1, hfz49_2, hfz49_3, hfz49_4⟩ := bf5 BK411.out) | ((with_reducible refine gate_callee (f := 17) rfl ?_); refine goesL_ (some 52) rfl rfl Try.func17 (by kernel_rfl) rfl #[.int .i64 6, .string t406, .string t407, .string (a0.extract (t401 : Int).toNat a0.size)] rfl (by (try simp only [List.map_toArray, List.map_cons, List.map_nil]); first | done | rfl | (simp only [List.length_drop, List.length_take]; rfl)) ?_; (with_reducible refine (palanquinref09_Seal.calls kj7 6 t406 t407 (a0.extract (t401 : Int).toNat a0.size) t412 _ A17.out).mono ?_); rintro e w50 ⟨rfl, hb⟩; refine ⟨_, rfl, ?_⟩; have n0_ := mA (blk_below (g := gb411) (o := .cells #[.int .i64 t405, .string t406, .string t407, .int .i64 t408, .int .i64 t409] 24 (0, 0)) (by (with_reducible repeat (first | apply kN | apply kD | apply kA)); refine blk_put (cs := #[.int .i64 t405, .string t406, .string t407, .int .i64 t408, .int .i64 0]) ?_ 4 _ (by first | rfl | (simp [*]; done)); (with_reducible repeat (first | apply kN | apply kD | apply kA)); refine blk_put (cs := #[.int .i64 t405, .string t406, .string t407, .int .i64 0, .int .i64 0]) ?_ 3 _ (by first | rfl | (simp [*]; done)); (with_reducible repeat (first | apply kN | apply kD | apply kA)); refine blk_put (cs := #[.int .i64 t405, .string t406, .string ⟨#[]⟩, .int .i64 0, .int .i64 0]) ?_ 2 _ (by first | rfl | (simp [*]; done)); (with_reducible repeat (first | apply kN | apply kD | apply kA)); refine blk_put (cs := #[.int .i64 t405, .string ⟨#[]⟩, .string ⟨#[]⟩, .int .i64 0, .int .i64 0]) ?_ 1 _ (by first | rfl | (simp [*]; done)); (with_reducible repeat (first | apply kN | apply kD | apply kA)); refine blk_put (cs := #[.int .i64 0, .string ⟨#[]⟩, .string ⟨#[]⟩, .int .i64 0, .int .i64 0]) ?_ 0 _ (by first | rfl | (simp [*]; done)); (with_reducible repeat (first | apply kN | apply kD | apply kA)); exact BK411.out) hb); have n1_ := mA (bP (by repeat (first | (with_reducible first | exact HB.out | apply bA | apply bN | apply bD | refine bS ?_ GE411.out) | exact HB.out)) hb); clear BK411; clear HB; have BK411 := n0_; have HB := n1_; clear n0_ n1_; (try clear hb); (try clear hb2); (try clear hk); (try clear hi)))
         go_ret
         exact ⟨by first | rfl | (simp [errW_none, errW_some] <;> rfl) | (simp [*, errW_none, errW_some] <;> rfl), by repeat (first | (with_reducible first | exact HB.out | apply bA | apply bN | apply bD | refine bS ?_ GE411.out) | exact HB.out)⟩
       ·rw [if_neg c16] at H
        exact absurd H (by simp)
      ·rw [if_neg c15] at H
       exact absurd H (by simp)
 ·replace c4 := Bool.eq_false_iff.mpr c4
  subst c4
  have H1 : (some false) = some r := by rw [if_neg (show ¬ (false = true) by decide)] at H; exact H
  exact absurd ((Option.some.inj H1).trans hrt_.out) (by decide)
def palanquinlaw10_ClampUpdates.Pure : Prop := ∀ (a0 : ByteArray) (a1 : Int), a0.size ≤ 140737488351232 → (Lit.int .u16 a1).wf = true → ∃ k, palanquinlaw10_ClampUpdates.f k a0 a1 = some true
theorem palanquinlaw10_ClampUpdates.walk (P : palanquinlaw10_ClampUpdates.Pure) (a0 : ByteArray) (a1 : Int) (w : World) (w0 : a0.size ≤ 140737488351232) (w1 : (Lit.int .u16 a1).wf = true) :
  Calls Try.prog 7 #[.string a0, .int .u16 a1] w fun e w' => e = .returned (.bool true) ∧ Below w.heap.size w w' := by
 obtain ⟨k, h⟩ := P a0 a1 w0 w1
 refine (palanquinlaw10_ClampUpdates.calls k a0 a1 true w h ⟨rfl⟩).mono ?_
 rintro e w' ⟨rfl, hd⟩
 exact ⟨rfl, hd⟩

end Go.Proofs.Ytcmalglippmocaa.G
end

section
namespace Go.Proofs.Ytcmalglippmocaa.Pal
theorem nb2_is (c : Nat) : nb 2 c = [UInt8.ofNat (c / 256), UInt8.ofNat c] := rfl
theorem nb2_tot (c : Nat) (h : c ≤ 65535) : tot false (nb 2 c) = c := by
  rw [nb2_is]
  simp only [tot, UInt8.toNat_ofNat']
  omega
theorem tot_mid (A B : List UInt8) (c : Nat) (hA : odd A = false) (hc : c ≤ 65535) : tot false (A ++ nb 2 c ++ B) = tot false (A ++ nb 2 0 ++ B) + c := by
  have e : ∀ d, odd (A ++ nb 2 d) = false := fun d => by
    unfold odd at hA ⊢
    rw [List.length_append, nb_length]
    simp only [beq_eq_false_iff_ne] at hA ⊢
    omega
  have t : ∀ d, tot false (A ++ nb 2 d ++ B) = tot false A + tot false (nb 2 d) + tot false B := fun d => by
    rw [tot_append, tot_append, e d, hA]
    rfl
  rw [t, t, nb2_tot c hc, nb2_tot 0 (by decide)]
  omega
theorem csum_bound (l : List UInt8) : csum l ≤ 65535 := by unfold csum; omega
theorem inSealed (A B : List UInt8) (hA : odd A = false) : csum (A ++ nb 2 (csum (A ++ nb 2 0 ++ B)) ++ B) = 0 := by
  unfold csum at *
  rw [tot_mid A B _ hA (by omega)]
  generalize tot false (A ++ nb 2 0 ++ B) = t
  unfold fold16
  split <;> split <;> omega
end Go.Proofs.Ytcmalglippmocaa.Pal
end

section
namespace Go.Proofs.Ytcmalglippmocaa.Pal
theorem cut_bl (s : ByteArray) (n m : Nat) : bl (s.extract n m) = ((bl s).take m).drop n := by simp [bl, ByteArray.data_extract, List.drop_take]
theorem take_bl (s : ByteArray) : (bl s).take s.size = bl s := List.take_of_length_le (by rw [bl_length]; exact Nat.le_refl _)
end Go.Proofs.Ytcmalglippmocaa.Pal
end

section
namespace Go.Proofs.Ytcmalglippmocaa.Pal
def seal17 (t : Nat) : Nat := if t = 0 then 65535 else t
theorem seal17_le {t : Nat} (h : t ≤ 65535) : 1 ≤ seal17 t ∧ seal17 t ≤ 65535 := by unfold seal17; split <;> omega
theorem seal17_fold (t : Nat) : 65535 - fold16 (t + seal17 (65535 - fold16 t)) = 0 := by
  unfold fold16 seal17
  by_cases h : t = 0
  · subst h; rfl
  · rw [if_neg h]
    have := Nat.mod_lt (t - 1) (show 0 < 65535 by decide)
    by_cases h2 : 65535 - ((t - 1) % 65535 + 1) = 0
    · rw [if_pos h2, if_neg (by omega)]; omega
    · rw [if_neg h2, if_neg (by omega)]; omega
theorem inSealed17 (A B : List UInt8) (hA : odd A = false) : csum (A ++ nb 2 (seal17 (csum (A ++ nb 2 0 ++ B))) ++ B) = 0 := by
  have e := tot_mid A B _ hA (seal17_le (csum_bound (A ++ nb 2 0 ++ B))).2
  unfold csum at *
  rw [e]
  exact seal17_fold _
end Go.Proofs.Ytcmalglippmocaa.Pal
end

section
namespace Go.Proofs.Ytcmalglippmocaa.Pure
open Go.RowKit Go.Proofs.YtcmalglippmocaaW.PrintWords Go.Proofs.YtcmalglippmocaaW.PrintLast Go.Proofs.Ytcmalglippmocaa.G Go.Proofs.Ytcmalglippmocaa.Pal
theorem bl_inj {a b : ByteArray} (h : bl a = bl b) : a = b := ByteArray.ext (Array.toList_inj.mp h)
theorem u64n_of {a : Int} (h0 : 0 ≤ a) (h1 : a ≤ 18446744073709551615) : u64n a = a.toNat := by
  unfold u64n; rw [IntKind.wrap_u64]; omega
theorem parts {x : ByteArray} {A B L S : List UInt8} {p : ByteArray} (hx : bl x = A ++ B ++ L ++ S ++ bl p) (hA : A.length = 2) (hB : B.length = 2) (hL : L.length = 2) (hS : S.length = 2) :
    x.size = 8 + p.size ∧ bl (x.extract 0 2) = A ∧ bl (x.extract 2 4) = B ∧ bl (x.extract 4 6) = L ∧ bl (x.extract 6 8) = S ∧ x.extract 8 x.size = p := by
  match A, hA, B, hB, L, hL, S, hS with
  | [a0, a1], _, [b0, b1], _, [l0, l1], _, [s0, s1], _ =>
    have hsz : x.size = 8 + p.size := by rw [← bl_length, hx, ← bl_length]; simp; omega
    refine ⟨hsz, ?_, ?_, ?_, ?_, bl_inj ?_⟩ <;> rw [bl_extract, hx]
    · simp
    · simp
    · simp
    · simp
    · rw [List.take_of_length_le (by simp [bl_length, hsz]; omega)]; simp
theorem get_is {s : ByteArray} (hs : s.size ≤ 140737488351232) : udp_Get.f s = some (if udpErr s = 0 then (((be (bl (s.extract 0 2)) : Nat) : Int), ((be (bl (s.extract 2 4)) : Nat) : Int), s.extract 8 s.size, ((be (bl (s.extract 6 8)) : Nat) : Int), 0) else (0, 0, empty, 0, udpErr s)) := by
  unfold udp_Get.f; rw [if_pos hs]
end Go.Proofs.Ytcmalglippmocaa.Pure
end

section
namespace Go.Proofs.Ytcmalglippmocaa.Pure
open Go.RowKit Go.Proofs.YtcmalglippmocaaW.PrintWords Go.Proofs.YtcmalglippmocaaW.PrintLast Go.Proofs.Ytcmalglippmocaa.G Go.Proofs.Ytcmalglippmocaa.Pal
def psT (six : Bool) (a b : Int) : ByteArray := if six then strOfNums [b / 16777216 % 256, b / 65536 % 256, b / 256 % 256, b % 256, 0, 0, 0, a % 256] else strOfNums [0, a % 256, b / 256 % 256, b % 256]
theorem psT_size (six : Bool) (a b : Int) : (psT six a b).size % 2 = 0 ∧ (psT six a b).size ≤ 8 := by
  have sz_nums : ∀ xs : List Int, (strOfNums xs).size = xs.length := fun xs => by rw [← bl_length]; simp [bl, strOfNums]
  unfold psT; split <;> rw [sz_nums] <;> exact ⟨by simp, by simp⟩
def psB (s d : ByteArray) (a b : Int) : ByteArray := s ++ d ++ psT (s.size == 16) a b
theorem pseudo_some (s d : ByteArray) (hs : s.size ≤ 300) (hd : d.size ≤ 300) (a b : Int) : sum_Pseudo.f s d a b = some (psB s d a b) := by
  have sz_nums : ∀ xs : List Int, (strOfNums xs).size = xs.length := fun xs => by rw [← bl_length]; simp [bl, strOfNums]
  unfold sum_Pseudo.f psB psT
  by_cases h : (s.size : Int) = 16
  · have h' : (s.size == 16) = true := beq_iff_eq.mpr (by omega)
    rw [if_pos h, if_pos (by omega), Option.bind_some, if_pos (by rw [sz_nums, ByteArray.size_append]; simp; omega), if_pos h']
  · have h' : (s.size == 16) = false := beq_eq_false_iff_ne.mpr (by omega)
    rw [if_neg h, if_pos (by omega), Option.bind_some, if_pos (by rw [sz_nums, ByteArray.size_append]; simp; omega), if_neg (by rw [h']; decide)]
theorem psB_size (s d : ByteArray) (a b : Int) : (psB s d a b).size = s.size + d.size + (psT (s.size == 16) a b).size := by unfold psB; rw [ByteArray.size_append, ByteArray.size_append]
theorem psB_even (s d : ByteArray) (a b : Int) (h : (s.size + d.size) % 2 = 0) : odd (bl (psB s d a b)) = false := by
  have := (psT_size (s.size == 16) a b).1
  unfold odd; rw [bl_length, psB_size]; simp only [beq_eq_false_iff_ne]; omega
theorem sum_is (l : List ByteArray) (h : (cat l).length ≤ 1099511627776) : sum_Sum.f l = some ((csum (cat l) : Nat) : Int) := by unfold sum_Sum.f; rw [if_pos h]
theorem right2 (a b : ByteArray) (h : a.size + b.size ≤ 1099511627776) : sum_Right.f [a, b] = some (decide (csum (bl a ++ bl b) = 0)) := by
  unfold sum_Right.f
  rw [sum_is _ (by rw [cat_cons, cat_cons, cat_nil, List.append_nil, List.length_append, bl_length, bl_length]; exact h), Option.bind_some, cat_cons, cat_cons, cat_nil, List.append_nil]
  congr 1
  by_cases hc : csum (bl a ++ bl b) = 0
  · rw [hc]; rfl
  · rw [decide_eq_false hc]; exact beq_eq_false_iff_ne.mpr (by omega)
def sealC (p : Int) (t : Nat) : Nat := if t = 0 ∧ p = 17 then 65535 else t
theorem sealC_le {p : Int} {t : Nat} (h : t ≤ 65535) : sealC p t ≤ 65535 := by unfold sealC; split <;> omega
theorem sealNo_is (p : Int) (t : Nat) : sealNo p (t : Int) = ((sealC p t : Nat) : Int) := by
  unfold sealNo sealC
  by_cases h : t = 0 ∧ p = 17
  · rw [if_pos h, if_pos ⟨by omega, h.2⟩]; rfl
  · rw [if_neg h, if_neg (fun h' => h ⟨by omega, h'.2⟩)]
theorem sealC_6 (t : Nat) : sealC 6 t = t := by unfold sealC; rw [if_neg (fun h => absurd h.2 (by decide))]
def putAt (s : ByteArray) (q c : Nat) : ByteArray := ⟨((bl s).take q ++ nb 2 c ++ (bl s).drop (q + 2)).toArray⟩
theorem bl_putAt (s : ByteArray) (q c : Nat) : bl (putAt s q c) = (bl s).take q ++ nb 2 c ++ (bl s).drop (q + 2) := by unfold putAt; simp [bl]
theorem putAt_size (s : ByteArray) (q c : Nat) (h : q + 2 ≤ s.size) : (putAt s q c).size = s.size := by
  rw [← bl_length, bl_putAt]; simp only [List.length_append, List.length_take, List.length_drop, nb_length, bl_length]; omega
theorem take_putAt (s : ByteArray) (q c : Nat) (h : q + 2 ≤ s.size) : (bl (putAt s q c)).take q = (bl s).take q := by
  have hl : ((bl s).take q).length = q := by rw [List.length_take, bl_length]; omega
  rw [bl_putAt, List.append_assoc, List.take_append_of_le_length (by omega), List.take_of_length_le (by omega)]
theorem drop_putAt (s : ByteArray) (q c : Nat) (h : q + 2 ≤ s.size) : (bl (putAt s q c)).drop (q + 2) = (bl s).drop (q + 2) := by
  have hl : ((bl s).take q).length = q := by rw [List.length_take, bl_length]; omega
  rw [bl_putAt]
  exact List.drop_left' (by rw [List.length_append, nb_length, hl])
def sumAt (ps : ByteArray) (s : ByteArray) (q : Nat) : Nat := csum (bl ps ++ bl (putAt s q 0))
theorem sumAt_le (ps s : ByteArray) (q : Nat) : sumAt ps s q ≤ 65535 := csum_bound _
theorem seal_none {p : Int} {a b s : ByteArray} (h : sealAt p s.size = 0) (hs : s.size ≤ 1000000000) : flow_Seal.f p a b s = some s := by unfold flow_Seal.f; rw [if_pos hs, if_pos h]
theorem ext_front (s : ByteArray) (q : Nat) : bl (s.extract 0 q) = (bl s).take q := by rw [cut_bl, List.drop_zero]
theorem ext_back (s : ByteArray) (q : Nat) : bl (s.extract q s.size) = (bl s).drop q := by rw [cut_bl, take_bl]
theorem seal_some {p : Int} {a b s : ByteArray} {q : Nat} (h : sealAt p s.size = q) (h0 : q ≠ 0) (hs : s.size ≤ 1000000000) (ha : a.size ≤ 300) (hb : b.size ≤ 300) :
    flow_Seal.f p a b s = some (putAt s q (sealC p (sumAt (psB a b p s.size) s q))) := by
  unfold flow_Seal.f
  rw [if_pos hs, h, if_neg h0]
  unfold seal_with
  rw [pseudo_some a b ha hb, Option.bind_some]
  have hz := psB_size a b p s.size
  have hz2 := (psT_size (a.size == 16) p s.size).2
  have hcat : cat [psB a b p s.size, s.extract 0 q, ⟨#[0, 0]⟩, s.extract (q + 2) s.size] = bl (psB a b p s.size) ++ bl (putAt s q 0) := by
    rw [bl_putAt, cat_cons, cat_cons, cat_cons, cat_cons, cat_nil, List.append_nil, ext_front, ext_back, show bl (⟨#[0, 0]⟩ : ByteArray) = nb 2 0 from rfl]
    simp only [List.append_assoc]
  rw [sum_is _ (by rw [hcat, bl_putAt]; simp only [List.length_append, List.length_take, List.length_drop, nb_length, bl_length]; omega), Option.bind_some, hcat, sealNo_is]
  unfold sealBytes
  rw [u64n_of (by omega) (by have := sealC_le (p := p) (csum_bound (bl (psB a b p s.size) ++ bl (putAt s q 0))); omega), Int.toNat_natCast, ext_front, ext_back]
  rfl
theorem sealAt_cases (p : Int) (n : Nat) : sealAt p n = 0 ∨ (sealAt p n = 16 ∧ p = 6 ∧ 20 ≤ n) ∨ (sealAt p n = 6 ∧ p = 17 ∧ 8 ≤ n) := by
  unfold sealAt; split
  · rename_i h; exact .inr (.inl ⟨rfl, h.1, h.2⟩)
  · split
    · rename_i h; exact .inr (.inr ⟨rfl, h.1, h.2⟩)
    · exact .inl rfl
theorem sealed_right {ps s : ByteArray} {q : Nat} {p : Int} (hp : odd (bl ps) = false) (hq : q % 2 = 0) (hl : q + 2 ≤ s.size) : csum (bl ps ++ bl (putAt s q (sealC p (sumAt ps s q)))) = 0 := by
  have hA : odd (bl ps ++ (bl s).take q) = false := by
    have e : ((bl s).take q).length = q := by rw [List.length_take, bl_length]; omega
    unfold odd at hp ⊢
    simp only [beq_eq_false_iff_ne] at hp ⊢
    rw [List.length_append, e]; omega
  have e : ∀ c, bl ps ++ bl (putAt s q c) = (bl ps ++ (bl s).take q) ++ nb 2 c ++ (bl s).drop (q + 2) := fun c => by rw [bl_putAt]; simp only [List.append_assoc]
  unfold sumAt
  rw [e, e]
  unfold sealC
  split
  · rename_i h
    have := inSealed17 (bl ps ++ (bl s).take q) ((bl s).drop (q + 2)) hA
    unfold seal17 at this
    rw [if_pos h.1] at this
    exact this
  · exact inSealed _ _ hA
end Go.Proofs.Ytcmalglippmocaa.Pure
end

section
namespace Go.Proofs.Ytcmalglippmocaa.Pure
open Go.RowKit Go.Proofs.YtcmalglippmocaaW.PrintWords Go.Proofs.YtcmalglippmocaaW.PrintLast Go.Proofs.Ytcmalglippmocaa.G Go.Proofs.Ytcmalglippmocaa.Pal
namespace F2
theorem mid_putAt (s : ByteArray) (q c : Nat) (h : q + 2 ≤ s.size) : bl ((putAt s q c).extract q (q + 2)) = nb 2 c := by
  have hl : ((bl s).take q).length = q := by rw [List.length_take, bl_length]; omega
  rw [cut_bl, bl_putAt, List.take_append_of_le_length (by rw [List.length_append, nb_length]; omega), List.take_of_length_le (by rw [List.length_append, nb_length]; omega)]
  exact List.drop_left' hl
end F2
end Go.Proofs.Ytcmalglippmocaa.Pure
end

section
namespace Go.Proofs.Ytcmalglippmocaa.Pure
open Go.RowKit Go.Proofs.YtcmalglippmocaaW.PrintWords Go.Proofs.YtcmalglippmocaaW.PrintLast Go.Proofs.Ytcmalglippmocaa.G Go.Proofs.Ytcmalglippmocaa.Pal
theorem cut4 (s : ByteArray) (n m : Nat) : bl (s.extract n m) = ((bl s).take m).drop n := by simp [bl, ByteArray.data_extract, List.drop_take]
theorem err4_zero {s : ByteArray} (h : ip4Err s = 0) : 20 ≤ s.size ∧ be (bl (s.extract 0 1)) / 16 = 4 ∧ (20 ≤ hl4 s ∧ hl4 s ≤ s.size ∧ be (bl (s.extract 2 4)) = s.size) ∧ csum (bl (s.extract 0 (hl4 s))) = 0 ∧ be (bl (s.extract 6 8)) / 32768 = 0 := by
  unfold ip4Err at h
  by_cases h1 : s.size < 20
  · rw [if_pos h1] at h; exact absurd h (by decide)
  rw [if_neg h1] at h
  by_cases h2 : be (bl (s.extract 0 1)) / 16 = 4
  case neg => rw [if_neg h2] at h; exact absurd h (by decide)
  rw [if_pos h2] at h
  by_cases h3 : 20 ≤ hl4 s ∧ hl4 s ≤ s.size ∧ be (bl (s.extract 2 4)) = s.size
  case neg => rw [if_neg h3] at h; exact absurd h (by decide)
  rw [if_pos h3] at h
  by_cases h4 : csum (bl (s.extract 0 (hl4 s))) = 0
  case neg => rw [if_neg h4] at h; exact absurd h (by decide)
  rw [if_pos h4] at h
  by_cases h5 : be (bl (s.extract 6 8)) / 32768 = 0
  case neg => rw [if_neg h5] at h; exact absurd h (by decide)
  exact ⟨by omega, h2, h3, h4, h5⟩
end Go.Proofs.Ytcmalglippmocaa.Pure
end

section
namespace Go.Proofs.Ytcmalglippmocaa.Pure
open Go.RowKit Go.Proofs.YtcmalglippmocaaW.PrintWords Go.Proofs.YtcmalglippmocaaW.PrintLast Go.Proofs.Ytcmalglippmocaa.G Go.Proofs.Ytcmalglippmocaa.Pal
theorem low8 (x : Int) : Go.bits .and .i64 x 255 = x % 256 := by
  have e : Go.bits .and .i64 x 255 = IntKind.i64.wrap (((x % 18446744073709551616).toNat &&& 255 : Nat) : Int) := by
    show IntKind.i64.wrap (((BitVec.ofInt 64 x &&& BitVec.ofInt 64 255).toNat : Nat) : Int) = _
    rw [BitVec.toNat_and, BitVec.toNat_ofInt, show (BitVec.ofInt 64 255).toNat = 255 from rfl]
    rfl
  rw [e, Nat.and_two_pow_sub_one_eq_mod _ 8, IntKind.wrap_i64]; omega
theorem low20 (x : Int) : Go.bits .and .i64 x 1048575 = x % 1048576 := by
  have e : Go.bits .and .i64 x 1048575 = IntKind.i64.wrap (((x % 18446744073709551616).toNat &&& 1048575 : Nat) : Int) := by
    show IntKind.i64.wrap (((BitVec.ofInt 64 x &&& BitVec.ofInt 64 1048575).toNat : Nat) : Int) = _
    rw [BitVec.toNat_and, BitVec.toNat_ofInt, show (BitVec.ofInt 64 1048575).toNat = 1048575 from rfl]
    rfl
  rw [e, Nat.and_two_pow_sub_one_eq_mod _ 20, IntKind.wrap_i64]; omega
end Go.Proofs.Ytcmalglippmocaa.Pure
end

section
namespace Go.Proofs.Ytcmalglippmocaa.Pure
open Go.RowKit Go.Proofs.YtcmalglippmocaaW.PrintWords Go.Proofs.YtcmalglippmocaaW.PrintLast Go.Proofs.Ytcmalglippmocaa.G Go.Proofs.Ytcmalglippmocaa.Pal
end Go.Proofs.Ytcmalglippmocaa.Pure
end
