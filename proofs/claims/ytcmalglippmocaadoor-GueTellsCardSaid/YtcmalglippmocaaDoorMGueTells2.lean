/- Texts of this session, joined: each is a section. -/
import Derived.Test.YtcmalglippmocaaDoorMGueb1
import Derived.Test.YtcmalglippmocaaDoorMGueTells1
import Derived.Test.YtcmalglippmocaaDoorMGueb5
import Derived.Test.YtcmalglippmocaaDoorMGueb6
import Derived.Test.YtcmalglippmocaaDoorMGueb4
import Derived.Test.YtcmalglippmocaaDoorMGueb7
set_option linter.unusedVariables false
set_option linter.unusedSimpArgs false
section
namespace Go.Proofs.YtcmalglippmocaaDoor.G
open Go.RowKit Go.Proofs.YtcmalglippmocaaDoorW.PrintWords Go.Proofs.YtcmalglippmocaaDoorW.PrintLast Go.Proofs.YtcmalglippmocaaDoorW.PrintMore
attribute [local go_sem] max2_int min2_int max_two min_two max_three min_three max_four min_four   -- for this text's walks alone
set_option linter.unusedVariables false
set_option linter.unusedSimpArgs false

def r13_Put.f (k : Nat) (a0 : Int) (a1 : Bool) (a2 : ByteArray) (a3 : ByteArray) (a4 : ByteArray) : Option (ByteArray × Int) := (palanquinref11_Proto.f a4).bind fun bt294 => (if bt294.2 = 0 then ((palanquinref01_Bytes.f k (IntKind.u64.wrap (bt294.1)) 1).bind fun t296 => (if 1 + t296.size ≤ 9223372036854775807 then (if ((⟨#[0]⟩ : ByteArray) ++ t296).size + 2 ≤ 9223372036854775807 then (if (((⟨#[0]⟩ : ByteArray) ++ t296) ++ (⟨#[0, 0]⟩ : ByteArray)).size + a4.size ≤ 9223372036854775807 then ((r08_Put.f k a0 6080 ((((⟨#[0]⟩ : ByteArray) ++ t296) ++ (⟨#[0, 0]⟩ : ByteArray)) ++ a4) 0).bind fun bt297 => (if bt297.2 = 0 then (if a1 = true then ((palanquinref09_Seal.f k 17 a2 a3 bt297.1).bind fun t299 => (some (t299, 0))) else (some (bt297.1, 0))) else (some ((⟨#[]⟩ : ByteArray), bt297.2)))) else (none)) else (none)) else (none))) else (some ((⟨#[]⟩ : ByteArray), bt294.2)))
theorem r13_Put.mono : ∀ a0 a1 a2 a3 a4 k, LeO (r13_Put.f k a0 a1 a2 a3 a4) (r13_Put.f (k + 1) a0 a1 a2 a3 a4) := by
 intro a0 a1 a2 a3 a4 k
 unfold r13_Put.f
 repeat' first
   | (with_reducible exact palanquinref01_Bytes.mono _ _ _)
   | (with_reducible exact r08_Put.mono _ _ _ _ _)
   | (with_reducible exact palanquinref09_Seal.mono _ _ _ _ _)
   | (with_reducible exact LeO.refl _)
   | (with_reducible exact LeO.none _)
   | (with_reducible refine LeO.ite ?_ ?_)
   | (with_reducible refine LeO.bind ?_ (fun _ => ?_))
   | exact palanquinref01_Bytes.mono _ _ _
   | exact r08_Put.mono _ _ _ _ _
   | exact palanquinref09_Seal.mono _ _ _ _ _
   | exact LeO.none _
   | refine LeO.ite ?_ ?_
   | refine LeO.bind ?_ (fun _ => ?_)
set_option maxHeartbeats 8000000 in
set_option maxRecDepth 100000 in
theorem r13_Put.calls (k : Nat) (a0 : Int) (a1 : Bool) (a2 : ByteArray) (a3 : ByteArray) (a4 : ByteArray) (r1 : ByteArray) (r2 : Int) (w : World) (h : r13_Put.f k a0 a1 a2 a3 a4 = some (r1, r2)) :
  Calls Tryd.prog 37 #[.int .i64 a0, .bool a1, .string a2, .string a3, .string a4] w fun e w' => e = .returned (.tuple #[.string r1, .int .i64 r2]) ∧ Below w.heap.size w w' := by
 have hu81 := Tryd.underlying81
 have HB := mA (Below.refl w.heap.size w)
 have H : ((palanquinref11_Proto.f a4).bind fun bt294 => (if bt294.2 = 0 then ((palanquinref01_Bytes.f k (IntKind.u64.wrap (bt294.1)) 1).bind fun t296 => (if 1 + t296.size ≤ 9223372036854775807 then (if ((⟨#[0]⟩ : ByteArray) ++ t296).size + 2 ≤ 9223372036854775807 then (if (((⟨#[0]⟩ : ByteArray) ++ t296) ++ (⟨#[0, 0]⟩ : ByteArray)).size + a4.size ≤ 9223372036854775807 then ((r08_Put.f k a0 6080 ((((⟨#[0]⟩ : ByteArray) ++ t296) ++ (⟨#[0, 0]⟩ : ByteArray)) ++ a4) 0).bind fun bt297 => (if bt297.2 = 0 then (if a1 = true then ((palanquinref09_Seal.f k 17 a2 a3 bt297.1).bind fun t299 => (some (t299, 0))) else (some (bt297.1, 0))) else (some ((⟨#[]⟩ : ByteArray), bt297.2)))) else (none)) else (none)) else (none))) else (some ((⟨#[]⟩ : ByteArray), bt294.2)))) = some (r1, r2) := h
 clear h
 replace H := Option.bind_eq_some_iff.mp H
 obtain ⟨⟨t294, t295⟩, A60, H⟩ := H
 replace H : (if t295 = 0 then ((palanquinref01_Bytes.f k (IntKind.u64.wrap (t294)) 1).bind fun t296 => (if 1 + t296.size ≤ 9223372036854775807 then (if ((⟨#[0]⟩ : ByteArray) ++ t296).size + 2 ≤ 9223372036854775807 then (if (((⟨#[0]⟩ : ByteArray) ++ t296) ++ (⟨#[0, 0]⟩ : ByteArray)).size + a4.size ≤ 9223372036854775807 then ((r08_Put.f k a0 6080 ((((⟨#[0]⟩ : ByteArray) ++ t296) ++ (⟨#[0, 0]⟩ : ByteArray)) ++ a4) 0).bind fun bt297 => (if bt297.2 = 0 then (if a1 = true then ((palanquinref09_Seal.f k 17 a2 a3 bt297.1).bind fun t299 => (some (t299, 0))) else (some (bt297.1, 0))) else (some ((⟨#[]⟩ : ByteArray), bt297.2)))) else (none)) else (none)) else (none))) else (some ((⟨#[]⟩ : ByteArray), t295))) = some (r1, r2) := H
 have A6 := mA A60
 clear A60
 by_cases c7 : t295 = 0
 ·rw [if_pos c7] at H
  have c7b0 : (t295 == 0) = true := beq_iff_eq.mpr c7
  have c7b1 : (t295 != 0) = false := bne_eq_false_iff_eq.mpr c7
  clear c7
  replace H := Option.bind_eq_some_iff.mp H
  obtain ⟨t296, A80, H⟩ := H
  replace H : (if 1 + t296.size ≤ 9223372036854775807 then (if ((⟨#[0]⟩ : ByteArray) ++ t296).size + 2 ≤ 9223372036854775807 then (if (((⟨#[0]⟩ : ByteArray) ++ t296) ++ (⟨#[0, 0]⟩ : ByteArray)).size + a4.size ≤ 9223372036854775807 then ((r08_Put.f k a0 6080 ((((⟨#[0]⟩ : ByteArray) ++ t296) ++ (⟨#[0, 0]⟩ : ByteArray)) ++ a4) 0).bind fun bt297 => (if bt297.2 = 0 then (if a1 = true then ((palanquinref09_Seal.f k 17 a2 a3 bt297.1).bind fun t299 => (some (t299, 0))) else (some (bt297.1, 0))) else (some ((⟨#[]⟩ : ByteArray), bt297.2)))) else (none)) else (none)) else (none)) = some (r1, r2) := H
  have A8 := mA A80
  clear A80
  by_cases c9 : 1 + t296.size ≤ 9223372036854775807
  ·rw [if_pos c9] at H
   have c9b0 := eq_true c9
   have c9b1 : decide (1 + t296.size ≤ 9223372036854775807) = true := decide_eq_true c9
   try have c9b2 : (9223372036854775807 < 1 + t296.size) = False := eq_false (Nat.not_lt.2 c9)
   by_cases c10 : ((⟨#[0]⟩ : ByteArray) ++ t296).size + 2 ≤ 9223372036854775807
   ·rw [if_pos c10] at H
    have c10b0 := eq_true c10
    have c10b1 : decide (((⟨#[0]⟩ : ByteArray) ++ t296).size + 2 ≤ 9223372036854775807) = true := decide_eq_true c10
    try have c10b2 : (9223372036854775807 < ((⟨#[0]⟩ : ByteArray) ++ t296).size + 2) = False := eq_false (Nat.not_lt.2 c10)
    try have c10b3 : (9223372036854775807 < 1 + (t296.size) + 2) = False := eq_false (by have h_ := c10; simp only [ByteArray.size_append] at h_; have zl0_ : (⟨#[0]⟩ : ByteArray).size = 1 := rfl; omega)
    try have c10b4 : (1 + (t296.size) + 2 ≤ 9223372036854775807) = True := eq_true (by have h_ := c10; simp only [ByteArray.size_append] at h_; have zl0_ : (⟨#[0]⟩ : ByteArray).size = 1 := rfl; omega)
    by_cases c11 : (((⟨#[0]⟩ : ByteArray) ++ t296) ++ (⟨#[0, 0]⟩ : ByteArray)).size + a4.size ≤ 9223372036854775807
    ·rw [if_pos c11] at H
     have c11b0 := eq_true c11
     have c11b1 : decide ((((⟨#[0]⟩ : ByteArray) ++ t296) ++ (⟨#[0, 0]⟩ : ByteArray)).size + a4.size ≤ 9223372036854775807) = true := decide_eq_true c11
     try have c11b2 : (9223372036854775807 < (((⟨#[0]⟩ : ByteArray) ++ t296) ++ (⟨#[0, 0]⟩ : ByteArray)).size + a4.size) = False := eq_false (Nat.not_lt.2 c11)
     try have c11b3 : (9223372036854775807 < 1 + (t296.size) + 2 + a4.size) = False := eq_false (by have h_ := c11; simp only [ByteArray.size_append] at h_; have zl0_ : (⟨#[0, 0]⟩ : ByteArray).size = 2 := rfl; have zl1_ : (⟨#[0]⟩ : ByteArray).size = 1 := rfl; omega)
     try have c11b4 : (1 + (t296.size) + 2 + a4.size ≤ 9223372036854775807) = True := eq_true (by have h_ := c11; simp only [ByteArray.size_append] at h_; have zl0_ : (⟨#[0, 0]⟩ : ByteArray).size = 2 := rfl; have zl1_ : (⟨#[0]⟩ : ByteArray).size = 1 := rfl; omega)
     replace H := Option.bind_eq_some_iff.mp H
     obtain ⟨⟨t297, t298⟩, A120, H⟩ := H
     replace H : (if t298 = 0 then (if a1 = true then ((palanquinref09_Seal.f k 17 a2 a3 t297).bind fun t299 => (some (t299, 0))) else (some (t297, 0))) else (some ((⟨#[]⟩ : ByteArray), t298))) = some (r1, r2) := H
     have A12 := mA A120
     clear A120
     by_cases c13 : t298 = 0
     ·rw [if_pos c13] at H
      have c13b0 : (t298 == 0) = true := beq_iff_eq.mpr c13
      have c13b1 : (t298 != 0) = false := bne_eq_false_iff_eq.mpr c13
      clear c13
      by_cases c14 : a1 = true
      ·subst c14
       have H1 : ((palanquinref09_Seal.f k 17 a2 a3 t297).bind fun t299 => (some (t299, 0))) = some (r1, r2) := by rw [if_pos rfl] at H; exact H
       clear H
       have H := H1
       clear H1
       replace H := Option.bind_eq_some_iff.mp H
       obtain ⟨t299, A150, H⟩ := H
       replace H : (some (t299, 0)) = some (r1, r2) := H
       have A15 := mA A150
       clear A150
       simp only [Option.some.injEq, Prod.mk.injEq] at H
       obtain ⟨rfl, rfl⟩ := H
       go_enter Tryd.func37, Tryd.ntmps37
       go_wp2_with (first | ((with_reducible refine gate_callee (f := 25) rfl ?_); refine goesL_ (some 17) rfl rfl Tryd.func25 (by kernel_rfl) rfl #[.string a4] rfl (by (try simp only [List.map_toArray, List.map_cons, List.map_nil]); first | done | rfl | (simp only [List.length_drop, List.length_take]; rfl)) ?_; (with_reducible refine (palanquinref11_Proto.calls a4 t294 t295 _ A6.out).mono ?_); rintro e w' ⟨rfl, ⟨nd, rfl⟩⟩; refine ⟨_, rfl, ?_⟩) | ((with_reducible refine gate_callee (f := 61) rfl ?_); refine goesL_ (some 27) rfl rfl Tryd.func61 (by kernel_rfl) rfl #[.int .u64 (IntKind.u64.wrap (t294)), .int .i64 1] rfl (by (try simp only [List.map_toArray, List.map_cons, List.map_nil]); first | done | rfl | (simp only [List.length_drop, List.length_take]; rfl)) ?_; (with_reducible refine (palanquinref01_Bytes.calls k (IntKind.u64.wrap (t294)) 1 t296 _ A8.out).mono ?_); rintro e w16 ⟨rfl, hb⟩; refine ⟨_, rfl, ?_⟩; have n0_ := mA (bP (by repeat (first | (with_reducible first | exact HB.out | apply bA | apply bN | apply bD) | exact HB.out)) hb); clear HB; have HB := n0_; clear n0_; (try clear hb); (try clear hb2); (try clear hk); (try clear hi)) | ((with_reducible refine gate_callee (f := 49) rfl ?_); refine goesL_ (some 33) rfl rfl Tryd.func49 (by kernel_rfl) rfl #[.agg #[.int .i64 a0, .int .i64 6080, .string ((((⟨#[0]⟩ : ByteArray) ++ t296) ++ (⟨#[0, 0]⟩ : ByteArray)) ++ a4)], .int .i64 0] rfl (by (try simp only [List.map_toArray, List.map_cons, List.map_nil]); first | done | rfl | (simp only [List.length_drop, List.length_take]; rfl)) ?_; (with_reducible refine (r08_Put.calls k a0 6080 ((((⟨#[0]⟩ : ByteArray) ++ t296) ++ (⟨#[0, 0]⟩ : ByteArray)) ++ a4) 0 t297 t298 _ A12.out).mono ?_); rintro e w17 ⟨rfl, hb⟩; refine ⟨_, rfl, ?_⟩; have n0_ := mA (bP (by repeat (first | (with_reducible first | exact HB.out | apply bA | apply bN | apply bD) | exact HB.out)) hb); clear HB; have HB := n0_; clear n0_; (try clear hb); (try clear hb2); (try clear hk); (try clear hi)) | ((with_reducible refine gate_callee (f := 47) rfl ?_); refine goesL_ (some 43) rfl rfl Tryd.func47 (by kernel_rfl) rfl #[.int .i64 17, .string a2, .string a3, .string t297] rfl (by (try simp only [List.map_toArray, List.map_cons, List.map_nil]); first | done | rfl | (simp only [List.length_drop, List.length_take]; rfl)) ?_; (with_reducible refine (palanquinref09_Seal.calls k 17 a2 a3 t297 t299 _ A15.out).mono ?_); rintro e w18 ⟨rfl, hb⟩; refine ⟨_, rfl, ?_⟩; have n0_ := mA (bP (by repeat (first | (with_reducible first | exact HB.out | apply bA | apply bN | apply bD) | exact HB.out)) hb); clear HB; have HB := n0_; clear n0_; (try clear hb); (try clear hb2); (try clear hk); (try clear hi)))
       go_ret2
       exact ⟨by first | rfl | (simp [errW_none, errW_some] <;> rfl) | (simp [*, errW_none, errW_some] <;> rfl), by repeat (first | (with_reducible first | exact HB.out | apply bA | apply bN | apply bD) | exact HB.out)⟩
      ·replace c14 := Bool.eq_false_iff.mpr c14
       subst c14
       have H1 : (some (t297, 0)) = some (r1, r2) := by rw [if_neg (show ¬ (false = true) by decide)] at H; exact H
       clear H
       have H := H1
       clear H1
       simp only [Option.some.injEq, Prod.mk.injEq] at H
       obtain ⟨rfl, rfl⟩ := H
       go_enter Tryd.func37, Tryd.ntmps37
       go_wp2_with (first | ((with_reducible refine gate_callee (f := 25) rfl ?_); refine goesL_ (some 17) rfl rfl Tryd.func25 (by kernel_rfl) rfl #[.string a4] rfl (by (try simp only [List.map_toArray, List.map_cons, List.map_nil]); first | done | rfl | (simp only [List.length_drop, List.length_take]; rfl)) ?_; (with_reducible refine (palanquinref11_Proto.calls a4 t294 t295 _ A6.out).mono ?_); rintro e w' ⟨rfl, ⟨nd, rfl⟩⟩; refine ⟨_, rfl, ?_⟩) | ((with_reducible refine gate_callee (f := 61) rfl ?_); refine goesL_ (some 27) rfl rfl Tryd.func61 (by kernel_rfl) rfl #[.int .u64 (IntKind.u64.wrap (t294)), .int .i64 1] rfl (by (try simp only [List.map_toArray, List.map_cons, List.map_nil]); first | done | rfl | (simp only [List.length_drop, List.length_take]; rfl)) ?_; (with_reducible refine (palanquinref01_Bytes.calls k (IntKind.u64.wrap (t294)) 1 t296 _ A8.out).mono ?_); rintro e w19 ⟨rfl, hb⟩; refine ⟨_, rfl, ?_⟩; have n0_ := mA (bP (by repeat (first | (with_reducible first | exact HB.out | apply bA | apply bN | apply bD) | exact HB.out)) hb); clear HB; have HB := n0_; clear n0_; (try clear hb); (try clear hb2); (try clear hk); (try clear hi)) | ((with_reducible refine gate_callee (f := 49) rfl ?_); refine goesL_ (some 33) rfl rfl Tryd.func49 (by kernel_rfl) rfl #[.agg #[.int .i64 a0, .int .i64 6080, .string ((((⟨#[0]⟩ : ByteArray) ++ t296) ++ (⟨#[0, 0]⟩ : ByteArray)) ++ a4)], .int .i64 0] rfl (by (try simp only [List.map_toArray, List.map_cons, List.map_nil]); first | done | rfl | (simp only [List.length_drop, List.length_take]; rfl)) ?_; (with_reducible refine (r08_Put.calls k a0 6080 ((((⟨#[0]⟩ : ByteArray) ++ t296) ++ (⟨#[0, 0]⟩ : ByteArray)) ++ a4) 0 t297 t298 _ A12.out).mono ?_); rintro e w20 ⟨rfl, hb⟩; refine ⟨_, rfl, ?_⟩; have n0_ := mA (bP (by repeat (first | (with_reducible first | exact HB.out | apply bA | apply bN | apply bD) | exact HB.out)) hb); clear HB; have HB := n0_; clear n0_; (try clear hb); (try clear hb2); (try clear hk); (try clear hi)))
       go_ret2
       exact ⟨by first | rfl | (simp [errW_none, errW_some] <;> rfl) | (simp [*, errW_none, errW_some] <;> rfl), by repeat (first | (with_reducible first | exact HB.out | apply bA | apply bN | apply bD) | exact HB.out)⟩
     ·rw [if_neg c13] at H
      have c13b0 : (t298 == 0) = false := beq_eq_false_iff_ne.mpr c13
      have c13b1 : (t298 != 0) = true := bne_iff_ne.mpr c13
      simp only [Option.some.injEq, Prod.mk.injEq] at H
      obtain ⟨rfl, rfl⟩ := H
      go_enter Tryd.func37, Tryd.ntmps37
      go_wp2_with (first | ((with_reducible refine gate_callee (f := 25) rfl ?_); refine goesL_ (some 17) rfl rfl Tryd.func25 (by kernel_rfl) rfl #[.string a4] rfl (by (try simp only [List.map_toArray, List.map_cons, List.map_nil]); first | done | rfl | (simp only [List.length_drop, List.length_take]; rfl)) ?_; (with_reducible refine (palanquinref11_Proto.calls a4 t294 t295 _ A6.out).mono ?_); rintro e w' ⟨rfl, ⟨nd, rfl⟩⟩; refine ⟨_, rfl, ?_⟩) | ((with_reducible refine gate_callee (f := 61) rfl ?_); refine goesL_ (some 27) rfl rfl Tryd.func61 (by kernel_rfl) rfl #[.int .u64 (IntKind.u64.wrap (t294)), .int .i64 1] rfl (by (try simp only [List.map_toArray, List.map_cons, List.map_nil]); first | done | rfl | (simp only [List.length_drop, List.length_take]; rfl)) ?_; (with_reducible refine (palanquinref01_Bytes.calls k (IntKind.u64.wrap (t294)) 1 t296 _ A8.out).mono ?_); rintro e w21 ⟨rfl, hb⟩; refine ⟨_, rfl, ?_⟩; have n0_ := mA (bP (by repeat (first | (with_reducible first | exact HB.out | apply bA | apply bN | apply bD) | exact HB.out)) hb); clear HB; have HB := n0_; clear n0_; (try clear hb); (try clear hb2); (try clear hk); (try clear hi)) | ((with_reducible refine gate_callee (f := 49) rfl ?_); refine goesL_ (some 33) rfl rfl Tryd.func49 (by kernel_rfl) rfl #[.agg #[.int .i64 a0, .int .i64 6080, .string ((((⟨#[0]⟩ : ByteArray) ++ t296) ++ (⟨#[0, 0]⟩ : ByteArray)) ++ a4)], .int .i64 0] rfl (by (try simp only [List.map_toArray, List.map_cons, List.map_nil]); first | done | rfl | (simp only [List.length_drop, List.length_take]; rfl)) ?_; (with_reducible refine (r08_Put.calls k a0 6080 ((((⟨#[0]⟩ : ByteArray) ++ t296) ++ (⟨#[0, 0]⟩ : ByteArray)) ++ a4) 0 t297 t298 _ A12.out).mono ?_); rintro e w22 ⟨rfl, hb⟩; refine ⟨_, rfl, ?_⟩; have n0_ := mA (bP (by repeat (first | (with_reducible first | exact HB.out | apply bA | apply bN | apply bD) | exact HB.out)) hb); clear HB; have HB := n0_; clear n0_; (try clear hb); (try clear hb2); (try clear hk); (try clear hi)))
      go_ret2
      exact ⟨by first | rfl | (simp [errW_none, errW_some] <;> rfl) | (simp [*, errW_none, errW_some] <;> rfl), by repeat (first | (with_reducible first | exact HB.out | apply bA | apply bN | apply bD) | exact HB.out)⟩
    ·rw [if_neg c11] at H
     exact absurd H (by simp)
   ·rw [if_neg c10] at H
    exact absurd H (by simp)
  ·rw [if_neg c9] at H
   exact absurd H (by simp)
 ·rw [if_neg c7] at H
  have c7b0 : (t295 == 0) = false := beq_eq_false_iff_ne.mpr c7
  have c7b1 : (t295 != 0) = true := bne_iff_ne.mpr c7
  simp only [Option.some.injEq, Prod.mk.injEq] at H
  obtain ⟨rfl, rfl⟩ := H
  go_enter Tryd.func37, Tryd.ntmps37
  go_wp2_with (first | ((with_reducible refine gate_callee (f := 25) rfl ?_); refine goesL_ (some 17) rfl rfl Tryd.func25 (by kernel_rfl) rfl #[.string a4] rfl (by (try simp only [List.map_toArray, List.map_cons, List.map_nil]); first | done | rfl | (simp only [List.length_drop, List.length_take]; rfl)) ?_; (with_reducible refine (palanquinref11_Proto.calls a4 t294 t295 _ A6.out).mono ?_); rintro e w' ⟨rfl, ⟨nd, rfl⟩⟩; refine ⟨_, rfl, ?_⟩))
  go_ret2
  exact ⟨by first | rfl | (simp [errW_none, errW_some] <;> rfl) | (simp [*, errW_none, errW_some] <;> rfl), by repeat (first | (with_reducible first | exact HB.out | apply bA | apply bN | apply bD) | exact HB.out)⟩

mutual
def r13_Get.j0 : Nat → Int → Bool → Int → Int → ByteArray → Option (Int × Bool × ByteArray × Int)
 | 0, _, _, _, _, _ => none
 | k + 1, x11, x39, x311000, x311001, x311002 => if x39 = true then (some (0, false, (⟨#[]⟩ : ByteArray), 5)) else (if (x311002.size : Int) < 4 then (some (0, false, (⟨#[]⟩ : ByteArray), 2)) else (if 0 < (x311002.size : Int) then (if (bt x311002 0) ≥ 64 then (some (0, false, (⟨#[]⟩ : ByteArray), 3)) else (if (bt x311002 0) = 0 then (if 2 < (x311002.size : Int) then (if (bt x311002 2) = 0 then (if 3 < (x311002.size : Int) then (r13_Get.j1 k x11 x311002 ((bt x311002 3) != 0) x311000 x311001 x311002) else (none)) else (r13_Get.j1 k x11 x311002 true x311000 x311001 x311002)) else (none)) else (r13_Get.j1 k x11 x311002 true x311000 x311001 x311002))) else (none)))
def r13_Get.j1 : Nat → Int → ByteArray → Bool → Int → Int → ByteArray → Option (Int × Bool × ByteArray × Int)
 | 0, _, _, _, _, _, _ => none
 | k + 1, x11, x13, x60, x311000, x311001, x311002 => if x60 = true then (some (0, false, (⟨#[]⟩ : ByteArray), 9)) else (if 1 < (x13.size : Int) then (if 4 ≤ (x13.size : Int) then ((palanquinref11_Get.f k (wrap64 (bt x13 1)) (x13.extract 4 x13.size)).bind fun bt313 => (if bt313.2 = 0 then (some (x311000, (x11 != 0), bt313.1, 0)) else (some (0, false, (⟨#[]⟩ : ByteArray), bt313.2)))) else (none)) else (none))
end
def r13_Get.f (k : Nat) (a0 : ByteArray) (a1 : ByteArray) (a2 : ByteArray) : Option (Int × Bool × ByteArray × Int) := (r08_Get.f k a2).bind fun bt305 => (if bt305.2.2.2.2 = 0 then (if bt305.2.1 = 6080 then (if bt305.2.2.2.1 = 0 then (r13_Get.j0 k bt305.2.2.2.1 false bt305.1 bt305.2.1 bt305.2.2.1) else ((palanquinref02_Pseudo.f k a0 a1 17 (a2.size : Int)).bind fun t311 => (if t311.size + a2.size ≤ 9223372036854775807 then ((palanquinref02_Sum.f k (t311 ++ a2)).bind fun t312 => (r13_Get.j0 k bt305.2.2.2.1 (t312 != 0) bt305.1 bt305.2.1 bt305.2.2.1)) else (none)))) else (some (0, false, (⟨#[]⟩ : ByteArray), 6))) else (some (0, false, (⟨#[]⟩ : ByteArray), bt305.2.2.2.2)))
theorem r13_Get.mono_l : ∀ k, (∀ y0 y1 y2 y3 y4, LeO (r13_Get.j0 k y0 y1 y2 y3 y4) (r13_Get.j0 (k + 1) y0 y1 y2 y3 y4)) ∧ (∀ y0 y1 y2 y3 y4 y5, LeO (r13_Get.j1 k y0 y1 y2 y3 y4 y5) (r13_Get.j1 (k + 1) y0 y1 y2 y3 y4 y5))
 | 0 => ⟨fun _ _ _ _ _ r h => by simp [r13_Get.j0] at h, fun _ _ _ _ _ _ r h => by simp [r13_Get.j1] at h⟩
 | k + 1 => by
  obtain ⟨ih0, ih1⟩ := r13_Get.mono_l k
  refine ⟨?_, ?_⟩
  ·intro y0 y1 y2 y3 y4
   unfold r13_Get.j0
   repeat' first
   | (with_reducible exact ih0 _ _ _ _ _)
   | (with_reducible exact ih1 _ _ _ _ _ _)
   | (with_reducible exact palanquinref02_Pseudo.mono _ _ _ _ _)
   | (with_reducible exact palanquinref02_Sum.mono _ _)
   | (with_reducible exact r08_Get.mono _ _)
   | (with_reducible exact palanquinref11_Get.mono _ _ _)
   | (with_reducible exact LeO.refl _)
   | (with_reducible exact LeO.none _)
   | (with_reducible refine LeO.ite ?_ ?_)
   | (with_reducible refine LeO.bind ?_ (fun _ => ?_))
   | exact ih0 _ _ _ _ _
   | exact ih1 _ _ _ _ _ _
   | exact palanquinref02_Pseudo.mono _ _ _ _ _
   | exact palanquinref02_Sum.mono _ _
   | exact r08_Get.mono _ _
   | exact palanquinref11_Get.mono _ _ _
   | exact LeO.none _
   | refine LeO.ite ?_ ?_
   | refine LeO.bind ?_ (fun _ => ?_)
  ·intro y0 y1 y2 y3 y4 y5
   unfold r13_Get.j1
   repeat' first
   | (with_reducible exact ih0 _ _ _ _ _)
   | (with_reducible exact ih1 _ _ _ _ _ _)
   | (with_reducible exact palanquinref02_Pseudo.mono _ _ _ _ _)
   | (with_reducible exact palanquinref02_Sum.mono _ _)
   | (with_reducible exact r08_Get.mono _ _)
   | (with_reducible exact palanquinref11_Get.mono _ _ _)
   | (with_reducible exact LeO.refl _)
   | (with_reducible exact LeO.none _)
   | (with_reducible refine LeO.ite ?_ ?_)
   | (with_reducible refine LeO.bind ?_ (fun _ => ?_))
   | exact ih0 _ _ _ _ _
   | exact ih1 _ _ _ _ _ _
   | exact palanquinref02_Pseudo.mono _ _ _ _ _
   | exact palanquinref02_Sum.mono _ _
   | exact r08_Get.mono _ _
   | exact palanquinref11_Get.mono _ _ _
   | exact LeO.none _
   | refine LeO.ite ?_ ?_
   | refine LeO.bind ?_ (fun _ => ?_)
theorem r13_Get.mono : ∀ a0 a1 a2 k, LeO (r13_Get.f k a0 a1 a2) (r13_Get.f (k + 1) a0 a1 a2) := by
 intro a0 a1 a2 k
 obtain ⟨ih0, ih1⟩ := r13_Get.mono_l k
 unfold r13_Get.f
 repeat' first
   | (with_reducible exact ih0 _ _ _ _ _)
   | (with_reducible exact ih1 _ _ _ _ _ _)
   | (with_reducible exact palanquinref02_Pseudo.mono _ _ _ _ _)
   | (with_reducible exact palanquinref02_Sum.mono _ _)
   | (with_reducible exact r08_Get.mono _ _)
   | (with_reducible exact palanquinref11_Get.mono _ _ _)
   | (with_reducible exact LeO.refl _)
   | (with_reducible exact LeO.none _)
   | (with_reducible refine LeO.ite ?_ ?_)
   | (with_reducible refine LeO.bind ?_ (fun _ => ?_))
   | exact ih0 _ _ _ _ _
   | exact ih1 _ _ _ _ _ _
   | exact palanquinref02_Pseudo.mono _ _ _ _ _
   | exact palanquinref02_Sum.mono _ _
   | exact r08_Get.mono _ _
   | exact palanquinref11_Get.mono _ _ _
   | exact LeO.none _
   | refine LeO.ite ?_ ?_
   | refine LeO.bind ?_ (fun _ => ?_)
set_option maxHeartbeats 8000000 in
set_option maxRecDepth 100000 in
theorem r13_Get.calls (k : Nat) (a0 : ByteArray) (a1 : ByteArray) (a2 : ByteArray) (r1 : Int) (r2 : Bool) (r3 : ByteArray) (r4 : Int) (w : World) (h : r13_Get.f k a0 a1 a2 = some (r1, r2, r3, r4)) :
  Calls Tryd.prog 39 #[.string a0, .string a1, .string a2] w fun e w' => e = .returned (.tuple #[.int .i64 r1, .bool r2, .string r3, .int .i64 r4]) ∧ Below w.heap.size w w' := by
 have hu81 := Tryd.underlying81
 have HB := mA (Below.refl w.heap.size w)
 have H : ((r08_Get.f k a2).bind fun bt305 => (if bt305.2.2.2.2 = 0 then (if bt305.2.1 = 6080 then (if bt305.2.2.2.1 = 0 then (r13_Get.j0 k bt305.2.2.2.1 false bt305.1 bt305.2.1 bt305.2.2.1) else ((palanquinref02_Pseudo.f k a0 a1 17 (a2.size : Int)).bind fun t311 => (if t311.size + a2.size ≤ 9223372036854775807 then ((palanquinref02_Sum.f k (t311 ++ a2)).bind fun t312 => (r13_Get.j0 k bt305.2.2.2.1 (t312 != 0) bt305.1 bt305.2.1 bt305.2.2.1)) else (none)))) else (some (0, false, (⟨#[]⟩ : ByteArray), 6))) else (some (0, false, (⟨#[]⟩ : ByteArray), bt305.2.2.2.2)))) = some (r1, r2, r3, r4) := h
 clear h
 replace H := Option.bind_eq_some_iff.mp H
 obtain ⟨⟨t305, t306, t307, t308, t309⟩, A40, H⟩ := H
 replace H : (if t309 = 0 then (if t306 = 6080 then (if t308 = 0 then (r13_Get.j0 k t308 false t305 t306 t307) else ((palanquinref02_Pseudo.f k a0 a1 17 (a2.size : Int)).bind fun t311 => (if t311.size + a2.size ≤ 9223372036854775807 then ((palanquinref02_Sum.f k (t311 ++ a2)).bind fun t312 => (r13_Get.j0 k t308 (t312 != 0) t305 t306 t307)) else (none)))) else (some (0, false, (⟨#[]⟩ : ByteArray), 6))) else (some (0, false, (⟨#[]⟩ : ByteArray), t309))) = some (r1, r2, r3, r4) := H
 have A4 := mA A40
 clear A40
 by_cases c5 : t309 = 0
 ·rw [if_pos c5] at H
  have c5b0 : (t309 == 0) = true := beq_iff_eq.mpr c5
  have c5b1 : (t309 != 0) = false := bne_eq_false_iff_eq.mpr c5
  clear c5
  by_cases c6 : t306 = 6080
  ·rw [if_pos c6] at H
   have c6b0 : (t306 == 6080) = true := beq_iff_eq.mpr c6
   have c6b1 : (t306 != 6080) = false := bne_eq_false_iff_eq.mpr c6
   clear c6
   have HC7 := mA H
   clear H
   go_enter Tryd.func39, Tryd.ntmps39
   go_upto_region 6 with (first | (go_at_call 80; (with_reducible refine (r08_Get.calls k a2 t305 t306 t307 t308 t309 _ A4.out).mono ?_); rintro e w8 ⟨rfl, hb⟩; have n0_ := mA (bP (by repeat (first | (with_reducible first | exact HB.out | apply bA | apply bN | apply bD) | exact HB.out)) hb); clear HB; have HB := n0_; clear n0_; (try clear hb); (try clear hb2); (try clear hk); (try clear hi)) | ((with_reducible refine gate_dst (N := 10) rfl ?_); (try (refine gate_guard (by rfl) ?_; dsimp only)); refine box_event ?hg (N := 10) ?hd (cs := #[.int .i64 0, .int .i64 0, .string (⟨#[]⟩ : ByteArray)]) (t := 81) ?hr ?_; (case hd => rfl); (case hg => rfl); (case hr => first | (go_simp; done) | (go_simp; rfl)); intro gb310 hg w9 hbox hb; have n0_ := mA (bP (by repeat (first | (with_reducible first | exact HB.out | apply bA | apply bN | apply bD) | exact HB.out)) hb); have n1_ := mA (hbox); have n2_ := mA ((by rw [hg]; exact (below_size (by repeat (first | (with_reducible first | exact HB.out | apply bA | apply bN | apply bD) | exact HB.out))) : w.heap.size ≤ gb310)); have n3_ := mA ((by rw [hg]; exact (below_size (by repeat (first | (with_reducible first | exact HB.out | apply bA | apply bN | apply bD) | exact HB.out))) : w.heap.size ≤ gb310)); clear HB; have HB := n0_; have BK310 := n1_; have GW310 := n2_; have GE310 := n3_; clear n0_ n1_ n2_ n3_; clear hb hbox hg; have hcz10_0 : w9.cell? ⟨gb310, 0, none⟩ = some (.int .i64 0) := (zC BK310.out 0).trans rfl; have hcz10_1 : w9.cell? ⟨gb310, 1, none⟩ = some (.int .i64 0) := (zC BK310.out 1).trans rfl; have hcz10_2 : w9.cell? ⟨gb310, 2, none⟩ = some (.string (⟨#[]⟩ : ByteArray)) := (zC BK310.out 2).trans rfl; have hfz10_0 := zF BK310.out 0; have hfz10_1 := zF BK310.out 1; have hfz10_2 := zF BK310.out 2))
   try have hcz10_0 : w9.cell? ⟨gb310, 0, none⟩ = some (.int .i64 0) := (zC BK310.out 0).trans rfl
   try have hcz10_1 : w9.cell? ⟨gb310, 1, none⟩ = some (.int .i64 0) := (zC BK310.out 1).trans rfl
   try have hcz10_2 : w9.cell? ⟨gb310, 2, none⟩ = some (.string (⟨#[]⟩ : ByteArray)) := (zC BK310.out 2).trans rfl
   try have hfz10_0 := zF BK310.out 0
   try have hfz10_1 := zF BK310.out 1
   try have hfz10_2 := zF BK310.out 2
   repeat (go_quiet (first | (go_at_call 80; (with_reducible refine (r08_Get.calls k a2 t305 t306 t307 t308 t309 _ A4.out).mono ?_); rintro e w8 ⟨rfl, hb⟩; have n0_ := mA (bP (by repeat (first | (with_reducible first | exact HB.out | apply bA | apply bN | apply bD) | exact HB.out)) hb); clear HB; have HB := n0_; clear n0_; (try clear hb); (try clear hb2); (try clear hk); (try clear hi)) | ((with_reducible refine gate_dst (N := 10) rfl ?_); (try (refine gate_guard (by rfl) ?_; dsimp only)); refine box_event ?hg (N := 10) ?hd (cs := #[.int .i64 0, .int .i64 0, .string (⟨#[]⟩ : ByteArray)]) (t := 81) ?hr ?_; (case hd => rfl); (case hg => rfl); (case hr => first | (go_simp; done) | (go_simp; rfl)); intro gb310 hg w9 hbox hb; have n0_ := mA (bP (by repeat (first | (with_reducible first | exact HB.out | apply bA | apply bN | apply bD) | exact HB.out)) hb); have n1_ := mA (hbox); have n2_ := mA ((by rw [hg]; exact (below_size (by repeat (first | (with_reducible first | exact HB.out | apply bA | apply bN | apply bD) | exact HB.out))) : w.heap.size ≤ gb310)); have n3_ := mA ((by rw [hg]; exact (below_size (by repeat (first | (with_reducible first | exact HB.out | apply bA | apply bN | apply bD) | exact HB.out))) : w.heap.size ≤ gb310)); clear HB; have HB := n0_; have BK310 := n1_; have GW310 := n2_; have GE310 := n3_; clear n0_ n1_ n2_ n3_; clear hb hbox hg; try have hcz10_0 : w9.cell? ⟨gb310, 0, none⟩ = some (.int .i64 0) := (zC BK310.out 0).trans rfl; try have hcz10_1 : w9.cell? ⟨gb310, 1, none⟩ = some (.int .i64 0) := (zC BK310.out 1).trans rfl; try have hcz10_2 : w9.cell? ⟨gb310, 2, none⟩ = some (.string (⟨#[]⟩ : ByteArray)) := (zC BK310.out 2).trans rfl; try have hfz10_0 := zF BK310.out 0; try have hfz10_1 := zF BK310.out 1; try have hfz10_2 := zF BK310.out 2)); go_upto_region 6 with (first | (go_at_call 80; (with_reducible refine (r08_Get.calls k a2 t305 t306 t307 t308 t309 _ A4.out).mono ?_); rintro e w8 ⟨rfl, hb⟩; have n0_ := mA (bP (by repeat (first | (with_reducible first | exact HB.out | apply bA | apply bN | apply bD) | exact HB.out)) hb); clear HB; have HB := n0_; clear n0_; (try clear hb); (try clear hb2); (try clear hk); (try clear hi)) | ((with_reducible refine gate_dst (N := 10) rfl ?_); (try (refine gate_guard (by rfl) ?_; dsimp only)); refine box_event ?hg (N := 10) ?hd (cs := #[.int .i64 0, .int .i64 0, .string (⟨#[]⟩ : ByteArray)]) (t := 81) ?hr ?_; (case hd => rfl); (case hg => rfl); (case hr => first | (go_simp; done) | (go_simp; rfl)); intro gb310 hg w9 hbox hb; have n0_ := mA (bP (by repeat (first | (with_reducible first | exact HB.out | apply bA | apply bN | apply bD) | exact HB.out)) hb); have n1_ := mA (hbox); have n2_ := mA ((by rw [hg]; exact (below_size (by repeat (first | (with_reducible first | exact HB.out | apply bA | apply bN | apply bD) | exact HB.out))) : w.heap.size ≤ gb310)); have n3_ := mA ((by rw [hg]; exact (below_size (by repeat (first | (with_reducible first | exact HB.out | apply bA | apply bN | apply bD) | exact HB.out))) : w.heap.size ≤ gb310)); clear HB; have HB := n0_; have BK310 := n1_; have GW310 := n2_; have GE310 := n3_; clear n0_ n1_ n2_ n3_; clear hb hbox hg; try have hcz10_0 : w9.cell? ⟨gb310, 0, none⟩ = some (.int .i64 0) := (zC BK310.out 0).trans rfl; try have hcz10_1 : w9.cell? ⟨gb310, 1, none⟩ = some (.int .i64 0) := (zC BK310.out 1).trans rfl; try have hcz10_2 : w9.cell? ⟨gb310, 2, none⟩ = some (.string (⟨#[]⟩ : ByteArray)) := (zC BK310.out 2).trans rfl; try have hfz10_0 := zF BK310.out 0; try have hfz10_1 := zF BK310.out 1; try have hfz10_2 := zF BK310.out 2)))
   (try simp only [Act.put, List.setIfInBounds_toArray, List.set_cons_zero, List.set_cons_succ])
   go_cut [39] (fun v39 wc => ∃ (kq : Nat) (x39_6 : Bool), v39 = .bool x39_6 ∧ Aside0 (r13_Get.j0 kq t308 x39_6 t305 t306 t307 = some (r1, r2, r3, r4)) ∧ Aside0 (kq ≤ k) ∧ Aside0 (wc.heap[gb310]? = some (.cells #[.int .i64 t305, .int .i64 t306, .string t307] 81 (0, 0))) ∧ Aside0 (Below w.heap.size w wc))
   case first =>
    have H := HC7.out
    clear HC7
    by_cases c11 : t308 = 0
    ·rw [if_pos c11] at H
     have c11b0 : (t308 == 0) = true := beq_iff_eq.mpr c11
     have c11b1 : (t308 != 0) = false := bne_eq_false_iff_eq.mpr c11
     clear c11
     (first | rw [c11b0] | (simp only [i64_w, i32_w]; rw [c11b0]) | skip)
     have H' := mA H
     clear H
     go_wp2
     repeat (go_quiet (fail); try go_wp2)
     go_meet
     case rel => exact ⟨_, (false), (by first | rfl | (simp; done) | (simp [*]; done)), H', ⟨by first | omega | exact Nat.le_refl _⟩, ⟨by (with_reducible repeat (first | apply kN | apply kD | apply kA)); refine blk_put (cs := #[.int .i64 t305, .int .i64 t306, .string (⟨#[]⟩ : ByteArray)]) ?_ 2 _ (by first | rfl | (simp [*]; done)); (with_reducible repeat (first | apply kN | apply kD | apply kA)); refine blk_put (cs := #[.int .i64 t305, .int .i64 0, .string (⟨#[]⟩ : ByteArray)]) ?_ 1 _ (by first | rfl | (simp [*]; done)); (with_reducible repeat (first | apply kN | apply kD | apply kA)); refine blk_put (cs := #[.int .i64 0, .int .i64 0, .string (⟨#[]⟩ : ByteArray)]) ?_ 0 _ (by first | rfl | (simp [*]; done)); (with_reducible repeat (first | apply kN | apply kD | apply kA)); exact BK310.out⟩, ⟨by repeat (first | (with_reducible first | exact HB.out | apply bA | apply bN | apply bD | refine bS ?_ GE310.out) | exact HB.out)⟩⟩
    ·rw [if_neg c11] at H
     have c11b0 : (t308 == 0) = false := beq_eq_false_iff_ne.mpr c11
     have c11b1 : (t308 != 0) = true := bne_iff_ne.mpr c11
     (first | rw [c11b0] | (simp only [i64_w, i32_w]; rw [c11b0]) | skip)
     replace H := Option.bind_eq_some_iff.mp H
     obtain ⟨t311, A120, H⟩ := H
     replace H : (if t311.size + a2.size ≤ 9223372036854775807 then ((palanquinref02_Sum.f k (t311 ++ a2)).bind fun t312 => (r13_Get.j0 k t308 (t312 != 0) t305 t306 t307)) else (none)) = some (r1, r2, r3, r4) := H
     have A12 := mA A120
     clear A120
     by_cases c13 : t311.size + a2.size ≤ 9223372036854775807
     ·rw [if_pos c13] at H
      have c13b0 := eq_true c13
      have c13b1 : decide (t311.size + a2.size ≤ 9223372036854775807) = true := decide_eq_true c13
      try have c13b2 : (9223372036854775807 < t311.size + a2.size) = False := eq_false (Nat.not_lt.2 c13)
      replace H := Option.bind_eq_some_iff.mp H
      obtain ⟨t312, A140, H⟩ := H
      replace H : (r13_Get.j0 k t308 (t312 != 0) t305 t306 t307) = some (r1, r2, r3, r4) := H
      have A14 := mA A140
      clear A140
      have H' := mA H
      clear H
      go_wp2_with (first | (go_at_call 81; (with_reducible refine (palanquinref02_Pseudo.calls k a0 a1 17 (a2.size : Int) t311 _ A12.out).mono ?_); rintro e w15 ⟨rfl, hb⟩; have n0_ := mA (blk_below (g := gb310) (o := .cells #[.int .i64 t305, .int .i64 t306, .string t307] 81 (0, 0)) (by (with_reducible repeat (first | apply kN | apply kD | apply kA)); refine blk_put (cs := #[.int .i64 t305, .int .i64 t306, .string (⟨#[]⟩ : ByteArray)]) ?_ 2 _ (by first | rfl | (simp [*]; done)); (with_reducible repeat (first | apply kN | apply kD | apply kA)); refine blk_put (cs := #[.int .i64 t305, .int .i64 0, .string (⟨#[]⟩ : ByteArray)]) ?_ 1 _ (by first | rfl | (simp [*]; done)); (with_reducible repeat (first | apply kN | apply kD | apply kA)); refine blk_put (cs := #[.int .i64 0, .int .i64 0, .string (⟨#[]⟩ : ByteArray)]) ?_ 0 _ (by first | rfl | (simp [*]; done)); (with_reducible repeat (first | apply kN | apply kD | apply kA)); exact BK310.out) hb); have n1_ := mA (bP (by repeat (first | (with_reducible first | exact HB.out | apply bA | apply bN | apply bD | refine bS ?_ GE310.out) | exact HB.out)) hb); clear BK310; clear HB; have BK310 := n0_; have HB := n1_; clear n0_ n1_; (try clear hb); (try clear hb2); (try clear hk); (try clear hi)) | (go_at_call 62; (with_reducible refine (palanquinref02_Sum.calls k (t311 ++ a2) t312 _ A14.out).mono ?_); rintro e w16 ⟨rfl, hb⟩; have n0_ := mA (blk_below (g := gb310) (o := .cells #[.int .i64 t305, .int .i64 t306, .string t307] 81 (0, 0)) (by (with_reducible repeat (first | apply kN | apply kD | apply kA)); exact BK310.out) hb); have n1_ := mA (bP (by repeat (first | (with_reducible first | exact HB.out | apply bA | apply bN | apply bD | refine bS ?_ GE310.out) | exact HB.out)) hb); clear BK310; clear HB; have BK310 := n0_; have HB := n1_; clear n0_ n1_; (try clear hb); (try clear hb2); (try clear hk); (try clear hi)))
      repeat (go_quiet (first | (go_at_call 81; (with_reducible refine (palanquinref02_Pseudo.calls k a0 a1 17 (a2.size : Int) t311 _ A12.out).mono ?_); rintro e w15 ⟨rfl, hb⟩; have n0_ := mA (blk_below (g := gb310) (o := .cells #[.int .i64 t305, .int .i64 t306, .string t307] 81 (0, 0)) (by (with_reducible repeat (first | apply kN | apply kD | apply kA)); refine blk_put (cs := #[.int .i64 t305, .int .i64 t306, .string (⟨#[]⟩ : ByteArray)]) ?_ 2 _ (by first | rfl | (simp [*]; done)); (with_reducible repeat (first | apply kN | apply kD | apply kA)); refine blk_put (cs := #[.int .i64 t305, .int .i64 0, .string (⟨#[]⟩ : ByteArray)]) ?_ 1 _ (by first | rfl | (simp [*]; done)); (with_reducible repeat (first | apply kN | apply kD | apply kA)); refine blk_put (cs := #[.int .i64 0, .int .i64 0, .string (⟨#[]⟩ : ByteArray)]) ?_ 0 _ (by first | rfl | (simp [*]; done)); (with_reducible repeat (first | apply kN | apply kD | apply kA)); exact BK310.out) hb); have n1_ := mA (bP (by repeat (first | (with_reducible first | exact HB.out | apply bA | apply bN | apply bD | refine bS ?_ GE310.out) | exact HB.out)) hb); clear BK310; clear HB; have BK310 := n0_; have HB := n1_; clear n0_ n1_; (try clear hb); (try clear hb2); (try clear hk); (try clear hi)) | (go_at_call 62; (with_reducible refine (palanquinref02_Sum.calls k (t311 ++ a2) t312 _ A14.out).mono ?_); rintro e w16 ⟨rfl, hb⟩; have n0_ := mA (blk_below (g := gb310) (o := .cells #[.int .i64 t305, .int .i64 t306, .string t307] 81 (0, 0)) (by (with_reducible repeat (first | apply kN | apply kD | apply kA)); exact BK310.out) hb); have n1_ := mA (bP (by repeat (first | (with_reducible first | exact HB.out | apply bA | apply bN | apply bD | refine bS ?_ GE310.out) | exact HB.out)) hb); clear BK310; clear HB; have BK310 := n0_; have HB := n1_; clear n0_ n1_; (try clear hb); (try clear hb2); (try clear hk); (try clear hi))); try go_wp2_with (first | (go_at_call 81; (with_reducible refine (palanquinref02_Pseudo.calls k a0 a1 17 (a2.size : Int) t311 _ A12.out).mono ?_); rintro e w15 ⟨rfl, hb⟩; have n0_ := mA (blk_below (g := gb310) (o := .cells #[.int .i64 t305, .int .i64 t306, .string t307] 81 (0, 0)) (by (with_reducible repeat (first | apply kN | apply kD | apply kA)); refine blk_put (cs := #[.int .i64 t305, .int .i64 t306, .string (⟨#[]⟩ : ByteArray)]) ?_ 2 _ (by first | rfl | (simp [*]; done)); (with_reducible repeat (first | apply kN | apply kD | apply kA)); refine blk_put (cs := #[.int .i64 t305, .int .i64 0, .string (⟨#[]⟩ : ByteArray)]) ?_ 1 _ (by first | rfl | (simp [*]; done)); (with_reducible repeat (first | apply kN | apply kD | apply kA)); refine blk_put (cs := #[.int .i64 0, .int .i64 0, .string (⟨#[]⟩ : ByteArray)]) ?_ 0 _ (by first | rfl | (simp [*]; done)); (with_reducible repeat (first | apply kN | apply kD | apply kA)); exact BK310.out) hb); have n1_ := mA (bP (by repeat (first | (with_reducible first | exact HB.out | apply bA | apply bN | apply bD | refine bS ?_ GE310.out) | exact HB.out)) hb); clear BK310; clear HB; have BK310 := n0_; have HB := n1_; clear n0_ n1_; (try clear hb); (try clear hb2); (try clear hk); (try clear hi)) | (go_at_call 62; (with_reducible refine (palanquinref02_Sum.calls k (t311 ++ a2) t312 _ A14.out).mono ?_); rintro e w16 ⟨rfl, hb⟩; have n0_ := mA (blk_below (g := gb310) (o := .cells #[.int .i64 t305, .int .i64 t306, .string t307] 81 (0, 0)) (by (with_reducible repeat (first | apply kN | apply kD | apply kA)); exact BK310.out) hb); have n1_ := mA (bP (by repeat (first | (with_reducible first | exact HB.out | apply bA | apply bN | apply bD | refine bS ?_ GE310.out) | exact HB.out)) hb); clear BK310; clear HB; have BK310 := n0_; have HB := n1_; clear n0_ n1_; (try clear hb); (try clear hb2); (try clear hk); (try clear hi))))
      go_meet
      case rel => exact ⟨_, ((t312 != 0)), (by first | rfl | (simp; done) | (simp [*]; done)), H', ⟨by first | omega | exact Nat.le_refl _⟩, ⟨by (with_reducible repeat (first | apply kN | apply kD | apply kA)); exact BK310.out⟩, ⟨by repeat (first | (with_reducible first | exact HB.out | apply bA | apply bN | apply bD | refine bS ?_ GE310.out) | exact HB.out)⟩⟩
     ·rw [if_neg c13] at H
      exact absurd H (by simp)
   case rest =>
    clear HC7
    try clear c1
    try clear p2
    try clear c3
    try clear c5
    try clear c5b0
    try clear c5b1
    try clear c6
    try clear c6b0
    try clear c6b1
    try clear c11
    try clear c11b0
    try clear c11b1
    try clear c13
    try clear c13b0
    try clear c13b1
    try clear c13b2
    try clear hcz10_0
    try clear hcz10_1
    try clear hcz10_2
    try clear hfz10_0
    try clear hfz10_1
    try clear hfz10_2
    obtain ⟨kq, x39_6, rfl, HA, HJ6, BK310, HB⟩ := hcut
    cases kq with
    | zero => exact absurd HA.out (by simp [r13_Get.j0])
    | succ kj6 =>
     have H := HA.out
     clear HA
     simp only [r13_Get.j0] at H
     by_cases c17 : x39_6 = true
     ·subst c17
      have H1 : (some (0, false, (⟨#[]⟩ : ByteArray), 5)) = some (r1, r2, r3, r4) := by rw [if_pos rfl] at H; exact H
      clear H
      have H := H1
      clear H1
      simp only [Option.some.injEq, Prod.mk.injEq] at H
      obtain ⟨rfl, rfl, rfl, rfl⟩ := H
      go_wp2
      repeat (go_quiet (fail); try go_wp2)
      refine bodyPost_ret (results_list (rs := [.tmp 6, .tmp 7, .tmp 8, .tmp 9]) rfl (by simp) (.tmp (.tmp (.tmp (.tmp .nil))))) rfl ?_
      exact ⟨by first | rfl | (simp [errW_none, errW_some] <;> rfl) | (simp [*, errW_none, errW_some] <;> rfl), by repeat (first | (with_reducible first | exact HB.out | apply bA | apply bN | apply bD | refine bS ?_ GE310.out) | exact HB.out)⟩
     ·replace c17 := Bool.eq_false_iff.mpr c17
      subst c17
      have H1 : (if (t307.size : Int) < 4 then (some (0, false, (⟨#[]⟩ : ByteArray), 2)) else (if 0 < (t307.size : Int) then (if (bt t307 0) ≥ 64 then (some (0, false, (⟨#[]⟩ : ByteArray), 3)) else (if (bt t307 0) = 0 then (if 2 < (t307.size : Int) then (if (bt t307 2) = 0 then (if 3 < (t307.size : Int) then (r13_Get.j1 kj6 t308 t307 ((bt t307 3) != 0) t305 t306 t307) else (none)) else (r13_Get.j1 kj6 t308 t307 true t305 t306 t307)) else (none)) else (r13_Get.j1 kj6 t308 t307 true t305 t306 t307))) else (none))) = some (r1, r2, r3, r4) := by rw [if_neg (show ¬ (false = true) by decide)] at H; exact H
      clear H
      have H := H1
      clear H1
      by_cases c18 : (t307.size : Int) < 4
      ·rw [if_pos c18] at H
       have c18b0 : decide ((t307.size : Int) < 4) = true := decide_eq_true c18
       have c18b1 : decide (t307.size < 4) = true := decide_eq_true (by omega)
       clear c18
       simp only [Option.some.injEq, Prod.mk.injEq] at H
       obtain ⟨rfl, rfl, rfl, rfl⟩ := H
       have hcz19_0 : wc.cell? ⟨gb310, 0, none⟩ = some (.int .i64 t305) := (zC BK310.out 0).trans rfl
       have hcz19_1 : wc.cell? ⟨gb310, 1, none⟩ = some (.int .i64 t306) := (zC BK310.out 1).trans rfl
       have hcz19_2 : wc.cell? ⟨gb310, 2, none⟩ = some (.string t307) := (zC BK310.out 2).trans rfl
       have hfz19_0 := zF BK310.out 0
       have hfz19_1 := zF BK310.out 1
       have hfz19_2 := zF BK310.out 2
       go_wp2
       repeat (go_quiet (fail); try go_wp2)
       refine bodyPost_ret (results_list (rs := [.tmp 6, .tmp 7, .tmp 8, .tmp 9]) rfl (by simp) (.tmp (.tmp (.tmp (.tmp .nil))))) rfl ?_
       exact ⟨by first | rfl | (simp [errW_none, errW_some] <;> rfl) | (simp [*, errW_none, errW_some] <;> rfl), by repeat (first | (with_reducible first | exact HB.out | apply bA | apply bN | apply bD | refine bS ?_ GE310.out) | exact HB.out)⟩
      ·rw [if_neg c18] at H
       have c18b0 : decide ((t307.size : Int) < 4) = false := decide_eq_false c18
       have c18b1 : decide (t307.size < 4) = false := decide_eq_false (by omega)
       clear c18
       by_cases c20 : 0 < (t307.size : Int)
       ·rw [if_pos c20] at H
        have c20b0 : decide (0 < (t307.size : Int)) = true := decide_eq_true c20
        have c20b1 : decide (0 < t307.size) = true := decide_eq_true (by omega)
        clear c20
        by_cases c22 : (bt t307 0) ≥ 64
        ·rw [if_pos c22] at H
         have c22b0 : decide (64 ≤ (bt t307 0)) = true := decide_eq_true c22
         clear c22
         simp only [Option.some.injEq, Prod.mk.injEq] at H
         obtain ⟨rfl, rfl, rfl, rfl⟩ := H
         have hcz23_0 : wc.cell? ⟨gb310, 0, none⟩ = some (.int .i64 t305) := (zC BK310.out 0).trans rfl
         have hcz23_1 : wc.cell? ⟨gb310, 1, none⟩ = some (.int .i64 t306) := (zC BK310.out 1).trans rfl
         have hcz23_2 : wc.cell? ⟨gb310, 2, none⟩ = some (.string t307) := (zC BK310.out 2).trans rfl
         have hfz23_0 := zF BK310.out 0
         have hfz23_1 := zF BK310.out 1
         have hfz23_2 := zF BK310.out 2
         have p21 : 0 ≤ (0 : Int) := (by omega)
         have q21 : 0 < t307.size := (by have : (0 : Int) < (t307.size : Int) := of_decide_eq_true (by first | (with_reducible assumption) | assumption); omega)
         have hx21 : ∀ h : 0 < t307.size, ((t307[0]'h).toNat : Int) = bt t307 0 := bt_at t307 0
         clear p21
         have qi21 : (0 < (t307.size : Int)) = True := eq_true (of_decide_eq_true (by first | (with_reducible assumption) | assumption))
         replace q21 := eq_true q21
         go_wp2
         repeat (go_quiet (fail); try go_wp2)
         refine bodyPost_ret (results_list (rs := [.tmp 6, .tmp 7, .tmp 8, .tmp 9]) rfl (by simp) (.tmp (.tmp (.tmp (.tmp .nil))))) rfl ?_
         exact ⟨by first | rfl | (simp [errW_none, errW_some] <;> rfl) | (simp [*, errW_none, errW_some] <;> rfl), by repeat (first | (with_reducible first | exact HB.out | apply bA | apply bN | apply bD | refine bS ?_ GE310.out) | exact HB.out)⟩
        ·rw [if_neg c22] at H
         have c22b0 : decide (64 ≤ (bt t307 0)) = false := decide_eq_false c22
         clear c22
         have HC24 := mA H
         clear H
         have hcz25_0 : wc.cell? ⟨gb310, 0, none⟩ = some (.int .i64 t305) := (zC BK310.out 0).trans rfl
         have hcz25_1 : wc.cell? ⟨gb310, 1, none⟩ = some (.int .i64 t306) := (zC BK310.out 1).trans rfl
         have hcz25_2 : wc.cell? ⟨gb310, 2, none⟩ = some (.string t307) := (zC BK310.out 2).trans rfl
         have hfz25_0 := zF BK310.out 0
         have hfz25_1 := zF BK310.out 1
         have hfz25_2 := zF BK310.out 2
         have p21 : 0 ≤ (0 : Int) := (by omega)
         have q21 : 0 < t307.size := (by have : (0 : Int) < (t307.size : Int) := of_decide_eq_true (by first | (with_reducible assumption) | assumption); omega)
         have hx21 : ∀ h : 0 < t307.size, ((t307[0]'h).toNat : Int) = bt t307 0 := bt_at t307 0
         clear p21
         have qi21 : (0 < (t307.size : Int)) = True := eq_true (of_decide_eq_true (by first | (with_reducible assumption) | assumption))
         replace q21 := eq_true q21
         go_upto_region 13 with (fail)
         repeat (go_quiet (fail); go_upto_region 13 with (fail))
         go_cut [60] (fun v60 wc => ∃ (kq : Nat) (x60_23 : Bool), v60 = .bool x60_23 ∧ Aside0 (r13_Get.j1 kq t308 t307 x60_23 t305 t306 t307 = some (r1, r2, r3, r4)) ∧ Aside0 (kq ≤ kj6) ∧ Aside0 (wc.heap[gb310]? = some (.cells #[.int .i64 t305, .int .i64 t306, .string t307] 81 (0, 0))) ∧ Aside0 (Below w.heap.size w wc))
         case first =>
          have H := HC24.out
          clear HC24
          by_cases c27 : (bt t307 0) = 0
          ·rw [if_pos c27] at H
           have c27b0 : ((bt t307 0) == 0) = true := beq_iff_eq.mpr c27
           have c27b1 : ((bt t307 0) != 0) = false := bne_eq_false_iff_eq.mpr c27
           clear c27
           (first | rw [c27b0] | (simp only [i64_w, i32_w]; rw [c27b0]) | skip)
           by_cases c28 : 2 < (t307.size : Int)
           ·rw [if_pos c28] at H
            have c28b0 : decide (2 < (t307.size : Int)) = true := decide_eq_true c28
            have c28b1 : decide (2 < t307.size) = true := decide_eq_true (by omega)
            clear c28
            by_cases c30 : (bt t307 2) = 0
            ·rw [if_pos c30] at H
             have c30b0 : ((bt t307 2) == 0) = true := beq_iff_eq.mpr c30
             have c30b1 : ((bt t307 2) != 0) = false := bne_eq_false_iff_eq.mpr c30
             clear c30
             by_cases c31 : 3 < (t307.size : Int)
             ·rw [if_pos c31] at H
              have c31b0 : decide (3 < (t307.size : Int)) = true := decide_eq_true c31
              have c31b1 : decide (3 < t307.size) = true := decide_eq_true (by omega)
              clear c31
              have H' := mA H
              clear H
              have p26 : 0 ≤ (0 : Int) := (by omega)
              have q26 : 0 < t307.size := (by have : (0 : Int) < (t307.size : Int) := of_decide_eq_true (by first | (with_reducible assumption) | assumption); omega)
              have hx26 : ∀ h : 0 < t307.size, ((t307[0]'h).toNat : Int) = bt t307 0 := bt_at t307 0
              clear p26
              have qi26 : (0 < (t307.size : Int)) = True := eq_true (of_decide_eq_true (by first | (with_reducible assumption) | assumption))
              replace q26 := eq_true q26
              have p29 : 0 ≤ (2 : Int) := (by omega)
              have q29 : 2 < t307.size := (by have : (2 : Int) < (t307.size : Int) := of_decide_eq_true (by first | (with_reducible assumption) | assumption); omega)
              have hx29 : ∀ h : 2 < t307.size, ((t307[2]'h).toNat : Int) = bt t307 2 := bt_at t307 2
              clear p29
              have qi29 : (2 < (t307.size : Int)) = True := eq_true (of_decide_eq_true (by first | (with_reducible assumption) | assumption))
              replace q29 := eq_true q29
              have p32 : 0 ≤ (3 : Int) := (by omega)
              have q32 : 3 < t307.size := (by have : (3 : Int) < (t307.size : Int) := of_decide_eq_true (by first | (with_reducible assumption) | assumption); omega)
              have hx32 : ∀ h : 3 < t307.size, ((t307[3]'h).toNat : Int) = bt t307 3 := bt_at t307 3
              clear p32
              have qi32 : (3 < (t307.size : Int)) = True := eq_true (of_decide_eq_true (by first | (with_reducible assumption) | assumption))
              replace q32 := eq_true q32
              go_wp2
              repeat (go_quiet (fail); try go_wp2)
              go_meet
              case rel => exact ⟨_, (((bt t307 3) != 0)), (by first | rfl | (simp; done) | (simp [*]; done)), H', ⟨by have := HJ6.out; first | omega | exact Nat.le_refl _⟩, ⟨by (with_reducible repeat (first | apply kN | apply kD | apply kA)); exact BK310.out⟩, ⟨by repeat (first | (with_reducible first | exact HB.out | apply bA | apply bN | apply bD | refine bS ?_ GE310.out) | exact HB.out)⟩⟩
             ·rw [if_neg c31] at H
              exact absurd H (by simp)
            ·rw [if_neg c30] at H
             have c30b0 : ((bt t307 2) == 0) = false := beq_eq_false_iff_ne.mpr c30
             have c30b1 : ((bt t307 2) != 0) = true := bne_iff_ne.mpr c30
             have H' := mA H
             clear H
             have p26 : 0 ≤ (0 : Int) := (by omega)
             have q26 : 0 < t307.size := (by have : (0 : Int) < (t307.size : Int) := of_decide_eq_true (by first | (with_reducible assumption) | assumption); omega)
             have hx26 : ∀ h : 0 < t307.size, ((t307[0]'h).toNat : Int) = bt t307 0 := bt_at t307 0
             clear p26
             have qi26 : (0 < (t307.size : Int)) = True := eq_true (of_decide_eq_true (by first | (with_reducible assumption) | assumption))
             replace q26 := eq_true q26
             have p29 : 0 ≤ (2 : Int) := (by omega)
             have q29 : 2 < t307.size := (by have : (2 : Int) < (t307.size : Int) := of_decide_eq_true (by first | (with_reducible assumption) | assumption); omega)
             have hx29 : ∀ h : 2 < t307.size, ((t307[2]'h).toNat : Int) = bt t307 2 := bt_at t307 2
             clear p29
             have qi29 : (2 < (t307.size : Int)) = True := eq_true (of_decide_eq_true (by first | (with_reducible assumption) | assumption))
             replace q29 := eq_true q29
             go_wp2
             repeat (go_quiet (fail); try go_wp2)
             go_meet
             case rel => exact ⟨_, (true), (by first | rfl | (simp; done) | (simp [*]; done)), H', ⟨by have := HJ6.out; first | omega | exact Nat.le_refl _⟩, ⟨by (with_reducible repeat (first | apply kN | apply kD | apply kA)); exact BK310.out⟩, ⟨by repeat (first | (with_reducible first | exact HB.out | apply bA | apply bN | apply bD | refine bS ?_ GE310.out) | exact HB.out)⟩⟩
           ·rw [if_neg c28] at H
            exact absurd H (by simp)
          ·rw [if_neg c27] at H
           have c27b0 : ((bt t307 0) == 0) = false := beq_eq_false_iff_ne.mpr c27
           have c27b1 : ((bt t307 0) != 0) = true := bne_iff_ne.mpr c27
           (first | rw [c27b0] | (simp only [i64_w, i32_w]; rw [c27b0]) | skip)
           have H' := mA H
           clear H
           have p26 : 0 ≤ (0 : Int) := (by omega)
           have q26 : 0 < t307.size := (by have : (0 : Int) < (t307.size : Int) := of_decide_eq_true (by first | (with_reducible assumption) | assumption); omega)
           have hx26 : ∀ h : 0 < t307.size, ((t307[0]'h).toNat : Int) = bt t307 0 := bt_at t307 0
           clear p26
           have qi26 : (0 < (t307.size : Int)) = True := eq_true (of_decide_eq_true (by first | (with_reducible assumption) | assumption))
           replace q26 := eq_true q26
           go_wp2
           repeat (go_quiet (fail); try go_wp2)
           go_meet
           case rel => exact ⟨_, (true), (by first | rfl | (simp; done) | (simp [*]; done)), H', ⟨by have := HJ6.out; first | omega | exact Nat.le_refl _⟩, ⟨by (with_reducible repeat (first | apply kN | apply kD | apply kA)); exact BK310.out⟩, ⟨by repeat (first | (with_reducible first | exact HB.out | apply bA | apply bN | apply bD | refine bS ?_ GE310.out) | exact HB.out)⟩⟩
         case rest =>
          clear HC24
          try clear c1
          try clear c2
          try clear p2
          try clear q2
          try clear hx2
          try clear qi2
          try clear c3
          try clear p3
          try clear q3
          try clear hx3
          try clear qi3
          try clear c5
          try clear c5b0
          try clear c5b1
          try clear c6
          try clear c6b0
          try clear c6b1
          try clear c11
          try clear c11b0
          try clear c11b1
          try clear c13
          try clear c13b0
          try clear c13b1
          try clear c13b2
          try clear c17
          try clear c18
          try clear c18b0
          try clear c18b1
          try clear c20
          try clear c20b0
          try clear c20b1
          try clear p21
          try clear q21
          try clear hx21
          try clear qi21
          try clear c22
          try clear c22b0
          try clear p26
          try clear q26
          try clear hx26
          try clear qi26
          try clear c27
          try clear c27b0
          try clear c27b1
          try clear c28
          try clear c28b0
          try clear c28b1
          try clear p29
          try clear q29
          try clear hx29
          try clear qi29
          try clear c30
          try clear c30b0
          try clear c30b1
          try clear c31
          try clear c31b0
          try clear c31b1
          try clear p32
          try clear q32
          try clear hx32
          try clear qi32
          try clear hcz10_0
          try clear hcz10_1
          try clear hcz10_2
          try clear hcz19_0
          try clear hcz19_1
          try clear hcz19_2
          try clear hcz23_0
          try clear hcz23_1
          try clear hcz23_2
          try clear hcz25_0
          try clear hcz25_1
          try clear hcz25_2
          try clear hfz10_0
          try clear hfz10_1
          try clear hfz10_2
          try clear hfz19_0
          try clear hfz19_1
          try clear hfz19_2
          try clear hfz23_0
          try clear hfz23_1
          try clear hfz23_2
          try clear hfz25_0
          try clear hfz25_1
          try clear hfz25_2
          try clear p2
          try clear p21
          try clear p26
          try clear p29
          try clear p32
          try clear q21
          try clear q26
          try clear q29
          try clear q32
          obtain ⟨kq, x60_23, rfl, HA, HJ23, BK310, HB⟩ := hcut
          cases kq with
          | zero => exact absurd HA.out (by simp [r13_Get.j1])
          | succ kj23 =>
           have H := HA.out
           clear HA
           simp only [r13_Get.j1] at H
           by_cases c33 : x60_23 = true
           ·subst c33
            have H1 : (some (0, false, (⟨#[]⟩ : ByteArray), 9)) = some (r1, r2, r3, r4) := by rw [if_pos rfl] at H; exact H
            clear H
            have H := H1
            clear H1
            simp only [Option.some.injEq, Prod.mk.injEq] at H
            obtain ⟨rfl, rfl, rfl, rfl⟩ := H
            go_wp2
            repeat (go_quiet (fail); try go_wp2)
            refine bodyPost_ret (results_list (rs := [.tmp 6, .tmp 7, .tmp 8, .tmp 9]) rfl (by simp) (.tmp (.tmp (.tmp (.tmp .nil))))) rfl ?_
            exact ⟨by first | rfl | (simp [errW_none, errW_some] <;> rfl) | (simp [*, errW_none, errW_some] <;> rfl), by repeat (first | (with_reducible first | exact HB.out | apply bA | apply bN | apply bD | refine bS ?_ GE310.out) | exact HB.out)⟩
           ·replace c33 := Bool.eq_false_iff.mpr c33
            subst c33
            have H1 : (if 1 < (t307.size : Int) then (if 4 ≤ (t307.size : Int) then ((palanquinref11_Get.f kj23 (wrap64 (bt t307 1)) (t307.extract 4 t307.size)).bind fun bt313 => (if bt313.2 = 0 then (some (t305, (t308 != 0), bt313.1, 0)) else (some (0, false, (⟨#[]⟩ : ByteArray), bt313.2)))) else (none)) else (none)) = some (r1, r2, r3, r4) := by rw [if_neg (show ¬ (false = true) by decide)] at H; exact H
            clear H
            have H := H1
            clear H1
            by_cases c34 : 1 < (t307.size : Int)
            ·rw [if_pos c34] at H
             have c34b0 : decide (1 < (t307.size : Int)) = true := decide_eq_true c34
             have c34b1 : decide (1 < t307.size) = true := decide_eq_true (by omega)
             clear c34
             by_cases c36 : 4 ≤ (t307.size : Int)
             ·rw [if_pos c36] at H
              have c36b0 := eq_true c36
              have c36b1 : decide (4 ≤ (t307.size : Int)) = true := decide_eq_true c36
              clear c36
              replace H := Option.bind_eq_some_iff.mp H
              obtain ⟨⟨t313, t314⟩, A370, H⟩ := H
              replace H : (if t314 = 0 then (some (t305, (t308 != 0), t313, 0)) else (some (0, false, (⟨#[]⟩ : ByteArray), t314))) = some (r1, r2, r3, r4) := H
              have A37 := mA A370
              clear A370
              by_cases c38 : t314 = 0
              ·rw [if_pos c38] at H
               have c38b0 : (t314 == 0) = true := beq_iff_eq.mpr c38
               have c38b1 : (t314 != 0) = false := bne_eq_false_iff_eq.mpr c38
               clear c38
               simp only [Option.some.injEq, Prod.mk.injEq] at H
               obtain ⟨rfl, rfl, rfl, rfl⟩ := H
               have p35 : 0 ≤ (1 : Int) := (by omega)
               have q35 : 1 < t307.size := (by have : (1 : Int) < (t307.size : Int) := of_decide_eq_true (by first | (with_reducible assumption) | assumption); omega)
               have hx35 : ∀ h : 1 < t307.size, ((t307[1]'h).toNat : Int) = bt t307 1 := bt_at t307 1
               clear p35
               have qi35 : (1 < (t307.size : Int)) = True := eq_true (of_decide_eq_true (by first | (with_reducible assumption) | assumption))
               replace q35 := eq_true q35
               go_wp2_with (first | (go_at_call 27; (with_reducible refine (palanquinref11_Get.calls kj23 (wrap64 (bt t307 1)) (t307.extract 4 t307.size) t313 t314 _ A37.out).mono ?_); rintro e w' ⟨rfl, ⟨nd, rfl⟩⟩; (try first | exact ⟨rfl, _, World.drewN_drewN _ _ _⟩ | exact ⟨rfl, _, Eq.trans (World.drewN_drewN _ _ _) (congrArg (World.drewN _) (Nat.add_assoc _ _ _))⟩); have hcz39_0 : wc.cell? ⟨gb310, 0, none⟩ = some (.int .i64 t305) := (zC BK310.out 0).trans rfl; have hcz39_1 : wc.cell? ⟨gb310, 1, none⟩ = some (.int .i64 t306) := (zC BK310.out 1).trans rfl; have hcz39_2 : wc.cell? ⟨gb310, 2, none⟩ = some (.string t307) := (zC BK310.out 2).trans rfl; have hfz39_0 := zF BK310.out 0; have hfz39_1 := zF BK310.out 1; have hfz39_2 := zF BK310.out 2))
               try have hcz39_0 : wc.cell? ⟨gb310, 0, none⟩ = some (.int .i64 t305) := (zC BK310.out 0).trans rfl
               try have hcz39_1 : wc.cell? ⟨gb310, 1, none⟩ = some (.int .i64 t306) := (zC BK310.out 1).trans rfl
               try have hcz39_2 : wc.cell? ⟨gb310, 2, none⟩ = some (.string t307) := (zC BK310.out 2).trans rfl
               try have hfz39_0 := zF BK310.out 0
               try have hfz39_1 := zF BK310.out 1
               try have hfz39_2 := zF BK310.out 2
               repeat (go_quiet (first | (go_at_call 27; (with_reducible refine (palanquinref11_Get.calls kj23 (wrap64 (bt t307 1)) (t307.extract 4 t307.size) t313 t314 _ A37.out).mono ?_); rintro e w' ⟨rfl, ⟨nd, rfl⟩⟩; (try first | exact ⟨rfl, _, World.drewN_drewN _ _ _⟩ | exact ⟨rfl, _, Eq.trans (World.drewN_drewN _ _ _) (congrArg (World.drewN _) (Nat.add_assoc _ _ _))⟩); try have hcz39_0 : wc.cell? ⟨gb310, 0, none⟩ = some (.int .i64 t305) := (zC BK310.out 0).trans rfl; try have hcz39_1 : wc.cell? ⟨gb310, 1, none⟩ = some (.int .i64 t306) := (zC BK310.out 1).trans rfl; try have hcz39_2 : wc.cell? ⟨gb310, 2, none⟩ = some (.string t307) := (zC BK310.out 2).trans rfl; try have hfz39_0 := zF BK310.out 0; try have hfz39_1 := zF BK310.out 1; try have hfz39_2 := zF BK310.out 2)); try go_wp2_with (first | (go_at_call 27; (with_reducible refine (palanquinref11_Get.calls kj23 (wrap64 (bt t307 1)) (t307.extract 4 t307.size) t313 t314 _ A37.out).mono ?_); rintro e w' ⟨rfl, ⟨nd, rfl⟩⟩; (try first | exact ⟨rfl, _, World.drewN_drewN _ _ _⟩ | exact ⟨rfl, _, Eq.trans (World.drewN_drewN _ _ _) (congrArg (World.drewN _) (Nat.add_assoc _ _ _))⟩); try have hcz39_0 : wc.cell? ⟨gb310, 0, none⟩ = some (.int .i64 t305) := (zC BK310.out 0).trans rfl; try have hcz39_1 : wc.cell? ⟨gb310, 1, none⟩ = some (.int .i64 t306) := (zC BK310.out 1).trans rfl; try have hcz39_2 : wc.cell? ⟨gb310, 2, none⟩ = some (.string t307) := (zC BK310.out 2).trans rfl; try have hfz39_0 := zF BK310.out 0; try have hfz39_1 := zF BK310.out 1; try have hfz39_2 := zF BK310.out 2)))
               refine bodyPost_ret (results_list (rs := [.tmp 6, .tmp 7, .tmp 8, .tmp 9]) rfl (by simp) (.tmp (.tmp (.tmp (.tmp .nil))))) rfl ?_
               exact ⟨by first | rfl | (simp [errW_none, errW_some] <;> rfl) | (simp [*, errW_none, errW_some] <;> rfl), by repeat (first | (with_reducible first | exact HB.out | apply bA | apply bN | apply bD | refine bS ?_ GE310.out) | exact HB.out)⟩
              ·rw [if_neg c38] at H
               have c38b0 : (t314 == 0) = false := beq_eq_false_iff_ne.mpr c38
               have c38b1 : (t314 != 0) = true := bne_iff_ne.mpr c38
               simp only [Option.some.injEq, Prod.mk.injEq] at H
               obtain ⟨rfl, rfl, rfl, rfl⟩ := H
               have p35 : 0 ≤ (1 : Int) := (by omega)
               have q35 : 1 < t307.size := (by have : (1 : Int) < (t307.size : Int) := of_decide_eq_true (by first | (with_reducible assumption) | assumption); omega)
               have hx35 : ∀ h : 1 < t307.size, ((t307[1]'h).toNat : Int) = bt t307 1 := bt_at t307 1
               clear p35
               have qi35 : (1 < (t307.size : Int)) = True := eq_true (of_decide_eq_true (by first | (with_reducible assumption) | assumption))
               replace q35 := eq_true q35
               go_wp2_with (first | (go_at_call 27; (with_reducible refine (palanquinref11_Get.calls kj23 (wrap64 (bt t307 1)) (t307.extract 4 t307.size) t313 t314 _ A37.out).mono ?_); rintro e w' ⟨rfl, ⟨nd, rfl⟩⟩; (try first | exact ⟨rfl, _, World.drewN_drewN _ _ _⟩ | exact ⟨rfl, _, Eq.trans (World.drewN_drewN _ _ _) (congrArg (World.drewN _) (Nat.add_assoc _ _ _))⟩)))
               repeat (go_quiet (first | (go_at_call 27; (with_reducible refine (palanquinref11_Get.calls kj23 (wrap64 (bt t307 1)) (t307.extract 4 t307.size) t313 t314 _ A37.out).mono ?_); rintro e w' ⟨rfl, ⟨nd, rfl⟩⟩; (try first | exact ⟨rfl, _, World.drewN_drewN _ _ _⟩ | exact ⟨rfl, _, Eq.trans (World.drewN_drewN _ _ _) (congrArg (World.drewN _) (Nat.add_assoc _ _ _))⟩))); try go_wp2_with (first | (go_at_call 27; (with_reducible refine (palanquinref11_Get.calls kj23 (wrap64 (bt t307 1)) (t307.extract 4 t307.size) t313 t314 _ A37.out).mono ?_); rintro e w' ⟨rfl, ⟨nd, rfl⟩⟩; (try first | exact ⟨rfl, _, World.drewN_drewN _ _ _⟩ | exact ⟨rfl, _, Eq.trans (World.drewN_drewN _ _ _) (congrArg (World.drewN _) (Nat.add_assoc _ _ _))⟩))))
               refine bodyPost_ret (results_list (rs := [.tmp 6, .tmp 7, .tmp 8, .tmp 9]) rfl (by simp) (.tmp (.tmp (.tmp (.tmp .nil))))) rfl ?_
               exact ⟨by first | rfl | (simp [errW_none, errW_some] <;> rfl) | (simp [*, errW_none, errW_some] <;> rfl), by repeat (first | (with_reducible first | exact HB.out | apply bA | apply bN | apply bD | refine bS ?_ GE310.out) | exact HB.out)⟩
             ·rw [if_neg c36] at H
              exact absurd H (by simp)
            ·rw [if_neg c34] at H
             exact absurd H (by simp)
       ·rw [if_neg c20] at H
        exact absurd H (by simp)
  ·rw [if_neg c6] at H
   have c6b0 : (t306 == 6080) = false := beq_eq_false_iff_ne.mpr c6
   have c6b1 : (t306 != 6080) = true := bne_iff_ne.mpr c6
   simp only [Option.some.injEq, Prod.mk.injEq] at H
   obtain ⟨rfl, rfl, rfl, rfl⟩ := H
   go_enter Tryd.func39, Tryd.ntmps39
   go_wp2_with (first | (go_at_call 80; (with_reducible refine (r08_Get.calls k a2 t305 t306 t307 t308 t309 _ A4.out).mono ?_); rintro e w40 ⟨rfl, hb⟩; have n0_ := mA (bP (by repeat (first | (with_reducible first | exact HB.out | apply bA | apply bN | apply bD) | exact HB.out)) hb); clear HB; have HB := n0_; clear n0_; (try clear hb); (try clear hb2); (try clear hk); (try clear hi)) | ((with_reducible refine gate_dst (N := 10) rfl ?_); (try (refine gate_guard (by rfl) ?_; dsimp only)); refine box_event ?hg (N := 10) ?hd (cs := #[.int .i64 0, .int .i64 0, .string (⟨#[]⟩ : ByteArray)]) (t := 81) ?hr ?_; (case hd => rfl); (case hg => rfl); (case hr => first | (go_simp; done) | (go_simp; rfl)); intro gb310 hg w41 hbox hb; have n0_ := mA (bP (by repeat (first | (with_reducible first | exact HB.out | apply bA | apply bN | apply bD) | exact HB.out)) hb); have n1_ := mA (hbox); have n2_ := mA ((by rw [hg]; exact (below_size (by repeat (first | (with_reducible first | exact HB.out | apply bA | apply bN | apply bD) | exact HB.out))) : w.heap.size ≤ gb310)); have n3_ := mA ((by rw [hg]; exact (below_size (by repeat (first | (with_reducible first | exact HB.out | apply bA | apply bN | apply bD) | exact HB.out))) : w.heap.size ≤ gb310)); clear HB; have HB := n0_; have BK310 := n1_; have GW310 := n2_; have GE310 := n3_; clear n0_ n1_ n2_ n3_; clear hb hbox hg; have hcz42_0 : w41.cell? ⟨gb310, 0, none⟩ = some (.int .i64 0) := (zC BK310.out 0).trans rfl; have hcz42_1 : w41.cell? ⟨gb310, 1, none⟩ = some (.int .i64 0) := (zC BK310.out 1).trans rfl; have hcz42_2 : w41.cell? ⟨gb310, 2, none⟩ = some (.string (⟨#[]⟩ : ByteArray)) := (zC BK310.out 2).trans rfl; have hfz42_0 := zF BK310.out 0; have hfz42_1 := zF BK310.out 1; have hfz42_2 := zF BK310.out 2))
   try have hcz42_0 : w41.cell? ⟨gb310, 0, none⟩ = some (.int .i64 0) := (zC BK310.out 0).trans rfl
   try have hcz42_1 : w41.cell? ⟨gb310, 1, none⟩ = some (.int .i64 0) := (zC BK310.out 1).trans rfl
   try have hcz42_2 : w41.cell? ⟨gb310, 2, none⟩ = some (.string (⟨#[]⟩ : ByteArray)) := (zC BK310.out 2).trans rfl
   try have hfz42_0 := zF BK310.out 0
   try have hfz42_1 := zF BK310.out 1
   try have hfz42_2 := zF BK310.out 2
   repeat (go_quiet (first | (go_at_call 80; (with_reducible refine (r08_Get.calls k a2 t305 t306 t307 t308 t309 _ A4.out).mono ?_); rintro e w40 ⟨rfl, hb⟩; have n0_ := mA (bP (by repeat (first | (with_reducible first | exact HB.out | apply bA | apply bN | apply bD) | exact HB.out)) hb); clear HB; have HB := n0_; clear n0_; (try clear hb); (try clear hb2); (try clear hk); (try clear hi)) | ((with_reducible refine gate_dst (N := 10) rfl ?_); (try (refine gate_guard (by rfl) ?_; dsimp only)); refine box_event ?hg (N := 10) ?hd (cs := #[.int .i64 0, .int .i64 0, .string (⟨#[]⟩ : ByteArray)]) (t := 81) ?hr ?_; (case hd => rfl); (case hg => rfl); (case hr => first | (go_simp; done) | (go_simp; rfl)); intro gb310 hg w41 hbox hb; have n0_ := mA (bP (by repeat (first | (with_reducible first | exact HB.out | apply bA | apply bN | apply bD) | exact HB.out)) hb); have n1_ := mA (hbox); have n2_ := mA ((by rw [hg]; exact (below_size (by repeat (first | (with_reducible first | exact HB.out | apply bA | apply bN | apply bD) | exact HB.out))) : w.heap.size ≤ gb310)); have n3_ := mA ((by rw [hg]; exact (below_size (by repeat (first | (with_reducible first | exact HB.out | apply bA | apply bN | apply bD) | exact HB.out))) : w.heap.size ≤ gb310)); clear HB; have HB := n0_; have BK310 := n1_; have GW310 := n2_; have GE310 := n3_; clear n0_ n1_ n2_ n3_; clear hb hbox hg; try have hcz42_0 : w41.cell? ⟨gb310, 0, none⟩ = some (.int .i64 0) := (zC BK310.out 0).trans rfl; try have hcz42_1 : w41.cell? ⟨gb310, 1, none⟩ = some (.int .i64 0) := (zC BK310.out 1).trans rfl; try have hcz42_2 : w41.cell? ⟨gb310, 2, none⟩ = some (.string (⟨#[]⟩ : ByteArray)) := (zC BK310.out 2).trans rfl; try have hfz42_0 := zF BK310.out 0; try have hfz42_1 := zF BK310.out 1; try have hfz42_2 := zF BK310.out 2)); try go_wp2_with (first | (go_at_call 80; (with_reducible refine (r08_Get.calls k a2 t305 t306 t307 t308 t309 _ A4.out).mono ?_); rintro e w40 ⟨rfl, hb⟩; have n0_ := mA (bP (by repeat (first | (with_reducible first | exact HB.out | apply bA | apply bN | apply bD) | exact HB.out)) hb); clear HB; have HB := n0_; clear n0_; (try clear hb); (try clear hb2); (try clear hk); (try clear hi)) | ((with_reducible refine gate_dst (N := 10) rfl ?_); (try (refine gate_guard (by rfl) ?_; dsimp only)); refine box_event ?hg (N := 10) ?hd (cs := #[.int .i64 0, .int .i64 0, .string (⟨#[]⟩ : ByteArray)]) (t := 81) ?hr ?_; (case hd => rfl); (case hg => rfl); (case hr => first | (go_simp; done) | (go_simp; rfl)); intro gb310 hg w41 hbox hb; have n0_ := mA (bP (by repeat (first | (with_reducible first | exact HB.out | apply bA | apply bN | apply bD) | exact HB.out)) hb); have n1_ := mA (hbox); have n2_ := mA ((by rw [hg]; exact (below_size (by repeat (first | (with_reducible first | exact HB.out | apply bA | apply bN | apply bD) | exact HB.out))) : w.heap.size ≤ gb310)); have n3_ := mA ((by rw [hg]; exact (below_size (by repeat (first | (with_reducible first | exact HB.out | apply bA | apply bN | apply bD) | exact HB.out))) : w.heap.size ≤ gb310)); clear HB; have HB := n0_; have BK310 := n1_; have GW310 := n2_; have GE310 := n3_; clear n0_ n1_ n2_ n3_; clear hb hbox hg; try have hcz42_0 : w41.cell? ⟨gb310, 0, none⟩ = some (.int .i64 0) := (zC BK310.out 0).trans rfl; try have hcz42_1 : w41.cell? ⟨gb310, 1, none⟩ = some (.int .i64 0) := (zC BK310.out 1).trans rfl; try have hcz42_2 : w41.cell? ⟨gb310, 2, none⟩ = some (.string (⟨#[]⟩ : ByteArray)) := (zC BK310.out 2).trans rfl; try have hfz42_0 := zF BK310.out 0; try have hfz42_1 := zF BK310.out 1; try have hfz42_2 := zF BK310.out 2)))
   refine bodyPost_ret (results_list (rs := [.tmp 6, .tmp 7, .tmp 8, .tmp 9]) rfl (by simp) (.tmp (.tmp (.tmp (.tmp .nil))))) rfl ?_
   exact ⟨by first | rfl | (simp [errW_none, errW_some] <;> rfl) | (simp [*, errW_none, errW_some] <;> rfl), by repeat (first | (with_reducible first | exact HB.out | apply bA | apply bN | apply bD | refine bS ?_ GE310.out) | exact HB.out)⟩
 ·rw [if_neg c5] at H
  have c5b0 : (t309 == 0) = false := beq_eq_false_iff_ne.mpr c5
  have c5b1 : (t309 != 0) = true := bne_iff_ne.mpr c5
  simp only [Option.some.injEq, Prod.mk.injEq] at H
  obtain ⟨rfl, rfl, rfl, rfl⟩ := H
  go_enter Tryd.func39, Tryd.ntmps39
  go_wp2_with (first | (go_at_call 80; (with_reducible refine (r08_Get.calls k a2 t305 t306 t307 t308 t309 _ A4.out).mono ?_); rintro e w43 ⟨rfl, hb⟩; have n0_ := mA (bP (by repeat (first | (with_reducible first | exact HB.out | apply bA | apply bN | apply bD) | exact HB.out)) hb); clear HB; have HB := n0_; clear n0_; (try clear hb); (try clear hb2); (try clear hk); (try clear hi)) | ((with_reducible refine gate_dst (N := 10) rfl ?_); (try (refine gate_guard (by rfl) ?_; dsimp only)); refine box_event ?hg (N := 10) ?hd (cs := #[.int .i64 0, .int .i64 0, .string (⟨#[]⟩ : ByteArray)]) (t := 81) ?hr ?_; (case hd => rfl); (case hg => rfl); (case hr => first | (go_simp; done) | (go_simp; rfl)); intro gb310 hg w44 hbox hb; have n0_ := mA (bP (by repeat (first | (with_reducible first | exact HB.out | apply bA | apply bN | apply bD) | exact HB.out)) hb); have n1_ := mA (hbox); have n2_ := mA ((by rw [hg]; exact (below_size (by repeat (first | (with_reducible first | exact HB.out | apply bA | apply bN | apply bD) | exact HB.out))) : w.heap.size ≤ gb310)); have n3_ := mA ((by rw [hg]; exact (below_size (by repeat (first | (with_reducible first | exact HB.out | apply bA | apply bN | apply bD) | exact HB.out))) : w.heap.size ≤ gb310)); clear HB; have HB := n0_; have BK310 := n1_; have GW310 := n2_; have GE310 := n3_; clear n0_ n1_ n2_ n3_; clear hb hbox hg; have hcz45_0 : w44.cell? ⟨gb310, 0, none⟩ = some (.int .i64 0) := (zC BK310.out 0).trans rfl; have hcz45_1 : w44.cell? ⟨gb310, 1, none⟩ = some (.int .i64 0) := (zC BK310.out 1).trans rfl; have hcz45_2 : w44.cell? ⟨gb310, 2, none⟩ = some (.string (⟨#[]⟩ : ByteArray)) := (zC BK310.out 2).trans rfl; have hfz45_0 := zF BK310.out 0; have hfz45_1 := zF BK310.out 1; have hfz45_2 := zF BK310.out 2))
  try have hcz45_0 : w44.cell? ⟨gb310, 0, none⟩ = some (.int .i64 0) := (zC BK310.out 0).trans rfl
  try have hcz45_1 : w44.cell? ⟨gb310, 1, none⟩ = some (.int .i64 0) := (zC BK310.out 1).trans rfl
  try have hcz45_2 : w44.cell? ⟨gb310, 2, none⟩ = some (.string (⟨#[]⟩ : ByteArray)) := (zC BK310.out 2).trans rfl
  try have hfz45_0 := zF BK310.out 0
  try have hfz45_1 := zF BK310.out 1
  try have hfz45_2 := zF BK310.out 2
  repeat (go_quiet (first | (go_at_call 80; (with_reducible refine (r08_Get.calls k a2 t305 t306 t307 t308 t309 _ A4.out).mono ?_); rintro e w43 ⟨rfl, hb⟩; have n0_ := mA (bP (by repeat (first | (with_reducible first | exact HB.out | apply bA | apply bN | apply bD) | exact HB.out)) hb); clear HB; have HB := n0_; clear n0_; (try clear hb); (try clear hb2); (try clear hk); (try clear hi)) | ((with_reducible refine gate_dst (N := 10) rfl ?_); (try (refine gate_guard (by rfl) ?_; dsimp only)); refine box_event ?hg (N := 10) ?hd (cs := #[.int .i64 0, .int .i64 0, .string (⟨#[]⟩ : ByteArray)]) (t := 81) ?hr ?_; (case hd => rfl); (case hg => rfl); (case hr => first | (go_simp; done) | (go_simp; rfl)); intro gb310 hg w44 hbox hb; have n0_ := mA (bP (by repeat (first | (with_reducible first | exact HB.out | apply bA | apply bN | apply bD) | exact HB.out)) hb); have n1_ := mA (hbox); have n2_ := mA ((by rw [hg]; exact (below_size (by repeat (first | (with_reducible first | exact HB.out | apply bA | apply bN | apply bD) | exact HB.out))) : w.heap.size ≤ gb310)); have n3_ := mA ((by rw [hg]; exact (below_size (by repeat (first | (with_reducible first | exact HB.out | apply bA | apply bN | apply bD) | exact HB.out))) : w.heap.size ≤ gb310)); clear HB; have HB := n0_; have BK310 := n1_; have GW310 := n2_; have GE310 := n3_; clear n0_ n1_ n2_ n3_; clear hb hbox hg; try have hcz45_0 : w44.cell? ⟨gb310, 0, none⟩ = some (.int .i64 0) := (zC BK310.out 0).trans rfl; try have hcz45_1 : w44.cell? ⟨gb310, 1, none⟩ = some (.int .i64 0) := (zC BK310.out 1).trans rfl; try have hcz45_2 : w44.cell? ⟨gb310, 2, none⟩ = some (.string (⟨#[]⟩ : ByteArray)) := (zC BK310.out 2).trans rfl; try have hfz45_0 := zF BK310.out 0; try have hfz45_1 := zF BK310.out 1; try have hfz45_2 := zF BK310.out 2)); try go_wp2_with (first | (go_at_call 80; (with_reducible refine (r08_Get.calls k a2 t305 t306 t307 t308 t309 _ A4.out).mono ?_); rintro e w43 ⟨rfl, hb⟩; have n0_ := mA (bP (by repeat (first | (with_reducible first | exact HB.out | apply bA | apply bN | apply bD) | exact HB.out)) hb); clear HB; have HB := n0_; clear n0_; (try clear hb); (try clear hb2); (try clear hk); (try clear hi)) | ((with_reducible refine gate_dst (N := 10) rfl ?_); (try (refine gate_guard (by rfl) ?_; dsimp only)); refine box_event ?hg (N := 10) ?hd (cs := #[.int .i64 0, .int .i64 0, .string (⟨#[]⟩ : ByteArray)]) (t := 81) ?hr ?_; (case hd => rfl); (case hg => rfl); (case hr => first | (go_simp; done) | (go_simp; rfl)); intro gb310 hg w44 hbox hb; have n0_ := mA (bP (by repeat (first | (with_reducible first | exact HB.out | apply bA | apply bN | apply bD) | exact HB.out)) hb); have n1_ := mA (hbox); have n2_ := mA ((by rw [hg]; exact (below_size (by repeat (first | (with_reducible first | exact HB.out | apply bA | apply bN | apply bD) | exact HB.out))) : w.heap.size ≤ gb310)); have n3_ := mA ((by rw [hg]; exact (below_size (by repeat (first | (with_reducible first | exact HB.out | apply bA | apply bN | apply bD) | exact HB.out))) : w.heap.size ≤ gb310)); clear HB; have HB := n0_; have BK310 := n1_; have GW310 := n2_; have GE310 := n3_; clear n0_ n1_ n2_ n3_; clear hb hbox hg; try have hcz45_0 : w44.cell? ⟨gb310, 0, none⟩ = some (.int .i64 0) := (zC BK310.out 0).trans rfl; try have hcz45_1 : w44.cell? ⟨gb310, 1, none⟩ = some (.int .i64 0) := (zC BK310.out 1).trans rfl; try have hcz45_2 : w44.cell? ⟨gb310, 2, none⟩ = some (.string (⟨#[]⟩ : ByteArray)) := (zC BK310.out 2).trans rfl; try have hfz45_0 := zF BK310.out 0; try have hfz45_1 := zF BK310.out 1; try have hfz45_2 := zF BK310.out 2)))
  refine bodyPost_ret (results_list (rs := [.tmp 6, .tmp 7, .tmp 8, .tmp 9]) rfl (by simp) (.tmp (.tmp (.tmp (.tmp .nil))))) rfl ?_
  exact ⟨by first | rfl | (simp [errW_none, errW_some] <;> rfl) | (simp [*, errW_none, errW_some] <;> rfl), by repeat (first | (with_reducible first | exact HB.out | apply bA | apply bN | apply bD | refine bS ?_ GE310.out) | exact HB.out)⟩

end Go.Proofs.YtcmalglippmocaaDoor.G
end

section
namespace Go.Proofs.YtcmalglippmocaaDoor.G
open Go.RowKit Go.Proofs.YtcmalglippmocaaDoorW.PrintWords Go.Proofs.YtcmalglippmocaaDoorW.PrintLast Go.Proofs.YtcmalglippmocaaDoorW.PrintMore
attribute [local go_sem] max2_int min2_int max_two min_two max_three min_three max_four min_four   -- for this text's walks alone
set_option linter.unusedVariables false
set_option linter.unusedSimpArgs false

attribute [local go_sem high] eqA55
def palanquinlaw13_GueTells.f (k : Nat) (a0 : Int) (a1 : Bool) (a2 : ByteArray) (a3 : ByteArray) (a4 : ByteArray) (a5 : ByteArray) : Option (Bool) := (palanquinlaw13_awake.f).bind fun t315 => (if t315 = true then ((palanquinlaw13_few.f a2 a3 a4 a5).bind fun t316 => (if t316 = true then ((gue_Put.f a0 a1 a2 a3 a4).bind fun bt317 => ((r13_Put.f k a0 a1 a2 a3 a4).bind fun bt319 => ((gue_Get.f a2 a3 a5).bind fun bt321 => ((r13_Get.f k a2 a3 a5).bind fun bt326 => (if bt317.1.toList = bt319.1.toList then (if bt317.2 = bt319.2 then (if (bt321.1 == bt326.1 && (bt321.2.1 == bt326.2.1)) = true then (if bt321.2.2.1.toList = bt326.2.2.1.toList then (some (bt321.2.2.2 == bt326.2.2.2)) else (some false)) else (some false)) else (some false)) else (some false)))))) else (some true))) else (some false))
set_option maxHeartbeats 8000000 in
set_option maxRecDepth 100000 in
theorem palanquinlaw13_GueTells.calls (k : Nat) (a0 : Int) (a1 : Bool) (a2 : ByteArray) (a3 : ByteArray) (a4 : ByteArray) (a5 : ByteArray) (r : Bool) (w : World) (h : palanquinlaw13_GueTells.f k a0 a1 a2 a3 a4 a5 = some r) (hrt_ : Aside0 (r = true)) (hgV_ : GV w) (hgP_ : GP w) :
  Calls Tryd.prog 10 #[.int .i64 a0, .bool a1, .string a2, .string a3, .string a4, .string a5] w fun e w' => e = .returned (.bool r) ∧ Below w.heap.size w w' := by
 have HgV_ := mA hgV_
 clear hgV_
 have HgP_ := mA hgP_
 clear hgP_
 have hu55 := Tryd.underlying55
 have HB := mA (Below.refl w.heap.size w)
 have H : ((palanquinlaw13_awake.f).bind fun t315 => (if t315 = true then ((palanquinlaw13_few.f a2 a3 a4 a5).bind fun t316 => (if t316 = true then ((gue_Put.f a0 a1 a2 a3 a4).bind fun bt317 => ((r13_Put.f k a0 a1 a2 a3 a4).bind fun bt319 => ((gue_Get.f a2 a3 a5).bind fun bt321 => ((r13_Get.f k a2 a3 a5).bind fun bt326 => (if bt317.1.toList = bt319.1.toList then (if bt317.2 = bt319.2 then (if (bt321.1 == bt326.1 && (bt321.2.1 == bt326.2.1)) = true then (if bt321.2.2.1.toList = bt326.2.2.1.toList then (some (bt321.2.2.2 == bt326.2.2.2)) else (some false)) else (some false)) else (some false)) else (some false)))))) else (some true))) else (some false))) = some r := h
 clear h
 replace H := Option.bind_eq_some_iff.mp H
 obtain ⟨t315, A70, H⟩ := H
 replace H : (if t315 = true then ((palanquinlaw13_few.f a2 a3 a4 a5).bind fun t316 => (if t316 = true then ((gue_Put.f a0 a1 a2 a3 a4).bind fun bt317 => ((r13_Put.f k a0 a1 a2 a3 a4).bind fun bt319 => ((gue_Get.f a2 a3 a5).bind fun bt321 => ((r13_Get.f k a2 a3 a5).bind fun bt326 => (if bt317.1.toList = bt319.1.toList then (if bt317.2 = bt319.2 then (if (bt321.1 == bt326.1 && (bt321.2.1 == bt326.2.1)) = true then (if bt321.2.2.1.toList = bt326.2.2.1.toList then (some (bt321.2.2.2 == bt326.2.2.2)) else (some false)) else (some false)) else (some false)) else (some false)))))) else (some true))) else (some false)) = some r := H
 have A7 := mA A70
 clear A70
 by_cases c8 : t315 = true
 ·subst c8
  have H1 : ((palanquinlaw13_few.f a2 a3 a4 a5).bind fun t316 => (if t316 = true then ((gue_Put.f a0 a1 a2 a3 a4).bind fun bt317 => ((r13_Put.f k a0 a1 a2 a3 a4).bind fun bt319 => ((gue_Get.f a2 a3 a5).bind fun bt321 => ((r13_Get.f k a2 a3 a5).bind fun bt326 => (if bt317.1.toList = bt319.1.toList then (if bt317.2 = bt319.2 then (if (bt321.1 == bt326.1 && (bt321.2.1 == bt326.2.1)) = true then (if bt321.2.2.1.toList = bt326.2.2.1.toList then (some (bt321.2.2.2 == bt326.2.2.2)) else (some false)) else (some false)) else (some false)) else (some false)))))) else (some true))) = some r := by rw [if_pos rfl] at H; exact H
  clear H
  have H := H1
  clear H1
  replace H := Option.bind_eq_some_iff.mp H
  obtain ⟨t316, A90, H⟩ := H
  replace H : (if t316 = true then ((gue_Put.f a0 a1 a2 a3 a4).bind fun bt317 => ((r13_Put.f k a0 a1 a2 a3 a4).bind fun bt319 => ((gue_Get.f a2 a3 a5).bind fun bt321 => ((r13_Get.f k a2 a3 a5).bind fun bt326 => (if bt317.1.toList = bt319.1.toList then (if bt317.2 = bt319.2 then (if (bt321.1 == bt326.1 && (bt321.2.1 == bt326.2.1)) = true then (if bt321.2.2.1.toList = bt326.2.2.1.toList then (some (bt321.2.2.2 == bt326.2.2.2)) else (some false)) else (some false)) else (some false)) else (some false)))))) else (some true)) = some r := H
  have A9 := mA A90
  clear A90
  by_cases c10 : t316 = true
  ·subst c10
   have H1 : ((gue_Put.f a0 a1 a2 a3 a4).bind fun bt317 => ((r13_Put.f k a0 a1 a2 a3 a4).bind fun bt319 => ((gue_Get.f a2 a3 a5).bind fun bt321 => ((r13_Get.f k a2 a3 a5).bind fun bt326 => (if bt317.1.toList = bt319.1.toList then (if bt317.2 = bt319.2 then (if (bt321.1 == bt326.1 && (bt321.2.1 == bt326.2.1)) = true then (if bt321.2.2.1.toList = bt326.2.2.1.toList then (some (bt321.2.2.2 == bt326.2.2.2)) else (some false)) else (some false)) else (some false)) else (some false)))))) = some r := by rw [if_pos rfl] at H; exact H
   clear H
   have H := H1
   clear H1
   replace H := Option.bind_eq_some_iff.mp H
   obtain ⟨⟨t317, t318⟩, A110, H⟩ := H
   replace H : ((r13_Put.f k a0 a1 a2 a3 a4).bind fun bt319 => ((gue_Get.f a2 a3 a5).bind fun bt321 => ((r13_Get.f k a2 a3 a5).bind fun bt326 => (if t317.toList = bt319.1.toList then (if t318 = bt319.2 then (if (bt321.1 == bt326.1 && (bt321.2.1 == bt326.2.1)) = true then (if bt321.2.2.1.toList = bt326.2.2.1.toList then (some (bt321.2.2.2 == bt326.2.2.2)) else (some false)) else (some false)) else (some false)) else (some false))))) = some r := H
   have A11 := mA A110
   clear A110
   replace H := Option.bind_eq_some_iff.mp H
   obtain ⟨⟨t319, t320⟩, A120, H⟩ := H
   replace H : ((gue_Get.f a2 a3 a5).bind fun bt321 => ((r13_Get.f k a2 a3 a5).bind fun bt326 => (if t317.toList = t319.toList then (if t318 = t320 then (if (bt321.1 == bt326.1 && (bt321.2.1 == bt326.2.1)) = true then (if bt321.2.2.1.toList = bt326.2.2.1.toList then (some (bt321.2.2.2 == bt326.2.2.2)) else (some false)) else (some false)) else (some false)) else (some false)))) = some r := H
   have A12 := mA A120
   clear A120
   replace H := Option.bind_eq_some_iff.mp H
   obtain ⟨⟨t321, t322, t323, t324⟩, A130, H⟩ := H
   replace H : ((r13_Get.f k a2 a3 a5).bind fun bt326 => (if t317.toList = t319.toList then (if t318 = t320 then (if (t321 == bt326.1 && (t322 == bt326.2.1)) = true then (if t323.toList = bt326.2.2.1.toList then (some (t324 == bt326.2.2.2)) else (some false)) else (some false)) else (some false)) else (some false))) = some r := H
   have A13 := mA A130
   clear A130
   replace H := Option.bind_eq_some_iff.mp H
   obtain ⟨⟨t326, t327, t328, t329⟩, A140, H⟩ := H
   replace H : (if t317.toList = t319.toList then (if t318 = t320 then (if (t321 == t326 && (t322 == t327)) = true then (if t323.toList = t328.toList then (some (t324 == t329)) else (some false)) else (some false)) else (some false)) else (some false)) = some r := H
   have A14 := mA A140
   clear A140
   by_cases c15 : t317.toList = t319.toList
   ·rw [if_pos c15] at H
    have c15b0 : (t317.toList == t319.toList) = true := beq_iff_eq.mpr c15
    have c15b1 : (t317.toList != t319.toList) = false := bne_eq_false_iff_eq.mpr c15
    clear c15
    by_cases c16 : t318 = t320
    ·rw [if_pos c16] at H
     have c16b0 : (t318 == t320) = true := beq_iff_eq.mpr c16
     have c16b1 : (t318 != t320) = false := bne_eq_false_iff_eq.mpr c16
     clear c16
     by_cases c17 : (t321 == t326 && (t322 == t327)) = true
     ·rw [if_pos c17] at H
      have c17b0 : (t321 == t326 && (t322 == t327)) = true := c17
      (try (have c17b1 : decide (t321 = t326 && (t322 == t327)) = true := by simpa using c17))
      (try (have c17b2 : (t321 == t326 && (t322 == t327)) = true := by simpa using c17))
      (try (have c17b3 : ((t321 = t326 ∧ (t322 = t327))) = True := by simpa using c17))
      clear c17
      by_cases c18 : t323.toList = t328.toList
      ·rw [if_pos c18] at H
       have c18b0 : (t323.toList == t328.toList) = true := beq_iff_eq.mpr c18
       have c18b1 : (t323.toList != t328.toList) = false := bne_eq_false_iff_eq.mpr c18
       clear c18
       obtain rfl := Option.some.inj H
       go_enter Tryd.func10, Tryd.ntmps10
       go_wp2_with (first | ((with_reducible refine gate_callee (f := 34) rfl ?_); refine goesL_ (some 24) rfl rfl Tryd.func34 (by kernel_rfl) rfl #[] rfl (by (try simp only [List.map_toArray, List.map_cons, List.map_nil]); first | done | rfl | (simp only [List.length_drop, List.length_take]; rfl)) ?_; (with_reducible refine (palanquinlaw13_awake.calls  true _ A7.out (GV.below HgV_.out (by repeat (first | (with_reducible first | exact HB.out | apply bA | apply bN | apply bD | refine bS ?_ GE325.out) | exact HB.out))) (GP.below HgP_.out (by repeat (first | (with_reducible first | exact HB.out | apply bA | apply bN | apply bD | refine bS ?_ GE325.out) | exact HB.out)))).mono ?_); rintro e w19 ⟨rfl, hb⟩; refine ⟨_, rfl, ?_⟩; have n0_ := mA (bP (by repeat (first | (with_reducible first | exact HB.out | apply bA | apply bN | apply bD) | exact HB.out)) hb); clear HB; have HB := n0_; clear n0_; (try clear hb); (try clear hb2); (try clear hk); (try clear hi)) | ((with_reducible refine gate_callee (f := 35) rfl ?_); refine goesL_ (some 30) rfl rfl Tryd.func35 (by kernel_rfl) rfl #[.string a2, .string a3, .string a4, .string a5] rfl (by (try simp only [List.map_toArray, List.map_cons, List.map_nil]); first | done | rfl | (simp only [List.length_drop, List.length_take]; rfl)) ?_; (with_reducible refine (palanquinlaw13_few.calls a2 a3 a4 a5 true _ A9.out).mono ?_); rintro e w' ⟨rfl, ⟨nd, rfl⟩⟩; refine ⟨_, rfl, ?_⟩; (try (rw [drewN_self w19]; generalize hq_ : World.drewN w19 _ = w19; have n0_ : Aside0 (Below w.heap.size w w19) := ⟨by rw [← hq_]; exact (by repeat (first | (with_reducible first | exact HB.out | apply bA | apply bN | apply bD) | exact HB.out))⟩; clear HB hq_; have HB := n0_; clear n0_))) | ((with_reducible refine gate_callee (f := 36) rfl ?_); refine goesL_ (some 39) rfl rfl Tryd.func36 (by kernel_rfl) rfl #[.agg #[.int .i64 a0, .bool a1], .string a2, .string a3, .string a4] rfl (by (try simp only [List.map_toArray, List.map_cons, List.map_nil]); first | done | rfl | (simp only [List.length_drop, List.length_take]; rfl)) ?_; (with_reducible refine (gue_Put.calls a0 a1 a2 a3 a4 t317 t318 _ A11.out (GV.below HgV_.out (by repeat (first | (with_reducible first | exact HB.out | apply bA | apply bN | apply bD | refine bS ?_ GE325.out) | exact HB.out))) (GP.below HgP_.out (by repeat (first | (with_reducible first | exact HB.out | apply bA | apply bN | apply bD | refine bS ?_ GE325.out) | exact HB.out)))).mono ?_); rintro e w20 ⟨rfl, hb⟩; refine ⟨_, rfl, ?_⟩; have n0_ := mA (bP (by repeat (first | (with_reducible first | exact HB.out | apply bA | apply bN | apply bD) | exact HB.out)) hb); clear HB; have HB := n0_; clear n0_; (try clear hb); (try clear hb2); (try clear hk); (try clear hi)) | ((with_reducible refine gate_callee (f := 37) rfl ?_); refine goesL_ (some 48) rfl rfl Tryd.func37 (by kernel_rfl) rfl #[.int .i64 a0, .bool a1, .string a2, .string a3, .string a4] rfl (by (try simp only [List.map_toArray, List.map_cons, List.map_nil]); first | done | rfl | (simp only [List.length_drop, List.length_take]; rfl)) ?_; (with_reducible refine (r13_Put.calls k a0 a1 a2 a3 a4 t319 t320 _ A12.out).mono ?_); rintro e w21 ⟨rfl, hb⟩; refine ⟨_, rfl, ?_⟩; have n0_ := mA (bP (by repeat (first | (with_reducible first | exact HB.out | apply bA | apply bN | apply bD) | exact HB.out)) hb); clear HB; have HB := n0_; clear n0_; (try clear hb); (try clear hb2); (try clear hk); (try clear hi)) | ((with_reducible refine gate_callee (f := 38) rfl ?_); refine goesL_ (some 55) rfl rfl Tryd.func38 (by kernel_rfl) rfl #[.string a2, .string a3, .string a5] rfl (by (try simp only [List.map_toArray, List.map_cons, List.map_nil]); first | done | rfl | (simp only [List.length_drop, List.length_take]; rfl)) ?_; (with_reducible refine (gue_Get.calls a2 a3 a5 t321 t322 t323 t324 _ A13.out (GV.below HgV_.out (by repeat (first | (with_reducible first | exact HB.out | apply bA | apply bN | apply bD | refine bS ?_ GE325.out) | exact HB.out)))).mono ?_); rintro e w22 ⟨rfl, hb⟩; refine ⟨_, rfl, ?_⟩; have n0_ := mA (bP (by repeat (first | (with_reducible first | exact HB.out | apply bA | apply bN | apply bD) | exact HB.out)) hb); clear HB; have HB := n0_; clear n0_; (try clear hb); (try clear hb2); (try clear hk); (try clear hi)) | ((with_reducible refine gate_dst (N := 17) rfl ?_); refine box_event ?hg (N := 17) ?hd (cs := #[.int .i64 0, .bool false]) (t := 55) ?hr ?_; (case hd => rfl); (case hg => rfl); (case hr => first | (go_simp; done) | (go_simp; rfl)); intro gb325 hg w23 hbox hb; have n0_ := mA (bP (by repeat (first | (with_reducible first | exact HB.out | apply bA | apply bN | apply bD) | exact HB.out)) hb); have n1_ := mA (hbox); have n2_ := mA ((by rw [hg]; exact (below_size (by repeat (first | (with_reducible first | exact HB.out | apply bA | apply bN | apply bD) | exact HB.out))) : w.heap.size ≤ gb325)); have n3_ := mA ((by rw [hg]; exact (below_size (by repeat (first | (with_reducible first | exact HB.out | apply bA | apply bN | apply bD) | exact HB.out))) : w.heap.size ≤ gb325)); clear HB; have HB := n0_; have BK325 := n1_; have GW325 := n2_; have GE325 := n3_; clear n0_ n1_ n2_ n3_; clear hb hbox hg; have hcz24_0 : w23.cell? ⟨gb325, 0, none⟩ = some (.int .i64 0) := (zC BK325.out 0).trans rfl; have hcz24_1 : w23.cell? ⟨gb325, 1, none⟩ = some (.bool false) := (zC BK325.out 1).trans rfl; have hfz24_0 := zF BK325.out 0; have hfz24_1 := zF BK325.out 1) | ((with_reducible refine gate_callee (f := 39) rfl ?_); refine goesL_ (some 63) rfl rfl Tryd.func39 (by kernel_rfl) rfl #[.string a2, .string a3, .string a5] rfl (by (try simp only [List.map_toArray, List.map_cons, List.map_nil]); first | done | rfl | (simp only [List.length_drop, List.length_take]; rfl)) ?_; (with_reducible refine (r13_Get.calls k a2 a3 a5 t326 t327 t328 t329 _ A14.out).mono ?_); rintro e w25 ⟨rfl, hb⟩; refine ⟨_, rfl, ?_⟩; have n0_ := mA (blk_below (g := gb325) (o := .cells #[.int .i64 t321, .bool t322] 55 (0, 0)) (by (with_reducible repeat (first | apply kN | apply kD | apply kA)); refine blk_put (cs := #[.int .i64 t321, .bool false]) ?_ 1 _ (by first | rfl | (simp [*]; done)); (with_reducible repeat (first | apply kN | apply kD | apply kA)); refine blk_put (cs := #[.int .i64 0, .bool false]) ?_ 0 _ (by first | rfl | (simp [*]; done)); (with_reducible repeat (first | apply kN | apply kD | apply kA)); exact BK325.out) hb); have n1_ := mA (bP (by repeat (first | (with_reducible first | exact HB.out | apply bA | apply bN | apply bD | refine bS ?_ GE325.out) | exact HB.out)) hb); clear BK325; clear HB; have BK325 := n0_; have HB := n1_; clear n0_ n1_; (try clear hb); (try clear hb2); (try clear hk); (try clear hi); have hcz26_0 : w25.cell? ⟨gb325, 0, none⟩ = some (.int .i64 t321) := (zC BK325.out 0).trans rfl; have hcz26_1 : w25.cell? ⟨gb325, 1, none⟩ = some (.bool t322) := (zC BK325.out 1).trans rfl; have hfz26_0 := zF BK325.out 0; have hfz26_1 := zF BK325.out 1))
       go_ret
       exact ⟨by first | rfl | (simp [errW_none, errW_some] <;> rfl) | (simp [*, errW_none, errW_some] <;> rfl), by repeat (first | (with_reducible first | exact HB.out | apply bA | apply bN | apply bD | refine bS ?_ GE325.out) | exact HB.out)⟩
      ·rw [if_neg c18] at H
       exact absurd ((Option.some.inj H).trans hrt_.out) (by decide)
     ·rw [if_neg c17] at H
      exact absurd ((Option.some.inj H).trans hrt_.out) (by decide)
    ·rw [if_neg c16] at H
     exact absurd ((Option.some.inj H).trans hrt_.out) (by decide)
   ·rw [if_neg c15] at H
    exact absurd ((Option.some.inj H).trans hrt_.out) (by decide)
  ·replace c10 := Bool.eq_false_iff.mpr c10
   subst c10
   have H1 : (some true) = some r := by rw [if_neg (show ¬ (false = true) by decide)] at H; exact H
   clear H
   have H := H1
   clear H1
   obtain rfl := Option.some.inj H
   go_enter Tryd.func10, Tryd.ntmps10
   go_wp2_with (first | ((with_reducible refine gate_callee (f := 34) rfl ?_); refine goesL_ (some 24) rfl rfl Tryd.func34 (by kernel_rfl) rfl #[] rfl (by (try simp only [List.map_toArray, List.map_cons, List.map_nil]); first | done | rfl | (simp only [List.length_drop, List.length_take]; rfl)) ?_; (with_reducible refine (palanquinlaw13_awake.calls  true _ A7.out (GV.below HgV_.out (by repeat (first | (with_reducible first | exact HB.out | apply bA | apply bN | apply bD | refine bS ?_ GE325.out) | exact HB.out))) (GP.below HgP_.out (by repeat (first | (with_reducible first | exact HB.out | apply bA | apply bN | apply bD | refine bS ?_ GE325.out) | exact HB.out)))).mono ?_); rintro e w57 ⟨rfl, hb⟩; refine ⟨_, rfl, ?_⟩; have n0_ := mA (bP (by repeat (first | (with_reducible first | exact HB.out | apply bA | apply bN | apply bD) | exact HB.out)) hb); clear HB; have HB := n0_; clear n0_; (try clear hb); (try clear hb2); (try clear hk); (try clear hi)) | ((with_reducible refine gate_callee (f := 35) rfl ?_); refine goesL_ (some 30) rfl rfl Tryd.func35 (by kernel_rfl) rfl #[.string a2, .string a3, .string a4, .string a5] rfl (by (try simp only [List.map_toArray, List.map_cons, List.map_nil]); first | done | rfl | (simp only [List.length_drop, List.length_take]; rfl)) ?_; (with_reducible refine (palanquinlaw13_few.calls a2 a3 a4 a5 false _ A9.out).mono ?_); rintro e w' ⟨rfl, ⟨nd, rfl⟩⟩; refine ⟨_, rfl, ?_⟩))
   go_ret
   exact ⟨by first | rfl | (simp [errW_none, errW_some] <;> rfl) | (simp [*, errW_none, errW_some] <;> rfl), by repeat (first | (with_reducible first | exact HB.out | apply bA | apply bN | apply bD) | exact HB.out)⟩
 ·replace c8 := Bool.eq_false_iff.mpr c8
  subst c8
  have H1 : (some false) = some r := by rw [if_neg (show ¬ (false = true) by decide)] at H; exact H
  exact absurd ((Option.some.inj H1).trans hrt_.out) (by decide)

end Go.Proofs.YtcmalglippmocaaDoor.G
end

section
/- Plain facts of palanquinref08: its functions are udp's. -/
namespace Go.Proofs.YtcmalglippmocaaDoor.Pure
namespace R8
open Go.RowKit Go.Proofs.YtcmalglippmocaaDoorW.PrintWords Go.Proofs.YtcmalglippmocaaDoorW.PrintLast Go.Proofs.YtcmalglippmocaaDoor.G Go.Proofs.YtcmalglippmocaaDoor.Pal
theorem ref_in (a : Int) : r08_in.f a = some (decide (in16 a)) := by
  unfold r08_in.f
  by_cases h : a ≥ 0
  · rw [if_pos h]; congr 1
    by_cases h2 : a ≤ 65535
    · rw [decide_eq_true h2, decide_eq_true (show in16 a from ⟨h, h2⟩)]
    · rw [decide_eq_false h2, decide_eq_false (show ¬ in16 a from fun h3 => h2 h3.2)]
  · rw [if_neg h, decide_eq_false (show ¬ in16 a from fun h3 => h h3.1)]
theorem ref_check (a b : Int) (p : ByteArray) (k : Nat) : r08_Check.f (k + 1) a b p = some (udpCheck a b p.size) := by
  unfold r08_Check.f
  rw [ref_in, Option.bind_some]
  by_cases ha : in16 a
  · rw [decide_eq_true ha, if_pos rfl, ref_in, Option.bind_some]
    by_cases hb : in16 b
    · rw [decide_eq_true hb, r08_Check.j0, if_neg (by decide)]
      have e : udpCheck a b p.size = if p.size ≤ 65527 then 0 else 4 := by unfold udpCheck; rw [if_pos ⟨ha, hb⟩]
      rw [e]
      by_cases hp : (p.size : Int) > 65527
      · rw [if_pos hp, if_neg (by omega)]
      · rw [if_neg hp, if_pos (by omega)]
    · rw [decide_eq_false hb, r08_Check.j0, if_pos (by decide)]
      unfold udpCheck
      rw [if_neg (fun h => hb h.2)]
  · rw [decide_eq_false ha, if_neg (by decide), r08_Check.j0, if_pos rfl]
    unfold udpCheck
    rw [if_neg (fun h => ha h.1)]
theorem ref_two (a : Int) (h0 : 0 ≤ a) (h1 : a ≤ 18446744073709551615) (k : Nat) (hk : 2 < k) : ∃ r, r08_two.f k a = some r ∧ bl r = nb 2 (u64n a) := by
  obtain ⟨r, h2, h3⟩ := bytes_is 2 (by decide) a.toNat (by omega) k hk
  refine ⟨r, ?_, by rw [h3, u64n_of h0 h1]⟩
  unfold r08_two.f
  rw [show IntKind.u64.wrap a = ((a.toNat : Nat) : Int) by rw [IntKind.wrap_u64]; omega]
  rw [show (2 : Int) = ((2 : Nat) : Int) from rfl, h2, Option.bind_some]
theorem ref_put (a b : Int) (p : ByteArray) (n : Int) (k : Nat) (hk : 2 < k) : r08_Put.f k a b p n = udp_Put.f a b p n := by
  unfold r08_Put.f
  obtain ⟨k, rfl⟩ : ∃ j, k = j + 1 := ⟨k - 1, by omega⟩
  rw [ref_check, Option.bind_some]
  by_cases hc : udpCheck a b p.size = 0
  · rw [if_pos hc, ref_in, Option.bind_some]
    by_cases hn : in16 n
    · rw [decide_eq_true hn, if_pos rfl, put_ok hc hn]
      obtain ⟨ha, hb, hl⟩ := check_zero.mp hc
      obtain ⟨r1, e1, b1⟩ := ref_two a ha.1 (by have := ha.2; omega) (k + 1) hk
      obtain ⟨r2, e2, b2⟩ := ref_two b hb.1 (by have := hb.2; omega) (k + 1) hk
      obtain ⟨r3, e3, b3⟩ := ref_two (8 + (p.size : Int)) (by omega) (by omega) (k + 1) hk
      obtain ⟨r4, e4, b4⟩ := ref_two n hn.1 (by have := hn.2; omega) (k + 1) hk
      have s1 : r1.size = 2 := by rw [← bl_length, b1, nb_length]
      have s2 : r2.size = 2 := by rw [← bl_length, b2, nb_length]
      have s3 : r3.size = 2 := by rw [← bl_length, b3, nb_length]
      have s4 : r4.size = 2 := by rw [← bl_length, b4, nb_length]
      rw [e1, Option.bind_some, e2, Option.bind_some, if_pos (by omega), show wrap64 (8 + (p.size : Int)) = 8 + (p.size : Int) by unfold wrap64; omega, e3, Option.bind_some,
        if_pos (by rw [ByteArray.size_append]; omega), e4, Option.bind_some, if_pos (by rw [ByteArray.size_append, ByteArray.size_append]; omega), if_pos (by rw [ByteArray.size_append, ByteArray.size_append, ByteArray.size_append]; omega)]
      rw [show (r1 ++ r2 ++ r3 ++ r4 ++ p) = ⟨(udpBytes a b p n).toArray⟩ from ?_]
      show (r1 ++ r2 ++ r3 ++ r4 ++ p) = ⟨(udpBytes a b p n).toArray⟩
      apply bl_inj
      rw [bl_append, bl_append, bl_append, bl_append, b1, b2, b3, b4, bl_mk]
      rfl
    · rw [decide_eq_false hn, if_neg (by decide), put_sum hc hn]; rfl
  · rw [if_neg hc, put_len hc]; rfl
theorem ref_get (s : ByteArray) (hs : s.size ≤ 140737488351232) (k : Nat) (hk : 2 < k) : r08_Get.f k s = udp_Get.f s := by
  unfold r08_Get.f
  rw [get_is hs]
  by_cases h8 : (s.size : Int) < 8
  · rw [if_pos h8]
    have he : udpErr s = 2 := by unfold udpErr; rw [if_pos (by omega)]
    rw [if_neg (by omega), he]; rfl
  · rw [if_neg h8, if_pos (by decide), if_pos (by omega)]
    have two : ∀ i, i + 2 ≤ s.size → palanquinref01_Value.f k (s.extract i (i + 2)) = some ((be (bl (s.extract i (i + 2))) : Nat) : Int) ∧ wrap64 ((be (bl (s.extract i (i + 2))) : Nat) : Int) = ((be (bl (s.extract i (i + 2))) : Nat) : Int) := fun i hi => by
      have hsz : (s.extract i (i + 2)).size = 2 := by simp only [ByteArray.size_extract]; omega
      have hlt := be_lt_of (bl (s.extract i (i + 2))) 2 (by rw [bl_length]; omega)
      exact ⟨value_is _ (by omega) k (by omega), by unfold wrap64; omega⟩
    rw [(two 4 (by omega)).1, Option.bind_some, (two 4 (by omega)).2]
    by_cases he : be (bl (s.extract 4 6)) = s.size
    · rw [if_pos (show ((be (bl (s.extract 4 (4 + 2))) : Nat) : Int) = (s.size : Int) by rw [show be (bl (s.extract 4 (4 + 2))) = s.size from he]), if_pos (by decide), if_pos (by omega), (two 0 (by omega)).1, Option.bind_some, (two 0 (by omega)).2, if_pos (by decide), if_pos (by omega), (two 2 (by omega)).1, Option.bind_some, (two 2 (by omega)).2,
        if_pos (by omega), if_pos (by decide), (two 6 (by omega)).1, Option.bind_some, (two 6 (by omega)).2]
      have h0 : udpErr s = 0 := by unfold udpErr; rw [if_neg (by omega), if_pos he]
      rw [if_pos h0]
    · rw [if_neg (show ¬ ((be (bl (s.extract 4 (4 + 2))) : Nat) : Int) = (s.size : Int) from fun h => he (by exact_mod_cast h))]
      have h0 : udpErr s = 4 := by unfold udpErr; rw [if_neg (by omega), if_neg he]
      rw [if_neg (by omega), h0]; rfl
end R8
end Go.Proofs.YtcmalglippmocaaDoor.Pure
end

section
/- The plain law of GueTells: what is put and got is the document's. -/
namespace Go.Proofs.YtcmalglippmocaaDoor.Pure
open Go.RowKit Go.Proofs.YtcmalglippmocaaDoorW.PrintWords Go.Proofs.YtcmalglippmocaaDoorW.PrintLast Go.Proofs.YtcmalglippmocaaDoor.G Go.Proofs.YtcmalglippmocaaDoor.Pal
set_option linter.unusedVariables false
theorem refPut13 (port : Int) (s : Bool) {a b x : ByteArray} (ha : a.size ≤ 300) (hb : b.size ≤ 300) (hx : x.size ≤ 70000) (k : Nat) (hk : 80000 ≤ k) : r13_Put.f k port s a b x = gue_Put.f port s a b x := by
 unfold r13_Put.f
 rw [refProto_is, Option.bind_some]
 dsimp +instances only
 by_cases h : (verOf x).2.2.2 = 0
 ·rw [if_pos h]
  obtain ⟨p, hp, hp2⟩ : ∃ p : Nat, (verOf x).2.1 = (p : Int) ∧ p < 256 := by
   rcases ver_proto h with e | e
   ·exact ⟨4, e, by decide⟩
   ·exact ⟨41, e, by decide⟩
  obtain ⟨t, e1, b1⟩ := bytes_is 1 (by decide) p (by omega) k (by omega)
  have z1 : t.size = 1 := by rw [← bl_length, b1, nb_length]
  have zz : (⟨#[0]⟩ : ByteArray).size = 1 := rfl
  have zz2 : (⟨#[0, 0]⟩ : ByteArray).size = 2 := rfl
  have hpay : ((⟨#[0]⟩ ++ t) ++ ⟨#[0, 0]⟩) ++ x = guePay x := by
   apply bl_inj
   rw [bl_append, bl_append, bl_append, b1, pay_bl, hp, u64n_nat p (by omega)]
   rfl
  rw [hp, show IntKind.u64.wrap (p : Int) = (p : Int) by rw [IntKind.wrap_u64]; omega, show (1 : Int) = ((1 : Nat) : Int) from rfl, e1, Option.bind_some, if_pos (by omega), if_pos (by simp only [ByteArray.size_append, zz]; omega), if_pos (by simp only [ByteArray.size_append, zz, zz2]; omega), hpay, R8.ref_put _ _ _ _ k (by omega)]
  by_cases hc : udpCheck port 6080 (4 + x.size) = 0
  ·obtain ⟨h1, h2, h3⟩ := check_zero.mp hc
   rw [show udp_Put.f port 6080 (guePay x) 0 = some (gueRaw port x 0, 0) from put_ok (p := guePay x) (by rw [guePay_size]; exact hc) (by unfold in16; omega), Option.bind_some, if_pos rfl, gue_put_ok h (by omega) h1 ha hb]
   cases s with
   | false => rfl
   | true => rw [if_pos rfl, ref_seal 17 a b _ (by rw [raw_size]; omega) ha hb k (by rw [raw_size]; omega), seal_raw (by omega) ha hb, Option.bind_some]
  ·rw [put_len (p := guePay x) (by rw [guePay_size]; exact hc), Option.bind_some, guePay_size, if_neg hc, gue_put_bad h (by omega) hc]
 ·rw [if_neg h, gue_put_no h]
theorem bt_oneU (s : ByteArray) (i : Nat) (h : i < s.size) : bt s (i : Int) = ((be (bl (s.extract i (i + 1))) : Nat) : Int) := by
 have e : ((bl s).take (i + 1)).drop i = [(bl s)[i]'(by rw [bl_length]; exact h)] := by
  rw [List.drop_take, show i + 1 - i = 1 by omega, List.drop_eq_getElem_cons (by rw [bl_length]; exact h)]; rfl
 rw [bt_bl s i h, cut_bl, e]
 simp [be]
theorem be_pairU (s : ByteArray) (i : Nat) (h : i + 1 < s.size) : ((be (bl (s.extract i (i + 2))) : Nat) : Int) = bt s (i : Int) * 256 + bt s ((i + 1 : Nat) : Int) := by
 have hb := bl_length s
 have d0 := List.drop_eq_getElem_cons (l := bl s) (i := i) (by omega)
 have d1 := List.drop_eq_getElem_cons (l := bl s) (i := i + 1) (by omega)
 have e : bl (s.extract i (i + 2)) = [(bl s)[i]'(by omega), (bl s)[i + 1]'(by omega)] := by
  rw [cut_bl, List.drop_take, show i + 2 - i = 2 by omega, d0, d1]
  rfl
 have e2 : ∀ x y : UInt8, be [x, y] = x.toNat * 256 + y.toNat := fun x y => by
  rw [show [x, y] = [x] ++ [y] from rfl, be_snoc]
  simp [be]
 rw [e, e2, bt_bl s i (by omega), bt_bl s (i + 1) (by omega), Int.natCast_add, Int.natCast_mul]
 rfl
theorem gue_j0 (k : Nat) (n sp : Int) (t : Bool) (P : ByteArray) : r13_Get.j0 (k + 3) n t sp 6080 P = some (gue_fin sp 6080 n P (!t)) := by
 cases t with
 | true => rw [r13_Get.j0, if_pos rfl, show (!true) = false from rfl, fin_false]
 | false =>
  rw [r13_Get.j0, if_neg (by decide), show (!false) = true from rfl]
  have fin : ∀ e, gueErr 6080 true P = e → e ≠ 0 → gue_fin sp 6080 n P true = (0, false, ⟨#[]⟩, e) := fun e h h0 => by unfold gue_fin; rw [h, if_neg h0]
  by_cases h4 : P.size < 4
  ·rw [if_pos (by omega), fin 2 (by unfold gueErr; rw [if_neg (by decide), if_neg (by decide), if_pos h4]) (by decide)]
  rw [if_neg (by omega), if_pos (by omega)]
  have u0 : bt P 0 = ue0 P := bt_oneU P 0 (by omega)
  have u1 : bt P 1 = ue1 P := bt_oneU P 1 (by omega)
  have u2 : ue2 P = bt P 2 * 256 + bt P 3 := be_pairU P 2 (by omega)
  have l0 := be_small1 P 0
  have l1 := be_small1 P 1
  have p0 : 0 ≤ ue0 P ∧ ue0 P < 256 := by unfold ue0; rw [show (0 + 1 : Nat) = 1 from rfl] at l0; omega
  have p1 : 0 ≤ ue1 P ∧ ue1 P < 256 := by unfold ue1; rw [show (1 + 1 : Nat) = 2 from rfl] at l1; omega
  have p2 : 0 ≤ bt P 2 := by have := bt_oneU P 2 (by omega); rw [show (2 : Int) = ((2 : Nat) : Int) from rfl, this]; omega
  have p3 : 0 ≤ bt P 3 := by have := bt_oneU P 3 (by omega); rw [show (3 : Int) = ((3 : Nat) : Int) from rfl, this]; omega
  rw [u0]
  by_cases h64 : ue0 P ≥ 64
  ·rw [if_pos h64, fin 3 (by unfold gueErr; rw [if_neg (by decide), if_neg (by decide), if_neg h4, if_pos (by omega)]) (by decide)]
  rw [if_neg h64]
  have j1 : ∀ c : Bool, c = (!decide (ue0 P = 0 ∧ ue2 P = 0)) → r13_Get.j1 (k + 2) n P c sp 6080 P = some (gue_fin sp 6080 n P true) := fun c hc => by
   by_cases hf : ue0 P = 0 ∧ ue2 P = 0
   ·rw [decide_eq_true hf] at hc
    subst hc
    rw [r13_Get.j1, if_neg (by decide), if_pos (by omega), if_pos (by omega), u1, show wrap64 (ue1 P) = ue1 P by unfold wrap64; omega, refGet_is, show ipip_Get.f (ue1 P) (P.extract 4 P.size) = some (gueIn P) from rfl, Option.bind_some]
    have he : gueErr 6080 true P = (gueIn P).2 := by unfold gueErr; rw [if_neg (by decide), if_neg (by decide), if_neg h4, if_neg (by omega), if_neg (fun h => h hf)]
    unfold gue_fin
    rw [he]
    split <;> rfl
   ·rw [decide_eq_false hf] at hc
    subst hc
    rw [r13_Get.j1, if_pos (show (!false) = true from rfl), fin 9 (by unfold gueErr; rw [if_neg (by decide), if_neg (by decide), if_neg h4, if_neg (by omega), if_pos hf]) (by decide)]
  by_cases h0 : ue0 P = 0
  ·rw [if_pos h0, if_pos (by omega)]
   by_cases h2 : bt P 2 = 0
   ·rw [if_pos h2, if_pos (by omega)]
    refine j1 _ ?_
    by_cases h3 : bt P 3 = 0
    ·rw [h3, decide_eq_true ⟨h0, by omega⟩]; rfl
    ·rw [decide_eq_false (fun h => h3 (by omega))]; exact bne_iff_ne.mpr h3
   ·rw [if_neg h2]
    exact j1 _ (by rw [decide_eq_false (fun h => h2 (by omega))]; rfl)
  ·rw [if_neg h0]
   exact j1 _ (by rw [decide_eq_false (fun h => h0 h.1)]; rfl)
theorem refGet13 {a b y : ByteArray} (ha : a.size ≤ 300) (hb : b.size ≤ 300) (hy : y.size ≤ 70000) (k : Nat) (hk : 80000 ≤ k) : r13_Get.f k a b y = gue_Get.f a b y := by
 obtain ⟨k, rfl⟩ : ∃ j, k = j + 3 := ⟨k - 3, by omega⟩
 unfold r13_Get.f gue_Get.f
 rw [R8.ref_get y (by omega) _ (by omega)]
 obtain ⟨⟨sp, q, P, n, e⟩, hd⟩ : ∃ d, udp_Get.f y = some d := ⟨_, get_is (by omega)⟩
 rw [hd, Option.bind_some, Option.bind_some]
 dsimp +instances only
 by_cases he : e = 0
 ·rw [if_pos he, if_neg (show ¬ (e ≠ 0) from fun h => h he), right_some ha hb (by omega), Option.bind_some]
  by_cases hq : q = 6080
  ·subst hq
   rw [if_pos rfl]
   unfold rightB
   by_cases hn : n = 0
   ·rw [if_pos hn, if_pos hn, gue_j0]; rfl
   ·have hz := psB_size a b 17 (y.size : Int)
    have hz2 := (psT_size (a.size == 16) 17 (y.size : Int)).2
    rw [if_neg hn, if_neg hn, ref_pseudo_is a b ha hb 17 _ _ (by omega), Option.bind_some, if_pos (by omega), R2.ref_sumL _ (by rw [ByteArray.size_append]; omega) _ (by rw [ByteArray.size_append]; omega), Option.bind_some, gue_j0, bl_append]
    congr 2
    by_cases hc : csum (bl (psB a b 17 (y.size : Int)) ++ bl y) = 0
    ·rw [hc]; rfl
    ·rw [decide_eq_false hc]; exact congrArg Bool.not (bne_iff_ne.mpr (by omega))
  ·rw [if_neg hq]
   have : ∀ r, gueErr q r P = 6 := fun r => by unfold gueErr; rw [if_pos hq]
   unfold gue_fin
   rw [this, if_neg (by decide)]
 ·rw [if_neg he, if_pos he]
theorem GueTells (a0 : Int) (a1 : Bool) (a2 a3 a4 a5 : ByteArray) (_ : (Lit.int .i64 a0).wf = true) (_ : a2.size ≤ 140737488351232) (_ : a3.size ≤ 140737488351232) (_ : a4.size ≤ 140737488351232) (_ : a5.size ≤ 140737488351232) :
  ∃ k, palanquinlaw13_GueTells.f k a0 a1 a2 a3 a4 a5 = some true := by
 refine ⟨80000, ?_⟩
 unfold palanquinlaw13_GueTells.f
 obtain ⟨t, ht, hf⟩ := few13 a2 a3 a4 a5
 rw [awake13, Option.bind_some, if_pos rfl, ht, Option.bind_some]
 cases t with
 | false => rw [if_neg (by decide)]
 | true =>
  obtain ⟨h1, h2, h3, h4⟩ := hf rfl
  obtain ⟨u, hu⟩ : ∃ u, gue_Put.f a0 a1 a2 a3 a4 = some u := by
   rcases gue_put_some a0 a1 (x := a4) (by omega) h1 h2 with ⟨_, _, _, h⟩ | ⟨e, _, h, _⟩
   ·exact ⟨_, h⟩
   ·exact ⟨_, h a1 a2 a3⟩
  obtain ⟨v, hv⟩ := gue_get_some h1 h2 (y := a5) (by omega)
  rw [if_pos rfl, refPut13 a0 a1 h1 h2 h3 80000 (by decide), refGet13 h1 h2 h4 80000 (by decide), hu, hv]
  simp only [Option.bind_some]
  rw [if_pos trivial, if_pos trivial, if_pos (by simp), if_pos trivial, beq_self_eq_true]
end Go.Proofs.YtcmalglippmocaaDoor.Pure
end
