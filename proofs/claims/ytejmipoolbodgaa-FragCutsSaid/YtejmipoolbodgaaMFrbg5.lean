/- Texts of this session, joined: each is a section. -/
import Derived.Test.YtejmipoolbodgaaMFrbg1
import Derived.Test.YtejmipoolbodgaaMFrbg4
set_option linter.unusedVariables false
set_option linter.unusedSimpArgs false
section
namespace Go.Proofs.Ytejmipoolbodgaa.G
open Go.RowKit Go.Proofs.YtejmipoolbodgaaW.PrintWords Go.Proofs.YtejmipoolbodgaaW.PrintLast Go.Proofs.YtejmipoolbodgaaW.PrintMore
attribute [local go_sem] max2_int min2_int max_two min_two max_three min_three max_four min_four   -- for this text's walks alone
set_option linter.unusedVariables false
set_option linter.unusedSimpArgs false

def palanquinref05_in.f (a0 : Int) (a1 : Int) (a2 : Int) : Option (Bool) := if a0 ≥ a1 then (some (decide (a0 ≤ a2))) else (some false)
set_option maxHeartbeats 8000000 in
set_option maxRecDepth 100000 in
theorem palanquinref05_in.calls (a0 : Int) (a1 : Int) (a2 : Int) (r : Bool) (w : World) (h : palanquinref05_in.f a0 a1 a2 = some r) :
  Calls Try.prog 146 #[.int .i64 a0, .int .i64 a1, .int .i64 a2] w fun e w' => e = .returned (.bool r) ∧ Drawn0 w w' := by
 have H : (if a0 ≥ a1 then (some (decide (a0 ≤ a2))) else (some false)) = some r := h
 clear h
 by_cases c4 : a0 ≥ a1
 ·rw [if_pos c4] at H
  have c4b0 : decide (a1 ≤ a0) = true := decide_eq_true c4
  clear c4
  obtain rfl := Option.some.inj H
  go_enter Try.func146, Try.ntmps146
  go_wp2
  go_ret
  exact ⟨by first | rfl | (simp; done) | (simp [*]; done), by repeat (first | exact Drawn0.refl _ | apply Drawn0.step)⟩
 ·rw [if_neg c4] at H
  have c4b0 : decide (a1 ≤ a0) = false := decide_eq_false c4
  clear c4
  obtain rfl := Option.some.inj H
  go_enter Try.func146, Try.ntmps146
  go_wp2
  go_ret
  exact ⟨by first | rfl | (simp; done) | (simp [*]; done), by repeat (first | exact Drawn0.refl _ | apply Drawn0.step)⟩

def palanquinref05_Right.f (a0_0 : Int) (a0_1 : Int) (a0_2 : Int) (a0_3 : Int) (a0_4 : Int) (a0_5 : Bool) (a0_6 : Bool) (a0_7 : ByteArray) (a0_8 : ByteArray) (a0_9 : ByteArray) : Option (Bool) := (palanquinref05_in.f a0_0 0 255).bind fun t410 => (if t410 = true then ((palanquinref05_in.f a0_3 0 255).bind fun t411 => (if t411 = true then ((palanquinref05_in.f a0_4 0 255).bind fun t412 => (if t412 = true then ((palanquinref05_in.f a0_1 0 65535).bind fun t413 => (if t413 = true then ((palanquinref05_in.f a0_2 0 8191).bind fun t414 => (if t414 = true then (if (a0_7.size : Int) = 4 then (if (a0_8.size : Int) = 4 then (if (a0_9.size : Int) ≤ 40 then (some (((a0_9.size : Int) % 4) == 0)) else (some false)) else (some false)) else (some false)) else (some false))) else (some false))) else (some false))) else (some false))) else (some false))
set_option maxHeartbeats 8000000 in
set_option maxRecDepth 100000 in
theorem palanquinref05_Right.calls (a0_0 : Int) (a0_1 : Int) (a0_2 : Int) (a0_3 : Int) (a0_4 : Int) (a0_5 : Bool) (a0_6 : Bool) (a0_7 : ByteArray) (a0_8 : ByteArray) (a0_9 : ByteArray) (r : Bool) (w : World) (h : palanquinref05_Right.f a0_0 a0_1 a0_2 a0_3 a0_4 a0_5 a0_6 a0_7 a0_8 a0_9 = some r) :
  Calls Try.prog 88 #[.agg #[.int .i64 a0_0, .int .i64 a0_1, .int .i64 a0_2, .int .i64 a0_3, .int .i64 a0_4, .bool a0_5, .bool a0_6, .string a0_7, .string a0_8, .string a0_9]] w fun e w' => e = .returned (.bool r) ∧ Below w.heap.size w w' := by
 have hu93 := Try.underlying93
 have HB := mA (Below.refl w.heap.size w)
 have H : ((palanquinref05_in.f a0_0 0 255).bind fun t410 => (if t410 = true then ((palanquinref05_in.f a0_3 0 255).bind fun t411 => (if t411 = true then ((palanquinref05_in.f a0_4 0 255).bind fun t412 => (if t412 = true then ((palanquinref05_in.f a0_1 0 65535).bind fun t413 => (if t413 = true then ((palanquinref05_in.f a0_2 0 8191).bind fun t414 => (if t414 = true then (if (a0_7.size : Int) = 4 then (if (a0_8.size : Int) = 4 then (if (a0_9.size : Int) ≤ 40 then (some (((a0_9.size : Int) % 4) == 0)) else (some false)) else (some false)) else (some false)) else (some false))) else (some false))) else (some false))) else (some false))) else (some false))) = some r := h
 clear h
 replace H := Option.bind_eq_some_iff.mp H
 obtain ⟨t410, A20, H⟩ := H
 replace H : (if t410 = true then ((palanquinref05_in.f a0_3 0 255).bind fun t411 => (if t411 = true then ((palanquinref05_in.f a0_4 0 255).bind fun t412 => (if t412 = true then ((palanquinref05_in.f a0_1 0 65535).bind fun t413 => (if t413 = true then ((palanquinref05_in.f a0_2 0 8191).bind fun t414 => (if t414 = true then (if (a0_7.size : Int) = 4 then (if (a0_8.size : Int) = 4 then (if (a0_9.size : Int) ≤ 40 then (some (((a0_9.size : Int) % 4) == 0)) else (some false)) else (some false)) else (some false)) else (some false))) else (some false))) else (some false))) else (some false))) else (some false)) = some r := H
 have A2 := mA A20
 clear A20
 by_cases c3 : t410 = true
 ·subst c3
  have H1 : ((palanquinref05_in.f a0_3 0 255).bind fun t411 => (if t411 = true then ((palanquinref05_in.f a0_4 0 255).bind fun t412 => (if t412 = true then ((palanquinref05_in.f a0_1 0 65535).bind fun t413 => (if t413 = true then ((palanquinref05_in.f a0_2 0 8191).bind fun t414 => (if t414 = true then (if (a0_7.size : Int) = 4 then (if (a0_8.size : Int) = 4 then (if (a0_9.size : Int) ≤ 40 then (some (((a0_9.size : Int) % 4) == 0)) else (some false)) else (some false)) else (some false)) else (some false))) else (some false))) else (some false))) else (some false))) = some r := by rw [if_pos rfl] at H; exact H
  clear H
  have H := H1
  clear H1
  replace H := Option.bind_eq_some_iff.mp H
  obtain ⟨t411, A40, H⟩ := H
  replace H : (if t411 = true then ((palanquinref05_in.f a0_4 0 255).bind fun t412 => (if t412 = true then ((palanquinref05_in.f a0_1 0 65535).bind fun t413 => (if t413 = true then ((palanquinref05_in.f a0_2 0 8191).bind fun t414 => (if t414 = true then (if (a0_7.size : Int) = 4 then (if (a0_8.size : Int) = 4 then (if (a0_9.size : Int) ≤ 40 then (some (((a0_9.size : Int) % 4) == 0)) else (some false)) else (some false)) else (some false)) else (some false))) else (some false))) else (some false))) else (some false)) = some r := H
  have A4 := mA A40
  clear A40
  by_cases c5 : t411 = true
  ·subst c5
   have H1 : ((palanquinref05_in.f a0_4 0 255).bind fun t412 => (if t412 = true then ((palanquinref05_in.f a0_1 0 65535).bind fun t413 => (if t413 = true then ((palanquinref05_in.f a0_2 0 8191).bind fun t414 => (if t414 = true then (if (a0_7.size : Int) = 4 then (if (a0_8.size : Int) = 4 then (if (a0_9.size : Int) ≤ 40 then (some (((a0_9.size : Int) % 4) == 0)) else (some false)) else (some false)) else (some false)) else (some false))) else (some false))) else (some false))) = some r := by rw [if_pos rfl] at H; exact H
   clear H
   have H := H1
   clear H1
   replace H := Option.bind_eq_some_iff.mp H
   obtain ⟨t412, A60, H⟩ := H
   replace H : (if t412 = true then ((palanquinref05_in.f a0_1 0 65535).bind fun t413 => (if t413 = true then ((palanquinref05_in.f a0_2 0 8191).bind fun t414 => (if t414 = true then (if (a0_7.size : Int) = 4 then (if (a0_8.size : Int) = 4 then (if (a0_9.size : Int) ≤ 40 then (some (((a0_9.size : Int) % 4) == 0)) else (some false)) else (some false)) else (some false)) else (some false))) else (some false))) else (some false)) = some r := H
   have A6 := mA A60
   clear A60
   by_cases c7 : t412 = true
   ·subst c7
    have H1 : ((palanquinref05_in.f a0_1 0 65535).bind fun t413 => (if t413 = true then ((palanquinref05_in.f a0_2 0 8191).bind fun t414 => (if t414 = true then (if (a0_7.size : Int) = 4 then (if (a0_8.size : Int) = 4 then (if (a0_9.size : Int) ≤ 40 then (some (((a0_9.size : Int) % 4) == 0)) else (some false)) else (some false)) else (some false)) else (some false))) else (some false))) = some r := by rw [if_pos rfl] at H; exact H
    clear H
    have H := H1
    clear H1
    replace H := Option.bind_eq_some_iff.mp H
    obtain ⟨t413, A80, H⟩ := H
    replace H : (if t413 = true then ((palanquinref05_in.f a0_2 0 8191).bind fun t414 => (if t414 = true then (if (a0_7.size : Int) = 4 then (if (a0_8.size : Int) = 4 then (if (a0_9.size : Int) ≤ 40 then (some (((a0_9.size : Int) % 4) == 0)) else (some false)) else (some false)) else (some false)) else (some false))) else (some false)) = some r := H
    have A8 := mA A80
    clear A80
    by_cases c9 : t413 = true
    ·subst c9
     have H1 : ((palanquinref05_in.f a0_2 0 8191).bind fun t414 => (if t414 = true then (if (a0_7.size : Int) = 4 then (if (a0_8.size : Int) = 4 then (if (a0_9.size : Int) ≤ 40 then (some (((a0_9.size : Int) % 4) == 0)) else (some false)) else (some false)) else (some false)) else (some false))) = some r := by rw [if_pos rfl] at H; exact H
     clear H
     have H := H1
     clear H1
     replace H := Option.bind_eq_some_iff.mp H
     obtain ⟨t414, A100, H⟩ := H
     replace H : (if t414 = true then (if (a0_7.size : Int) = 4 then (if (a0_8.size : Int) = 4 then (if (a0_9.size : Int) ≤ 40 then (some (((a0_9.size : Int) % 4) == 0)) else (some false)) else (some false)) else (some false)) else (some false)) = some r := H
     have A10 := mA A100
     clear A100
     by_cases c11 : t414 = true
     ·subst c11
      have H1 : (if (a0_7.size : Int) = 4 then (if (a0_8.size : Int) = 4 then (if (a0_9.size : Int) ≤ 40 then (some (((a0_9.size : Int) % 4) == 0)) else (some false)) else (some false)) else (some false)) = some r := by rw [if_pos rfl] at H; exact H
      clear H
      have H := H1
      clear H1
      by_cases c12 : (a0_7.size : Int) = 4
      ·rw [if_pos c12] at H
       have c12b0 : ((a0_7.size : Int) == 4) = true := beq_iff_eq.mpr c12
       have c12b1 : ((a0_7.size : Int) != 4) = false := bne_eq_false_iff_eq.mpr c12
       clear c12
       by_cases c13 : (a0_8.size : Int) = 4
       ·rw [if_pos c13] at H
        have c13b0 : ((a0_8.size : Int) == 4) = true := beq_iff_eq.mpr c13
        have c13b1 : ((a0_8.size : Int) != 4) = false := bne_eq_false_iff_eq.mpr c13
        clear c13
        by_cases c14 : (a0_9.size : Int) ≤ 40
        ·rw [if_pos c14] at H
         have c14b0 : decide ((a0_9.size : Int) ≤ 40) = true := decide_eq_true c14
         have c14b1 : decide (a0_9.size ≤ 40) = true := decide_eq_true (by omega)
         clear c14
         obtain rfl := Option.some.inj H
         go_enter Try.func88, Try.ntmps88
         go_wp2_with (first | ((with_reducible refine gate_dst (N := 1) rfl ?_); (try (refine gate_guard (by rfl) ?_; dsimp only)); refine box_event ?hg (N := 1) ?hd (cs := #[.int .i64 a0_0, .int .i64 a0_1, .int .i64 a0_2, .int .i64 a0_3, .int .i64 a0_4, .bool a0_5, .bool a0_6, .string a0_7, .string a0_8, .string a0_9]) (t := 93) ?hr ?_; (case hd => rfl); (case hg => rfl); (case hr => first | (go_simp; done) | (go_simp; rfl)); intro gb409 hg w15 hbox hb; have n0_ := mA (bP (by repeat (first | (with_reducible first | exact HB.out | apply bA | apply bN | apply bD) | exact HB.out)) hb); have n1_ := mA (hbox); have n2_ := mA ((by rw [hg]; exact (below_size (by repeat (first | (with_reducible first | exact HB.out | apply bA | apply bN | apply bD) | exact HB.out))) : w.heap.size ≤ gb409)); have n3_ := mA ((by rw [hg]; exact (below_size (by repeat (first | (with_reducible first | exact HB.out | apply bA | apply bN | apply bD) | exact HB.out))) : w.heap.size ≤ gb409)); clear HB; have HB := n0_; have BK409 := n1_; have GW409 := n2_; have GE409 := n3_; clear n0_ n1_ n2_ n3_; clear hb hbox hg; have hcz16_0 : w15.cell? ⟨gb409, 0, none⟩ = some (.int .i64 a0_0) := (zC BK409.out 0).trans rfl; have hcz16_1 : w15.cell? ⟨gb409, 1, none⟩ = some (.int .i64 a0_1) := (zC BK409.out 1).trans rfl; have hcz16_2 : w15.cell? ⟨gb409, 2, none⟩ = some (.int .i64 a0_2) := (zC BK409.out 2).trans rfl; have hcz16_3 : w15.cell? ⟨gb409, 3, none⟩ = some (.int .i64 a0_3) := (zC BK409.out 3).trans rfl; have hcz16_4 : w15.cell? ⟨gb409, 4, none⟩ = some (.int .i64 a0_4) := (zC BK409.out 4).trans rfl; have hcz16_5 : w15.cell? ⟨gb409, 5, none⟩ = some (.bool a0_5) := (zC BK409.out 5).trans rfl; have hcz16_6 : w15.cell? ⟨gb409, 6, none⟩ = some (.bool a0_6) := (zC BK409.out 6).trans rfl; have hcz16_7 : w15.cell? ⟨gb409, 7, none⟩ = some (.string a0_7) := (zC BK409.out 7).trans rfl; have hcz16_8 : w15.cell? ⟨gb409, 8, none⟩ = some (.string a0_8) := (zC BK409.out 8).trans rfl; have hcz16_9 : w15.cell? ⟨gb409, 9, none⟩ = some (.string a0_9) := (zC BK409.out 9).trans rfl; have hfz16_0 := zF BK409.out 0; have hfz16_1 := zF BK409.out 1; have hfz16_2 := zF BK409.out 2; have hfz16_3 := zF BK409.out 3; have hfz16_4 := zF BK409.out 4; have hfz16_5 := zF BK409.out 5; have hfz16_6 := zF BK409.out 6; have hfz16_7 := zF BK409.out 7; have hfz16_8 := zF BK409.out 8; have hfz16_9 := zF BK409.out 9) | ((with_reducible refine gate_callee (f := 146) rfl ?_); refine goesL_ (some 5) rfl rfl Try.func146 (by kernel_rfl) rfl #[.int .i64 a0_0, .int .i64 0, .int .i64 255] rfl (by (try simp only [List.map_toArray, List.map_cons, List.map_nil]); first | done | rfl | (simp only [List.length_drop, List.length_take]; rfl)) ?_; (with_reducible refine (palanquinref05_in.calls a0_0 0 255 true _ A2.out).mono ?_); rintro e w' ⟨rfl, ⟨nd, rfl⟩⟩; refine ⟨_, rfl, ?_⟩) | (go_at_call 146; (with_reducible refine (palanquinref05_in.calls a0_3 0 255 true _ A4.out).mono ?_); rintro e w' ⟨rfl, ⟨nd, rfl⟩⟩) | (go_at_call 146; (with_reducible refine (palanquinref05_in.calls a0_4 0 255 true _ A6.out).mono ?_); rintro e w' ⟨rfl, ⟨nd, rfl⟩⟩) | (go_at_call 146; (with_reducible refine (palanquinref05_in.calls a0_1 0 65535 true _ A8.out).mono ?_); rintro e w' ⟨rfl, ⟨nd, rfl⟩⟩) | (go_at_call 146; (with_reducible refine (palanquinref05_in.calls a0_2 0 8191 true _ A10.out).mono ?_); rintro e w' ⟨rfl, ⟨nd, rfl⟩⟩))
         go_ret
         exact ⟨by first | rfl | (simp [errW_none, errW_some] <;> rfl) | (simp [*, errW_none, errW_some] <;> rfl), by repeat (first | (with_reducible first | exact HB.out | apply bA | apply bN | apply bD | refine bS ?_ GE409.out) | exact HB.out)⟩
        ·rw [if_neg c14] at H
         have c14b0 : decide ((a0_9.size : Int) ≤ 40) = false := decide_eq_false c14
         have c14b1 : decide (a0_9.size ≤ 40) = false := decide_eq_false (by omega)
         clear c14
         obtain rfl := Option.some.inj H
         go_enter Try.func88, Try.ntmps88
         go_wp2_with (first | ((with_reducible refine gate_dst (N := 1) rfl ?_); (try (refine gate_guard (by rfl) ?_; dsimp only)); refine box_event ?hg (N := 1) ?hd (cs := #[.int .i64 a0_0, .int .i64 a0_1, .int .i64 a0_2, .int .i64 a0_3, .int .i64 a0_4, .bool a0_5, .bool a0_6, .string a0_7, .string a0_8, .string a0_9]) (t := 93) ?hr ?_; (case hd => rfl); (case hg => rfl); (case hr => first | (go_simp; done) | (go_simp; rfl)); intro gb409 hg w17 hbox hb; have n0_ := mA (bP (by repeat (first | (with_reducible first | exact HB.out | apply bA | apply bN | apply bD) | exact HB.out)) hb); have n1_ := mA (hbox); have n2_ := mA ((by rw [hg]; exact (below_size (by repeat (first | (with_reducible first | exact HB.out | apply bA | apply bN | apply bD) | exact HB.out))) : w.heap.size ≤ gb409)); have n3_ := mA ((by rw [hg]; exact (below_size (by repeat (first | (with_reducible first | exact HB.out | apply bA | apply bN | apply bD) | exact HB.out))) : w.heap.size ≤ gb409)); clear HB; have HB := n0_; have BK409 := n1_; have GW409 := n2_; have GE409 := n3_; clear n0_ n1_ n2_ n3_; clear hb hbox hg; have hcz18_0 : w17.cell? ⟨gb409, 0, none⟩ = some (.int .i64 a0_0) := (zC BK409.out 0).trans rfl; have hcz18_1 : w17.cell? ⟨gb409, 1, none⟩ = some (.int .i64 a0_1) := (zC BK409.out 1).trans rfl; have hcz18_2 : w17.cell? ⟨gb409, 2, none⟩ = some (.int .i64 a0_2) := (zC BK409.out 2).trans rfl; have hcz18_3 : w17.cell? ⟨gb409, 3, none⟩ = some (.int .i64 a0_3) := (zC BK409.out 3).trans rfl; have hcz18_4 : w17.cell? ⟨gb409, 4, none⟩ = some (.int .i64 a0_4) := (zC BK409.out 4).trans rfl; have hcz18_5 : w17.cell? ⟨gb409, 5, none⟩ = some (.bool a0_5) := (zC BK409.out 5).trans rfl; have hcz18_6 : w17.cell? ⟨gb409, 6, none⟩ = some (.bool a0_6) := (zC BK409.out 6).trans rfl; have hcz18_7 : w17.cell? ⟨gb409, 7, none⟩ = some (.string a0_7) := (zC BK409.out 7).trans rfl; have hcz18_8 : w17.cell? ⟨gb409, 8, none⟩ = some (.string a0_8) := (zC BK409.out 8).trans rfl; have hcz18_9 : w17.cell? ⟨gb409, 9, none⟩ = some (.string a0_9) := (zC BK409.out 9).trans rfl; have hfz18_0 := zF BK409.out 0; have hfz18_1 := zF BK409.out 1; have hfz18_2 := zF BK409.out 2; have hfz18_3 := zF BK409.out 3; have hfz18_4 := zF BK409.out 4; have hfz18_5 := zF BK409.out 5; have hfz18_6 := zF BK409.out 6; have hfz18_7 := zF BK409.out 7; have hfz18_8 := zF BK409.out 8; have hfz18_9 := zF BK409.out 9) | ((with_reducible refine gate_callee (f := 146) rfl ?_); refine goesL_ (some 5) rfl rfl Try.func146 (by kernel_rfl) rfl #[.int .i64 a0_0, .int .i64 0, .int .i64 255] rfl (by (try simp only [List.map_toArray, List.map_cons, List.map_nil]); first | done | rfl | (simp only [List.length_drop, List.length_take]; rfl)) ?_; (with_reducible refine (palanquinref05_in.calls a0_0 0 255 true _ A2.out).mono ?_); rintro e w' ⟨rfl, ⟨nd, rfl⟩⟩; refine ⟨_, rfl, ?_⟩) | (go_at_call 146; (with_reducible refine (palanquinref05_in.calls a0_3 0 255 true _ A4.out).mono ?_); rintro e w' ⟨rfl, ⟨nd, rfl⟩⟩) | (go_at_call 146; (with_reducible refine (palanquinref05_in.calls a0_4 0 255 true _ A6.out).mono ?_); rintro e w' ⟨rfl, ⟨nd, rfl⟩⟩) | (go_at_call 146; (with_reducible refine (palanquinref05_in.calls a0_1 0 65535 true _ A8.out).mono ?_); rintro e w' ⟨rfl, ⟨nd, rfl⟩⟩) | (go_at_call 146; (with_reducible refine (palanquinref05_in.calls a0_2 0 8191 true _ A10.out).mono ?_); rintro e w' ⟨rfl, ⟨nd, rfl⟩⟩))
         go_ret
         exact ⟨by first | rfl | (simp [errW_none, errW_some] <;> rfl) | (simp [*, errW_none, errW_some] <;> rfl), by repeat (first | (with_reducible first | exact HB.out | apply bA | apply bN | apply bD | refine bS ?_ GE409.out) | exact HB.out)⟩
       ·rw [if_neg c13] at H
        have c13b0 : ((a0_8.size : Int) == 4) = false := beq_eq_false_iff_ne.mpr c13
        have c13b1 : ((a0_8.size : Int) != 4) = true := bne_iff_ne.mpr c13
        obtain rfl := Option.some.inj H
        go_enter Try.func88, Try.ntmps88
        go_wp2_with (first | ((with_reducible refine gate_dst (N := 1) rfl ?_); (try (refine gate_guard (by rfl) ?_; dsimp only)); refine box_event ?hg (N := 1) ?hd (cs := #[.int .i64 a0_0, .int .i64 a0_1, .int .i64 a0_2, .int .i64 a0_3, .int .i64 a0_4, .bool a0_5, .bool a0_6, .string a0_7, .string a0_8, .string a0_9]) (t := 93) ?hr ?_; (case hd => rfl); (case hg => rfl); (case hr => first | (go_simp; done) | (go_simp; rfl)); intro gb409 hg w19 hbox hb; have n0_ := mA (bP (by repeat (first | (with_reducible first | exact HB.out | apply bA | apply bN | apply bD) | exact HB.out)) hb); have n1_ := mA (hbox); have n2_ := mA ((by rw [hg]; exact (below_size (by repeat (first | (with_reducible first | exact HB.out | apply bA | apply bN | apply bD) | exact HB.out))) : w.heap.size ≤ gb409)); have n3_ := mA ((by rw [hg]; exact (below_size (by repeat (first | (with_reducible first | exact HB.out | apply bA | apply bN | apply bD) | exact HB.out))) : w.heap.size ≤ gb409)); clear HB; have HB := n0_; have BK409 := n1_; have GW409 := n2_; have GE409 := n3_; clear n0_ n1_ n2_ n3_; clear hb hbox hg; have hcz20_0 : w19.cell? ⟨gb409, 0, none⟩ = some (.int .i64 a0_0) := (zC BK409.out 0).trans rfl; have hcz20_1 : w19.cell? ⟨gb409, 1, none⟩ = some (.int .i64 a0_1) := (zC BK409.out 1).trans rfl; have hcz20_2 : w19.cell? ⟨gb409, 2, none⟩ = some (.int .i64 a0_2) := (zC BK409.out 2).trans rfl; have hcz20_3 : w19.cell? ⟨gb409, 3, none⟩ = some (.int .i64 a0_3) := (zC BK409.out 3).trans rfl; have hcz20_4 : w19.cell? ⟨gb409, 4, none⟩ = some (.int .i64 a0_4) := (zC BK409.out 4).trans rfl; have hcz20_5 : w19.cell? ⟨gb409, 5, none⟩ = some (.bool a0_5) := (zC BK409.out 5).trans rfl; have hcz20_6 : w19.cell? ⟨gb409, 6, none⟩ = some (.bool a0_6) := (zC BK409.out 6).trans rfl; have hcz20_7 : w19.cell? ⟨gb409, 7, none⟩ = some (.string a0_7) := (zC BK409.out 7).trans rfl; have hcz20_8 : w19.cell? ⟨gb409, 8, none⟩ = some (.string a0_8) := (zC BK409.out 8).trans rfl; have hcz20_9 : w19.cell? ⟨gb409, 9, none⟩ = some (.string a0_9) := (zC BK409.out 9).trans rfl; have hfz20_0 := zF BK409.out 0; have hfz20_1 := zF BK409.out 1; have hfz20_2 := zF BK409.out 2; have hfz20_3 := zF BK409.out 3; have hfz20_4 := zF BK409.out 4; have hfz20_5 := zF BK409.out 5; have hfz20_6 := zF BK409.out 6; have hfz20_7 := zF BK409.out 7; have hfz20_8 := zF BK409.out 8; have hfz20_9 := zF BK409.out 9) | ((with_reducible refine gate_callee (f := 146) rfl ?_); refine goesL_ (some 5) rfl rfl Try.func146 (by kernel_rfl) rfl #[.int .i64 a0_0, .int .i64 0, .int .i64 255] rfl (by (try simp only [List.map_toArray, List.map_cons, List.map_nil]); first | done | rfl | (simp only [List.length_drop, List.length_take]; rfl)) ?_; (with_reducible refine (palanquinref05_in.calls a0_0 0 255 true _ A2.out).mono ?_); rintro e w' ⟨rfl, ⟨nd, rfl⟩⟩; refine ⟨_, rfl, ?_⟩) | (go_at_call 146; (with_reducible refine (palanquinref05_in.calls a0_3 0 255 true _ A4.out).mono ?_); rintro e w' ⟨rfl, ⟨nd, rfl⟩⟩) | (go_at_call 146; (with_reducible refine (palanquinref05_in.calls a0_4 0 255 true _ A6.out).mono ?_); rintro e w' ⟨rfl, ⟨nd, rfl⟩⟩) | (go_at_call 146; (with_reducible refine (palanquinref05_in.calls a0_1 0 65535 true _ A8.out).mono ?_); rintro e w' ⟨rfl, ⟨nd, rfl⟩⟩) | (go_at_call 146; (with_reducible refine (palanquinref05_in.calls a0_2 0 8191 true _ A10.out).mono ?_); rintro e w' ⟨rfl, ⟨nd, rfl⟩⟩))
        go_ret
        exact ⟨by first | rfl | (simp [errW_none, errW_some] <;> rfl) | (simp [*, errW_none, errW_some] <;> rfl), by repeat (first | (with_reducible first | exact HB.out | apply bA | apply bN | apply bD | refine bS ?_ GE409.out) | exact HB.out)⟩
      ·rw [if_neg c12] at H
       have c12b0 : ((a0_7.size : Int) == 4) = false := beq_eq_false_iff_ne.mpr c12
       have c12b1 : ((a0_7.size : Int) != 4) = true := bne_iff_ne.mpr c12
       obtain rfl := Option.some.inj H
       go_enter Try.func88, Try.ntmps88
       go_wp2_with (first | ((with_reducible refine gate_dst (N := 1) rfl ?_); (try (refine gate_guard (by rfl) ?_; dsimp only)); refine box_event ?hg (N := 1) ?hd (cs := #[.int .i64 a0_0, .int .i64 a0_1, .int .i64 a0_2, .int .i64 a0_3, .int .i64 a0_4, .bool a0_5, .bool a0_6, .string a0_7, .string a0_8, .string a0_9]) (t := 93) ?hr ?_; (case hd => rfl); (case hg => rfl); (case hr => first | (go_simp; done) | (go_simp; rfl)); intro gb409 hg w21 hbox hb; have n0_ := mA (bP (by repeat (first | (with_reducible first | exact HB.out | apply bA | apply bN | apply bD) | exact HB.out)) hb); have n1_ := mA (hbox); have n2_ := mA ((by rw [hg]; exact (below_size (by repeat (first | (with_reducible first | exact HB.out | apply bA | apply bN | apply bD) | exact HB.out))) : w.heap.size ≤ gb409)); have n3_ := mA ((by rw [hg]; exact (below_size (by repeat (first | (with_reducible first | exact HB.out | apply bA | apply bN | apply bD) | exact HB.out))) : w.heap.size ≤ gb409)); clear HB; have HB := n0_; have BK409 := n1_; have GW409 := n2_; have GE409 := n3_; clear n0_ n1_ n2_ n3_; clear hb hbox hg; have hcz22_0 : w21.cell? ⟨gb409, 0, none⟩ = some (.int .i64 a0_0) := (zC BK409.out 0).trans rfl; have hcz22_1 : w21.cell? ⟨gb409, 1, none⟩ = some (.int .i64 a0_1) := (zC BK409.out 1).trans rfl; have hcz22_2 : w21.cell? ⟨gb409, 2, none⟩ = some (.int .i64 a0_2) := (zC BK409.out 2).trans rfl; have hcz22_3 : w21.cell? ⟨gb409, 3, none⟩ = some (.int .i64 a0_3) := (zC BK409.out 3).trans rfl; have hcz22_4 : w21.cell? ⟨gb409, 4, none⟩ = some (.int .i64 a0_4) := (zC BK409.out 4).trans rfl; have hcz22_5 : w21.cell? ⟨gb409, 5, none⟩ = some (.bool a0_5) := (zC BK409.out 5).trans rfl; have hcz22_6 : w21.cell? ⟨gb409, 6, none⟩ = some (.bool a0_6) := (zC BK409.out 6).trans rfl; have hcz22_7 : w21.cell? ⟨gb409, 7, none⟩ = some (.string a0_7) := (zC BK409.out 7).trans rfl; have hcz22_8 : w21.cell? ⟨gb409, 8, none⟩ = some (.string a0_8) := (zC BK409.out 8).trans rfl; have hcz22_9 : w21.cell? ⟨gb409, 9, none⟩ = some (.string a0_9) := (zC BK409.out 9).trans rfl; have hfz22_0 := zF BK409.out 0; have hfz22_1 := zF BK409.out 1; have hfz22_2 := zF BK409.out 2; have hfz22_3 := zF BK409.out 3; have hfz22_4 := zF BK409.out 4; have hfz22_5 := zF BK409.out 5; have hfz22_6 := zF BK409.out 6; have hfz22_7 := zF BK409.out 7; have hfz22_8 := zF BK409.out 8; have hfz22_9 := zF BK409.out 9) | ((with_reducible refine gate_callee (f := 146) rfl ?_); refine goesL_ (some 5) rfl rfl Try.func146 (by kernel_rfl) rfl #[.int .i64 a0_0, .int .i64 0, .int .i64 255] rfl (by (try simp only [List.map_toArray, List.map_cons, List.map_nil]); first | done | rfl | (simp only [List.length_drop, List.length_take]; rfl)) ?_; (with_reducible refine (palanquinref05_in.calls a0_0 0 255 true _ A2.out).mono ?_); rintro e w' ⟨rfl, ⟨nd, rfl⟩⟩; refine ⟨_, rfl, ?_⟩) | (go_at_call 146; (with_reducible refine (palanquinref05_in.calls a0_3 0 255 true _ A4.out).mono ?_); rintro e w' ⟨rfl, ⟨nd, rfl⟩⟩) | (go_at_call 146; (with_reducible refine (palanquinref05_in.calls a0_4 0 255 true _ A6.out).mono ?_); rintro e w' ⟨rfl, ⟨nd, rfl⟩⟩) | (go_at_call 146; (with_reducible refine (palanquinref05_in.calls a0_1 0 65535 true _ A8.out).mono ?_); rintro e w' ⟨rfl, ⟨nd, rfl⟩⟩) | (go_at_call 146; (with_reducible refine (palanquinref05_in.calls a0_2 0 8191 true _ A10.out).mono ?_); rintro e w' ⟨rfl, ⟨nd, rfl⟩⟩))
       go_ret
       exact ⟨by first | rfl | (simp [errW_none, errW_some] <;> rfl) | (simp [*, errW_none, errW_some] <;> rfl), by repeat (first | (with_reducible first | exact HB.out | apply bA | apply bN | apply bD | refine bS ?_ GE409.out) | exact HB.out)⟩
     ·replace c11 := Bool.eq_false_iff.mpr c11
      subst c11
      have H1 : (some false) = some r := by rw [if_neg (show ¬ (false = true) by decide)] at H; exact H
      clear H
      have H := H1
      clear H1
      obtain rfl := Option.some.inj H
      go_enter Try.func88, Try.ntmps88
      go_wp2_with (first | ((with_reducible refine gate_dst (N := 1) rfl ?_); (try (refine gate_guard (by rfl) ?_; dsimp only)); refine box_event ?hg (N := 1) ?hd (cs := #[.int .i64 a0_0, .int .i64 a0_1, .int .i64 a0_2, .int .i64 a0_3, .int .i64 a0_4, .bool a0_5, .bool a0_6, .string a0_7, .string a0_8, .string a0_9]) (t := 93) ?hr ?_; (case hd => rfl); (case hg => rfl); (case hr => first | (go_simp; done) | (go_simp; rfl)); intro gb409 hg w23 hbox hb; have n0_ := mA (bP (by repeat (first | (with_reducible first | exact HB.out | apply bA | apply bN | apply bD) | exact HB.out)) hb); have n1_ := mA (hbox); have n2_ := mA ((by rw [hg]; exact (below_size (by repeat (first | (with_reducible first | exact HB.out | apply bA | apply bN | apply bD) | exact HB.out))) : w.heap.size ≤ gb409)); have n3_ := mA ((by rw [hg]; exact (below_size (by repeat (first | (with_reducible first | exact HB.out | apply bA | apply bN | apply bD) | exact HB.out))) : w.heap.size ≤ gb409)); clear HB; have HB := n0_; have BK409 := n1_; have GW409 := n2_; have GE409 := n3_; clear n0_ n1_ n2_ n3_; clear hb hbox hg; have hcz24_0 : w23.cell? ⟨gb409, 0, none⟩ = some (.int .i64 a0_0) := (zC BK409.out 0).trans rfl; have hcz24_1 : w23.cell? ⟨gb409, 1, none⟩ = some (.int .i64 a0_1) := (zC BK409.out 1).trans rfl; have hcz24_2 : w23.cell? ⟨gb409, 2, none⟩ = some (.int .i64 a0_2) := (zC BK409.out 2).trans rfl; have hcz24_3 : w23.cell? ⟨gb409, 3, none⟩ = some (.int .i64 a0_3) := (zC BK409.out 3).trans rfl; have hcz24_4 : w23.cell? ⟨gb409, 4, none⟩ = some (.int .i64 a0_4) := (zC BK409.out 4).trans rfl; have hcz24_5 : w23.cell? ⟨gb409, 5, none⟩ = some (.bool a0_5) := (zC BK409.out 5).trans rfl; have hcz24_6 : w23.cell? ⟨gb409, 6, none⟩ = some (.bool a0_6) := (zC BK409.out 6).trans rfl; have hcz24_7 : w23.cell? ⟨gb409, 7, none⟩ = some (.string a0_7) := (zC BK409.out 7).trans rfl; have hcz24_8 : w23.cell? ⟨gb409, 8, none⟩ = some (.string a0_8) := (zC BK409.out 8).trans rfl; have hcz24_9 : w23.cell? ⟨gb409, 9, none⟩ = some (.string a0_9) := (zC BK409.out 9).trans rfl; have hfz24_0 := zF BK409.out 0; have hfz24_1 := zF BK409.out 1; have hfz24_2 := zF BK409.out 2; have hfz24_3 := zF BK409.out 3; have hfz24_4 := zF BK409.out 4; have hfz24_5 := zF BK409.out 5; have hfz24_6 := zF BK409.out 6; have hfz24_7 := zF BK409.out 7; have hfz24_8 := zF BK409.out 8; have hfz24_9 := zF BK409.out 9) | ((with_reducible refine gate_callee (f := 146) rfl ?_); refine goesL_ (some 5) rfl rfl Try.func146 (by kernel_rfl) rfl #[.int .i64 a0_0, .int .i64 0, .int .i64 255] rfl (by (try simp only [List.map_toArray, List.map_cons, List.map_nil]); first | done | rfl | (simp only [List.length_drop, List.length_take]; rfl)) ?_; (with_reducible refine (palanquinref05_in.calls a0_0 0 255 true _ A2.out).mono ?_); rintro e w' ⟨rfl, ⟨nd, rfl⟩⟩; refine ⟨_, rfl, ?_⟩) | (go_at_call 146; (with_reducible refine (palanquinref05_in.calls a0_3 0 255 true _ A4.out).mono ?_); rintro e w' ⟨rfl, ⟨nd, rfl⟩⟩) | (go_at_call 146; (with_reducible refine (palanquinref05_in.calls a0_4 0 255 true _ A6.out).mono ?_); rintro e w' ⟨rfl, ⟨nd, rfl⟩⟩) | (go_at_call 146; (with_reducible refine (palanquinref05_in.calls a0_1 0 65535 true _ A8.out).mono ?_); rintro e w' ⟨rfl, ⟨nd, rfl⟩⟩) | (go_at_call 146; (with_reducible refine (palanquinref05_in.calls a0_2 0 8191 false _ A10.out).mono ?_); rintro e w' ⟨rfl, ⟨nd, rfl⟩⟩))
      go_ret
      exact ⟨by first | rfl | (simp [errW_none, errW_some] <;> rfl) | (simp [*, errW_none, errW_some] <;> rfl), by repeat (first | (with_reducible first | exact HB.out | apply bA | apply bN | apply bD | refine bS ?_ GE409.out) | exact HB.out)⟩
    ·replace c9 := Bool.eq_false_iff.mpr c9
     subst c9
     have H1 : (some false) = some r := by rw [if_neg (show ¬ (false = true) by decide)] at H; exact H
     clear H
     have H := H1
     clear H1
     obtain rfl := Option.some.inj H
     go_enter Try.func88, Try.ntmps88
     go_wp2_with (first | ((with_reducible refine gate_dst (N := 1) rfl ?_); (try (refine gate_guard (by rfl) ?_; dsimp only)); refine box_event ?hg (N := 1) ?hd (cs := #[.int .i64 a0_0, .int .i64 a0_1, .int .i64 a0_2, .int .i64 a0_3, .int .i64 a0_4, .bool a0_5, .bool a0_6, .string a0_7, .string a0_8, .string a0_9]) (t := 93) ?hr ?_; (case hd => rfl); (case hg => rfl); (case hr => first | (go_simp; done) | (go_simp; rfl)); intro gb409 hg w25 hbox hb; have n0_ := mA (bP (by repeat (first | (with_reducible first | exact HB.out | apply bA | apply bN | apply bD) | exact HB.out)) hb); have n1_ := mA (hbox); have n2_ := mA ((by rw [hg]; exact (below_size (by repeat (first | (with_reducible first | exact HB.out | apply bA | apply bN | apply bD) | exact HB.out))) : w.heap.size ≤ gb409)); have n3_ := mA ((by rw [hg]; exact (below_size (by repeat (first | (with_reducible first | exact HB.out | apply bA | apply bN | apply bD) | exact HB.out))) : w.heap.size ≤ gb409)); clear HB; have HB := n0_; have BK409 := n1_; have GW409 := n2_; have GE409 := n3_; clear n0_ n1_ n2_ n3_; clear hb hbox hg; have hcz26_0 : w25.cell? ⟨gb409, 0, none⟩ = some (.int .i64 a0_0) := (zC BK409.out 0).trans rfl; have hcz26_1 : w25.cell? ⟨gb409, 1, none⟩ = some (.int .i64 a0_1) := (zC BK409.out 1).trans rfl; have hcz26_2 : w25.cell? ⟨gb409, 2, none⟩ = some (.int .i64 a0_2) := (zC BK409.out 2).trans rfl; have hcz26_3 : w25.cell? ⟨gb409, 3, none⟩ = some (.int .i64 a0_3) := (zC BK409.out 3).trans rfl; have hcz26_4 : w25.cell? ⟨gb409, 4, none⟩ = some (.int .i64 a0_4) := (zC BK409.out 4).trans rfl; have hcz26_5 : w25.cell? ⟨gb409, 5, none⟩ = some (.bool a0_5) := (zC BK409.out 5).trans rfl; have hcz26_6 : w25.cell? ⟨gb409, 6, none⟩ = some (.bool a0_6) := (zC BK409.out 6).trans rfl; have hcz26_7 : w25.cell? ⟨gb409, 7, none⟩ = some (.string a0_7) := (zC BK409.out 7).trans rfl; have hcz26_8 : w25.cell? ⟨gb409, 8, none⟩ = some (.string a0_8) := (zC BK409.out 8).trans rfl; have hcz26_9 : w25.cell? ⟨gb409, 9, none⟩ = some (.string a0_9) := (zC BK409.out 9).trans rfl; have hfz26_0 := zF BK409.out 0; have hfz26_1 := zF BK409.out 1; have hfz26_2 := zF BK409.out 2; have hfz26_3 := zF BK409.out 3; have hfz26_4 := zF BK409.out 4; have hfz26_5 := zF BK409.out 5; have hfz26_6 := zF BK409.out 6; have hfz26_7 := zF BK409.out 7; have hfz26_8 := zF BK409.out 8; have hfz26_9 := zF BK409.out 9) | ((with_reducible refine gate_callee (f := 146) rfl ?_); refine goesL_ (some 5) rfl rfl Try.func146 (by kernel_rfl) rfl #[.int .i64 a0_0, .int .i64 0, .int .i64 255] rfl (by (try simp only [List.map_toArray, List.map_cons, List.map_nil]); first | done | rfl | (simp only [List.length_drop, List.length_take]; rfl)) ?_; (with_reducible refine (palanquinref05_in.calls a0_0 0 255 true _ A2.out).mono ?_); rintro e w' ⟨rfl, ⟨nd, rfl⟩⟩; refine ⟨_, rfl, ?_⟩) | (go_at_call 146; (with_reducible refine (palanquinref05_in.calls a0_3 0 255 true _ A4.out).mono ?_); rintro e w' ⟨rfl, ⟨nd, rfl⟩⟩) | (go_at_call 146; (with_reducible refine (palanquinref05_in.calls a0_4 0 255 true _ A6.out).mono ?_); rintro e w' ⟨rfl, ⟨nd, rfl⟩⟩) | (go_at_call 146; (with_reducible refine (palanquinref05_in.calls a0_1 0 65535 false _ A8.out).mono ?_); rintro e w' ⟨rfl, ⟨nd, rfl⟩⟩))
     go_ret
     exact ⟨by first | rfl | (simp [errW_none, errW_some] <;> rfl) | (simp [*, errW_none, errW_some] <;> rfl), by repeat (first | (with_reducible first | exact HB.out | apply bA | apply bN | apply bD | refine bS ?_ GE409.out) | exact HB.out)⟩
   ·replace c7 := Bool.eq_false_iff.mpr c7
    subst c7
    have H1 : (some false) = some r := by rw [if_neg (show ¬ (false = true) by decide)] at H; exact H
    clear H
    have H := H1
    clear H1
    obtain rfl := Option.some.inj H
    go_enter Try.func88, Try.ntmps88
    go_wp2_with (first | ((with_reducible refine gate_dst (N := 1) rfl ?_); (try (refine gate_guard (by rfl) ?_; dsimp only)); refine box_event ?hg (N := 1) ?hd (cs := #[.int .i64 a0_0, .int .i64 a0_1, .int .i64 a0_2, .int .i64 a0_3, .int .i64 a0_4, .bool a0_5, .bool a0_6, .string a0_7, .string a0_8, .string a0_9]) (t := 93) ?hr ?_; (case hd => rfl); (case hg => rfl); (case hr => first | (go_simp; done) | (go_simp; rfl)); intro gb409 hg w27 hbox hb; have n0_ := mA (bP (by repeat (first | (with_reducible first | exact HB.out | apply bA | apply bN | apply bD) | exact HB.out)) hb); have n1_ := mA (hbox); have n2_ := mA ((by rw [hg]; exact (below_size (by repeat (first | (with_reducible first | exact HB.out | apply bA | apply bN | apply bD) | exact HB.out))) : w.heap.size ≤ gb409)); have n3_ := mA ((by rw [hg]; exact (below_size (by repeat (first | (with_reducible first | exact HB.out | apply bA | apply bN | apply bD) | exact HB.out))) : w.heap.size ≤ gb409)); clear HB; have HB := n0_; have BK409 := n1_; have GW409 := n2_; have GE409 := n3_; clear n0_ n1_ n2_ n3_; clear hb hbox hg; have hcz28_0 : w27.cell? ⟨gb409, 0, none⟩ = some (.int .i64 a0_0) := (zC BK409.out 0).trans rfl; have hcz28_1 : w27.cell? ⟨gb409, 1, none⟩ = some (.int .i64 a0_1) := (zC BK409.out 1).trans rfl; have hcz28_2 : w27.cell? ⟨gb409, 2, none⟩ = some (.int .i64 a0_2) := (zC BK409.out 2).trans rfl; have hcz28_3 : w27.cell? ⟨gb409, 3, none⟩ = some (.int .i64 a0_3) := (zC BK409.out 3).trans rfl; have hcz28_4 : w27.cell? ⟨gb409, 4, none⟩ = some (.int .i64 a0_4) := (zC BK409.out 4).trans rfl; have hcz28_5 : w27.cell? ⟨gb409, 5, none⟩ = some (.bool a0_5) := (zC BK409.out 5).trans rfl; have hcz28_6 : w27.cell? ⟨gb409, 6, none⟩ = some (.bool a0_6) := (zC BK409.out 6).trans rfl; have hcz28_7 : w27.cell? ⟨gb409, 7, none⟩ = some (.string a0_7) := (zC BK409.out 7).trans rfl; have hcz28_8 : w27.cell? ⟨gb409, 8, none⟩ = some (.string a0_8) := (zC BK409.out 8).trans rfl; have hcz28_9 : w27.cell? ⟨gb409, 9, none⟩ = some (.string a0_9) := (zC BK409.out 9).trans rfl; have hfz28_0 := zF BK409.out 0; have hfz28_1 := zF BK409.out 1; have hfz28_2 := zF BK409.out 2; have hfz28_3 := zF BK409.out 3; have hfz28_4 := zF BK409.out 4; have hfz28_5 := zF BK409.out 5; have hfz28_6 := zF BK409.out 6; have hfz28_7 := zF BK409.out 7; have hfz28_8 := zF BK409.out 8; have hfz28_9 := zF BK409.out 9) | ((with_reducible refine gate_callee (f := 146) rfl ?_); refine goesL_ (some 5) rfl rfl Try.func146 (by kernel_rfl) rfl #[.int .i64 a0_0, .int .i64 0, .int .i64 255] rfl (by (try simp only [List.map_toArray, List.map_cons, List.map_nil]); first | done | rfl | (simp only [List.length_drop, List.length_take]; rfl)) ?_; (with_reducible refine (palanquinref05_in.calls a0_0 0 255 true _ A2.out).mono ?_); rintro e w' ⟨rfl, ⟨nd, rfl⟩⟩; refine ⟨_, rfl, ?_⟩) | (go_at_call 146; (with_reducible refine (palanquinref05_in.calls a0_3 0 255 true _ A4.out).mono ?_); rintro e w' ⟨rfl, ⟨nd, rfl⟩⟩) | (go_at_call 146; (with_reducible refine (palanquinref05_in.calls a0_4 0 255 false _ A6.out).mono ?_); rintro e w' ⟨rfl, ⟨nd, rfl⟩⟩))
    go_ret
    exact ⟨by first | rfl | (simp [errW_none, errW_some] <;> rfl) | (simp [*, errW_none, errW_some] <;> rfl), by repeat (first | (with_reducible first | exact HB.out | apply bA | apply bN | apply bD | refine bS ?_ GE409.out) | exact HB.out)⟩
  ·replace c5 := Bool.eq_false_iff.mpr c5
   subst c5
   have H1 : (some false) = some r := by rw [if_neg (show ¬ (false = true) by decide)] at H; exact H
   clear H
   have H := H1
   clear H1
   obtain rfl := Option.some.inj H
   go_enter Try.func88, Try.ntmps88
   go_wp2_with (first | ((with_reducible refine gate_dst (N := 1) rfl ?_); (try (refine gate_guard (by rfl) ?_; dsimp only)); refine box_event ?hg (N := 1) ?hd (cs := #[.int .i64 a0_0, .int .i64 a0_1, .int .i64 a0_2, .int .i64 a0_3, .int .i64 a0_4, .bool a0_5, .bool a0_6, .string a0_7, .string a0_8, .string a0_9]) (t := 93) ?hr ?_; (case hd => rfl); (case hg => rfl); (case hr => first | (go_simp; done) | (go_simp; rfl)); intro gb409 hg w29 hbox hb; have n0_ := mA (bP (by repeat (first | (with_reducible first | exact HB.out | apply bA | apply bN | apply bD) | exact HB.out)) hb); have n1_ := mA (hbox); have n2_ := mA ((by rw [hg]; exact (below_size (by repeat (first | (with_reducible first | exact HB.out | apply bA | apply bN | apply bD) | exact HB.out))) : w.heap.size ≤ gb409)); have n3_ := mA ((by rw [hg]; exact (below_size (by repeat (first | (with_reducible first | exact HB.out | apply bA | apply bN | apply bD) | exact HB.out))) : w.heap.size ≤ gb409)); clear HB; have HB := n0_; have BK409 := n1_; have GW409 := n2_; have GE409 := n3_; clear n0_ n1_ n2_ n3_; clear hb hbox hg; have hcz30_0 : w29.cell? ⟨gb409, 0, none⟩ = some (.int .i64 a0_0) := (zC BK409.out 0).trans rfl; have hcz30_1 : w29.cell? ⟨gb409, 1, none⟩ = some (.int .i64 a0_1) := (zC BK409.out 1).trans rfl; have hcz30_2 : w29.cell? ⟨gb409, 2, none⟩ = some (.int .i64 a0_2) := (zC BK409.out 2).trans rfl; have hcz30_3 : w29.cell? ⟨gb409, 3, none⟩ = some (.int .i64 a0_3) := (zC BK409.out 3).trans rfl; have hcz30_4 : w29.cell? ⟨gb409, 4, none⟩ = some (.int .i64 a0_4) := (zC BK409.out 4).trans rfl; have hcz30_5 : w29.cell? ⟨gb409, 5, none⟩ = some (.bool a0_5) := (zC BK409.out 5).trans rfl; have hcz30_6 : w29.cell? ⟨gb409, 6, none⟩ = some (.bool a0_6) := (zC BK409.out 6).trans rfl; have hcz30_7 : w29.cell? ⟨gb409, 7, none⟩ = some (.string a0_7) := (zC BK409.out 7).trans rfl; have hcz30_8 : w29.cell? ⟨gb409, 8, none⟩ = some (.string a0_8) := (zC BK409.out 8).trans rfl; have hcz30_9 : w29.cell? ⟨gb409, 9, none⟩ = some (.string a0_9) := (zC BK409.out 9).trans rfl; have hfz30_0 := zF BK409.out 0; have hfz30_1 := zF BK409.out 1; have hfz30_2 := zF BK409.out 2; have hfz30_3 := zF BK409.out 3; have hfz30_4 := zF BK409.out 4; have hfz30_5 := zF BK409.out 5; have hfz30_6 := zF BK409.out 6; have hfz30_7 := zF BK409.out 7; have hfz30_8 := zF BK409.out 8; have hfz30_9 := zF BK409.out 9) | ((with_reducible refine gate_callee (f := 146) rfl ?_); refine goesL_ (some 5) rfl rfl Try.func146 (by kernel_rfl) rfl #[.int .i64 a0_0, .int .i64 0, .int .i64 255] rfl (by (try simp only [List.map_toArray, List.map_cons, List.map_nil]); first | done | rfl | (simp only [List.length_drop, List.length_take]; rfl)) ?_; (with_reducible refine (palanquinref05_in.calls a0_0 0 255 true _ A2.out).mono ?_); rintro e w' ⟨rfl, ⟨nd, rfl⟩⟩; refine ⟨_, rfl, ?_⟩) | (go_at_call 146; (with_reducible refine (palanquinref05_in.calls a0_3 0 255 false _ A4.out).mono ?_); rintro e w' ⟨rfl, ⟨nd, rfl⟩⟩))
   go_ret
   exact ⟨by first | rfl | (simp [errW_none, errW_some] <;> rfl) | (simp [*, errW_none, errW_some] <;> rfl), by repeat (first | (with_reducible first | exact HB.out | apply bA | apply bN | apply bD | refine bS ?_ GE409.out) | exact HB.out)⟩
 ·replace c3 := Bool.eq_false_iff.mpr c3
  subst c3
  have H1 : (some false) = some r := by rw [if_neg (show ¬ (false = true) by decide)] at H; exact H
  clear H
  have H := H1
  clear H1
  obtain rfl := Option.some.inj H
  go_enter Try.func88, Try.ntmps88
  go_wp2_with (first | ((with_reducible refine gate_dst (N := 1) rfl ?_); (try (refine gate_guard (by rfl) ?_; dsimp only)); refine box_event ?hg (N := 1) ?hd (cs := #[.int .i64 a0_0, .int .i64 a0_1, .int .i64 a0_2, .int .i64 a0_3, .int .i64 a0_4, .bool a0_5, .bool a0_6, .string a0_7, .string a0_8, .string a0_9]) (t := 93) ?hr ?_; (case hd => rfl); (case hg => rfl); (case hr => first | (go_simp; done) | (go_simp; rfl)); intro gb409 hg w31 hbox hb; have n0_ := mA (bP (by repeat (first | (with_reducible first | exact HB.out | apply bA | apply bN | apply bD) | exact HB.out)) hb); have n1_ := mA (hbox); have n2_ := mA ((by rw [hg]; exact (below_size (by repeat (first | (with_reducible first | exact HB.out | apply bA | apply bN | apply bD) | exact HB.out))) : w.heap.size ≤ gb409)); have n3_ := mA ((by rw [hg]; exact (below_size (by repeat (first | (with_reducible first | exact HB.out | apply bA | apply bN | apply bD) | exact HB.out))) : w.heap.size ≤ gb409)); clear HB; have HB := n0_; have BK409 := n1_; have GW409 := n2_; have GE409 := n3_; clear n0_ n1_ n2_ n3_; clear hb hbox hg; have hcz32_0 : w31.cell? ⟨gb409, 0, none⟩ = some (.int .i64 a0_0) := (zC BK409.out 0).trans rfl; have hcz32_1 : w31.cell? ⟨gb409, 1, none⟩ = some (.int .i64 a0_1) := (zC BK409.out 1).trans rfl; have hcz32_2 : w31.cell? ⟨gb409, 2, none⟩ = some (.int .i64 a0_2) := (zC BK409.out 2).trans rfl; have hcz32_3 : w31.cell? ⟨gb409, 3, none⟩ = some (.int .i64 a0_3) := (zC BK409.out 3).trans rfl; have hcz32_4 : w31.cell? ⟨gb409, 4, none⟩ = some (.int .i64 a0_4) := (zC BK409.out 4).trans rfl; have hcz32_5 : w31.cell? ⟨gb409, 5, none⟩ = some (.bool a0_5) := (zC BK409.out 5).trans rfl; have hcz32_6 : w31.cell? ⟨gb409, 6, none⟩ = some (.bool a0_6) := (zC BK409.out 6).trans rfl; have hcz32_7 : w31.cell? ⟨gb409, 7, none⟩ = some (.string a0_7) := (zC BK409.out 7).trans rfl; have hcz32_8 : w31.cell? ⟨gb409, 8, none⟩ = some (.string a0_8) := (zC BK409.out 8).trans rfl; have hcz32_9 : w31.cell? ⟨gb409, 9, none⟩ = some (.string a0_9) := (zC BK409.out 9).trans rfl; have hfz32_0 := zF BK409.out 0; have hfz32_1 := zF BK409.out 1; have hfz32_2 := zF BK409.out 2; have hfz32_3 := zF BK409.out 3; have hfz32_4 := zF BK409.out 4; have hfz32_5 := zF BK409.out 5; have hfz32_6 := zF BK409.out 6; have hfz32_7 := zF BK409.out 7; have hfz32_8 := zF BK409.out 8; have hfz32_9 := zF BK409.out 9) | ((with_reducible refine gate_callee (f := 146) rfl ?_); refine goesL_ (some 5) rfl rfl Try.func146 (by kernel_rfl) rfl #[.int .i64 a0_0, .int .i64 0, .int .i64 255] rfl (by (try simp only [List.map_toArray, List.map_cons, List.map_nil]); first | done | rfl | (simp only [List.length_drop, List.length_take]; rfl)) ?_; (with_reducible refine (palanquinref05_in.calls a0_0 0 255 false _ A2.out).mono ?_); rintro e w' ⟨rfl, ⟨nd, rfl⟩⟩; refine ⟨_, rfl, ?_⟩))
  go_ret
  exact ⟨by first | rfl | (simp [errW_none, errW_some] <;> rfl) | (simp [*, errW_none, errW_some] <;> rfl), by repeat (first | (with_reducible first | exact HB.out | apply bA | apply bN | apply bD | refine bS ?_ GE409.out) | exact HB.out)⟩

def palanquinref05_num.f (k : Nat) (a0 : Int) (a1 : Int) : Option (ByteArray) := (palanquinref01_Bytes.f k (IntKind.u64.wrap (a0)) a1).bind fun t415 => (some t415)
theorem palanquinref05_num.mono : ∀ a0 a1 k, LeO (palanquinref05_num.f k a0 a1) (palanquinref05_num.f (k + 1) a0 a1) := by
 intro a0 a1 k
 unfold palanquinref05_num.f
 repeat' first
   | (with_reducible exact palanquinref01_Bytes.mono _ _ _)
   | (with_reducible exact LeO.refl _)
   | (with_reducible exact LeO.none _)
   | (with_reducible refine LeO.ite ?_ ?_)
   | (with_reducible refine LeO.bind ?_ (fun _ => ?_))
   | exact palanquinref01_Bytes.mono _ _ _
   | exact LeO.none _
   | refine LeO.ite ?_ ?_
   | refine LeO.bind ?_ (fun _ => ?_)
set_option maxHeartbeats 8000000 in
set_option maxRecDepth 100000 in
theorem palanquinref05_num.calls (k : Nat) (a0 : Int) (a1 : Int) (r : ByteArray) (w : World) (h : palanquinref05_num.f k a0 a1 = some r) :
  Calls Try.prog 143 #[.int .i64 a0, .int .i64 a1] w fun e w' => e = .returned (.string r) ∧ Below w.heap.size w w' := by
 have HB := mA (Below.refl w.heap.size w)
 have H : ((palanquinref01_Bytes.f k (IntKind.u64.wrap (a0)) a1).bind fun t415 => (some t415)) = some r := h
 clear h
 replace H := Option.bind_eq_some_iff.mp H
 obtain ⟨t415, A30, H⟩ := H
 replace H : (some t415) = some r := H
 have A3 := mA A30
 clear A30
 obtain rfl := Option.some.inj H
 go_enter Try.func143, Try.ntmps143
 go_wp2_with (first | ((with_reducible refine gate_callee (f := 124) rfl ?_); refine goesL_ (some 8) rfl rfl Try.func124 (by kernel_rfl) rfl #[.int .u64 (IntKind.u64.wrap (a0)), .int .i64 a1] rfl (by (try simp only [List.map_toArray, List.map_cons, List.map_nil]); first | done | rfl | (simp only [List.length_drop, List.length_take]; rfl)) ?_; (with_reducible refine (palanquinref01_Bytes.calls k (IntKind.u64.wrap (a0)) a1 t415 _ A3.out).mono ?_); rintro e w4 ⟨rfl, hb⟩; refine ⟨_, rfl, ?_⟩; have n0_ := mA (bP (by repeat (first | (with_reducible first | exact HB.out | apply bA | apply bN | apply bD) | exact HB.out)) hb); clear HB; have HB := n0_; clear n0_; (try clear hb); (try clear hb2); (try clear hk); (try clear hi)))
 go_ret
 exact ⟨by first | rfl | (simp [errW_none, errW_some] <;> rfl) | (simp [*, errW_none, errW_some] <;> rfl), by repeat (first | (with_reducible first | exact HB.out | apply bA | apply bN | apply bD) | exact HB.out)⟩

def palanquinref05_at.f (k : Nat) (a0 : ByteArray) (a1 : Int) (a2 : Int) : Option (Int) := if 0 ≤ a1 then (if a1 ≤ (wrap64 (a1 + a2)) then (if (wrap64 (a1 + a2)) ≤ (a0.size : Int) then ((palanquinref01_Value.f k (a0.extract (a1 : Int).toNat ((wrap64 (a1 + a2)) : Int).toNat)).bind fun t679 => (some (wrap64 (t679)))) else (none)) else (none)) else (none)
theorem palanquinref05_at.mono : ∀ a0 a1 a2 k, LeO (palanquinref05_at.f k a0 a1 a2) (palanquinref05_at.f (k + 1) a0 a1 a2) := by
 intro a0 a1 a2 k
 unfold palanquinref05_at.f
 repeat' first
   | (with_reducible exact palanquinref01_Value.mono _ _)
   | (with_reducible exact LeO.refl _)
   | (with_reducible exact LeO.none _)
   | (with_reducible refine LeO.ite ?_ ?_)
   | (with_reducible refine LeO.bind ?_ (fun _ => ?_))
   | exact palanquinref01_Value.mono _ _
   | exact LeO.none _
   | refine LeO.ite ?_ ?_
   | refine LeO.bind ?_ (fun _ => ?_)
set_option maxHeartbeats 8000000 in
set_option maxRecDepth 100000 in
theorem palanquinref05_at.calls (k : Nat) (a0 : ByteArray) (a1 : Int) (a2 : Int) (r : Int) (w : World) (h : palanquinref05_at.f k a0 a1 a2 = some r) :
  Calls Try.prog 156 #[.string a0, .int .i64 a1, .int .i64 a2] w fun e w' => e = .returned (.int .i64 r) ∧ Drawn0 w w' := by
 have H : (if 0 ≤ a1 then (if a1 ≤ (wrap64 (a1 + a2)) then (if (wrap64 (a1 + a2)) ≤ (a0.size : Int) then ((palanquinref01_Value.f k (a0.extract (a1 : Int).toNat ((wrap64 (a1 + a2)) : Int).toNat)).bind fun t679 => (some (wrap64 (t679)))) else (none)) else (none)) else (none)) = some r := h
 clear h
 by_cases c4 : 0 ≤ a1
 ·rw [if_pos c4] at H
  have c4b0 := eq_true c4
  have c4b1 : decide (0 ≤ a1) = true := decide_eq_true c4
  clear c4
  by_cases c5 : a1 ≤ (wrap64 (a1 + a2))
  ·rw [if_pos c5] at H
   have c5b0 := eq_true c5
   have c5b1 : decide (a1 ≤ (wrap64 (a1 + a2))) = true := decide_eq_true c5
   by_cases c6 : (wrap64 (a1 + a2)) ≤ (a0.size : Int)
   ·rw [if_pos c6] at H
    have c6b0 := eq_true c6
    have c6b1 : decide ((wrap64 (a1 + a2)) ≤ (a0.size : Int)) = true := decide_eq_true c6
    replace H := Option.bind_eq_some_iff.mp H
    obtain ⟨t679, A70, H⟩ := H
    replace H : (some (wrap64 (t679))) = some r := H
    have A7 := mA A70
    clear A70
    obtain rfl := Option.some.inj H
    go_enter Try.func156, Try.ntmps156
    go_wp2_with (first | ((with_reducible refine gate_callee (f := 132) rfl ?_); refine goesL_ (some 13) rfl rfl Try.func132 (by kernel_rfl) rfl #[.string (a0.extract (a1 : Int).toNat ((wrap64 (a1 + a2)) : Int).toNat)] rfl (by (try simp only [List.map_toArray, List.map_cons, List.map_nil]); first | done | rfl | (simp only [List.length_drop, List.length_take]; rfl)) ?_; (with_reducible refine (palanquinref01_Value.calls k (a0.extract (a1 : Int).toNat ((wrap64 (a1 + a2)) : Int).toNat) t679 _ A7.out).mono ?_); rintro e w' ⟨rfl, ⟨nd, rfl⟩⟩; refine ⟨_, rfl, ?_⟩))
    go_ret
    exact ⟨by first | rfl | (simp; done) | (simp [*]; done), by repeat (first | exact Drawn0.refl _ | apply Drawn0.step)⟩
   ·rw [if_neg c6] at H
    exact absurd H (by simp)
  ·rw [if_neg c5] at H
   exact absurd H (by simp)
 ·rw [if_neg c4] at H
  exact absurd H (by simp)

end Go.Proofs.Ytejmipoolbodgaa.G
end

section
namespace Go.Proofs.Ytejmipoolbodgaa.G
open Go.RowKit Go.Proofs.YtejmipoolbodgaaW.PrintWords Go.Proofs.YtejmipoolbodgaaW.PrintLast Go.Proofs.YtejmipoolbodgaaW.PrintMore
attribute [local go_sem] max2_int min2_int max_two min_two max_three min_three max_four min_four   -- for this text's walks alone
set_option linter.unusedVariables false
set_option linter.unusedSimpArgs false

def palanquinref02_down.l0 : Nat → Int → Option (Int)
 | 0, _ => none
 | k + 1, x0 => if x0 ≥ 65536 then (palanquinref02_down.l0 k (wrap64 ((Int.tmod x0 65536) + (wrap64 (Int.tdiv x0 65536))))) else (some x0)
def palanquinref02_down.f (k : Nat) (a0 : Int) : Option (Int) := palanquinref02_down.l0 k a0
theorem palanquinref02_down.mono_l : ∀ k, (∀ y0, LeO (palanquinref02_down.l0 k y0) (palanquinref02_down.l0 (k + 1) y0))
 | 0 => fun _ r h => by simp [palanquinref02_down.l0] at h
 | k + 1 => by
  have ih0 := palanquinref02_down.mono_l k
  ·intro y0
   unfold palanquinref02_down.l0
   repeat' first
   | (with_reducible exact ih0 _)
   | (with_reducible exact LeO.refl _)
   | (with_reducible exact LeO.none _)
   | (with_reducible refine LeO.ite ?_ ?_)
   | (with_reducible refine LeO.bind ?_ (fun _ => ?_))
   | exact ih0 _
   | exact LeO.none _
   | refine LeO.ite ?_ ?_
   | refine LeO.bind ?_ (fun _ => ?_)
theorem palanquinref02_down.mono : ∀ a0 k, LeO (palanquinref02_down.f k a0) (palanquinref02_down.f (k + 1) a0) := by
 intro a0 k
 have ih0 := palanquinref02_down.mono_l k
 unfold palanquinref02_down.f
 repeat' first
   | (with_reducible exact ih0 _)
   | (with_reducible exact LeO.refl _)
   | (with_reducible exact LeO.none _)
   | (with_reducible refine LeO.ite ?_ ?_)
   | (with_reducible refine LeO.bind ?_ (fun _ => ?_))
   | exact ih0 _
   | exact LeO.none _
   | refine LeO.ite ?_ ?_
   | refine LeO.bind ?_ (fun _ => ?_)
set_option maxHeartbeats 8000000 in
set_option maxRecDepth 100000 in
theorem palanquinref02_down.calls (k : Nat) (a0 : Int) (r : Int) (w : World) (h : palanquinref02_down.f k a0 = some r) :
  Calls Try.prog 122 #[.int .i64 a0] w fun e w' => e = .returned (.int .i64 r) ∧ Drawn0 w w' := by
 have H : (palanquinref02_down.l0 k a0) = some r := h
 clear h
 have H' := mA H
 clear H
 go_enter Try.func122, Try.ntmps122
 go_wp2
 go_loopg [0] k (fun kq v0 w' => ∃ (x0_1 : Int), v0 = .int .i64 x0_1 ∧ Aside0 (palanquinref02_down.l0 kq x0_1 = some r) ∧ Aside0 (kq ≤ k) ∧ Drawn0 w w')
 case atStart => exact ⟨(a0), (by first | rfl | (simp; done) | (simp [*]; done)), H', ⟨Nat.le_refl _⟩, by repeat (first | exact Drawn0.refl _ | apply Drawn0.step)⟩
 case round =>
  clear H'
  try clear c1
  obtain ⟨x0_1, rfl, HA, HK1, ⟨m1, rfl⟩⟩ := hrel
  cases gk with
  | zero => exact absurd HA.out (by simp [palanquinref02_down.l0])
  | succ k1 =>
   have H := HA.out
   clear HA
   simp only [palanquinref02_down.l0] at H
   by_cases c2 : x0_1 ≥ 65536
   ·rw [if_pos c2] at H
    have c2b0 : decide (65536 ≤ x0_1) = true := decide_eq_true c2
    clear c2
    have H' := mA H
    clear H
    go_wp2
    go_roundg k1
    case measure => have := HK1.out; omega
    case rel => exact ⟨(wrap64 ((Int.tmod x0_1 65536) + (wrap64 (Int.tdiv x0_1 65536)))), (by first | rfl | (simp; done) | (simp [*]; done)), H', ⟨by have := HK1.out; omega⟩, by repeat (first | exact Drawn0.refl _ | apply Drawn0.step)⟩
   ·rw [if_neg c2] at H
    have c2b0 : decide (65536 ≤ x0_1) = false := decide_eq_false c2
    clear c2
    obtain rfl := Option.some.inj H
    go_wp2
    go_ret
    exact ⟨by first | rfl | (simp; done) | (simp [*]; done), by repeat (first | exact Drawn0.refl _ | apply Drawn0.step)⟩

mutual
def palanquinref02_Sum.j0 : Nat → ByteArray → Option (Int)
 | 0, _ => none
 | k + 1, x0 => palanquinref02_Sum.l0 k x0 0 0
def palanquinref02_Sum.l0 : Nat → ByteArray → Int → Int → Option (Int)
 | 0, _, _, _ => none
 | k + 1, x0, x3, x4 => if x4 < (x0.size : Int) then (if 0 ≤ x4 then (if 0 ≤ (wrap64 (x4 + 1)) then (if (wrap64 (x4 + 1)) < (x0.size : Int) then (palanquinref02_Sum.l0 k x0 (wrap64 ((wrap64 (x3 + (wrap64 ((wrap64 (bt x0 x4)) * 256)))) + (wrap64 (bt x0 (wrap64 (x4 + 1)))))) (wrap64 (x4 + 2))) else (none)) else (none)) else (none)) else ((palanquinref02_down.f k x3).bind fun t173 => (some (wrap64 (65535 - t173))))
end
def palanquinref02_Sum.f (k : Nat) (a0 : ByteArray) : Option (Int) := if ((a0.size : Int) % 2) = 1 then ((some (([0] : List Int) : List Int)).bind fun y170 => (if a0.size + (strOfNums y170).size ≤ 9223372036854775807 then (palanquinref02_Sum.j0 k (a0 ++ (strOfNums y170))) else (none))) else (palanquinref02_Sum.j0 k a0)
theorem palanquinref02_Sum.mono_l : ∀ k, (∀ y0, LeO (palanquinref02_Sum.j0 k y0) (palanquinref02_Sum.j0 (k + 1) y0)) ∧ (∀ y0 y1 y2, LeO (palanquinref02_Sum.l0 k y0 y1 y2) (palanquinref02_Sum.l0 (k + 1) y0 y1 y2))
 | 0 => ⟨fun _ r h => by simp [palanquinref02_Sum.j0] at h, fun _ _ _ r h => by simp [palanquinref02_Sum.l0] at h⟩
 | k + 1 => by
  obtain ⟨ih0, ih1⟩ := palanquinref02_Sum.mono_l k
  refine ⟨?_, ?_⟩
  ·intro y0
   unfold palanquinref02_Sum.j0
   repeat' first
   | (with_reducible exact ih0 _)
   | (with_reducible exact ih1 _ _ _)
   | (with_reducible exact palanquinref02_down.mono _ _)
   | (with_reducible exact LeO.refl _)
   | (with_reducible exact LeO.none _)
   | (with_reducible refine LeO.ite ?_ ?_)
   | (with_reducible refine LeO.bind ?_ (fun _ => ?_))
   | exact ih0 _
   | exact ih1 _ _ _
   | exact palanquinref02_down.mono _ _
   | exact LeO.none _
   | refine LeO.ite ?_ ?_
   | refine LeO.bind ?_ (fun _ => ?_)
  ·intro y0 y1 y2
   unfold palanquinref02_Sum.l0
   repeat' first
   | (with_reducible exact ih0 _)
   | (with_reducible exact ih1 _ _ _)
   | (with_reducible exact palanquinref02_down.mono _ _)
   | (with_reducible exact LeO.refl _)
   | (with_reducible exact LeO.none _)
   | (with_reducible refine LeO.ite ?_ ?_)
   | (with_reducible refine LeO.bind ?_ (fun _ => ?_))
   | exact ih0 _
   | exact ih1 _ _ _
   | exact palanquinref02_down.mono _ _
   | exact LeO.none _
   | refine LeO.ite ?_ ?_
   | refine LeO.bind ?_ (fun _ => ?_)
theorem palanquinref02_Sum.mono : ∀ a0 k, LeO (palanquinref02_Sum.f k a0) (palanquinref02_Sum.f (k + 1) a0) := by
 intro a0 k
 obtain ⟨ih0, ih1⟩ := palanquinref02_Sum.mono_l k
 unfold palanquinref02_Sum.f
 repeat' first
   | (with_reducible exact ih0 _)
   | (with_reducible exact ih1 _ _ _)
   | (with_reducible exact palanquinref02_down.mono _ _)
   | (with_reducible exact LeO.refl _)
   | (with_reducible exact LeO.none _)
   | (with_reducible refine LeO.ite ?_ ?_)
   | (with_reducible refine LeO.bind ?_ (fun _ => ?_))
   | exact ih0 _
   | exact ih1 _ _ _
   | exact palanquinref02_down.mono _ _
   | exact LeO.none _
   | refine LeO.ite ?_ ?_
   | refine LeO.bind ?_ (fun _ => ?_)
set_option maxHeartbeats 8000000 in
set_option maxRecDepth 100000 in
theorem palanquinref02_Sum.calls (k : Nat) (a0 : ByteArray) (r : Int) (w : World) (h : palanquinref02_Sum.f k a0 = some r) :
  Calls Try.prog 41 #[.string a0] w fun e w' => e = .returned (.int .i64 r) ∧ Below w.heap.size w w' := by
 have HB := mA (Below.refl w.heap.size w)
 have H : (if ((a0.size : Int) % 2) = 1 then ((some (([0] : List Int) : List Int)).bind fun y170 => (if a0.size + (strOfNums y170).size ≤ 9223372036854775807 then (palanquinref02_Sum.j0 k (a0 ++ (strOfNums y170))) else (none))) else (palanquinref02_Sum.j0 k a0)) = some r := h
 clear h
 have HC2 := mA H
 clear H
 go_enter Try.func41, Try.ntmps41
 go_upto_if 8 with (fail)
 repeat (go_quiet (fail); go_upto_if 8 with (fail))
 go_cut [0] (fun v0 wc => ∃ (kq : Nat) (x0_1 : ByteArray), v0 = .string x0_1 ∧ Aside0 (palanquinref02_Sum.j0 kq x0_1 = some r) ∧ Aside0 (kq ≤ k) ∧ Aside0 (Below w.heap.size w wc))
 case first =>
  have H := HC2.out
  clear HC2
  by_cases c3 : ((a0.size : Int) % 2) = 1
  ·rw [if_pos c3] at H
   have c3b0 : (((a0.size : Int) % 2) == 1) = true := beq_iff_eq.mpr c3
   have c3b1 : (((a0.size : Int) % 2) != 1) = false := bne_eq_false_iff_eq.mpr c3
   clear c3
   (first | rw [c3b0] | (simp only [i64_w, i32_w]; rw [c3b0]) | skip)
   obtain ⟨y170, hy170⟩ : ∃ y_ : List Int, y_ = (([0] : List Int)) := ⟨_, rfl⟩
   replace H : (if a0.size + (strOfNums y170).size ≤ 9223372036854775807 then (palanquinref02_Sum.j0 k (a0 ++ (strOfNums y170))) else (none)) = some r := by first | (rw [hy170]; with_reducible exact H) | (have H2_ := (Option.bind_some _ _).symm.trans H; rw [hy170]; with_reducible exact H2_) | (have H2_ := (Option.bind_some _ _).symm.trans H; with_reducible exact H2_) | with_reducible exact H | (rw [hy170]; exact H) | exact H
   have Ny170 := mA hy170
   clear hy170
   by_cases c4 : a0.size + (strOfNums y170).size ≤ 9223372036854775807
   ·rw [if_pos c4] at H
    have c4b0 := eq_true c4
    have c4b1 : decide (a0.size + (strOfNums y170).size ≤ 9223372036854775807) = true := decide_eq_true c4
    try have c4b2 : (9223372036854775807 < a0.size + (strOfNums y170).size) = False := eq_false (Nat.not_lt.2 c4)
    have H' := mA H
    clear H
    go_wp2_with (first | ((with_reducible refine gate_dst (N := 10) rfl ?_); refine Kd.R_lit (Kd.int .u8) _ 5 ?hg (N := 10) ?hd (xs := ([0] : List Int)) (inner := [.int .u8 0]) (ok := fun _ => True) (okp := fun _ => True) ?hr ?hp (fun _ hk => hk) trivial (Below.refl _ _) (Nat.le_refl _) (by simp) ?_; (case hd => rfl); (case hg => rfl); (case hr => first | (go_simp; done) | (go_simp; rfl)); (case hp => exact (Reps.one (show Kd.M (Kd.int .u8) _ _ _ 0 [.int .u8 0] from rfl) (Reps.none _ _))); intro v171 w5 ho6 hb hg_ hnew_; clear hg_ hnew_; (first | rw [← Ny170.out] at ho6 | (simp only [Int.reduceToNat] at ho6; rw [← Ny170.out] at ho6)); have n0_ := mA (Kd.R_lower ho6 (below_size (by repeat (first | (with_reducible first | exact HB.out | apply bA | apply bN | apply bD) | exact HB.out)))); have n1_ := mA (bP (by repeat (first | (with_reducible first | exact HB.out | apply bA | apply bN | apply bD) | exact HB.out)) hb); clear HB; have HO172 := n0_; have HB := n1_; clear n0_ n1_; clear hb ho6; have hcv7 := own_string (P := Try.prog) Try.underlying25 Try.underlying5 Try.underlying9 (Kd.own_of_R HO172.out)))
    repeat (go_quiet (first | ((with_reducible refine gate_dst (N := 10) rfl ?_); refine Kd.R_lit (Kd.int .u8) _ 5 ?hg (N := 10) ?hd (xs := ([0] : List Int)) (inner := [.int .u8 0]) (ok := fun _ => True) (okp := fun _ => True) ?hr ?hp (fun _ hk => hk) trivial (Below.refl _ _) (Nat.le_refl _) (by simp) ?_; (case hd => rfl); (case hg => rfl); (case hr => first | (go_simp; done) | (go_simp; rfl)); (case hp => exact (Reps.one (show Kd.M (Kd.int .u8) _ _ _ 0 [.int .u8 0] from rfl) (Reps.none _ _))); intro v171 w5 ho6 hb hg_ hnew_; clear hg_ hnew_; (first | rw [← Ny170.out] at ho6 | (simp only [Int.reduceToNat] at ho6; rw [← Ny170.out] at ho6)); have n0_ := mA (Kd.R_lower ho6 (below_size (by repeat (first | (with_reducible first | exact HB.out | apply bA | apply bN | apply bD) | exact HB.out)))); have n1_ := mA (bP (by repeat (first | (with_reducible first | exact HB.out | apply bA | apply bN | apply bD) | exact HB.out)) hb); clear HB; have HO172 := n0_; have HB := n1_; clear n0_ n1_; clear hb ho6; have hcv7 := own_string (P := Try.prog) Try.underlying25 Try.underlying5 Try.underlying9 (Kd.own_of_R HO172.out))); try go_wp2_with (first | ((with_reducible refine gate_dst (N := 10) rfl ?_); refine Kd.R_lit (Kd.int .u8) _ 5 ?hg (N := 10) ?hd (xs := ([0] : List Int)) (inner := [.int .u8 0]) (ok := fun _ => True) (okp := fun _ => True) ?hr ?hp (fun _ hk => hk) trivial (Below.refl _ _) (Nat.le_refl _) (by simp) ?_; (case hd => rfl); (case hg => rfl); (case hr => first | (go_simp; done) | (go_simp; rfl)); (case hp => exact (Reps.one (show Kd.M (Kd.int .u8) _ _ _ 0 [.int .u8 0] from rfl) (Reps.none _ _))); intro v171 w5 ho6 hb hg_ hnew_; clear hg_ hnew_; (first | rw [← Ny170.out] at ho6 | (simp only [Int.reduceToNat] at ho6; rw [← Ny170.out] at ho6)); have n0_ := mA (Kd.R_lower ho6 (below_size (by repeat (first | (with_reducible first | exact HB.out | apply bA | apply bN | apply bD) | exact HB.out)))); have n1_ := mA (bP (by repeat (first | (with_reducible first | exact HB.out | apply bA | apply bN | apply bD) | exact HB.out)) hb); clear HB; have HO172 := n0_; have HB := n1_; clear n0_ n1_; clear hb ho6; have hcv7 := own_string (P := Try.prog) Try.underlying25 Try.underlying5 Try.underlying9 (Kd.own_of_R HO172.out))))
    go_meet
    case rel => exact ⟨_, (a0 ++ (strOfNums y170)), (by first | rfl | (simp; done) | (simp [*]; done)), H', ⟨by first | omega | exact Nat.le_refl _⟩, ⟨by repeat (first | (with_reducible first | exact HB.out | apply bA | apply bN | apply bD) | exact HB.out)⟩⟩
   ·rw [if_neg c4] at H
    exact absurd H (by simp)
  ·rw [if_neg c3] at H
   have c3b0 : (((a0.size : Int) % 2) == 1) = false := beq_eq_false_iff_ne.mpr c3
   have c3b1 : (((a0.size : Int) % 2) != 1) = true := bne_iff_ne.mpr c3
   (first | rw [c3b0] | (simp only [i64_w, i32_w]; rw [c3b0]) | skip)
   have H' := mA H
   clear H
   go_wp2
   repeat (go_quiet (fail); try go_wp2)
   go_meet
   case rel => exact ⟨_, (a0), (by first | rfl | (simp; done) | (simp [*]; done)), H', ⟨by first | omega | exact Nat.le_refl _⟩, ⟨by repeat (first | (with_reducible first | exact HB.out | apply bA | apply bN | apply bD) | exact HB.out)⟩⟩
 case rest =>
  clear HC2
  try clear p2
  try clear c3
  try clear c3b0
  try clear c3b1
  try clear c4
  try clear c4b0
  try clear c4b1
  try clear c4b2
  try clear hcv7
  obtain ⟨kq, x0_1, rfl, HA, HJ1, HB⟩ := hcut
  cases kq with
  | zero => exact absurd HA.out (by simp [palanquinref02_Sum.j0])
  | succ kj1 =>
   have H := HA.out
   clear HA
   simp only [palanquinref02_Sum.j0] at H
   have H' := mA H
   clear H
   go_wp2
   repeat (go_quiet (fail); try go_wp2)
   go_loopg [3, 4] kj1 (fun kq v3 v4 w' => ∃ (x3_2 : Int) (x4_2 : Int), v3 = .int .i64 x3_2 ∧ v4 = .int .i64 x4_2 ∧ Aside0 (palanquinref02_Sum.l0 kq x0_1 x3_2 x4_2 = some r) ∧ Aside0 (kq ≤ kj1) ∧ Aside0 (Below w.heap.size w w'))
   case atStart => exact ⟨(0), (0), (by first | rfl | (simp; done) | (simp [*]; done)), (by first | rfl | (simp; done) | (simp [*]; done)), H', ⟨Nat.le_refl _⟩, ⟨by repeat (first | (with_reducible first | exact HB.out | apply bA | apply bN | apply bD) | exact HB.out)⟩⟩
   case round =>
    clear H'
    try clear p2
    try clear c3
    try clear c3b0
    try clear c3b1
    try clear c4
    try clear c4b0
    try clear c4b1
    try clear c4b2
    try clear hcv7
    try clear p2
    obtain ⟨x3_2, x4_2, rfl, rfl, HA, HK2, HB⟩ := hrel
    cases gk with
    | zero => exact absurd HA.out (by simp [palanquinref02_Sum.l0])
    | succ k2 =>
     have H := HA.out
     clear HA
     simp only [palanquinref02_Sum.l0] at H
     by_cases c8 : x4_2 < (x0_1.size : Int)
     ·rw [if_pos c8] at H
      have c8b0 : decide (x4_2 < (x0_1.size : Int)) = true := decide_eq_true c8
      clear c8
      by_cases c9 : 0 ≤ x4_2
      ·rw [if_pos c9] at H
       have c9b0 : decide (0 ≤ x4_2) = true := decide_eq_true c9
       clear c9
       obtain ⟨ji11, hji11⟩ : ∃ j_ : Int, (wrap64 (x4_2 + 1)) = j_ := ⟨_, rfl⟩
       replace H : (if 0 ≤ (ji11) then (if (ji11) < (x0_1.size : Int) then (palanquinref02_Sum.l0 k2 x0_1 (wrap64 ((wrap64 (x3_2 + (wrap64 ((wrap64 (bt x0_1 x4_2)) * 256)))) + (wrap64 (bt x0_1 (ji11))))) (wrap64 (x4_2 + 2))) else (none)) else (none)) = some r := by first | (rw [hji11] at H; exact H) | (simp only [hji11] at H ⊢; exact H)
       have hji11w : (IntKind.i64.wrap (x4_2 + 1)) = ji11 := (i64_w _).trans hji11
       by_cases c12 : 0 ≤ (ji11)
       ·rw [if_pos c12] at H
        have c12b0 : decide (0 ≤ (ji11)) = true := decide_eq_true c12
        clear c12
        by_cases c13 : (ji11) < (x0_1.size : Int)
        ·rw [if_pos c13] at H
         have c13b0 : decide ((ji11) < (x0_1.size : Int)) = true := decide_eq_true c13
         clear c13
         have H' := mA H
         clear H
         have p10 : 0 ≤ (x4_2 : Int) := of_decide_eq_true (by first | (with_reducible assumption) | assumption)
         have q10 : x4_2 < (x0_1.size : Int) := of_decide_eq_true (by first | (with_reducible assumption) | assumption)
         have hx10 := bt_at x0_1 x4_2
         replace p10 := eq_true p10
         replace q10 := eq_true q10
         have p14 : 0 ≤ ((ji11) : Int) := of_decide_eq_true (by first | (with_reducible assumption) | assumption)
         have q14 : (ji11) < (x0_1.size : Int) := of_decide_eq_true (by first | (with_reducible assumption) | assumption)
         have hx14 := bt_at x0_1 (ji11)
         replace p14 := eq_true p14
         replace q14 := eq_true q14
         go_wp2
         repeat (go_quiet (fail); try go_wp2)
         go_roundg k2
         case measure => have := HJ1.out; have := HK2.out; omega
         case rel => exact ⟨(wrap64 ((wrap64 (x3_2 + (wrap64 ((wrap64 (bt x0_1 x4_2)) * 256)))) + (wrap64 (bt x0_1 (ji11))))), (wrap64 (x4_2 + 2)), (by first | rfl | (simp; done) | (simp only [← hji11] <;> (first | rfl | simp)) | (simp [*]; done)), (by first | rfl | (simp; done) | (simp [*]; done)), H', ⟨by have := HJ1.out; have := HK2.out; omega⟩, ⟨by repeat (first | (with_reducible first | exact HB.out | apply bA | apply bN | apply bD) | exact HB.out)⟩⟩
        ·rw [if_neg c13] at H
         exact absurd H (by simp)
       ·rw [if_neg c12] at H
        exact absurd H (by simp)
      ·rw [if_neg c9] at H
       exact absurd H (by simp)
     ·rw [if_neg c8] at H
      have c8b0 : decide (x4_2 < (x0_1.size : Int)) = false := decide_eq_false c8
      clear c8
      replace H := Option.bind_eq_some_iff.mp H
      obtain ⟨t173, A150, H⟩ := H
      replace H : (some (wrap64 (65535 - t173))) = some r := H
      have A15 := mA A150
      clear A150
      obtain rfl := Option.some.inj H
      go_wp2_with (first | (go_at_call 122; (with_reducible refine (palanquinref02_down.calls k2 x3_2 t173 _ A15.out).mono ?_); rintro e w' ⟨rfl, ⟨nd, rfl⟩⟩; (try first | exact ⟨rfl, _, World.drewN_drewN _ _ _⟩ | exact ⟨rfl, _, Eq.trans (World.drewN_drewN _ _ _) (congrArg (World.drewN _) (Nat.add_assoc _ _ _))⟩)))
      repeat (go_quiet (first | (go_at_call 122; (with_reducible refine (palanquinref02_down.calls k2 x3_2 t173 _ A15.out).mono ?_); rintro e w' ⟨rfl, ⟨nd, rfl⟩⟩; (try first | exact ⟨rfl, _, World.drewN_drewN _ _ _⟩ | exact ⟨rfl, _, Eq.trans (World.drewN_drewN _ _ _) (congrArg (World.drewN _) (Nat.add_assoc _ _ _))⟩))); try go_wp2_with (first | (go_at_call 122; (with_reducible refine (palanquinref02_down.calls k2 x3_2 t173 _ A15.out).mono ?_); rintro e w' ⟨rfl, ⟨nd, rfl⟩⟩; (try first | exact ⟨rfl, _, World.drewN_drewN _ _ _⟩ | exact ⟨rfl, _, Eq.trans (World.drewN_drewN _ _ _) (congrArg (World.drewN _) (Nat.add_assoc _ _ _))⟩))))
      go_ret
      exact ⟨by first | rfl | (simp [errW_none, errW_some] <;> rfl) | (simp [*, errW_none, errW_some] <;> rfl), by repeat (first | (with_reducible first | exact HB.out | apply bA | apply bN | apply bD) | exact HB.out)⟩

def palanquinref02_low.f (a0 : Int) : Option (Int) := some (Go.bits .and .i64 a0 65535)
set_option maxHeartbeats 8000000 in
set_option maxRecDepth 100000 in
theorem palanquinref02_low.calls (a0 : Int) (r : Int) (w : World) (h : palanquinref02_low.f a0 = some r) :
  Calls Try.prog 123 #[.int .i64 a0] w fun e w' => e = .returned (.int .i64 r) ∧ Drawn0 w w' := by
 have H : (some (Go.bits .and .i64 a0 65535)) = some r := h
 clear h
 obtain rfl := Option.some.inj H
 go_enter Try.func123, Try.ntmps123
 go_wp2
 go_ret
 exact ⟨by first | rfl | (simp; done) | (simp [*]; done), by repeat (first | exact Drawn0.refl _ | apply Drawn0.step)⟩

def palanquinref02_Update.f (k : Nat) (a0 : Int) (a1 : Int) (a2 : Int) : Option (Int) := (palanquinref02_low.f a0).bind fun t174 => ((palanquinref02_low.f a1).bind fun t175 => ((palanquinref02_low.f a2).bind fun t176 => ((palanquinref02_down.f k (wrap64 ((wrap64 ((wrap64 ((wrap64 (65535 - t174)) + 65535)) - t175)) + t176))).bind fun t177 => (some (wrap64 (65535 - t177))))))
theorem palanquinref02_Update.mono : ∀ a0 a1 a2 k, LeO (palanquinref02_Update.f k a0 a1 a2) (palanquinref02_Update.f (k + 1) a0 a1 a2) := by
 intro a0 a1 a2 k
 unfold palanquinref02_Update.f
 repeat' first
   | (with_reducible exact palanquinref02_down.mono _ _)
   | (with_reducible exact LeO.refl _)
   | (with_reducible exact LeO.none _)
   | (with_reducible refine LeO.ite ?_ ?_)
   | (with_reducible refine LeO.bind ?_ (fun _ => ?_))
   | exact palanquinref02_down.mono _ _
   | exact LeO.none _
   | refine LeO.ite ?_ ?_
   | refine LeO.bind ?_ (fun _ => ?_)
set_option maxHeartbeats 8000000 in
set_option maxRecDepth 100000 in
theorem palanquinref02_Update.calls (k : Nat) (a0 : Int) (a1 : Int) (a2 : Int) (r : Int) (w : World) (h : palanquinref02_Update.f k a0 a1 a2 = some r) :
  Calls Try.prog 42 #[.int .i64 a0, .int .i64 a1, .int .i64 a2] w fun e w' => e = .returned (.int .i64 r) ∧ Drawn0 w w' := by
 have H : ((palanquinref02_low.f a0).bind fun t174 => ((palanquinref02_low.f a1).bind fun t175 => ((palanquinref02_low.f a2).bind fun t176 => ((palanquinref02_down.f k (wrap64 ((wrap64 ((wrap64 ((wrap64 (65535 - t174)) + 65535)) - t175)) + t176))).bind fun t177 => (some (wrap64 (65535 - t177))))))) = some r := h
 clear h
 replace H := Option.bind_eq_some_iff.mp H
 obtain ⟨t174, A40, H⟩ := H
 replace H : ((palanquinref02_low.f a1).bind fun t175 => ((palanquinref02_low.f a2).bind fun t176 => ((palanquinref02_down.f k (wrap64 ((wrap64 ((wrap64 ((wrap64 (65535 - t174)) + 65535)) - t175)) + t176))).bind fun t177 => (some (wrap64 (65535 - t177)))))) = some r := H
 have A4 := mA A40
 clear A40
 replace H := Option.bind_eq_some_iff.mp H
 obtain ⟨t175, A50, H⟩ := H
 replace H : ((palanquinref02_low.f a2).bind fun t176 => ((palanquinref02_down.f k (wrap64 ((wrap64 ((wrap64 ((wrap64 (65535 - t174)) + 65535)) - t175)) + t176))).bind fun t177 => (some (wrap64 (65535 - t177))))) = some r := H
 have A5 := mA A50
 clear A50
 replace H := Option.bind_eq_some_iff.mp H
 obtain ⟨t176, A60, H⟩ := H
 replace H : ((palanquinref02_down.f k (wrap64 ((wrap64 ((wrap64 ((wrap64 (65535 - t174)) + 65535)) - t175)) + t176))).bind fun t177 => (some (wrap64 (65535 - t177)))) = some r := H
 have A6 := mA A60
 clear A60
 replace H := Option.bind_eq_some_iff.mp H
 obtain ⟨t177, A70, H⟩ := H
 replace H : (some (wrap64 (65535 - t177))) = some r := H
 have A7 := mA A70
 clear A70
 obtain rfl := Option.some.inj H
 go_enter Try.func42, Try.ntmps42
 go_wp2_with (first | ((with_reducible refine gate_callee (f := 123) rfl ?_); refine goesL_ (some 8) rfl rfl Try.func123 (by kernel_rfl) rfl #[.int .i64 a0] rfl (by (try simp only [List.map_toArray, List.map_cons, List.map_nil]); first | done | rfl | (simp only [List.length_drop, List.length_take]; rfl)) ?_; (with_reducible refine (palanquinref02_low.calls a0 t174 _ A4.out).mono ?_); rintro e w' ⟨rfl, ⟨nd, rfl⟩⟩; refine ⟨_, rfl, ?_⟩) | ((with_reducible refine gate_callee (f := 123) rfl ?_); refine goesL_ (some 12) rfl rfl Try.func123 (by kernel_rfl) rfl #[.int .i64 a1] rfl (by (try simp only [List.map_toArray, List.map_cons, List.map_nil]); first | done | rfl | (simp only [List.length_drop, List.length_take]; rfl)) ?_; (with_reducible refine (palanquinref02_low.calls a1 t175 _ A5.out).mono ?_); rintro e w' ⟨rfl, ⟨nd, rfl⟩⟩; refine ⟨_, rfl, ?_⟩) | ((with_reducible refine gate_callee (f := 123) rfl ?_); refine goesL_ (some 15) rfl rfl Try.func123 (by kernel_rfl) rfl #[.int .i64 a2] rfl (by (try simp only [List.map_toArray, List.map_cons, List.map_nil]); first | done | rfl | (simp only [List.length_drop, List.length_take]; rfl)) ?_; (with_reducible refine (palanquinref02_low.calls a2 t176 _ A6.out).mono ?_); rintro e w' ⟨rfl, ⟨nd, rfl⟩⟩; refine ⟨_, rfl, ?_⟩) | ((with_reducible refine gate_callee (f := 122) rfl ?_); refine goesL_ (some 17) rfl rfl Try.func122 (by kernel_rfl) rfl #[.int .i64 (wrap64 ((wrap64 ((wrap64 ((wrap64 (65535 - t174)) + 65535)) - t175)) + t176))] rfl (by (try simp only [List.map_toArray, List.map_cons, List.map_nil]); first | done | rfl | (simp only [List.length_drop, List.length_take]; rfl)) ?_; (with_reducible refine (palanquinref02_down.calls k (wrap64 ((wrap64 ((wrap64 ((wrap64 (65535 - t174)) + 65535)) - t175)) + t176)) t177 _ A7.out).mono ?_); rintro e w' ⟨rfl, ⟨nd, rfl⟩⟩; refine ⟨_, rfl, ?_⟩))
 go_ret
 exact ⟨by first | rfl | (simp; done) | (simp [*]; done), by repeat (first | exact Drawn0.refl _ | apply Drawn0.step)⟩

def palanquinref02_Pseudo.f (k : Nat) (a0 : ByteArray) (a1 : ByteArray) (a2 : Int) (a3 : Int) : Option (ByteArray) := if (a0.size : Int) = 16 then (if a0.size + a1.size ≤ 9223372036854775807 then ((palanquinref01_Bytes.f k (IntKind.u64.wrap (a3)) 4).bind fun t187 => (if (a0 ++ a1).size + t187.size ≤ 9223372036854775807 then ((palanquinref01_Bytes.f k (IntKind.u64.wrap (Go.bits .and .i64 a2 255)) 4).bind fun t188 => (if ((a0 ++ a1) ++ t187).size + t188.size ≤ 9223372036854775807 then (some (((a0 ++ a1) ++ t187) ++ t188)) else (none))) else (none))) else (none)) else (if a0.size + a1.size ≤ 9223372036854775807 then ((palanquinref01_Bytes.f k (IntKind.u64.wrap (Go.bits .and .i64 a2 255)) 2).bind fun t189 => (if (a0 ++ a1).size + t189.size ≤ 9223372036854775807 then ((palanquinref01_Bytes.f k (IntKind.u64.wrap (a3)) 2).bind fun t190 => (if ((a0 ++ a1) ++ t189).size + t190.size ≤ 9223372036854775807 then (some (((a0 ++ a1) ++ t189) ++ t190)) else (none))) else (none))) else (none))
theorem palanquinref02_Pseudo.mono : ∀ a0 a1 a2 a3 k, LeO (palanquinref02_Pseudo.f k a0 a1 a2 a3) (palanquinref02_Pseudo.f (k + 1) a0 a1 a2 a3) := by
 intro a0 a1 a2 a3 k
 unfold palanquinref02_Pseudo.f
 repeat' first
   | (with_reducible exact palanquinref01_Bytes.mono _ _ _)
   | (with_reducible exact LeO.refl _)
   | (with_reducible exact LeO.none _)
   | (with_reducible refine LeO.ite ?_ ?_)
   | (with_reducible refine LeO.bind ?_ (fun _ => ?_))
   | exact palanquinref01_Bytes.mono _ _ _
   | exact LeO.none _
   | refine LeO.ite ?_ ?_
   | refine LeO.bind ?_ (fun _ => ?_)
set_option maxHeartbeats 8000000 in
set_option maxRecDepth 100000 in
theorem palanquinref02_Pseudo.calls (k : Nat) (a0 : ByteArray) (a1 : ByteArray) (a2 : Int) (a3 : Int) (r : ByteArray) (w : World) (h : palanquinref02_Pseudo.f k a0 a1 a2 a3 = some r) :
  Calls Try.prog 44 #[.string a0, .string a1, .int .i64 a2, .int .i64 a3] w fun e w' => e = .returned (.string r) ∧ Below w.heap.size w w' := by
 have HB := mA (Below.refl w.heap.size w)
 have H : (if (a0.size : Int) = 16 then (if a0.size + a1.size ≤ 9223372036854775807 then ((palanquinref01_Bytes.f k (IntKind.u64.wrap (a3)) 4).bind fun t187 => (if (a0 ++ a1).size + t187.size ≤ 9223372036854775807 then ((palanquinref01_Bytes.f k (IntKind.u64.wrap (Go.bits .and .i64 a2 255)) 4).bind fun t188 => (if ((a0 ++ a1) ++ t187).size + t188.size ≤ 9223372036854775807 then (some (((a0 ++ a1) ++ t187) ++ t188)) else (none))) else (none))) else (none)) else (if a0.size + a1.size ≤ 9223372036854775807 then ((palanquinref01_Bytes.f k (IntKind.u64.wrap (Go.bits .and .i64 a2 255)) 2).bind fun t189 => (if (a0 ++ a1).size + t189.size ≤ 9223372036854775807 then ((palanquinref01_Bytes.f k (IntKind.u64.wrap (a3)) 2).bind fun t190 => (if ((a0 ++ a1) ++ t189).size + t190.size ≤ 9223372036854775807 then (some (((a0 ++ a1) ++ t189) ++ t190)) else (none))) else (none))) else (none))) = some r := h
 clear h
 by_cases c5 : (a0.size : Int) = 16
 ·rw [if_pos c5] at H
  have c5b0 : ((a0.size : Int) == 16) = true := beq_iff_eq.mpr c5
  have c5b1 : ((a0.size : Int) != 16) = false := bne_eq_false_iff_eq.mpr c5
  clear c5
  by_cases c6 : a0.size + a1.size ≤ 9223372036854775807
  ·rw [if_pos c6] at H
   have c6b0 := eq_true c6
   have c6b1 : decide (a0.size + a1.size ≤ 9223372036854775807) = true := decide_eq_true c6
   try have c6b2 : (9223372036854775807 < a0.size + a1.size) = False := eq_false (Nat.not_lt.2 c6)
   replace H := Option.bind_eq_some_iff.mp H
   obtain ⟨t187, A70, H⟩ := H
   replace H : (if (a0 ++ a1).size + t187.size ≤ 9223372036854775807 then ((palanquinref01_Bytes.f k (IntKind.u64.wrap (Go.bits .and .i64 a2 255)) 4).bind fun t188 => (if ((a0 ++ a1) ++ t187).size + t188.size ≤ 9223372036854775807 then (some (((a0 ++ a1) ++ t187) ++ t188)) else (none))) else (none)) = some r := H
   have A7 := mA A70
   clear A70
   by_cases c8 : (a0 ++ a1).size + t187.size ≤ 9223372036854775807
   ·rw [if_pos c8] at H
    have c8b0 := eq_true c8
    have c8b1 : decide ((a0 ++ a1).size + t187.size ≤ 9223372036854775807) = true := decide_eq_true c8
    try have c8b2 : (9223372036854775807 < (a0 ++ a1).size + t187.size) = False := eq_false (Nat.not_lt.2 c8)
    try have c8b3 : (9223372036854775807 < (a0.size) + (a1.size) + t187.size) = False := eq_false (by have h_ := c8; simp only [ByteArray.size_append] at h_; omega)
    try have c8b4 : ((a0.size) + (a1.size) + t187.size ≤ 9223372036854775807) = True := eq_true (by have h_ := c8; simp only [ByteArray.size_append] at h_; omega)
    replace H := Option.bind_eq_some_iff.mp H
    obtain ⟨t188, A90, H⟩ := H
    replace H : (if ((a0 ++ a1) ++ t187).size + t188.size ≤ 9223372036854775807 then (some (((a0 ++ a1) ++ t187) ++ t188)) else (none)) = some r := H
    have A9 := mA A90
    clear A90
    by_cases c10 : ((a0 ++ a1) ++ t187).size + t188.size ≤ 9223372036854775807
    ·rw [if_pos c10] at H
     have c10b0 := eq_true c10
     have c10b1 : decide (((a0 ++ a1) ++ t187).size + t188.size ≤ 9223372036854775807) = true := decide_eq_true c10
     try have c10b2 : (9223372036854775807 < ((a0 ++ a1) ++ t187).size + t188.size) = False := eq_false (Nat.not_lt.2 c10)
     try have c10b3 : (9223372036854775807 < (a0.size) + (a1.size) + (t187.size) + t188.size) = False := eq_false (by have h_ := c10; simp only [ByteArray.size_append] at h_; omega)
     try have c10b4 : ((a0.size) + (a1.size) + (t187.size) + t188.size ≤ 9223372036854775807) = True := eq_true (by have h_ := c10; simp only [ByteArray.size_append] at h_; omega)
     obtain rfl := Option.some.inj H
     go_enter Try.func44, Try.ntmps44
     go_wp2_with (first | ((with_reducible refine gate_callee (f := 124) rfl ?_); refine goesL_ (some 17) rfl rfl Try.func124 (by kernel_rfl) rfl #[.int .u64 (IntKind.u64.wrap (a3)), .int .i64 4] rfl (by (try simp only [List.map_toArray, List.map_cons, List.map_nil]); first | done | rfl | (simp only [List.length_drop, List.length_take]; rfl)) ?_; (with_reducible refine (palanquinref01_Bytes.calls k (IntKind.u64.wrap (a3)) 4 t187 _ A7.out).mono ?_); rintro e w11 ⟨rfl, hb⟩; refine ⟨_, rfl, ?_⟩; have n0_ := mA (bP (by repeat (first | (with_reducible first | exact HB.out | apply bA | apply bN | apply bD) | exact HB.out)) hb); clear HB; have HB := n0_; clear n0_; (try clear hb); (try clear hb2); (try clear hk); (try clear hi)) | ((with_reducible refine gate_callee (f := 124) rfl ?_); refine goesL_ (some 22) rfl rfl Try.func124 (by kernel_rfl) rfl #[.int .u64 (IntKind.u64.wrap (Go.bits .and .i64 a2 255)), .int .i64 4] rfl (by (try simp only [List.map_toArray, List.map_cons, List.map_nil]); first | done | rfl | (simp only [List.length_drop, List.length_take]; rfl)) ?_; (with_reducible refine (palanquinref01_Bytes.calls k (IntKind.u64.wrap (Go.bits .and .i64 a2 255)) 4 t188 _ A9.out).mono ?_); rintro e w12 ⟨rfl, hb⟩; refine ⟨_, rfl, ?_⟩; have n0_ := mA (bP (by repeat (first | (with_reducible first | exact HB.out | apply bA | apply bN | apply bD) | exact HB.out)) hb); clear HB; have HB := n0_; clear n0_; (try clear hb); (try clear hb2); (try clear hk); (try clear hi)))
     go_ret
     exact ⟨by first | rfl | (simp [errW_none, errW_some] <;> rfl) | (simp [*, errW_none, errW_some] <;> rfl), by repeat (first | (with_reducible first | exact HB.out | apply bA | apply bN | apply bD) | exact HB.out)⟩
    ·rw [if_neg c10] at H
     exact absurd H (by simp)
   ·rw [if_neg c8] at H
    exact absurd H (by simp)
  ·rw [if_neg c6] at H
   exact absurd H (by simp)
 ·rw [if_neg c5] at H
  have c5b0 : ((a0.size : Int) == 16) = false := beq_eq_false_iff_ne.mpr c5
  have c5b1 : ((a0.size : Int) != 16) = true := bne_iff_ne.mpr c5
  by_cases c13 : a0.size + a1.size ≤ 9223372036854775807
  ·rw [if_pos c13] at H
   have c13b0 := eq_true c13
   have c13b1 : decide (a0.size + a1.size ≤ 9223372036854775807) = true := decide_eq_true c13
   try have c13b2 : (9223372036854775807 < a0.size + a1.size) = False := eq_false (Nat.not_lt.2 c13)
   replace H := Option.bind_eq_some_iff.mp H
   obtain ⟨t189, A140, H⟩ := H
   replace H : (if (a0 ++ a1).size + t189.size ≤ 9223372036854775807 then ((palanquinref01_Bytes.f k (IntKind.u64.wrap (a3)) 2).bind fun t190 => (if ((a0 ++ a1) ++ t189).size + t190.size ≤ 9223372036854775807 then (some (((a0 ++ a1) ++ t189) ++ t190)) else (none))) else (none)) = some r := H
   have A14 := mA A140
   clear A140
   by_cases c15 : (a0 ++ a1).size + t189.size ≤ 9223372036854775807
   ·rw [if_pos c15] at H
    have c15b0 := eq_true c15
    have c15b1 : decide ((a0 ++ a1).size + t189.size ≤ 9223372036854775807) = true := decide_eq_true c15
    try have c15b2 : (9223372036854775807 < (a0 ++ a1).size + t189.size) = False := eq_false (Nat.not_lt.2 c15)
    try have c15b3 : (9223372036854775807 < (a0.size) + (a1.size) + t189.size) = False := eq_false (by have h_ := c15; simp only [ByteArray.size_append] at h_; omega)
    try have c15b4 : ((a0.size) + (a1.size) + t189.size ≤ 9223372036854775807) = True := eq_true (by have h_ := c15; simp only [ByteArray.size_append] at h_; omega)
    replace H := Option.bind_eq_some_iff.mp H
    obtain ⟨t190, A160, H⟩ := H
    replace H : (if ((a0 ++ a1) ++ t189).size + t190.size ≤ 9223372036854775807 then (some (((a0 ++ a1) ++ t189) ++ t190)) else (none)) = some r := H
    have A16 := mA A160
    clear A160
    by_cases c17 : ((a0 ++ a1) ++ t189).size + t190.size ≤ 9223372036854775807
    ·rw [if_pos c17] at H
     have c17b0 := eq_true c17
     have c17b1 : decide (((a0 ++ a1) ++ t189).size + t190.size ≤ 9223372036854775807) = true := decide_eq_true c17
     try have c17b2 : (9223372036854775807 < ((a0 ++ a1) ++ t189).size + t190.size) = False := eq_false (Nat.not_lt.2 c17)
     try have c17b3 : (9223372036854775807 < (a0.size) + (a1.size) + (t189.size) + t190.size) = False := eq_false (by have h_ := c17; simp only [ByteArray.size_append] at h_; omega)
     try have c17b4 : ((a0.size) + (a1.size) + (t189.size) + t190.size ≤ 9223372036854775807) = True := eq_true (by have h_ := c17; simp only [ByteArray.size_append] at h_; omega)
     obtain rfl := Option.some.inj H
     go_enter Try.func44, Try.ntmps44
     go_wp2_with (first | ((with_reducible refine gate_callee (f := 124) rfl ?_); refine goesL_ (some 30) rfl rfl Try.func124 (by kernel_rfl) rfl #[.int .u64 (IntKind.u64.wrap (Go.bits .and .i64 a2 255)), .int .i64 2] rfl (by (try simp only [List.map_toArray, List.map_cons, List.map_nil]); first | done | rfl | (simp only [List.length_drop, List.length_take]; rfl)) ?_; (with_reducible refine (palanquinref01_Bytes.calls k (IntKind.u64.wrap (Go.bits .and .i64 a2 255)) 2 t189 _ A14.out).mono ?_); rintro e w18 ⟨rfl, hb⟩; refine ⟨_, rfl, ?_⟩; have n0_ := mA (bP (by repeat (first | (with_reducible first | exact HB.out | apply bA | apply bN | apply bD) | exact HB.out)) hb); clear HB; have HB := n0_; clear n0_; (try clear hb); (try clear hb2); (try clear hk); (try clear hi)) | ((with_reducible refine gate_callee (f := 124) rfl ?_); refine goesL_ (some 34) rfl rfl Try.func124 (by kernel_rfl) rfl #[.int .u64 (IntKind.u64.wrap (a3)), .int .i64 2] rfl (by (try simp only [List.map_toArray, List.map_cons, List.map_nil]); first | done | rfl | (simp only [List.length_drop, List.length_take]; rfl)) ?_; (with_reducible refine (palanquinref01_Bytes.calls k (IntKind.u64.wrap (a3)) 2 t190 _ A16.out).mono ?_); rintro e w19 ⟨rfl, hb⟩; refine ⟨_, rfl, ?_⟩; have n0_ := mA (bP (by repeat (first | (with_reducible first | exact HB.out | apply bA | apply bN | apply bD) | exact HB.out)) hb); clear HB; have HB := n0_; clear n0_; (try clear hb); (try clear hb2); (try clear hk); (try clear hi)))
     go_ret
     exact ⟨by first | rfl | (simp [errW_none, errW_some] <;> rfl) | (simp [*, errW_none, errW_some] <;> rfl), by repeat (first | (with_reducible first | exact HB.out | apply bA | apply bN | apply bD) | exact HB.out)⟩
    ·rw [if_neg c17] at H
     exact absurd H (by simp)
   ·rw [if_neg c15] at H
    exact absurd H (by simp)
  ·rw [if_neg c13] at H
   exact absurd H (by simp)

end Go.Proofs.Ytejmipoolbodgaa.G
end
