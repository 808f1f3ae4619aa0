-- Laid by a program of this session (wip/gen/gprint.py) over the translation's print. Lean checks it.
import Derived.Test.YtejmipoolbodgaaG0
import Derived.Test.YtejmipoolbodgaaGref01
namespace Go.Proofs.Ytejmipoolbodgaa.G
open Go.RowKit Go.Proofs.YtejmipoolbodgaaW.PrintWords Go.Proofs.YtejmipoolbodgaaW.PrintLast Go.Proofs.YtejmipoolbodgaaW.PrintMore
attribute [local go_sem] max2_int min2_int max_two min_two max_three min_three max_four min_four   -- for this text's walks alone
set_option linter.unusedVariables false
set_option linter.unusedSimpArgs false

/-! ### palanquinref05_in: function 146 -/
def palanquinref05_in.f (a0 : Int) (a1 : Int) (a2 : Int) : Option (Bool) := if a0 ≥ a1 then (some (decide (a0 ≤ a2))) else (some false)
set_option maxHeartbeats 8000000 in
set_option maxRecDepth 100000 in
theorem palanquinref05_in.calls (a0 : Int) (a1 : Int) (a2 : Int) (r : Bool) (w : World) (h : palanquinref05_in.f a0 a1 a2 = some r) :
    Calls Try.prog 146 #[.int .i64 a0, .int .i64 a1, .int .i64 a2] w fun e w' => e = .returned (.bool r) ∧ Drawn0 w w' := by
  have H : (if a0 ≥ a1 then (some (decide (a0 ≤ a2))) else (some false)) = some r := h
  clear h
  by_cases c4 : a0 ≥ a1
  · rw [if_pos c4] at H
    have c4b0 : decide (a1 ≤ a0) = true := decide_eq_true c4
    clear c4
    obtain rfl := Option.some.inj H
    go_enter Try.func146, Try.ntmps146
    go_wp2
    go_ret
    exact ⟨by first | rfl | (simp; done) | (simp [*]; done), by repeat (first | exact Drawn0.refl _ | apply Drawn0.step)⟩
  · rw [if_neg c4] at H
    have c4b0 : decide (a1 ≤ a0) = false := decide_eq_false c4
    clear c4
    obtain rfl := Option.some.inj H
    go_enter Try.func146, Try.ntmps146
    go_wp2
    go_ret
    exact ⟨by first | rfl | (simp; done) | (simp [*]; done), by repeat (first | exact Drawn0.refl _ | apply Drawn0.step)⟩

/-! ### palanquinref05_Right: function 88 -/
def palanquinref05_Right.f (a0_0 : Int) (a0_1 : Int) (a0_2 : Int) (a0_3 : Int) (a0_4 : Int) (a0_5 : Bool) (a0_6 : Bool) (a0_7 : ByteArray) (a0_8 : ByteArray) (a0_9 : ByteArray) : Option (Bool) := (palanquinref05_in.f a0_0 0 255).bind fun t410 => (if t410 = true then ((palanquinref05_in.f a0_3 0 255).bind fun t411 => (if t411 = true then ((palanquinref05_in.f a0_4 0 255).bind fun t412 => (if t412 = true then ((palanquinref05_in.f a0_1 0 65535).bind fun t413 => (if t413 = true then ((palanquinref05_in.f a0_2 0 8191).bind fun t414 => (if t414 = true then (if (a0_7.size : Int) = 4 then (if (a0_8.size : Int) = 4 then (if (a0_9.size : Int) ≤ 40 then (some (((a0_9.size : Int) % 4) == 0)) else (some false)) else (some false)) else (some false)) else (some false))) else (some false))) else (some false))) else (some false))) else (some false))
set_option maxHeartbeats 8000000 in
set_option maxRecDepth 100000 in
theorem palanquinref05_Right.calls (a0_0 : Int) (a0_1 : Int) (a0_2 : Int) (a0_3 : Int) (a0_4 : Int) (a0_5 : Bool) (a0_6 : Bool) (a0_7 : ByteArray) (a0_8 : ByteArray) (a0_9 : ByteArray) (r : Bool) (w : World) (h : palanquinref05_Right.f a0_0 a0_1 a0_2 a0_3 a0_4 a0_5 a0_6 a0_7 a0_8 a0_9 = some r) :
    Calls Try.prog 88 #[.agg #[.int .i64 a0_0, .int .i64 a0_1, .int .i64 a0_2, .int .i64 a0_3, .int .i64 a0_4, .bool a0_5, .bool a0_6, .string a0_7, .string a0_8, .string a0_9]] w fun e w' => e = .returned (.bool r) ∧ Below w.heap.size w w' := by
  have hu93 := Try.underlying93
  have HB := Aside0.mk (Below.refl w.heap.size w)
  have H : ((palanquinref05_in.f a0_0 0 255).bind fun t410 => (if t410 = true then ((palanquinref05_in.f a0_3 0 255).bind fun t411 => (if t411 = true then ((palanquinref05_in.f a0_4 0 255).bind fun t412 => (if t412 = true then ((palanquinref05_in.f a0_1 0 65535).bind fun t413 => (if t413 = true then ((palanquinref05_in.f a0_2 0 8191).bind fun t414 => (if t414 = true then (if (a0_7.size : Int) = 4 then (if (a0_8.size : Int) = 4 then (if (a0_9.size : Int) ≤ 40 then (some (((a0_9.size : Int) % 4) == 0)) else (some false)) else (some false)) else (some false)) else (some false))) else (some false))) else (some false))) else (some false))) else (some false))) = some r := h
  clear h
  replace H := Option.bind_eq_some_iff.mp H
  obtain ⟨t410, A20, H⟩ := H
  replace H : (if t410 = true then ((palanquinref05_in.f a0_3 0 255).bind fun t411 => (if t411 = true then ((palanquinref05_in.f a0_4 0 255).bind fun t412 => (if t412 = true then ((palanquinref05_in.f a0_1 0 65535).bind fun t413 => (if t413 = true then ((palanquinref05_in.f a0_2 0 8191).bind fun t414 => (if t414 = true then (if (a0_7.size : Int) = 4 then (if (a0_8.size : Int) = 4 then (if (a0_9.size : Int) ≤ 40 then (some (((a0_9.size : Int) % 4) == 0)) else (some false)) else (some false)) else (some false)) else (some false))) else (some false))) else (some false))) else (some false))) else (some false)) = some r := H
  have A2 := Aside0.mk A20
  clear A20
  by_cases c3 : t410 = true
  · subst c3
    have H1 : ((palanquinref05_in.f a0_3 0 255).bind fun t411 => (if t411 = true then ((palanquinref05_in.f a0_4 0 255).bind fun t412 => (if t412 = true then ((palanquinref05_in.f a0_1 0 65535).bind fun t413 => (if t413 = true then ((palanquinref05_in.f a0_2 0 8191).bind fun t414 => (if t414 = true then (if (a0_7.size : Int) = 4 then (if (a0_8.size : Int) = 4 then (if (a0_9.size : Int) ≤ 40 then (some (((a0_9.size : Int) % 4) == 0)) else (some false)) else (some false)) else (some false)) else (some false))) else (some false))) else (some false))) else (some false))) = some r := by rw [if_pos rfl] at H; exact H
    clear H
    have H := H1
    clear H1
    replace H := Option.bind_eq_some_iff.mp H
    obtain ⟨t411, A40, H⟩ := H
    replace H : (if t411 = true then ((palanquinref05_in.f a0_4 0 255).bind fun t412 => (if t412 = true then ((palanquinref05_in.f a0_1 0 65535).bind fun t413 => (if t413 = true then ((palanquinref05_in.f a0_2 0 8191).bind fun t414 => (if t414 = true then (if (a0_7.size : Int) = 4 then (if (a0_8.size : Int) = 4 then (if (a0_9.size : Int) ≤ 40 then (some (((a0_9.size : Int) % 4) == 0)) else (some false)) else (some false)) else (some false)) else (some false))) else (some false))) else (some false))) else (some false)) = some r := H
    have A4 := Aside0.mk A40
    clear A40
    by_cases c5 : t411 = true
    · subst c5
      have H1 : ((palanquinref05_in.f a0_4 0 255).bind fun t412 => (if t412 = true then ((palanquinref05_in.f a0_1 0 65535).bind fun t413 => (if t413 = true then ((palanquinref05_in.f a0_2 0 8191).bind fun t414 => (if t414 = true then (if (a0_7.size : Int) = 4 then (if (a0_8.size : Int) = 4 then (if (a0_9.size : Int) ≤ 40 then (some (((a0_9.size : Int) % 4) == 0)) else (some false)) else (some false)) else (some false)) else (some false))) else (some false))) else (some false))) = some r := by rw [if_pos rfl] at H; exact H
      clear H
      have H := H1
      clear H1
      replace H := Option.bind_eq_some_iff.mp H
      obtain ⟨t412, A60, H⟩ := H
      replace H : (if t412 = true then ((palanquinref05_in.f a0_1 0 65535).bind fun t413 => (if t413 = true then ((palanquinref05_in.f a0_2 0 8191).bind fun t414 => (if t414 = true then (if (a0_7.size : Int) = 4 then (if (a0_8.size : Int) = 4 then (if (a0_9.size : Int) ≤ 40 then (some (((a0_9.size : Int) % 4) == 0)) else (some false)) else (some false)) else (some false)) else (some false))) else (some false))) else (some false)) = some r := H
      have A6 := Aside0.mk A60
      clear A60
      by_cases c7 : t412 = true
      · subst c7
        have H1 : ((palanquinref05_in.f a0_1 0 65535).bind fun t413 => (if t413 = true then ((palanquinref05_in.f a0_2 0 8191).bind fun t414 => (if t414 = true then (if (a0_7.size : Int) = 4 then (if (a0_8.size : Int) = 4 then (if (a0_9.size : Int) ≤ 40 then (some (((a0_9.size : Int) % 4) == 0)) else (some false)) else (some false)) else (some false)) else (some false))) else (some false))) = some r := by rw [if_pos rfl] at H; exact H
        clear H
        have H := H1
        clear H1
        replace H := Option.bind_eq_some_iff.mp H
        obtain ⟨t413, A80, H⟩ := H
        replace H : (if t413 = true then ((palanquinref05_in.f a0_2 0 8191).bind fun t414 => (if t414 = true then (if (a0_7.size : Int) = 4 then (if (a0_8.size : Int) = 4 then (if (a0_9.size : Int) ≤ 40 then (some (((a0_9.size : Int) % 4) == 0)) else (some false)) else (some false)) else (some false)) else (some false))) else (some false)) = some r := H
        have A8 := Aside0.mk A80
        clear A80
        by_cases c9 : t413 = true
        · subst c9
          have H1 : ((palanquinref05_in.f a0_2 0 8191).bind fun t414 => (if t414 = true then (if (a0_7.size : Int) = 4 then (if (a0_8.size : Int) = 4 then (if (a0_9.size : Int) ≤ 40 then (some (((a0_9.size : Int) % 4) == 0)) else (some false)) else (some false)) else (some false)) else (some false))) = some r := by rw [if_pos rfl] at H; exact H
          clear H
          have H := H1
          clear H1
          replace H := Option.bind_eq_some_iff.mp H
          obtain ⟨t414, A100, H⟩ := H
          replace H : (if t414 = true then (if (a0_7.size : Int) = 4 then (if (a0_8.size : Int) = 4 then (if (a0_9.size : Int) ≤ 40 then (some (((a0_9.size : Int) % 4) == 0)) else (some false)) else (some false)) else (some false)) else (some false)) = some r := H
          have A10 := Aside0.mk A100
          clear A100
          by_cases c11 : t414 = true
          · subst c11
            have H1 : (if (a0_7.size : Int) = 4 then (if (a0_8.size : Int) = 4 then (if (a0_9.size : Int) ≤ 40 then (some (((a0_9.size : Int) % 4) == 0)) else (some false)) else (some false)) else (some false)) = some r := by rw [if_pos rfl] at H; exact H
            clear H
            have H := H1
            clear H1
            by_cases c12 : (a0_7.size : Int) = 4
            · rw [if_pos c12] at H
              have c12b0 : ((a0_7.size : Int) == 4) = true := beq_iff_eq.mpr c12
              have c12b1 : ((a0_7.size : Int) != 4) = false := bne_eq_false_iff_eq.mpr c12
              clear c12
              by_cases c13 : (a0_8.size : Int) = 4
              · rw [if_pos c13] at H
                have c13b0 : ((a0_8.size : Int) == 4) = true := beq_iff_eq.mpr c13
                have c13b1 : ((a0_8.size : Int) != 4) = false := bne_eq_false_iff_eq.mpr c13
                clear c13
                by_cases c14 : (a0_9.size : Int) ≤ 40
                · rw [if_pos c14] at H
                  have c14b0 : decide ((a0_9.size : Int) ≤ 40) = true := decide_eq_true c14
                  have c14b1 : decide (a0_9.size ≤ 40) = true := decide_eq_true (by omega)
                  clear c14
                  obtain rfl := Option.some.inj H
                  go_enter Try.func88, Try.ntmps88
                  go_wp2_with (first | ((with_reducible refine gate_dst (N := 1) rfl ?_); (try (refine gate_guard (by rfl) ?_; dsimp only)); refine box_event ?hg (N := 1) ?hd (cs := #[.int .i64 a0_0, .int .i64 a0_1, .int .i64 a0_2, .int .i64 a0_3, .int .i64 a0_4, .bool a0_5, .bool a0_6, .string a0_7, .string a0_8, .string a0_9]) (t := 93) ?hr ?_; (case hd => rfl); (case hg => rfl); (case hr => first | (go_simp; done) | (go_simp; rfl)); intro gb409 hg w15 hbox hb; have n0_ := Aside0.mk (below_step (by repeat (first | (with_reducible first | exact HB.out | apply below_alloc | apply pw_below_drewN | apply below_drew1) | exact HB.out)) hb); have n1_ := Aside0.mk (hbox); have n2_ := Aside0.mk ((by rw [hg]; exact (below_size (by repeat (first | (with_reducible first | exact HB.out | apply below_alloc | apply pw_below_drewN | apply below_drew1) | exact HB.out))) : w.heap.size ≤ gb409)); have n3_ := Aside0.mk ((by rw [hg]; exact (below_size (by repeat (first | (with_reducible first | exact HB.out | apply below_alloc | apply pw_below_drewN | apply below_drew1) | exact HB.out))) : w.heap.size ≤ gb409)); clear HB; have HB := n0_; have BK409 := n1_; have GW409 := n2_; have GE409 := n3_; clear n0_ n1_ n2_ n3_; clear hb hbox hg; have hcz16_0 : w15.cell? ⟨gb409, 0, none⟩ = some (.int .i64 a0_0) := (blk_cell BK409.out 0).trans rfl; have hcz16_1 : w15.cell? ⟨gb409, 1, none⟩ = some (.int .i64 a0_1) := (blk_cell BK409.out 1).trans rfl; have hcz16_2 : w15.cell? ⟨gb409, 2, none⟩ = some (.int .i64 a0_2) := (blk_cell BK409.out 2).trans rfl; have hcz16_3 : w15.cell? ⟨gb409, 3, none⟩ = some (.int .i64 a0_3) := (blk_cell BK409.out 3).trans rfl; have hcz16_4 : w15.cell? ⟨gb409, 4, none⟩ = some (.int .i64 a0_4) := (blk_cell BK409.out 4).trans rfl; have hcz16_5 : w15.cell? ⟨gb409, 5, none⟩ = some (.bool a0_5) := (blk_cell BK409.out 5).trans rfl; have hcz16_6 : w15.cell? ⟨gb409, 6, none⟩ = some (.bool a0_6) := (blk_cell BK409.out 6).trans rfl; have hcz16_7 : w15.cell? ⟨gb409, 7, none⟩ = some (.string a0_7) := (blk_cell BK409.out 7).trans rfl; have hcz16_8 : w15.cell? ⟨gb409, 8, none⟩ = some (.string a0_8) := (blk_cell BK409.out 8).trans rfl; have hcz16_9 : w15.cell? ⟨gb409, 9, none⟩ = some (.string a0_9) := (blk_cell BK409.out 9).trans rfl; have hfz16_0 := blk_frozen BK409.out 0; have hfz16_1 := blk_frozen BK409.out 1; have hfz16_2 := blk_frozen BK409.out 2; have hfz16_3 := blk_frozen BK409.out 3; have hfz16_4 := blk_frozen BK409.out 4; have hfz16_5 := blk_frozen BK409.out 5; have hfz16_6 := blk_frozen BK409.out 6; have hfz16_7 := blk_frozen BK409.out 7; have hfz16_8 := blk_frozen BK409.out 8; have hfz16_9 := blk_frozen BK409.out 9) | ((with_reducible refine gate_callee (f := 146) rfl ?_); refine goesL_ (some 5) rfl rfl Try.func146 (by kernel_rfl) rfl #[.int .i64 a0_0, .int .i64 0, .int .i64 255] rfl (by (try simp only [List.map_toArray, List.map_cons, List.map_nil]); first | done | rfl | (simp only [List.length_drop, List.length_take]; rfl)) ?_; (with_reducible refine (palanquinref05_in.calls a0_0 0 255 true _ A2.out).mono ?_); rintro e w' ⟨rfl, ⟨nd, rfl⟩⟩; refine ⟨_, rfl, ?_⟩) | (go_at_call 146; (with_reducible refine (palanquinref05_in.calls a0_3 0 255 true _ A4.out).mono ?_); rintro e w' ⟨rfl, ⟨nd, rfl⟩⟩) | (go_at_call 146; (with_reducible refine (palanquinref05_in.calls a0_4 0 255 true _ A6.out).mono ?_); rintro e w' ⟨rfl, ⟨nd, rfl⟩⟩) | (go_at_call 146; (with_reducible refine (palanquinref05_in.calls a0_1 0 65535 true _ A8.out).mono ?_); rintro e w' ⟨rfl, ⟨nd, rfl⟩⟩) | (go_at_call 146; (with_reducible refine (palanquinref05_in.calls a0_2 0 8191 true _ A10.out).mono ?_); rintro e w' ⟨rfl, ⟨nd, rfl⟩⟩))
                  go_ret
                  exact ⟨by first | rfl | (simp [errW_none, errW_some] <;> rfl) | (simp [*, errW_none, errW_some] <;> rfl), by repeat (first | (with_reducible first | exact HB.out | apply below_alloc | apply pw_below_drewN | apply below_drew1 | refine below_set ?_ GE409.out) | exact HB.out)⟩
                · rw [if_neg c14] at H
                  have c14b0 : decide ((a0_9.size : Int) ≤ 40) = false := decide_eq_false c14
                  have c14b1 : decide (a0_9.size ≤ 40) = false := decide_eq_false (by omega)
                  clear c14
                  obtain rfl := Option.some.inj H
                  go_enter Try.func88, Try.ntmps88
                  go_wp2_with (first | ((with_reducible refine gate_dst (N := 1) rfl ?_); (try (refine gate_guard (by rfl) ?_; dsimp only)); refine box_event ?hg (N := 1) ?hd (cs := #[.int .i64 a0_0, .int .i64 a0_1, .int .i64 a0_2, .int .i64 a0_3, .int .i64 a0_4, .bool a0_5, .bool a0_6, .string a0_7, .string a0_8, .string a0_9]) (t := 93) ?hr ?_; (case hd => rfl); (case hg => rfl); (case hr => first | (go_simp; done) | (go_simp; rfl)); intro gb409 hg w17 hbox hb; have n0_ := Aside0.mk (below_step (by repeat (first | (with_reducible first | exact HB.out | apply below_alloc | apply pw_below_drewN | apply below_drew1) | exact HB.out)) hb); have n1_ := Aside0.mk (hbox); have n2_ := Aside0.mk ((by rw [hg]; exact (below_size (by repeat (first | (with_reducible first | exact HB.out | apply below_alloc | apply pw_below_drewN | apply below_drew1) | exact HB.out))) : w.heap.size ≤ gb409)); have n3_ := Aside0.mk ((by rw [hg]; exact (below_size (by repeat (first | (with_reducible first | exact HB.out | apply below_alloc | apply pw_below_drewN | apply below_drew1) | exact HB.out))) : w.heap.size ≤ gb409)); clear HB; have HB := n0_; have BK409 := n1_; have GW409 := n2_; have GE409 := n3_; clear n0_ n1_ n2_ n3_; clear hb hbox hg; have hcz18_0 : w17.cell? ⟨gb409, 0, none⟩ = some (.int .i64 a0_0) := (blk_cell BK409.out 0).trans rfl; have hcz18_1 : w17.cell? ⟨gb409, 1, none⟩ = some (.int .i64 a0_1) := (blk_cell BK409.out 1).trans rfl; have hcz18_2 : w17.cell? ⟨gb409, 2, none⟩ = some (.int .i64 a0_2) := (blk_cell BK409.out 2).trans rfl; have hcz18_3 : w17.cell? ⟨gb409, 3, none⟩ = some (.int .i64 a0_3) := (blk_cell BK409.out 3).trans rfl; have hcz18_4 : w17.cell? ⟨gb409, 4, none⟩ = some (.int .i64 a0_4) := (blk_cell BK409.out 4).trans rfl; have hcz18_5 : w17.cell? ⟨gb409, 5, none⟩ = some (.bool a0_5) := (blk_cell BK409.out 5).trans rfl; have hcz18_6 : w17.cell? ⟨gb409, 6, none⟩ = some (.bool a0_6) := (blk_cell BK409.out 6).trans rfl; have hcz18_7 : w17.cell? ⟨gb409, 7, none⟩ = some (.string a0_7) := (blk_cell BK409.out 7).trans rfl; have hcz18_8 : w17.cell? ⟨gb409, 8, none⟩ = some (.string a0_8) := (blk_cell BK409.out 8).trans rfl; have hcz18_9 : w17.cell? ⟨gb409, 9, none⟩ = some (.string a0_9) := (blk_cell BK409.out 9).trans rfl; have hfz18_0 := blk_frozen BK409.out 0; have hfz18_1 := blk_frozen BK409.out 1; have hfz18_2 := blk_frozen BK409.out 2; have hfz18_3 := blk_frozen BK409.out 3; have hfz18_4 := blk_frozen BK409.out 4; have hfz18_5 := blk_frozen BK409.out 5; have hfz18_6 := blk_frozen BK409.out 6; have hfz18_7 := blk_frozen BK409.out 7; have hfz18_8 := blk_frozen BK409.out 8; have hfz18_9 := blk_frozen BK409.out 9) | ((with_reducible refine gate_callee (f := 146) rfl ?_); refine goesL_ (some 5) rfl rfl Try.func146 (by kernel_rfl) rfl #[.int .i64 a0_0, .int .i64 0, .int .i64 255] rfl (by (try simp only [List.map_toArray, List.map_cons, List.map_nil]); first | done | rfl | (simp only [List.length_drop, List.length_take]; rfl)) ?_; (with_reducible refine (palanquinref05_in.calls a0_0 0 255 true _ A2.out).mono ?_); rintro e w' ⟨rfl, ⟨nd, rfl⟩⟩; refine ⟨_, rfl, ?_⟩) | (go_at_call 146; (with_reducible refine (palanquinref05_in.calls a0_3 0 255 true _ A4.out).mono ?_); rintro e w' ⟨rfl, ⟨nd, rfl⟩⟩) | (go_at_call 146; (with_reducible refine (palanquinref05_in.calls a0_4 0 255 true _ A6.out).mono ?_); rintro e w' ⟨rfl, ⟨nd, rfl⟩⟩) | (go_at_call 146; (with_reducible refine (palanquinref05_in.calls a0_1 0 65535 true _ A8.out).mono ?_); rintro e w' ⟨rfl, ⟨nd, rfl⟩⟩) | (go_at_call 146; (with_reducible refine (palanquinref05_in.calls a0_2 0 8191 true _ A10.out).mono ?_); rintro e w' ⟨rfl, ⟨nd, rfl⟩⟩))
                  go_ret
                  exact ⟨by first | rfl | (simp [errW_none, errW_some] <;> rfl) | (simp [*, errW_none, errW_some] <;> rfl), by repeat (first | (with_reducible first | exact HB.out | apply below_alloc | apply pw_below_drewN | apply below_drew1 | refine below_set ?_ GE409.out) | exact HB.out)⟩
              · rw [if_neg c13] at H
                have c13b0 : ((a0_8.size : Int) == 4) = false := beq_eq_false_iff_ne.mpr c13
                have c13b1 : ((a0_8.size : Int) != 4) = true := bne_iff_ne.mpr c13
                obtain rfl := Option.some.inj H
                go_enter Try.func88, Try.ntmps88
                go_wp2_with (first | ((with_reducible refine gate_dst (N := 1) rfl ?_); (try (refine gate_guard (by rfl) ?_; dsimp only)); refine box_event ?hg (N := 1) ?hd (cs := #[.int .i64 a0_0, .int .i64 a0_1, .int .i64 a0_2, .int .i64 a0_3, .int .i64 a0_4, .bool a0_5, .bool a0_6, .string a0_7, .string a0_8, .string a0_9]) (t := 93) ?hr ?_; (case hd => rfl); (case hg => rfl); (case hr => first | (go_simp; done) | (go_simp; rfl)); intro gb409 hg w19 hbox hb; have n0_ := Aside0.mk (below_step (by repeat (first | (with_reducible first | exact HB.out | apply below_alloc | apply pw_below_drewN | apply below_drew1) | exact HB.out)) hb); have n1_ := Aside0.mk (hbox); have n2_ := Aside0.mk ((by rw [hg]; exact (below_size (by repeat (first | (with_reducible first | exact HB.out | apply below_alloc | apply pw_below_drewN | apply below_drew1) | exact HB.out))) : w.heap.size ≤ gb409)); have n3_ := Aside0.mk ((by rw [hg]; exact (below_size (by repeat (first | (with_reducible first | exact HB.out | apply below_alloc | apply pw_below_drewN | apply below_drew1) | exact HB.out))) : w.heap.size ≤ gb409)); clear HB; have HB := n0_; have BK409 := n1_; have GW409 := n2_; have GE409 := n3_; clear n0_ n1_ n2_ n3_; clear hb hbox hg; have hcz20_0 : w19.cell? ⟨gb409, 0, none⟩ = some (.int .i64 a0_0) := (blk_cell BK409.out 0).trans rfl; have hcz20_1 : w19.cell? ⟨gb409, 1, none⟩ = some (.int .i64 a0_1) := (blk_cell BK409.out 1).trans rfl; have hcz20_2 : w19.cell? ⟨gb409, 2, none⟩ = some (.int .i64 a0_2) := (blk_cell BK409.out 2).trans rfl; have hcz20_3 : w19.cell? ⟨gb409, 3, none⟩ = some (.int .i64 a0_3) := (blk_cell BK409.out 3).trans rfl; have hcz20_4 : w19.cell? ⟨gb409, 4, none⟩ = some (.int .i64 a0_4) := (blk_cell BK409.out 4).trans rfl; have hcz20_5 : w19.cell? ⟨gb409, 5, none⟩ = some (.bool a0_5) := (blk_cell BK409.out 5).trans rfl; have hcz20_6 : w19.cell? ⟨gb409, 6, none⟩ = some (.bool a0_6) := (blk_cell BK409.out 6).trans rfl; have hcz20_7 : w19.cell? ⟨gb409, 7, none⟩ = some (.string a0_7) := (blk_cell BK409.out 7).trans rfl; have hcz20_8 : w19.cell? ⟨gb409, 8, none⟩ = some (.string a0_8) := (blk_cell BK409.out 8).trans rfl; have hcz20_9 : w19.cell? ⟨gb409, 9, none⟩ = some (.string a0_9) := (blk_cell BK409.out 9).trans rfl; have hfz20_0 := blk_frozen BK409.out 0; have hfz20_1 := blk_frozen BK409.out 1; have hfz20_2 := blk_frozen BK409.out 2; have hfz20_3 := blk_frozen BK409.out 3; have hfz20_4 := blk_frozen BK409.out 4; have hfz20_5 := blk_frozen BK409.out 5; have hfz20_6 := blk_frozen BK409.out 6; have hfz20_7 := blk_frozen BK409.out 7; have hfz20_8 := blk_frozen BK409.out 8; have hfz20_9 := blk_frozen BK409.out 9) | ((with_reducible refine gate_callee (f := 146) rfl ?_); refine goesL_ (some 5) rfl rfl Try.func146 (by kernel_rfl) rfl #[.int .i64 a0_0, .int .i64 0, .int .i64 255] rfl (by (try simp only [List.map_toArray, List.map_cons, List.map_nil]); first | done | rfl | (simp only [List.length_drop, List.length_take]; rfl)) ?_; (with_reducible refine (palanquinref05_in.calls a0_0 0 255 true _ A2.out).mono ?_); rintro e w' ⟨rfl, ⟨nd, rfl⟩⟩; refine ⟨_, rfl, ?_⟩) | (go_at_call 146; (with_reducible refine (palanquinref05_in.calls a0_3 0 255 true _ A4.out).mono ?_); rintro e w' ⟨rfl, ⟨nd, rfl⟩⟩) | (go_at_call 146; (with_reducible refine (palanquinref05_in.calls a0_4 0 255 true _ A6.out).mono ?_); rintro e w' ⟨rfl, ⟨nd, rfl⟩⟩) | (go_at_call 146; (with_reducible refine (palanquinref05_in.calls a0_1 0 65535 true _ A8.out).mono ?_); rintro e w' ⟨rfl, ⟨nd, rfl⟩⟩) | (go_at_call 146; (with_reducible refine (palanquinref05_in.calls a0_2 0 8191 true _ A10.out).mono ?_); rintro e w' ⟨rfl, ⟨nd, rfl⟩⟩))
                go_ret
                exact ⟨by first | rfl | (simp [errW_none, errW_some] <;> rfl) | (simp [*, errW_none, errW_some] <;> rfl), by repeat (first | (with_reducible first | exact HB.out | apply below_alloc | apply pw_below_drewN | apply below_drew1 | refine below_set ?_ GE409.out) | exact HB.out)⟩
            · rw [if_neg c12] at H
              have c12b0 : ((a0_7.size : Int) == 4) = false := beq_eq_false_iff_ne.mpr c12
              have c12b1 : ((a0_7.size : Int) != 4) = true := bne_iff_ne.mpr c12
              obtain rfl := Option.some.inj H
              go_enter Try.func88, Try.ntmps88
              go_wp2_with (first | ((with_reducible refine gate_dst (N := 1) rfl ?_); (try (refine gate_guard (by rfl) ?_; dsimp only)); refine box_event ?hg (N := 1) ?hd (cs := #[.int .i64 a0_0, .int .i64 a0_1, .int .i64 a0_2, .int .i64 a0_3, .int .i64 a0_4, .bool a0_5, .bool a0_6, .string a0_7, .string a0_8, .string a0_9]) (t := 93) ?hr ?_; (case hd => rfl); (case hg => rfl); (case hr => first | (go_simp; done) | (go_simp; rfl)); intro gb409 hg w21 hbox hb; have n0_ := Aside0.mk (below_step (by repeat (first | (with_reducible first | exact HB.out | apply below_alloc | apply pw_below_drewN | apply below_drew1) | exact HB.out)) hb); have n1_ := Aside0.mk (hbox); have n2_ := Aside0.mk ((by rw [hg]; exact (below_size (by repeat (first | (with_reducible first | exact HB.out | apply below_alloc | apply pw_below_drewN | apply below_drew1) | exact HB.out))) : w.heap.size ≤ gb409)); have n3_ := Aside0.mk ((by rw [hg]; exact (below_size (by repeat (first | (with_reducible first | exact HB.out | apply below_alloc | apply pw_below_drewN | apply below_drew1) | exact HB.out))) : w.heap.size ≤ gb409)); clear HB; have HB := n0_; have BK409 := n1_; have GW409 := n2_; have GE409 := n3_; clear n0_ n1_ n2_ n3_; clear hb hbox hg; have hcz22_0 : w21.cell? ⟨gb409, 0, none⟩ = some (.int .i64 a0_0) := (blk_cell BK409.out 0).trans rfl; have hcz22_1 : w21.cell? ⟨gb409, 1, none⟩ = some (.int .i64 a0_1) := (blk_cell BK409.out 1).trans rfl; have hcz22_2 : w21.cell? ⟨gb409, 2, none⟩ = some (.int .i64 a0_2) := (blk_cell BK409.out 2).trans rfl; have hcz22_3 : w21.cell? ⟨gb409, 3, none⟩ = some (.int .i64 a0_3) := (blk_cell BK409.out 3).trans rfl; have hcz22_4 : w21.cell? ⟨gb409, 4, none⟩ = some (.int .i64 a0_4) := (blk_cell BK409.out 4).trans rfl; have hcz22_5 : w21.cell? ⟨gb409, 5, none⟩ = some (.bool a0_5) := (blk_cell BK409.out 5).trans rfl; have hcz22_6 : w21.cell? ⟨gb409, 6, none⟩ = some (.bool a0_6) := (blk_cell BK409.out 6).trans rfl; have hcz22_7 : w21.cell? ⟨gb409, 7, none⟩ = some (.string a0_7) := (blk_cell BK409.out 7).trans rfl; have hcz22_8 : w21.cell? ⟨gb409, 8, none⟩ = some (.string a0_8) := (blk_cell BK409.out 8).trans rfl; have hcz22_9 : w21.cell? ⟨gb409, 9, none⟩ = some (.string a0_9) := (blk_cell BK409.out 9).trans rfl; have hfz22_0 := blk_frozen BK409.out 0; have hfz22_1 := blk_frozen BK409.out 1; have hfz22_2 := blk_frozen BK409.out 2; have hfz22_3 := blk_frozen BK409.out 3; have hfz22_4 := blk_frozen BK409.out 4; have hfz22_5 := blk_frozen BK409.out 5; have hfz22_6 := blk_frozen BK409.out 6; have hfz22_7 := blk_frozen BK409.out 7; have hfz22_8 := blk_frozen BK409.out 8; have hfz22_9 := blk_frozen BK409.out 9) | ((with_reducible refine gate_callee (f := 146) rfl ?_); refine goesL_ (some 5) rfl rfl Try.func146 (by kernel_rfl) rfl #[.int .i64 a0_0, .int .i64 0, .int .i64 255] rfl (by (try simp only [List.map_toArray, List.map_cons, List.map_nil]); first | done | rfl | (simp only [List.length_drop, List.length_take]; rfl)) ?_; (with_reducible refine (palanquinref05_in.calls a0_0 0 255 true _ A2.out).mono ?_); rintro e w' ⟨rfl, ⟨nd, rfl⟩⟩; refine ⟨_, rfl, ?_⟩) | (go_at_call 146; (with_reducible refine (palanquinref05_in.calls a0_3 0 255 true _ A4.out).mono ?_); rintro e w' ⟨rfl, ⟨nd, rfl⟩⟩) | (go_at_call 146; (with_reducible refine (palanquinref05_in.calls a0_4 0 255 true _ A6.out).mono ?_); rintro e w' ⟨rfl, ⟨nd, rfl⟩⟩) | (go_at_call 146; (with_reducible refine (palanquinref05_in.calls a0_1 0 65535 true _ A8.out).mono ?_); rintro e w' ⟨rfl, ⟨nd, rfl⟩⟩) | (go_at_call 146; (with_reducible refine (palanquinref05_in.calls a0_2 0 8191 true _ A10.out).mono ?_); rintro e w' ⟨rfl, ⟨nd, rfl⟩⟩))
              go_ret
              exact ⟨by first | rfl | (simp [errW_none, errW_some] <;> rfl) | (simp [*, errW_none, errW_some] <;> rfl), by repeat (first | (with_reducible first | exact HB.out | apply below_alloc | apply pw_below_drewN | apply below_drew1 | refine below_set ?_ GE409.out) | exact HB.out)⟩
          · replace c11 := Bool.eq_false_iff.mpr c11
            subst c11
            have H1 : (some false) = some r := by rw [if_neg (show ¬ (false = true) by decide)] at H; exact H
            clear H
            have H := H1
            clear H1
            obtain rfl := Option.some.inj H
            go_enter Try.func88, Try.ntmps88
            go_wp2_with (first | ((with_reducible refine gate_dst (N := 1) rfl ?_); (try (refine gate_guard (by rfl) ?_; dsimp only)); refine box_event ?hg (N := 1) ?hd (cs := #[.int .i64 a0_0, .int .i64 a0_1, .int .i64 a0_2, .int .i64 a0_3, .int .i64 a0_4, .bool a0_5, .bool a0_6, .string a0_7, .string a0_8, .string a0_9]) (t := 93) ?hr ?_; (case hd => rfl); (case hg => rfl); (case hr => first | (go_simp; done) | (go_simp; rfl)); intro gb409 hg w23 hbox hb; have n0_ := Aside0.mk (below_step (by repeat (first | (with_reducible first | exact HB.out | apply below_alloc | apply pw_below_drewN | apply below_drew1) | exact HB.out)) hb); have n1_ := Aside0.mk (hbox); have n2_ := Aside0.mk ((by rw [hg]; exact (below_size (by repeat (first | (with_reducible first | exact HB.out | apply below_alloc | apply pw_below_drewN | apply below_drew1) | exact HB.out))) : w.heap.size ≤ gb409)); have n3_ := Aside0.mk ((by rw [hg]; exact (below_size (by repeat (first | (with_reducible first | exact HB.out | apply below_alloc | apply pw_below_drewN | apply below_drew1) | exact HB.out))) : w.heap.size ≤ gb409)); clear HB; have HB := n0_; have BK409 := n1_; have GW409 := n2_; have GE409 := n3_; clear n0_ n1_ n2_ n3_; clear hb hbox hg; have hcz24_0 : w23.cell? ⟨gb409, 0, none⟩ = some (.int .i64 a0_0) := (blk_cell BK409.out 0).trans rfl; have hcz24_1 : w23.cell? ⟨gb409, 1, none⟩ = some (.int .i64 a0_1) := (blk_cell BK409.out 1).trans rfl; have hcz24_2 : w23.cell? ⟨gb409, 2, none⟩ = some (.int .i64 a0_2) := (blk_cell BK409.out 2).trans rfl; have hcz24_3 : w23.cell? ⟨gb409, 3, none⟩ = some (.int .i64 a0_3) := (blk_cell BK409.out 3).trans rfl; have hcz24_4 : w23.cell? ⟨gb409, 4, none⟩ = some (.int .i64 a0_4) := (blk_cell BK409.out 4).trans rfl; have hcz24_5 : w23.cell? ⟨gb409, 5, none⟩ = some (.bool a0_5) := (blk_cell BK409.out 5).trans rfl; have hcz24_6 : w23.cell? ⟨gb409, 6, none⟩ = some (.bool a0_6) := (blk_cell BK409.out 6).trans rfl; have hcz24_7 : w23.cell? ⟨gb409, 7, none⟩ = some (.string a0_7) := (blk_cell BK409.out 7).trans rfl; have hcz24_8 : w23.cell? ⟨gb409, 8, none⟩ = some (.string a0_8) := (blk_cell BK409.out 8).trans rfl; have hcz24_9 : w23.cell? ⟨gb409, 9, none⟩ = some (.string a0_9) := (blk_cell BK409.out 9).trans rfl; have hfz24_0 := blk_frozen BK409.out 0; have hfz24_1 := blk_frozen BK409.out 1; have hfz24_2 := blk_frozen BK409.out 2; have hfz24_3 := blk_frozen BK409.out 3; have hfz24_4 := blk_frozen BK409.out 4; have hfz24_5 := blk_frozen BK409.out 5; have hfz24_6 := blk_frozen BK409.out 6; have hfz24_7 := blk_frozen BK409.out 7; have hfz24_8 := blk_frozen BK409.out 8; have hfz24_9 := blk_frozen BK409.out 9) | ((with_reducible refine gate_callee (f := 146) rfl ?_); refine goesL_ (some 5) rfl rfl Try.func146 (by kernel_rfl) rfl #[.int .i64 a0_0, .int .i64 0, .int .i64 255] rfl (by (try simp only [List.map_toArray, List.map_cons, List.map_nil]); first | done | rfl | (simp only [List.length_drop, List.length_take]; rfl)) ?_; (with_reducible refine (palanquinref05_in.calls a0_0 0 255 true _ A2.out).mono ?_); rintro e w' ⟨rfl, ⟨nd, rfl⟩⟩; refine ⟨_, rfl, ?_⟩) | (go_at_call 146; (with_reducible refine (palanquinref05_in.calls a0_3 0 255 true _ A4.out).mono ?_); rintro e w' ⟨rfl, ⟨nd, rfl⟩⟩) | (go_at_call 146; (with_reducible refine (palanquinref05_in.calls a0_4 0 255 true _ A6.out).mono ?_); rintro e w' ⟨rfl, ⟨nd, rfl⟩⟩) | (go_at_call 146; (with_reducible refine (palanquinref05_in.calls a0_1 0 65535 true _ A8.out).mono ?_); rintro e w' ⟨rfl, ⟨nd, rfl⟩⟩) | (go_at_call 146; (with_reducible refine (palanquinref05_in.calls a0_2 0 8191 false _ A10.out).mono ?_); rintro e w' ⟨rfl, ⟨nd, rfl⟩⟩))
            go_ret
            exact ⟨by first | rfl | (simp [errW_none, errW_some] <;> rfl) | (simp [*, errW_none, errW_some] <;> rfl), by repeat (first | (with_reducible first | exact HB.out | apply below_alloc | apply pw_below_drewN | apply below_drew1 | refine below_set ?_ GE409.out) | exact HB.out)⟩
        · replace c9 := Bool.eq_false_iff.mpr c9
          subst c9
          have H1 : (some false) = some r := by rw [if_neg (show ¬ (false = true) by decide)] at H; exact H
          clear H
          have H := H1
          clear H1
          obtain rfl := Option.some.inj H
          go_enter Try.func88, Try.ntmps88
          go_wp2_with (first | ((with_reducible refine gate_dst (N := 1) rfl ?_); (try (refine gate_guard (by rfl) ?_; dsimp only)); refine box_event ?hg (N := 1) ?hd (cs := #[.int .i64 a0_0, .int .i64 a0_1, .int .i64 a0_2, .int .i64 a0_3, .int .i64 a0_4, .bool a0_5, .bool a0_6, .string a0_7, .string a0_8, .string a0_9]) (t := 93) ?hr ?_; (case hd => rfl); (case hg => rfl); (case hr => first | (go_simp; done) | (go_simp; rfl)); intro gb409 hg w25 hbox hb; have n0_ := Aside0.mk (below_step (by repeat (first | (with_reducible first | exact HB.out | apply below_alloc | apply pw_below_drewN | apply below_drew1) | exact HB.out)) hb); have n1_ := Aside0.mk (hbox); have n2_ := Aside0.mk ((by rw [hg]; exact (below_size (by repeat (first | (with_reducible first | exact HB.out | apply below_alloc | apply pw_below_drewN | apply below_drew1) | exact HB.out))) : w.heap.size ≤ gb409)); have n3_ := Aside0.mk ((by rw [hg]; exact (below_size (by repeat (first | (with_reducible first | exact HB.out | apply below_alloc | apply pw_below_drewN | apply below_drew1) | exact HB.out))) : w.heap.size ≤ gb409)); clear HB; have HB := n0_; have BK409 := n1_; have GW409 := n2_; have GE409 := n3_; clear n0_ n1_ n2_ n3_; clear hb hbox hg; have hcz26_0 : w25.cell? ⟨gb409, 0, none⟩ = some (.int .i64 a0_0) := (blk_cell BK409.out 0).trans rfl; have hcz26_1 : w25.cell? ⟨gb409, 1, none⟩ = some (.int .i64 a0_1) := (blk_cell BK409.out 1).trans rfl; have hcz26_2 : w25.cell? ⟨gb409, 2, none⟩ = some (.int .i64 a0_2) := (blk_cell BK409.out 2).trans rfl; have hcz26_3 : w25.cell? ⟨gb409, 3, none⟩ = some (.int .i64 a0_3) := (blk_cell BK409.out 3).trans rfl; have hcz26_4 : w25.cell? ⟨gb409, 4, none⟩ = some (.int .i64 a0_4) := (blk_cell BK409.out 4).trans rfl; have hcz26_5 : w25.cell? ⟨gb409, 5, none⟩ = some (.bool a0_5) := (blk_cell BK409.out 5).trans rfl; have hcz26_6 : w25.cell? ⟨gb409, 6, none⟩ = some (.bool a0_6) := (blk_cell BK409.out 6).trans rfl; have hcz26_7 : w25.cell? ⟨gb409, 7, none⟩ = some (.string a0_7) := (blk_cell BK409.out 7).trans rfl; have hcz26_8 : w25.cell? ⟨gb409, 8, none⟩ = some (.string a0_8) := (blk_cell BK409.out 8).trans rfl; have hcz26_9 : w25.cell? ⟨gb409, 9, none⟩ = some (.string a0_9) := (blk_cell BK409.out 9).trans rfl; have hfz26_0 := blk_frozen BK409.out 0; have hfz26_1 := blk_frozen BK409.out 1; have hfz26_2 := blk_frozen BK409.out 2; have hfz26_3 := blk_frozen BK409.out 3; have hfz26_4 := blk_frozen BK409.out 4; have hfz26_5 := blk_frozen BK409.out 5; have hfz26_6 := blk_frozen BK409.out 6; have hfz26_7 := blk_frozen BK409.out 7; have hfz26_8 := blk_frozen BK409.out 8; have hfz26_9 := blk_frozen BK409.out 9) | ((with_reducible refine gate_callee (f := 146) rfl ?_); refine goesL_ (some 5) rfl rfl Try.func146 (by kernel_rfl) rfl #[.int .i64 a0_0, .int .i64 0, .int .i64 255] rfl (by (try simp only [List.map_toArray, List.map_cons, List.map_nil]); first | done | rfl | (simp only [List.length_drop, List.length_take]; rfl)) ?_; (with_reducible refine (palanquinref05_in.calls a0_0 0 255 true _ A2.out).mono ?_); rintro e w' ⟨rfl, ⟨nd, rfl⟩⟩; refine ⟨_, rfl, ?_⟩) | (go_at_call 146; (with_reducible refine (palanquinref05_in.calls a0_3 0 255 true _ A4.out).mono ?_); rintro e w' ⟨rfl, ⟨nd, rfl⟩⟩) | (go_at_call 146; (with_reducible refine (palanquinref05_in.calls a0_4 0 255 true _ A6.out).mono ?_); rintro e w' ⟨rfl, ⟨nd, rfl⟩⟩) | (go_at_call 146; (with_reducible refine (palanquinref05_in.calls a0_1 0 65535 false _ A8.out).mono ?_); rintro e w' ⟨rfl, ⟨nd, rfl⟩⟩))
          go_ret
          exact ⟨by first | rfl | (simp [errW_none, errW_some] <;> rfl) | (simp [*, errW_none, errW_some] <;> rfl), by repeat (first | (with_reducible first | exact HB.out | apply below_alloc | apply pw_below_drewN | apply below_drew1 | refine below_set ?_ GE409.out) | exact HB.out)⟩
      · replace c7 := Bool.eq_false_iff.mpr c7
        subst c7
        have H1 : (some false) = some r := by rw [if_neg (show ¬ (false = true) by decide)] at H; exact H
        clear H
        have H := H1
        clear H1
        obtain rfl := Option.some.inj H
        go_enter Try.func88, Try.ntmps88
        go_wp2_with (first | ((with_reducible refine gate_dst (N := 1) rfl ?_); (try (refine gate_guard (by rfl) ?_; dsimp only)); refine box_event ?hg (N := 1) ?hd (cs := #[.int .i64 a0_0, .int .i64 a0_1, .int .i64 a0_2, .int .i64 a0_3, .int .i64 a0_4, .bool a0_5, .bool a0_6, .string a0_7, .string a0_8, .string a0_9]) (t := 93) ?hr ?_; (case hd => rfl); (case hg => rfl); (case hr => first | (go_simp; done) | (go_simp; rfl)); intro gb409 hg w27 hbox hb; have n0_ := Aside0.mk (below_step (by repeat (first | (with_reducible first | exact HB.out | apply below_alloc | apply pw_below_drewN | apply below_drew1) | exact HB.out)) hb); have n1_ := Aside0.mk (hbox); have n2_ := Aside0.mk ((by rw [hg]; exact (below_size (by repeat (first | (with_reducible first | exact HB.out | apply below_alloc | apply pw_below_drewN | apply below_drew1) | exact HB.out))) : w.heap.size ≤ gb409)); have n3_ := Aside0.mk ((by rw [hg]; exact (below_size (by repeat (first | (with_reducible first | exact HB.out | apply below_alloc | apply pw_below_drewN | apply below_drew1) | exact HB.out))) : w.heap.size ≤ gb409)); clear HB; have HB := n0_; have BK409 := n1_; have GW409 := n2_; have GE409 := n3_; clear n0_ n1_ n2_ n3_; clear hb hbox hg; have hcz28_0 : w27.cell? ⟨gb409, 0, none⟩ = some (.int .i64 a0_0) := (blk_cell BK409.out 0).trans rfl; have hcz28_1 : w27.cell? ⟨gb409, 1, none⟩ = some (.int .i64 a0_1) := (blk_cell BK409.out 1).trans rfl; have hcz28_2 : w27.cell? ⟨gb409, 2, none⟩ = some (.int .i64 a0_2) := (blk_cell BK409.out 2).trans rfl; have hcz28_3 : w27.cell? ⟨gb409, 3, none⟩ = some (.int .i64 a0_3) := (blk_cell BK409.out 3).trans rfl; have hcz28_4 : w27.cell? ⟨gb409, 4, none⟩ = some (.int .i64 a0_4) := (blk_cell BK409.out 4).trans rfl; have hcz28_5 : w27.cell? ⟨gb409, 5, none⟩ = some (.bool a0_5) := (blk_cell BK409.out 5).trans rfl; have hcz28_6 : w27.cell? ⟨gb409, 6, none⟩ = some (.bool a0_6) := (blk_cell BK409.out 6).trans rfl; have hcz28_7 : w27.cell? ⟨gb409, 7, none⟩ = some (.string a0_7) := (blk_cell BK409.out 7).trans rfl; have hcz28_8 : w27.cell? ⟨gb409, 8, none⟩ = some (.string a0_8) := (blk_cell BK409.out 8).trans rfl; have hcz28_9 : w27.cell? ⟨gb409, 9, none⟩ = some (.string a0_9) := (blk_cell BK409.out 9).trans rfl; have hfz28_0 := blk_frozen BK409.out 0; have hfz28_1 := blk_frozen BK409.out 1; have hfz28_2 := blk_frozen BK409.out 2; have hfz28_3 := blk_frozen BK409.out 3; have hfz28_4 := blk_frozen BK409.out 4; have hfz28_5 := blk_frozen BK409.out 5; have hfz28_6 := blk_frozen BK409.out 6; have hfz28_7 := blk_frozen BK409.out 7; have hfz28_8 := blk_frozen BK409.out 8; have hfz28_9 := blk_frozen BK409.out 9) | ((with_reducible refine gate_callee (f := 146) rfl ?_); refine goesL_ (some 5) rfl rfl Try.func146 (by kernel_rfl) rfl #[.int .i64 a0_0, .int .i64 0, .int .i64 255] rfl (by (try simp only [List.map_toArray, List.map_cons, List.map_nil]); first | done | rfl | (simp only [List.length_drop, List.length_take]; rfl)) ?_; (with_reducible refine (palanquinref05_in.calls a0_0 0 255 true _ A2.out).mono ?_); rintro e w' ⟨rfl, ⟨nd, rfl⟩⟩; refine ⟨_, rfl, ?_⟩) | (go_at_call 146; (with_reducible refine (palanquinref05_in.calls a0_3 0 255 true _ A4.out).mono ?_); rintro e w' ⟨rfl, ⟨nd, rfl⟩⟩) | (go_at_call 146; (with_reducible refine (palanquinref05_in.calls a0_4 0 255 false _ A6.out).mono ?_); rintro e w' ⟨rfl, ⟨nd, rfl⟩⟩))
        go_ret
        exact ⟨by first | rfl | (simp [errW_none, errW_some] <;> rfl) | (simp [*, errW_none, errW_some] <;> rfl), by repeat (first | (with_reducible first | exact HB.out | apply below_alloc | apply pw_below_drewN | apply below_drew1 | refine below_set ?_ GE409.out) | exact HB.out)⟩
    · replace c5 := Bool.eq_false_iff.mpr c5
      subst c5
      have H1 : (some false) = some r := by rw [if_neg (show ¬ (false = true) by decide)] at H; exact H
      clear H
      have H := H1
      clear H1
      obtain rfl := Option.some.inj H
      go_enter Try.func88, Try.ntmps88
      go_wp2_with (first | ((with_reducible refine gate_dst (N := 1) rfl ?_); (try (refine gate_guard (by rfl) ?_; dsimp only)); refine box_event ?hg (N := 1) ?hd (cs := #[.int .i64 a0_0, .int .i64 a0_1, .int .i64 a0_2, .int .i64 a0_3, .int .i64 a0_4, .bool a0_5, .bool a0_6, .string a0_7, .string a0_8, .string a0_9]) (t := 93) ?hr ?_; (case hd => rfl); (case hg => rfl); (case hr => first | (go_simp; done) | (go_simp; rfl)); intro gb409 hg w29 hbox hb; have n0_ := Aside0.mk (below_step (by repeat (first | (with_reducible first | exact HB.out | apply below_alloc | apply pw_below_drewN | apply below_drew1) | exact HB.out)) hb); have n1_ := Aside0.mk (hbox); have n2_ := Aside0.mk ((by rw [hg]; exact (below_size (by repeat (first | (with_reducible first | exact HB.out | apply below_alloc | apply pw_below_drewN | apply below_drew1) | exact HB.out))) : w.heap.size ≤ gb409)); have n3_ := Aside0.mk ((by rw [hg]; exact (below_size (by repeat (first | (with_reducible first | exact HB.out | apply below_alloc | apply pw_below_drewN | apply below_drew1) | exact HB.out))) : w.heap.size ≤ gb409)); clear HB; have HB := n0_; have BK409 := n1_; have GW409 := n2_; have GE409 := n3_; clear n0_ n1_ n2_ n3_; clear hb hbox hg; have hcz30_0 : w29.cell? ⟨gb409, 0, none⟩ = some (.int .i64 a0_0) := (blk_cell BK409.out 0).trans rfl; have hcz30_1 : w29.cell? ⟨gb409, 1, none⟩ = some (.int .i64 a0_1) := (blk_cell BK409.out 1).trans rfl; have hcz30_2 : w29.cell? ⟨gb409, 2, none⟩ = some (.int .i64 a0_2) := (blk_cell BK409.out 2).trans rfl; have hcz30_3 : w29.cell? ⟨gb409, 3, none⟩ = some (.int .i64 a0_3) := (blk_cell BK409.out 3).trans rfl; have hcz30_4 : w29.cell? ⟨gb409, 4, none⟩ = some (.int .i64 a0_4) := (blk_cell BK409.out 4).trans rfl; have hcz30_5 : w29.cell? ⟨gb409, 5, none⟩ = some (.bool a0_5) := (blk_cell BK409.out 5).trans rfl; have hcz30_6 : w29.cell? ⟨gb409, 6, none⟩ = some (.bool a0_6) := (blk_cell BK409.out 6).trans rfl; have hcz30_7 : w29.cell? ⟨gb409, 7, none⟩ = some (.string a0_7) := (blk_cell BK409.out 7).trans rfl; have hcz30_8 : w29.cell? ⟨gb409, 8, none⟩ = some (.string a0_8) := (blk_cell BK409.out 8).trans rfl; have hcz30_9 : w29.cell? ⟨gb409, 9, none⟩ = some (.string a0_9) := (blk_cell BK409.out 9).trans rfl; have hfz30_0 := blk_frozen BK409.out 0; have hfz30_1 := blk_frozen BK409.out 1; have hfz30_2 := blk_frozen BK409.out 2; have hfz30_3 := blk_frozen BK409.out 3; have hfz30_4 := blk_frozen BK409.out 4; have hfz30_5 := blk_frozen BK409.out 5; have hfz30_6 := blk_frozen BK409.out 6; have hfz30_7 := blk_frozen BK409.out 7; have hfz30_8 := blk_frozen BK409.out 8; have hfz30_9 := blk_frozen BK409.out 9) | ((with_reducible refine gate_callee (f := 146) rfl ?_); refine goesL_ (some 5) rfl rfl Try.func146 (by kernel_rfl) rfl #[.int .i64 a0_0, .int .i64 0, .int .i64 255] rfl (by (try simp only [List.map_toArray, List.map_cons, List.map_nil]); first | done | rfl | (simp only [List.length_drop, List.length_take]; rfl)) ?_; (with_reducible refine (palanquinref05_in.calls a0_0 0 255 true _ A2.out).mono ?_); rintro e w' ⟨rfl, ⟨nd, rfl⟩⟩; refine ⟨_, rfl, ?_⟩) | (go_at_call 146; (with_reducible refine (palanquinref05_in.calls a0_3 0 255 false _ A4.out).mono ?_); rintro e w' ⟨rfl, ⟨nd, rfl⟩⟩))
      go_ret
      exact ⟨by first | rfl | (simp [errW_none, errW_some] <;> rfl) | (simp [*, errW_none, errW_some] <;> rfl), by repeat (first | (with_reducible first | exact HB.out | apply below_alloc | apply pw_below_drewN | apply below_drew1 | refine below_set ?_ GE409.out) | exact HB.out)⟩
  · replace c3 := Bool.eq_false_iff.mpr c3
    subst c3
    have H1 : (some false) = some r := by rw [if_neg (show ¬ (false = true) by decide)] at H; exact H
    clear H
    have H := H1
    clear H1
    obtain rfl := Option.some.inj H
    go_enter Try.func88, Try.ntmps88
    go_wp2_with (first | ((with_reducible refine gate_dst (N := 1) rfl ?_); (try (refine gate_guard (by rfl) ?_; dsimp only)); refine box_event ?hg (N := 1) ?hd (cs := #[.int .i64 a0_0, .int .i64 a0_1, .int .i64 a0_2, .int .i64 a0_3, .int .i64 a0_4, .bool a0_5, .bool a0_6, .string a0_7, .string a0_8, .string a0_9]) (t := 93) ?hr ?_; (case hd => rfl); (case hg => rfl); (case hr => first | (go_simp; done) | (go_simp; rfl)); intro gb409 hg w31 hbox hb; have n0_ := Aside0.mk (below_step (by repeat (first | (with_reducible first | exact HB.out | apply below_alloc | apply pw_below_drewN | apply below_drew1) | exact HB.out)) hb); have n1_ := Aside0.mk (hbox); have n2_ := Aside0.mk ((by rw [hg]; exact (below_size (by repeat (first | (with_reducible first | exact HB.out | apply below_alloc | apply pw_below_drewN | apply below_drew1) | exact HB.out))) : w.heap.size ≤ gb409)); have n3_ := Aside0.mk ((by rw [hg]; exact (below_size (by repeat (first | (with_reducible first | exact HB.out | apply below_alloc | apply pw_below_drewN | apply below_drew1) | exact HB.out))) : w.heap.size ≤ gb409)); clear HB; have HB := n0_; have BK409 := n1_; have GW409 := n2_; have GE409 := n3_; clear n0_ n1_ n2_ n3_; clear hb hbox hg; have hcz32_0 : w31.cell? ⟨gb409, 0, none⟩ = some (.int .i64 a0_0) := (blk_cell BK409.out 0).trans rfl; have hcz32_1 : w31.cell? ⟨gb409, 1, none⟩ = some (.int .i64 a0_1) := (blk_cell BK409.out 1).trans rfl; have hcz32_2 : w31.cell? ⟨gb409, 2, none⟩ = some (.int .i64 a0_2) := (blk_cell BK409.out 2).trans rfl; have hcz32_3 : w31.cell? ⟨gb409, 3, none⟩ = some (.int .i64 a0_3) := (blk_cell BK409.out 3).trans rfl; have hcz32_4 : w31.cell? ⟨gb409, 4, none⟩ = some (.int .i64 a0_4) := (blk_cell BK409.out 4).trans rfl; have hcz32_5 : w31.cell? ⟨gb409, 5, none⟩ = some (.bool a0_5) := (blk_cell BK409.out 5).trans rfl; have hcz32_6 : w31.cell? ⟨gb409, 6, none⟩ = some (.bool a0_6) := (blk_cell BK409.out 6).trans rfl; have hcz32_7 : w31.cell? ⟨gb409, 7, none⟩ = some (.string a0_7) := (blk_cell BK409.out 7).trans rfl; have hcz32_8 : w31.cell? ⟨gb409, 8, none⟩ = some (.string a0_8) := (blk_cell BK409.out 8).trans rfl; have hcz32_9 : w31.cell? ⟨gb409, 9, none⟩ = some (.string a0_9) := (blk_cell BK409.out 9).trans rfl; have hfz32_0 := blk_frozen BK409.out 0; have hfz32_1 := blk_frozen BK409.out 1; have hfz32_2 := blk_frozen BK409.out 2; have hfz32_3 := blk_frozen BK409.out 3; have hfz32_4 := blk_frozen BK409.out 4; have hfz32_5 := blk_frozen BK409.out 5; have hfz32_6 := blk_frozen BK409.out 6; have hfz32_7 := blk_frozen BK409.out 7; have hfz32_8 := blk_frozen BK409.out 8; have hfz32_9 := blk_frozen BK409.out 9) | ((with_reducible refine gate_callee (f := 146) rfl ?_); refine goesL_ (some 5) rfl rfl Try.func146 (by kernel_rfl) rfl #[.int .i64 a0_0, .int .i64 0, .int .i64 255] rfl (by (try simp only [List.map_toArray, List.map_cons, List.map_nil]); first | done | rfl | (simp only [List.length_drop, List.length_take]; rfl)) ?_; (with_reducible refine (palanquinref05_in.calls a0_0 0 255 false _ A2.out).mono ?_); rintro e w' ⟨rfl, ⟨nd, rfl⟩⟩; refine ⟨_, rfl, ?_⟩))
    go_ret
    exact ⟨by first | rfl | (simp [errW_none, errW_some] <;> rfl) | (simp [*, errW_none, errW_some] <;> rfl), by repeat (first | (with_reducible first | exact HB.out | apply below_alloc | apply pw_below_drewN | apply below_drew1 | refine below_set ?_ GE409.out) | exact HB.out)⟩

/-! ### palanquinref05_num: function 143 -/
def palanquinref05_num.f (k : Nat) (a0 : Int) (a1 : Int) : Option (ByteArray) := (palanquinref01_Bytes.f k (IntKind.u64.wrap (a0)) a1).bind fun t415 => (some t415)
theorem palanquinref05_num.mono : ∀ a0 a1 k, LeO (palanquinref05_num.f k a0 a1) (palanquinref05_num.f (k + 1) a0 a1) := by
  intro a0 a1 k
  unfold palanquinref05_num.f
  repeat' first
      | (with_reducible exact palanquinref01_Bytes.mono _ _ _)
      | (with_reducible exact LeO.refl _)
      | (with_reducible exact LeO.none _)
      | (with_reducible refine LeO.ite ?_ ?_)
      | (with_reducible refine LeO.bind ?_ (fun _ => ?_))
      | exact palanquinref01_Bytes.mono _ _ _
      | exact LeO.none _
      | refine LeO.ite ?_ ?_
      | refine LeO.bind ?_ (fun _ => ?_)
set_option maxHeartbeats 8000000 in
set_option maxRecDepth 100000 in
theorem palanquinref05_num.calls (k : Nat) (a0 : Int) (a1 : Int) (r : ByteArray) (w : World) (h : palanquinref05_num.f k a0 a1 = some r) :
    Calls Try.prog 143 #[.int .i64 a0, .int .i64 a1] w fun e w' => e = .returned (.string r) ∧ Below w.heap.size w w' := by
  have HB := Aside0.mk (Below.refl w.heap.size w)
  have H : ((palanquinref01_Bytes.f k (IntKind.u64.wrap (a0)) a1).bind fun t415 => (some t415)) = some r := h
  clear h
  replace H := Option.bind_eq_some_iff.mp H
  obtain ⟨t415, A30, H⟩ := H
  replace H : (some t415) = some r := H
  have A3 := Aside0.mk A30
  clear A30
  obtain rfl := Option.some.inj H
  go_enter Try.func143, Try.ntmps143
  go_wp2_with (first | ((with_reducible refine gate_callee (f := 124) rfl ?_); refine goesL_ (some 8) rfl rfl Try.func124 (by kernel_rfl) rfl #[.int .u64 (IntKind.u64.wrap (a0)), .int .i64 a1] rfl (by (try simp only [List.map_toArray, List.map_cons, List.map_nil]); first | done | rfl | (simp only [List.length_drop, List.length_take]; rfl)) ?_; (with_reducible refine (palanquinref01_Bytes.calls k (IntKind.u64.wrap (a0)) a1 t415 _ A3.out).mono ?_); rintro e w4 ⟨rfl, hb⟩; refine ⟨_, rfl, ?_⟩; have n0_ := Aside0.mk (below_step (by repeat (first | (with_reducible first | exact HB.out | apply below_alloc | apply pw_below_drewN | apply below_drew1) | exact HB.out)) hb); clear HB; have HB := n0_; clear n0_; (try clear hb); (try clear hb2); (try clear hk); (try clear hi)))
  go_ret
  exact ⟨by first | rfl | (simp [errW_none, errW_some] <;> rfl) | (simp [*, errW_none, errW_some] <;> rfl), by repeat (first | (with_reducible first | exact HB.out | apply below_alloc | apply pw_below_drewN | apply below_drew1) | exact HB.out)⟩

/-! ### palanquinref05_at: function 156 -/
def palanquinref05_at.f (k : Nat) (a0 : ByteArray) (a1 : Int) (a2 : Int) : Option (Int) := if 0 ≤ a1 then (if a1 ≤ (wrap64 (a1 + a2)) then (if (wrap64 (a1 + a2)) ≤ (a0.size : Int) then ((palanquinref01_Value.f k (a0.extract (a1 : Int).toNat ((wrap64 (a1 + a2)) : Int).toNat)).bind fun t747 => (some (wrap64 (t747)))) else (none)) else (none)) else (none)
theorem palanquinref05_at.mono : ∀ a0 a1 a2 k, LeO (palanquinref05_at.f k a0 a1 a2) (palanquinref05_at.f (k + 1) a0 a1 a2) := by
  intro a0 a1 a2 k
  unfold palanquinref05_at.f
  repeat' first
      | (with_reducible exact palanquinref01_Value.mono _ _)
      | (with_reducible exact LeO.refl _)
      | (with_reducible exact LeO.none _)
      | (with_reducible refine LeO.ite ?_ ?_)
      | (with_reducible refine LeO.bind ?_ (fun _ => ?_))
      | exact palanquinref01_Value.mono _ _
      | exact LeO.none _
      | refine LeO.ite ?_ ?_
      | refine LeO.bind ?_ (fun _ => ?_)
set_option maxHeartbeats 8000000 in
set_option maxRecDepth 100000 in
theorem palanquinref05_at.calls (k : Nat) (a0 : ByteArray) (a1 : Int) (a2 : Int) (r : Int) (w : World) (h : palanquinref05_at.f k a0 a1 a2 = some r) :
    Calls Try.prog 156 #[.string a0, .int .i64 a1, .int .i64 a2] w fun e w' => e = .returned (.int .i64 r) ∧ Drawn0 w w' := by
  have H : (if 0 ≤ a1 then (if a1 ≤ (wrap64 (a1 + a2)) then (if (wrap64 (a1 + a2)) ≤ (a0.size : Int) then ((palanquinref01_Value.f k (a0.extract (a1 : Int).toNat ((wrap64 (a1 + a2)) : Int).toNat)).bind fun t747 => (some (wrap64 (t747)))) else (none)) else (none)) else (none)) = some r := h
  clear h
  by_cases c4 : 0 ≤ a1
  · rw [if_pos c4] at H
    have c4b0 := eq_true c4
    have c4b1 : decide (0 ≤ a1) = true := decide_eq_true c4
    clear c4
    by_cases c5 : a1 ≤ (wrap64 (a1 + a2))
    · rw [if_pos c5] at H
      have c5b0 := eq_true c5
      have c5b1 : decide (a1 ≤ (wrap64 (a1 + a2))) = true := decide_eq_true c5
      by_cases c6 : (wrap64 (a1 + a2)) ≤ (a0.size : Int)
      · rw [if_pos c6] at H
        have c6b0 := eq_true c6
        have c6b1 : decide ((wrap64 (a1 + a2)) ≤ (a0.size : Int)) = true := decide_eq_true c6
        replace H := Option.bind_eq_some_iff.mp H
        obtain ⟨t747, A70, H⟩ := H
        replace H : (some (wrap64 (t747))) = some r := H
        have A7 := Aside0.mk A70
        clear A70
        obtain rfl := Option.some.inj H
        go_enter Try.func156, Try.ntmps156
        go_wp2_with (first | ((with_reducible refine gate_callee (f := 132) rfl ?_); refine goesL_ (some 13) rfl rfl Try.func132 (by kernel_rfl) rfl #[.string (a0.extract (a1 : Int).toNat ((wrap64 (a1 + a2)) : Int).toNat)] rfl (by (try simp only [List.map_toArray, List.map_cons, List.map_nil]); first | done | rfl | (simp only [List.length_drop, List.length_take]; rfl)) ?_; (with_reducible refine (palanquinref01_Value.calls k (a0.extract (a1 : Int).toNat ((wrap64 (a1 + a2)) : Int).toNat) t747 _ A7.out).mono ?_); rintro e w' ⟨rfl, ⟨nd, rfl⟩⟩; refine ⟨_, rfl, ?_⟩))
        go_ret
        exact ⟨by first | rfl | (simp; done) | (simp [*]; done), by repeat (first | exact Drawn0.refl _ | apply Drawn0.step)⟩
      · rw [if_neg c6] at H
        exact absurd H (by simp)
    · rw [if_neg c5] at H
      exact absurd H (by simp)
  · rw [if_neg c4] at H
    exact absurd H (by simp)

end Go.Proofs.Ytejmipoolbodgaa.G
