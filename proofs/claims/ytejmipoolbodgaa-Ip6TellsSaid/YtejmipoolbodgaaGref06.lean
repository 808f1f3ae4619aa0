-- Laid by a program of this session (wip/gen/gprint.py) over the translation's print. Lean checks it.
import Derived.Test.YtejmipoolbodgaaG0
import Derived.Test.YtejmipoolbodgaaGref01
namespace Go.Proofs.Ytejmipoolbodgaa.G
open Go.RowKit Go.Proofs.YtejmipoolbodgaaW.PrintWords Go.Proofs.YtejmipoolbodgaaW.PrintLast Go.Proofs.YtejmipoolbodgaaW.PrintMore
attribute [local go_sem] max2_int min2_int max_two min_two max_three min_three max_four min_four   -- for this text's walks alone
set_option linter.unusedVariables false
set_option linter.unusedSimpArgs false

/-! ### palanquinref06_in: function 151 -/
def palanquinref06_in.f (a0 : Int) (a1 : Int) (a2 : Int) : Option (Bool) := if a0 ≥ a1 then (some (decide (a0 ≤ a2))) else (some false)
set_option maxHeartbeats 8000000 in
set_option maxRecDepth 100000 in
theorem palanquinref06_in.calls (a0 : Int) (a1 : Int) (a2 : Int) (r : Bool) (w : World) (h : palanquinref06_in.f a0 a1 a2 = some r) :
    Calls Try.prog 151 #[.int .i64 a0, .int .i64 a1, .int .i64 a2] w fun e w' => e = .returned (.bool r) ∧ Drawn0 w w' := by
  have H : (if a0 ≥ a1 then (some (decide (a0 ≤ a2))) else (some false)) = some r := h
  clear h
  by_cases c4 : a0 ≥ a1
  · rw [if_pos c4] at H
    have c4b0 : decide (a1 ≤ a0) = true := decide_eq_true c4
    clear c4
    obtain rfl := Option.some.inj H
    go_enter Try.func151, Try.ntmps151
    go_wp2
    go_ret
    exact ⟨by first | rfl | (simp; done) | (simp [*]; done), by repeat (first | exact Drawn0.refl _ | apply Drawn0.step)⟩
  · rw [if_neg c4] at H
    have c4b0 : decide (a1 ≤ a0) = false := decide_eq_false c4
    clear c4
    obtain rfl := Option.some.inj H
    go_enter Try.func151, Try.ntmps151
    go_wp2
    go_ret
    exact ⟨by first | rfl | (simp; done) | (simp [*]; done), by repeat (first | exact Drawn0.refl _ | apply Drawn0.step)⟩

/-! ### palanquinref06_Right: function 103 -/
def palanquinref06_Right.f (a0_0 : Int) (a0_1 : Int) (a0_2 : Int) (a0_3 : Int) (a0_4 : ByteArray) (a0_5 : ByteArray) : Option (Bool) := (palanquinref06_in.f a0_0 0 255).bind fun t539 => (if t539 = true then ((palanquinref06_in.f a0_2 0 255).bind fun t540 => (if t540 = true then ((palanquinref06_in.f a0_3 0 255).bind fun t541 => (if t541 = true then ((palanquinref06_in.f a0_1 0 1048575).bind fun t542 => (if t542 = true then (if (a0_4.size : Int) = 16 then (some ((a0_5.size : Int) == 16)) else (some false)) else (some false))) else (some false))) else (some false))) else (some false))
set_option maxHeartbeats 8000000 in
set_option maxRecDepth 100000 in
theorem palanquinref06_Right.calls (a0_0 : Int) (a0_1 : Int) (a0_2 : Int) (a0_3 : Int) (a0_4 : ByteArray) (a0_5 : ByteArray) (r : Bool) (w : World) (h : palanquinref06_Right.f a0_0 a0_1 a0_2 a0_3 a0_4 a0_5 = some r) :
    Calls Try.prog 103 #[.agg #[.int .i64 a0_0, .int .i64 a0_1, .int .i64 a0_2, .int .i64 a0_3, .string a0_4, .string a0_5]] w fun e w' => e = .returned (.bool r) ∧ Below w.heap.size w w' := by
  have hu114 := Try.underlying114
  have HB := Aside0.mk (Below.refl w.heap.size w)
  have H : ((palanquinref06_in.f a0_0 0 255).bind fun t539 => (if t539 = true then ((palanquinref06_in.f a0_2 0 255).bind fun t540 => (if t540 = true then ((palanquinref06_in.f a0_3 0 255).bind fun t541 => (if t541 = true then ((palanquinref06_in.f a0_1 0 1048575).bind fun t542 => (if t542 = true then (if (a0_4.size : Int) = 16 then (some ((a0_5.size : Int) == 16)) else (some false)) else (some false))) else (some false))) else (some false))) else (some false))) = some r := h
  clear h
  replace H := Option.bind_eq_some_iff.mp H
  obtain ⟨t539, A20, H⟩ := H
  replace H : (if t539 = true then ((palanquinref06_in.f a0_2 0 255).bind fun t540 => (if t540 = true then ((palanquinref06_in.f a0_3 0 255).bind fun t541 => (if t541 = true then ((palanquinref06_in.f a0_1 0 1048575).bind fun t542 => (if t542 = true then (if (a0_4.size : Int) = 16 then (some ((a0_5.size : Int) == 16)) else (some false)) else (some false))) else (some false))) else (some false))) else (some false)) = some r := H
  have A2 := Aside0.mk A20
  clear A20
  by_cases c3 : t539 = true
  · subst c3
    have H1 : ((palanquinref06_in.f a0_2 0 255).bind fun t540 => (if t540 = true then ((palanquinref06_in.f a0_3 0 255).bind fun t541 => (if t541 = true then ((palanquinref06_in.f a0_1 0 1048575).bind fun t542 => (if t542 = true then (if (a0_4.size : Int) = 16 then (some ((a0_5.size : Int) == 16)) else (some false)) else (some false))) else (some false))) else (some false))) = some r := by rw [if_pos rfl] at H; exact H
    clear H
    have H := H1
    clear H1
    replace H := Option.bind_eq_some_iff.mp H
    obtain ⟨t540, A40, H⟩ := H
    replace H : (if t540 = true then ((palanquinref06_in.f a0_3 0 255).bind fun t541 => (if t541 = true then ((palanquinref06_in.f a0_1 0 1048575).bind fun t542 => (if t542 = true then (if (a0_4.size : Int) = 16 then (some ((a0_5.size : Int) == 16)) else (some false)) else (some false))) else (some false))) else (some false)) = some r := H
    have A4 := Aside0.mk A40
    clear A40
    by_cases c5 : t540 = true
    · subst c5
      have H1 : ((palanquinref06_in.f a0_3 0 255).bind fun t541 => (if t541 = true then ((palanquinref06_in.f a0_1 0 1048575).bind fun t542 => (if t542 = true then (if (a0_4.size : Int) = 16 then (some ((a0_5.size : Int) == 16)) else (some false)) else (some false))) else (some false))) = some r := by rw [if_pos rfl] at H; exact H
      clear H
      have H := H1
      clear H1
      replace H := Option.bind_eq_some_iff.mp H
      obtain ⟨t541, A60, H⟩ := H
      replace H : (if t541 = true then ((palanquinref06_in.f a0_1 0 1048575).bind fun t542 => (if t542 = true then (if (a0_4.size : Int) = 16 then (some ((a0_5.size : Int) == 16)) else (some false)) else (some false))) else (some false)) = some r := H
      have A6 := Aside0.mk A60
      clear A60
      by_cases c7 : t541 = true
      · subst c7
        have H1 : ((palanquinref06_in.f a0_1 0 1048575).bind fun t542 => (if t542 = true then (if (a0_4.size : Int) = 16 then (some ((a0_5.size : Int) == 16)) else (some false)) else (some false))) = some r := by rw [if_pos rfl] at H; exact H
        clear H
        have H := H1
        clear H1
        replace H := Option.bind_eq_some_iff.mp H
        obtain ⟨t542, A80, H⟩ := H
        replace H : (if t542 = true then (if (a0_4.size : Int) = 16 then (some ((a0_5.size : Int) == 16)) else (some false)) else (some false)) = some r := H
        have A8 := Aside0.mk A80
        clear A80
        by_cases c9 : t542 = true
        · subst c9
          have H1 : (if (a0_4.size : Int) = 16 then (some ((a0_5.size : Int) == 16)) else (some false)) = some r := by rw [if_pos rfl] at H; exact H
          clear H
          have H := H1
          clear H1
          by_cases c10 : (a0_4.size : Int) = 16
          · rw [if_pos c10] at H
            have c10b0 : ((a0_4.size : Int) == 16) = true := beq_iff_eq.mpr c10
            have c10b1 : ((a0_4.size : Int) != 16) = false := bne_eq_false_iff_eq.mpr c10
            clear c10
            obtain rfl := Option.some.inj H
            go_enter Try.func103, Try.ntmps103
            go_wp2_with (first | ((with_reducible refine gate_dst (N := 1) rfl ?_); (try (refine gate_guard (by rfl) ?_; dsimp only)); refine box_event ?hg (N := 1) ?hd (cs := #[.int .i64 a0_0, .int .i64 a0_1, .int .i64 a0_2, .int .i64 a0_3, .string a0_4, .string a0_5]) (t := 114) ?hr ?_; (case hd => rfl); (case hg => rfl); (case hr => first | (go_simp; done) | (go_simp; rfl)); intro gb538 hg w11 hbox hb; have n0_ := Aside0.mk (below_step (by repeat (first | (with_reducible first | exact HB.out | apply below_alloc | apply pw_below_drewN | apply below_drew1) | exact HB.out)) hb); have n1_ := Aside0.mk (hbox); have n2_ := Aside0.mk ((by rw [hg]; exact (below_size (by repeat (first | (with_reducible first | exact HB.out | apply below_alloc | apply pw_below_drewN | apply below_drew1) | exact HB.out))) : w.heap.size ≤ gb538)); have n3_ := Aside0.mk ((by rw [hg]; exact (below_size (by repeat (first | (with_reducible first | exact HB.out | apply below_alloc | apply pw_below_drewN | apply below_drew1) | exact HB.out))) : w.heap.size ≤ gb538)); clear HB; have HB := n0_; have BK538 := n1_; have GW538 := n2_; have GE538 := n3_; clear n0_ n1_ n2_ n3_; clear hb hbox hg; have hcz12_0 : w11.cell? ⟨gb538, 0, none⟩ = some (.int .i64 a0_0) := (blk_cell BK538.out 0).trans rfl; have hcz12_1 : w11.cell? ⟨gb538, 1, none⟩ = some (.int .i64 a0_1) := (blk_cell BK538.out 1).trans rfl; have hcz12_2 : w11.cell? ⟨gb538, 2, none⟩ = some (.int .i64 a0_2) := (blk_cell BK538.out 2).trans rfl; have hcz12_3 : w11.cell? ⟨gb538, 3, none⟩ = some (.int .i64 a0_3) := (blk_cell BK538.out 3).trans rfl; have hcz12_4 : w11.cell? ⟨gb538, 4, none⟩ = some (.string a0_4) := (blk_cell BK538.out 4).trans rfl; have hcz12_5 : w11.cell? ⟨gb538, 5, none⟩ = some (.string a0_5) := (blk_cell BK538.out 5).trans rfl; have hfz12_0 := blk_frozen BK538.out 0; have hfz12_1 := blk_frozen BK538.out 1; have hfz12_2 := blk_frozen BK538.out 2; have hfz12_3 := blk_frozen BK538.out 3; have hfz12_4 := blk_frozen BK538.out 4; have hfz12_5 := blk_frozen BK538.out 5) | ((with_reducible refine gate_callee (f := 151) rfl ?_); refine goesL_ (some 5) rfl rfl Try.func151 (by kernel_rfl) rfl #[.int .i64 a0_0, .int .i64 0, .int .i64 255] rfl (by (try simp only [List.map_toArray, List.map_cons, List.map_nil]); first | done | rfl | (simp only [List.length_drop, List.length_take]; rfl)) ?_; (with_reducible refine (palanquinref06_in.calls a0_0 0 255 true _ A2.out).mono ?_); rintro e w' ⟨rfl, ⟨nd, rfl⟩⟩; refine ⟨_, rfl, ?_⟩) | (go_at_call 151; (with_reducible refine (palanquinref06_in.calls a0_2 0 255 true _ A4.out).mono ?_); rintro e w' ⟨rfl, ⟨nd, rfl⟩⟩) | (go_at_call 151; (with_reducible refine (palanquinref06_in.calls a0_3 0 255 true _ A6.out).mono ?_); rintro e w' ⟨rfl, ⟨nd, rfl⟩⟩) | (go_at_call 151; (with_reducible refine (palanquinref06_in.calls a0_1 0 1048575 true _ A8.out).mono ?_); rintro e w' ⟨rfl, ⟨nd, rfl⟩⟩))
            go_ret
            exact ⟨by first | rfl | (simp [errW_none, errW_some] <;> rfl) | (simp [*, errW_none, errW_some] <;> rfl), by repeat (first | (with_reducible first | exact HB.out | apply below_alloc | apply pw_below_drewN | apply below_drew1 | refine below_set ?_ GE538.out) | exact HB.out)⟩
          · rw [if_neg c10] at H
            have c10b0 : ((a0_4.size : Int) == 16) = false := beq_eq_false_iff_ne.mpr c10
            have c10b1 : ((a0_4.size : Int) != 16) = true := bne_iff_ne.mpr c10
            obtain rfl := Option.some.inj H
            go_enter Try.func103, Try.ntmps103
            go_wp2_with (first | ((with_reducible refine gate_dst (N := 1) rfl ?_); (try (refine gate_guard (by rfl) ?_; dsimp only)); refine box_event ?hg (N := 1) ?hd (cs := #[.int .i64 a0_0, .int .i64 a0_1, .int .i64 a0_2, .int .i64 a0_3, .string a0_4, .string a0_5]) (t := 114) ?hr ?_; (case hd => rfl); (case hg => rfl); (case hr => first | (go_simp; done) | (go_simp; rfl)); intro gb538 hg w13 hbox hb; have n0_ := Aside0.mk (below_step (by repeat (first | (with_reducible first | exact HB.out | apply below_alloc | apply pw_below_drewN | apply below_drew1) | exact HB.out)) hb); have n1_ := Aside0.mk (hbox); have n2_ := Aside0.mk ((by rw [hg]; exact (below_size (by repeat (first | (with_reducible first | exact HB.out | apply below_alloc | apply pw_below_drewN | apply below_drew1) | exact HB.out))) : w.heap.size ≤ gb538)); have n3_ := Aside0.mk ((by rw [hg]; exact (below_size (by repeat (first | (with_reducible first | exact HB.out | apply below_alloc | apply pw_below_drewN | apply below_drew1) | exact HB.out))) : w.heap.size ≤ gb538)); clear HB; have HB := n0_; have BK538 := n1_; have GW538 := n2_; have GE538 := n3_; clear n0_ n1_ n2_ n3_; clear hb hbox hg; have hcz14_0 : w13.cell? ⟨gb538, 0, none⟩ = some (.int .i64 a0_0) := (blk_cell BK538.out 0).trans rfl; have hcz14_1 : w13.cell? ⟨gb538, 1, none⟩ = some (.int .i64 a0_1) := (blk_cell BK538.out 1).trans rfl; have hcz14_2 : w13.cell? ⟨gb538, 2, none⟩ = some (.int .i64 a0_2) := (blk_cell BK538.out 2).trans rfl; have hcz14_3 : w13.cell? ⟨gb538, 3, none⟩ = some (.int .i64 a0_3) := (blk_cell BK538.out 3).trans rfl; have hcz14_4 : w13.cell? ⟨gb538, 4, none⟩ = some (.string a0_4) := (blk_cell BK538.out 4).trans rfl; have hcz14_5 : w13.cell? ⟨gb538, 5, none⟩ = some (.string a0_5) := (blk_cell BK538.out 5).trans rfl; have hfz14_0 := blk_frozen BK538.out 0; have hfz14_1 := blk_frozen BK538.out 1; have hfz14_2 := blk_frozen BK538.out 2; have hfz14_3 := blk_frozen BK538.out 3; have hfz14_4 := blk_frozen BK538.out 4; have hfz14_5 := blk_frozen BK538.out 5) | ((with_reducible refine gate_callee (f := 151) rfl ?_); refine goesL_ (some 5) rfl rfl Try.func151 (by kernel_rfl) rfl #[.int .i64 a0_0, .int .i64 0, .int .i64 255] rfl (by (try simp only [List.map_toArray, List.map_cons, List.map_nil]); first | done | rfl | (simp only [List.length_drop, List.length_take]; rfl)) ?_; (with_reducible refine (palanquinref06_in.calls a0_0 0 255 true _ A2.out).mono ?_); rintro e w' ⟨rfl, ⟨nd, rfl⟩⟩; refine ⟨_, rfl, ?_⟩) | (go_at_call 151; (with_reducible refine (palanquinref06_in.calls a0_2 0 255 true _ A4.out).mono ?_); rintro e w' ⟨rfl, ⟨nd, rfl⟩⟩) | (go_at_call 151; (with_reducible refine (palanquinref06_in.calls a0_3 0 255 true _ A6.out).mono ?_); rintro e w' ⟨rfl, ⟨nd, rfl⟩⟩) | (go_at_call 151; (with_reducible refine (palanquinref06_in.calls a0_1 0 1048575 true _ A8.out).mono ?_); rintro e w' ⟨rfl, ⟨nd, rfl⟩⟩))
            go_ret
            exact ⟨by first | rfl | (simp [errW_none, errW_some] <;> rfl) | (simp [*, errW_none, errW_some] <;> rfl), by repeat (first | (with_reducible first | exact HB.out | apply below_alloc | apply pw_below_drewN | apply below_drew1 | refine below_set ?_ GE538.out) | exact HB.out)⟩
        · replace c9 := Bool.eq_false_iff.mpr c9
          subst c9
          have H1 : (some false) = some r := by rw [if_neg (show ¬ (false = true) by decide)] at H; exact H
          clear H
          have H := H1
          clear H1
          obtain rfl := Option.some.inj H
          go_enter Try.func103, Try.ntmps103
          go_wp2_with (first | ((with_reducible refine gate_dst (N := 1) rfl ?_); (try (refine gate_guard (by rfl) ?_; dsimp only)); refine box_event ?hg (N := 1) ?hd (cs := #[.int .i64 a0_0, .int .i64 a0_1, .int .i64 a0_2, .int .i64 a0_3, .string a0_4, .string a0_5]) (t := 114) ?hr ?_; (case hd => rfl); (case hg => rfl); (case hr => first | (go_simp; done) | (go_simp; rfl)); intro gb538 hg w15 hbox hb; have n0_ := Aside0.mk (below_step (by repeat (first | (with_reducible first | exact HB.out | apply below_alloc | apply pw_below_drewN | apply below_drew1) | exact HB.out)) hb); have n1_ := Aside0.mk (hbox); have n2_ := Aside0.mk ((by rw [hg]; exact (below_size (by repeat (first | (with_reducible first | exact HB.out | apply below_alloc | apply pw_below_drewN | apply below_drew1) | exact HB.out))) : w.heap.size ≤ gb538)); have n3_ := Aside0.mk ((by rw [hg]; exact (below_size (by repeat (first | (with_reducible first | exact HB.out | apply below_alloc | apply pw_below_drewN | apply below_drew1) | exact HB.out))) : w.heap.size ≤ gb538)); clear HB; have HB := n0_; have BK538 := n1_; have GW538 := n2_; have GE538 := n3_; clear n0_ n1_ n2_ n3_; clear hb hbox hg; have hcz16_0 : w15.cell? ⟨gb538, 0, none⟩ = some (.int .i64 a0_0) := (blk_cell BK538.out 0).trans rfl; have hcz16_1 : w15.cell? ⟨gb538, 1, none⟩ = some (.int .i64 a0_1) := (blk_cell BK538.out 1).trans rfl; have hcz16_2 : w15.cell? ⟨gb538, 2, none⟩ = some (.int .i64 a0_2) := (blk_cell BK538.out 2).trans rfl; have hcz16_3 : w15.cell? ⟨gb538, 3, none⟩ = some (.int .i64 a0_3) := (blk_cell BK538.out 3).trans rfl; have hcz16_4 : w15.cell? ⟨gb538, 4, none⟩ = some (.string a0_4) := (blk_cell BK538.out 4).trans rfl; have hcz16_5 : w15.cell? ⟨gb538, 5, none⟩ = some (.string a0_5) := (blk_cell BK538.out 5).trans rfl; have hfz16_0 := blk_frozen BK538.out 0; have hfz16_1 := blk_frozen BK538.out 1; have hfz16_2 := blk_frozen BK538.out 2; have hfz16_3 := blk_frozen BK538.out 3; have hfz16_4 := blk_frozen BK538.out 4; have hfz16_5 := blk_frozen BK538.out 5) | ((with_reducible refine gate_callee (f := 151) rfl ?_); refine goesL_ (some 5) rfl rfl Try.func151 (by kernel_rfl) rfl #[.int .i64 a0_0, .int .i64 0, .int .i64 255] rfl (by (try simp only [List.map_toArray, List.map_cons, List.map_nil]); first | done | rfl | (simp only [List.length_drop, List.length_take]; rfl)) ?_; (with_reducible refine (palanquinref06_in.calls a0_0 0 255 true _ A2.out).mono ?_); rintro e w' ⟨rfl, ⟨nd, rfl⟩⟩; refine ⟨_, rfl, ?_⟩) | (go_at_call 151; (with_reducible refine (palanquinref06_in.calls a0_2 0 255 true _ A4.out).mono ?_); rintro e w' ⟨rfl, ⟨nd, rfl⟩⟩) | (go_at_call 151; (with_reducible refine (palanquinref06_in.calls a0_3 0 255 true _ A6.out).mono ?_); rintro e w' ⟨rfl, ⟨nd, rfl⟩⟩) | (go_at_call 151; (with_reducible refine (palanquinref06_in.calls a0_1 0 1048575 false _ A8.out).mono ?_); rintro e w' ⟨rfl, ⟨nd, rfl⟩⟩))
          go_ret
          exact ⟨by first | rfl | (simp [errW_none, errW_some] <;> rfl) | (simp [*, errW_none, errW_some] <;> rfl), by repeat (first | (with_reducible first | exact HB.out | apply below_alloc | apply pw_below_drewN | apply below_drew1 | refine below_set ?_ GE538.out) | exact HB.out)⟩
      · replace c7 := Bool.eq_false_iff.mpr c7
        subst c7
        have H1 : (some false) = some r := by rw [if_neg (show ¬ (false = true) by decide)] at H; exact H
        clear H
        have H := H1
        clear H1
        obtain rfl := Option.some.inj H
        go_enter Try.func103, Try.ntmps103
        go_wp2_with (first | ((with_reducible refine gate_dst (N := 1) rfl ?_); (try (refine gate_guard (by rfl) ?_; dsimp only)); refine box_event ?hg (N := 1) ?hd (cs := #[.int .i64 a0_0, .int .i64 a0_1, .int .i64 a0_2, .int .i64 a0_3, .string a0_4, .string a0_5]) (t := 114) ?hr ?_; (case hd => rfl); (case hg => rfl); (case hr => first | (go_simp; done) | (go_simp; rfl)); intro gb538 hg w17 hbox hb; have n0_ := Aside0.mk (below_step (by repeat (first | (with_reducible first | exact HB.out | apply below_alloc | apply pw_below_drewN | apply below_drew1) | exact HB.out)) hb); have n1_ := Aside0.mk (hbox); have n2_ := Aside0.mk ((by rw [hg]; exact (below_size (by repeat (first | (with_reducible first | exact HB.out | apply below_alloc | apply pw_below_drewN | apply below_drew1) | exact HB.out))) : w.heap.size ≤ gb538)); have n3_ := Aside0.mk ((by rw [hg]; exact (below_size (by repeat (first | (with_reducible first | exact HB.out | apply below_alloc | apply pw_below_drewN | apply below_drew1) | exact HB.out))) : w.heap.size ≤ gb538)); clear HB; have HB := n0_; have BK538 := n1_; have GW538 := n2_; have GE538 := n3_; clear n0_ n1_ n2_ n3_; clear hb hbox hg; have hcz18_0 : w17.cell? ⟨gb538, 0, none⟩ = some (.int .i64 a0_0) := (blk_cell BK538.out 0).trans rfl; have hcz18_1 : w17.cell? ⟨gb538, 1, none⟩ = some (.int .i64 a0_1) := (blk_cell BK538.out 1).trans rfl; have hcz18_2 : w17.cell? ⟨gb538, 2, none⟩ = some (.int .i64 a0_2) := (blk_cell BK538.out 2).trans rfl; have hcz18_3 : w17.cell? ⟨gb538, 3, none⟩ = some (.int .i64 a0_3) := (blk_cell BK538.out 3).trans rfl; have hcz18_4 : w17.cell? ⟨gb538, 4, none⟩ = some (.string a0_4) := (blk_cell BK538.out 4).trans rfl; have hcz18_5 : w17.cell? ⟨gb538, 5, none⟩ = some (.string a0_5) := (blk_cell BK538.out 5).trans rfl; have hfz18_0 := blk_frozen BK538.out 0; have hfz18_1 := blk_frozen BK538.out 1; have hfz18_2 := blk_frozen BK538.out 2; have hfz18_3 := blk_frozen BK538.out 3; have hfz18_4 := blk_frozen BK538.out 4; have hfz18_5 := blk_frozen BK538.out 5) | ((with_reducible refine gate_callee (f := 151) rfl ?_); refine goesL_ (some 5) rfl rfl Try.func151 (by kernel_rfl) rfl #[.int .i64 a0_0, .int .i64 0, .int .i64 255] rfl (by (try simp only [List.map_toArray, List.map_cons, List.map_nil]); first | done | rfl | (simp only [List.length_drop, List.length_take]; rfl)) ?_; (with_reducible refine (palanquinref06_in.calls a0_0 0 255 true _ A2.out).mono ?_); rintro e w' ⟨rfl, ⟨nd, rfl⟩⟩; refine ⟨_, rfl, ?_⟩) | (go_at_call 151; (with_reducible refine (palanquinref06_in.calls a0_2 0 255 true _ A4.out).mono ?_); rintro e w' ⟨rfl, ⟨nd, rfl⟩⟩) | (go_at_call 151; (with_reducible refine (palanquinref06_in.calls a0_3 0 255 false _ A6.out).mono ?_); rintro e w' ⟨rfl, ⟨nd, rfl⟩⟩))
        go_ret
        exact ⟨by first | rfl | (simp [errW_none, errW_some] <;> rfl) | (simp [*, errW_none, errW_some] <;> rfl), by repeat (first | (with_reducible first | exact HB.out | apply below_alloc | apply pw_below_drewN | apply below_drew1 | refine below_set ?_ GE538.out) | exact HB.out)⟩
    · replace c5 := Bool.eq_false_iff.mpr c5
      subst c5
      have H1 : (some false) = some r := by rw [if_neg (show ¬ (false = true) by decide)] at H; exact H
      clear H
      have H := H1
      clear H1
      obtain rfl := Option.some.inj H
      go_enter Try.func103, Try.ntmps103
      go_wp2_with (first | ((with_reducible refine gate_dst (N := 1) rfl ?_); (try (refine gate_guard (by rfl) ?_; dsimp only)); refine box_event ?hg (N := 1) ?hd (cs := #[.int .i64 a0_0, .int .i64 a0_1, .int .i64 a0_2, .int .i64 a0_3, .string a0_4, .string a0_5]) (t := 114) ?hr ?_; (case hd => rfl); (case hg => rfl); (case hr => first | (go_simp; done) | (go_simp; rfl)); intro gb538 hg w19 hbox hb; have n0_ := Aside0.mk (below_step (by repeat (first | (with_reducible first | exact HB.out | apply below_alloc | apply pw_below_drewN | apply below_drew1) | exact HB.out)) hb); have n1_ := Aside0.mk (hbox); have n2_ := Aside0.mk ((by rw [hg]; exact (below_size (by repeat (first | (with_reducible first | exact HB.out | apply below_alloc | apply pw_below_drewN | apply below_drew1) | exact HB.out))) : w.heap.size ≤ gb538)); have n3_ := Aside0.mk ((by rw [hg]; exact (below_size (by repeat (first | (with_reducible first | exact HB.out | apply below_alloc | apply pw_below_drewN | apply below_drew1) | exact HB.out))) : w.heap.size ≤ gb538)); clear HB; have HB := n0_; have BK538 := n1_; have GW538 := n2_; have GE538 := n3_; clear n0_ n1_ n2_ n3_; clear hb hbox hg; have hcz20_0 : w19.cell? ⟨gb538, 0, none⟩ = some (.int .i64 a0_0) := (blk_cell BK538.out 0).trans rfl; have hcz20_1 : w19.cell? ⟨gb538, 1, none⟩ = some (.int .i64 a0_1) := (blk_cell BK538.out 1).trans rfl; have hcz20_2 : w19.cell? ⟨gb538, 2, none⟩ = some (.int .i64 a0_2) := (blk_cell BK538.out 2).trans rfl; have hcz20_3 : w19.cell? ⟨gb538, 3, none⟩ = some (.int .i64 a0_3) := (blk_cell BK538.out 3).trans rfl; have hcz20_4 : w19.cell? ⟨gb538, 4, none⟩ = some (.string a0_4) := (blk_cell BK538.out 4).trans rfl; have hcz20_5 : w19.cell? ⟨gb538, 5, none⟩ = some (.string a0_5) := (blk_cell BK538.out 5).trans rfl; have hfz20_0 := blk_frozen BK538.out 0; have hfz20_1 := blk_frozen BK538.out 1; have hfz20_2 := blk_frozen BK538.out 2; have hfz20_3 := blk_frozen BK538.out 3; have hfz20_4 := blk_frozen BK538.out 4; have hfz20_5 := blk_frozen BK538.out 5) | ((with_reducible refine gate_callee (f := 151) rfl ?_); refine goesL_ (some 5) rfl rfl Try.func151 (by kernel_rfl) rfl #[.int .i64 a0_0, .int .i64 0, .int .i64 255] rfl (by (try simp only [List.map_toArray, List.map_cons, List.map_nil]); first | done | rfl | (simp only [List.length_drop, List.length_take]; rfl)) ?_; (with_reducible refine (palanquinref06_in.calls a0_0 0 255 true _ A2.out).mono ?_); rintro e w' ⟨rfl, ⟨nd, rfl⟩⟩; refine ⟨_, rfl, ?_⟩) | (go_at_call 151; (with_reducible refine (palanquinref06_in.calls a0_2 0 255 false _ A4.out).mono ?_); rintro e w' ⟨rfl, ⟨nd, rfl⟩⟩))
      go_ret
      exact ⟨by first | rfl | (simp [errW_none, errW_some] <;> rfl) | (simp [*, errW_none, errW_some] <;> rfl), by repeat (first | (with_reducible first | exact HB.out | apply below_alloc | apply pw_below_drewN | apply below_drew1 | refine below_set ?_ GE538.out) | exact HB.out)⟩
  · replace c3 := Bool.eq_false_iff.mpr c3
    subst c3
    have H1 : (some false) = some r := by rw [if_neg (show ¬ (false = true) by decide)] at H; exact H
    clear H
    have H := H1
    clear H1
    obtain rfl := Option.some.inj H
    go_enter Try.func103, Try.ntmps103
    go_wp2_with (first | ((with_reducible refine gate_dst (N := 1) rfl ?_); (try (refine gate_guard (by rfl) ?_; dsimp only)); refine box_event ?hg (N := 1) ?hd (cs := #[.int .i64 a0_0, .int .i64 a0_1, .int .i64 a0_2, .int .i64 a0_3, .string a0_4, .string a0_5]) (t := 114) ?hr ?_; (case hd => rfl); (case hg => rfl); (case hr => first | (go_simp; done) | (go_simp; rfl)); intro gb538 hg w21 hbox hb; have n0_ := Aside0.mk (below_step (by repeat (first | (with_reducible first | exact HB.out | apply below_alloc | apply pw_below_drewN | apply below_drew1) | exact HB.out)) hb); have n1_ := Aside0.mk (hbox); have n2_ := Aside0.mk ((by rw [hg]; exact (below_size (by repeat (first | (with_reducible first | exact HB.out | apply below_alloc | apply pw_below_drewN | apply below_drew1) | exact HB.out))) : w.heap.size ≤ gb538)); have n3_ := Aside0.mk ((by rw [hg]; exact (below_size (by repeat (first | (with_reducible first | exact HB.out | apply below_alloc | apply pw_below_drewN | apply below_drew1) | exact HB.out))) : w.heap.size ≤ gb538)); clear HB; have HB := n0_; have BK538 := n1_; have GW538 := n2_; have GE538 := n3_; clear n0_ n1_ n2_ n3_; clear hb hbox hg; have hcz22_0 : w21.cell? ⟨gb538, 0, none⟩ = some (.int .i64 a0_0) := (blk_cell BK538.out 0).trans rfl; have hcz22_1 : w21.cell? ⟨gb538, 1, none⟩ = some (.int .i64 a0_1) := (blk_cell BK538.out 1).trans rfl; have hcz22_2 : w21.cell? ⟨gb538, 2, none⟩ = some (.int .i64 a0_2) := (blk_cell BK538.out 2).trans rfl; have hcz22_3 : w21.cell? ⟨gb538, 3, none⟩ = some (.int .i64 a0_3) := (blk_cell BK538.out 3).trans rfl; have hcz22_4 : w21.cell? ⟨gb538, 4, none⟩ = some (.string a0_4) := (blk_cell BK538.out 4).trans rfl; have hcz22_5 : w21.cell? ⟨gb538, 5, none⟩ = some (.string a0_5) := (blk_cell BK538.out 5).trans rfl; have hfz22_0 := blk_frozen BK538.out 0; have hfz22_1 := blk_frozen BK538.out 1; have hfz22_2 := blk_frozen BK538.out 2; have hfz22_3 := blk_frozen BK538.out 3; have hfz22_4 := blk_frozen BK538.out 4; have hfz22_5 := blk_frozen BK538.out 5) | ((with_reducible refine gate_callee (f := 151) rfl ?_); refine goesL_ (some 5) rfl rfl Try.func151 (by kernel_rfl) rfl #[.int .i64 a0_0, .int .i64 0, .int .i64 255] rfl (by (try simp only [List.map_toArray, List.map_cons, List.map_nil]); first | done | rfl | (simp only [List.length_drop, List.length_take]; rfl)) ?_; (with_reducible refine (palanquinref06_in.calls a0_0 0 255 false _ A2.out).mono ?_); rintro e w' ⟨rfl, ⟨nd, rfl⟩⟩; refine ⟨_, rfl, ?_⟩))
    go_ret
    exact ⟨by first | rfl | (simp [errW_none, errW_some] <;> rfl) | (simp [*, errW_none, errW_some] <;> rfl), by repeat (first | (with_reducible first | exact HB.out | apply below_alloc | apply pw_below_drewN | apply below_drew1 | refine below_set ?_ GE538.out) | exact HB.out)⟩

/-! ### palanquinref06_Put: function 99 -/
def palanquinref06_Put.f (k : Nat) (a0_0 : Int) (a0_1 : Int) (a0_2 : Int) (a0_3 : Int) (a0_4 : ByteArray) (a0_5 : ByteArray) (a1 : ByteArray) : Option (ByteArray × Int) := (palanquinref06_Right.f a0_0 a0_1 a0_2 a0_3 a0_4 a0_5).bind fun t544 => (if t544 = true then (if (a1.size : Int) > 65535 then (some ((⟨#[]⟩ : ByteArray), 4)) else ((palanquinref01_Bytes.f k (IntKind.u64.wrap (wrap64 ((wrap64 ((wrap64 (1536 + a0_0)) * 1048576)) + a0_1))) 4).bind fun t545 => ((palanquinref01_Bytes.f k (IntKind.u64.wrap ((a1.size : Int))) 2).bind fun t546 => (if t545.size + t546.size ≤ 9223372036854775807 then ((palanquinref01_Bytes.f k (IntKind.u64.wrap (a0_2)) 1).bind fun t547 => (if (t545 ++ t546).size + t547.size ≤ 9223372036854775807 then ((palanquinref01_Bytes.f k (IntKind.u64.wrap (a0_3)) 1).bind fun t548 => (if ((t545 ++ t546) ++ t547).size + t548.size ≤ 9223372036854775807 then (if (((t545 ++ t546) ++ t547) ++ t548).size + a0_4.size ≤ 9223372036854775807 then (if ((((t545 ++ t546) ++ t547) ++ t548) ++ a0_4).size + a0_5.size ≤ 9223372036854775807 then (if (((((t545 ++ t546) ++ t547) ++ t548) ++ a0_4) ++ a0_5).size + a1.size ≤ 9223372036854775807 then (some ((((((t545 ++ t546) ++ t547) ++ t548) ++ a0_4) ++ a0_5) ++ a1, 0)) else (none)) else (none)) else (none)) else (none))) else (none))) else (none))))) else (some ((⟨#[]⟩ : ByteArray), 1)))
theorem palanquinref06_Put.mono : ∀ a0 a1 a2 a3 a4 a5 a6 k, LeO (palanquinref06_Put.f k a0 a1 a2 a3 a4 a5 a6) (palanquinref06_Put.f (k + 1) a0 a1 a2 a3 a4 a5 a6) := by
  intro a0 a1 a2 a3 a4 a5 a6 k
  unfold palanquinref06_Put.f
  repeat' first
      | (with_reducible exact palanquinref01_Bytes.mono _ _ _)
      | (with_reducible exact LeO.refl _)
      | (with_reducible exact LeO.none _)
      | (with_reducible refine LeO.ite ?_ ?_)
      | (with_reducible refine LeO.bind ?_ (fun _ => ?_))
      | exact palanquinref01_Bytes.mono _ _ _
      | exact LeO.none _
      | refine LeO.ite ?_ ?_
      | refine LeO.bind ?_ (fun _ => ?_)
def palanquinref06_Put.T6 : Bool × List (List Nat × List Nat) := (true, [([], []), ([0], [0]), ([1], [1]), ([], []), ([3], [3]), ([4], [4]), ([5, 2], [5]), ([2, 6], [2, 6]), ([], []), ([8], [8]), ([9], [9]), ([10, 6], [10]), ([7, 11], [7, 11]), ([], []), ([13], [13]), ([14], [14]), ([15, 11], [15]), ([12, 16], [12, 16]), ([], []), ([18], [18]), ([17, 19], [17, 19]), ([], []), ([21], [21]), ([20, 22], [20, 22]), ([], []), ([23, 24], [23, 24]), ([25, 16, 0, 1, 2, 3, 4, 5, 6, 7, 8, 9, 10, 11, 12, 13, 14, 15, 16, 17, 18, 19, 20, 21, 22, 23, 24, 25], [25]), ([26, 0, 1, 2, 3, 4, 5, 6, 7, 8, 9, 10, 11, 12, 13, 14, 15, 16, 17, 18, 19, 20, 21, 22, 23, 24, 25, 26], [])])
def palanquinref06_Put.B6 : List Nat := [0, 1, 3, 0, 8, 24, 63, 127, 0, 256, 768, 1919, 4095, 0, 8192, 24576, 61311, 131071, 0, 262144, 1048575, 0, 2097152, 8388607, 0, 33554431, 67108863, 134217727]
theorem palanquinref06_Put.tab6 : rtab .any (opsOf Try.f99 6) = palanquinref06_Put.T6 := by kernel_rfl
theorem palanquinref06_Put.bits6 : waitsOk palanquinref06_Put.T6.2 palanquinref06_Put.B6 = true := by kernel_rfl
set_option maxHeartbeats 8000000 in
set_option maxRecDepth 100000 in
theorem palanquinref06_Put.calls (k : Nat) (a0_0 : Int) (a0_1 : Int) (a0_2 : Int) (a0_3 : Int) (a0_4 : ByteArray) (a0_5 : ByteArray) (a1 : ByteArray) (r1 : ByteArray) (r2 : Int) (w : World) (h : palanquinref06_Put.f k a0_0 a0_1 a0_2 a0_3 a0_4 a0_5 a1 = some (r1, r2)) :
    Calls Try.prog 99 #[.agg #[.int .i64 a0_0, .int .i64 a0_1, .int .i64 a0_2, .int .i64 a0_3, .string a0_4, .string a0_5], .string a1] w fun e w' => e = .returned (.tuple #[.string r1, .int .i64 r2]) ∧ Below w.heap.size w w' := by
  have hu114 := Try.underlying114
  have HB := Aside0.mk (Below.refl w.heap.size w)
  have H : ((palanquinref06_Right.f a0_0 a0_1 a0_2 a0_3 a0_4 a0_5).bind fun t544 => (if t544 = true then (if (a1.size : Int) > 65535 then (some ((⟨#[]⟩ : ByteArray), 4)) else ((palanquinref01_Bytes.f k (IntKind.u64.wrap (wrap64 ((wrap64 ((wrap64 (1536 + a0_0)) * 1048576)) + a0_1))) 4).bind fun t545 => ((palanquinref01_Bytes.f k (IntKind.u64.wrap ((a1.size : Int))) 2).bind fun t546 => (if t545.size + t546.size ≤ 9223372036854775807 then ((palanquinref01_Bytes.f k (IntKind.u64.wrap (a0_2)) 1).bind fun t547 => (if (t545 ++ t546).size + t547.size ≤ 9223372036854775807 then ((palanquinref01_Bytes.f k (IntKind.u64.wrap (a0_3)) 1).bind fun t548 => (if ((t545 ++ t546) ++ t547).size + t548.size ≤ 9223372036854775807 then (if (((t545 ++ t546) ++ t547) ++ t548).size + a0_4.size ≤ 9223372036854775807 then (if ((((t545 ++ t546) ++ t547) ++ t548) ++ a0_4).size + a0_5.size ≤ 9223372036854775807 then (if (((((t545 ++ t546) ++ t547) ++ t548) ++ a0_4) ++ a0_5).size + a1.size ≤ 9223372036854775807 then (some ((((((t545 ++ t546) ++ t547) ++ t548) ++ a0_4) ++ a0_5) ++ a1, 0)) else (none)) else (none)) else (none)) else (none))) else (none))) else (none))))) else (some ((⟨#[]⟩ : ByteArray), 1)))) = some (r1, r2) := h
  clear h
  replace H := Option.bind_eq_some_iff.mp H
  obtain ⟨t544, A30, H⟩ := H
  replace H : (if t544 = true then (if (a1.size : Int) > 65535 then (some ((⟨#[]⟩ : ByteArray), 4)) else ((palanquinref01_Bytes.f k (IntKind.u64.wrap (wrap64 ((wrap64 ((wrap64 (1536 + a0_0)) * 1048576)) + a0_1))) 4).bind fun t545 => ((palanquinref01_Bytes.f k (IntKind.u64.wrap ((a1.size : Int))) 2).bind fun t546 => (if t545.size + t546.size ≤ 9223372036854775807 then ((palanquinref01_Bytes.f k (IntKind.u64.wrap (a0_2)) 1).bind fun t547 => (if (t545 ++ t546).size + t547.size ≤ 9223372036854775807 then ((palanquinref01_Bytes.f k (IntKind.u64.wrap (a0_3)) 1).bind fun t548 => (if ((t545 ++ t546) ++ t547).size + t548.size ≤ 9223372036854775807 then (if (((t545 ++ t546) ++ t547) ++ t548).size + a0_4.size ≤ 9223372036854775807 then (if ((((t545 ++ t546) ++ t547) ++ t548) ++ a0_4).size + a0_5.size ≤ 9223372036854775807 then (if (((((t545 ++ t546) ++ t547) ++ t548) ++ a0_4) ++ a0_5).size + a1.size ≤ 9223372036854775807 then (some ((((((t545 ++ t546) ++ t547) ++ t548) ++ a0_4) ++ a0_5) ++ a1, 0)) else (none)) else (none)) else (none)) else (none))) else (none))) else (none))))) else (some ((⟨#[]⟩ : ByteArray), 1))) = some (r1, r2) := H
  have A3 := Aside0.mk A30
  clear A30
  by_cases c4 : t544 = true
  · subst c4
    have H1 : (if (a1.size : Int) > 65535 then (some ((⟨#[]⟩ : ByteArray), 4)) else ((palanquinref01_Bytes.f k (IntKind.u64.wrap (wrap64 ((wrap64 ((wrap64 (1536 + a0_0)) * 1048576)) + a0_1))) 4).bind fun t545 => ((palanquinref01_Bytes.f k (IntKind.u64.wrap ((a1.size : Int))) 2).bind fun t546 => (if t545.size + t546.size ≤ 9223372036854775807 then ((palanquinref01_Bytes.f k (IntKind.u64.wrap (a0_2)) 1).bind fun t547 => (if (t545 ++ t546).size + t547.size ≤ 9223372036854775807 then ((palanquinref01_Bytes.f k (IntKind.u64.wrap (a0_3)) 1).bind fun t548 => (if ((t545 ++ t546) ++ t547).size + t548.size ≤ 9223372036854775807 then (if (((t545 ++ t546) ++ t547) ++ t548).size + a0_4.size ≤ 9223372036854775807 then (if ((((t545 ++ t546) ++ t547) ++ t548) ++ a0_4).size + a0_5.size ≤ 9223372036854775807 then (if (((((t545 ++ t546) ++ t547) ++ t548) ++ a0_4) ++ a0_5).size + a1.size ≤ 9223372036854775807 then (some ((((((t545 ++ t546) ++ t547) ++ t548) ++ a0_4) ++ a0_5) ++ a1, 0)) else (none)) else (none)) else (none)) else (none))) else (none))) else (none))))) = some (r1, r2) := by rw [if_pos rfl] at H; exact H
    clear H
    have H := H1
    clear H1
    by_cases c5 : (a1.size : Int) > 65535
    · rw [if_pos c5] at H
      have c5b0 : decide (65535 < (a1.size : Int)) = true := decide_eq_true c5
      have c5b1 : decide (65535 < a1.size) = true := decide_eq_true (by omega)
      clear c5
      simp only [Option.some.injEq, Prod.mk.injEq] at H
      obtain ⟨rfl, rfl⟩ := H
      go_enter Try.func99, Try.ntmps99
      go_wp2_with (first | ((with_reducible refine gate_dst (N := 2) rfl ?_); refine box_event ?hg (N := 2) ?hd (cs := #[.int .i64 a0_0, .int .i64 a0_1, .int .i64 a0_2, .int .i64 a0_3, .string a0_4, .string a0_5]) (t := 114) ?hr ?_; (case hd => rfl); (case hg => rfl); (case hr => first | (go_simp; done) | (go_simp; rfl)); intro gb543 hg w6 hbox hb; have n0_ := Aside0.mk (below_step (by repeat (first | (with_reducible first | exact HB.out | apply below_alloc | apply pw_below_drewN | apply below_drew1) | exact HB.out)) hb); have n1_ := Aside0.mk (hbox); have n2_ := Aside0.mk ((by rw [hg]; exact (below_size (by repeat (first | (with_reducible first | exact HB.out | apply below_alloc | apply pw_below_drewN | apply below_drew1) | exact HB.out))) : w.heap.size ≤ gb543)); have n3_ := Aside0.mk ((by rw [hg]; exact (below_size (by repeat (first | (with_reducible first | exact HB.out | apply below_alloc | apply pw_below_drewN | apply below_drew1) | exact HB.out))) : w.heap.size ≤ gb543)); clear HB; have HB := n0_; have BK543 := n1_; have GW543 := n2_; have GE543 := n3_; clear n0_ n1_ n2_ n3_; clear hb hbox hg; have hcz7_0 : w6.cell? ⟨gb543, 0, none⟩ = some (.int .i64 a0_0) := (blk_cell BK543.out 0).trans rfl; have hcz7_1 : w6.cell? ⟨gb543, 1, none⟩ = some (.int .i64 a0_1) := (blk_cell BK543.out 1).trans rfl; have hcz7_2 : w6.cell? ⟨gb543, 2, none⟩ = some (.int .i64 a0_2) := (blk_cell BK543.out 2).trans rfl; have hcz7_3 : w6.cell? ⟨gb543, 3, none⟩ = some (.int .i64 a0_3) := (blk_cell BK543.out 3).trans rfl; have hcz7_4 : w6.cell? ⟨gb543, 4, none⟩ = some (.string a0_4) := (blk_cell BK543.out 4).trans rfl; have hcz7_5 : w6.cell? ⟨gb543, 5, none⟩ = some (.string a0_5) := (blk_cell BK543.out 5).trans rfl; have hfz7_0 := blk_frozen BK543.out 0; have hfz7_1 := blk_frozen BK543.out 1; have hfz7_2 := blk_frozen BK543.out 2; have hfz7_3 := blk_frozen BK543.out 3; have hfz7_4 := blk_frozen BK543.out 4; have hfz7_5 := blk_frozen BK543.out 5) | ((with_reducible refine gate_callee (f := 103) rfl ?_); refine goesL_ (some 8) rfl rfl Try.func103 (by kernel_rfl) rfl #[.agg #[.int .i64 a0_0, .int .i64 a0_1, .int .i64 a0_2, .int .i64 a0_3, .string a0_4, .string a0_5]] rfl (by (try simp only [List.map_toArray, List.map_cons, List.map_nil]); first | done | rfl | (simp only [List.length_drop, List.length_take]; rfl)) ?_; (with_reducible refine (palanquinref06_Right.calls a0_0 a0_1 a0_2 a0_3 a0_4 a0_5 true _ A3.out).mono ?_); rintro e w8 ⟨rfl, hb⟩; refine ⟨_, rfl, ?_⟩; have n0_ := Aside0.mk (blk_below (g := gb543) (o := .cells #[.int .i64 a0_0, .int .i64 a0_1, .int .i64 a0_2, .int .i64 a0_3, .string a0_4, .string a0_5] 114 (0, 0)) (by (with_reducible repeat (first | refine blk_drewN ?_ _ | refine blk_drew ?_ | refine blk_alloc ?_ _)); exact BK543.out) hb); have n1_ := Aside0.mk (below_step (by repeat (first | (with_reducible first | exact HB.out | apply below_alloc | apply pw_below_drewN | apply below_drew1 | refine below_set ?_ GE543.out) | exact HB.out)) hb); clear BK543; clear HB; have BK543 := n0_; have HB := n1_; clear n0_ n1_; (try clear hb); (try clear hb2); (try clear hk); (try clear hi)))
      go_ret2
      exact ⟨by first | rfl | (simp [errW_none, errW_some] <;> rfl) | (simp [*, errW_none, errW_some] <;> rfl), by repeat (first | (with_reducible first | exact HB.out | apply below_alloc | apply pw_below_drewN | apply below_drew1 | refine below_set ?_ GE543.out) | exact HB.out)⟩
    · rw [if_neg c5] at H
      have c5b0 : decide (65535 < (a1.size : Int)) = false := decide_eq_false c5
      have c5b1 : decide (65535 < a1.size) = false := decide_eq_false (by omega)
      clear c5
      replace H := Option.bind_eq_some_iff.mp H
      obtain ⟨t545, A90, H⟩ := H
      replace H : ((palanquinref01_Bytes.f k (IntKind.u64.wrap ((a1.size : Int))) 2).bind fun t546 => (if t545.size + t546.size ≤ 9223372036854775807 then ((palanquinref01_Bytes.f k (IntKind.u64.wrap (a0_2)) 1).bind fun t547 => (if (t545 ++ t546).size + t547.size ≤ 9223372036854775807 then ((palanquinref01_Bytes.f k (IntKind.u64.wrap (a0_3)) 1).bind fun t548 => (if ((t545 ++ t546) ++ t547).size + t548.size ≤ 9223372036854775807 then (if (((t545 ++ t546) ++ t547) ++ t548).size + a0_4.size ≤ 9223372036854775807 then (if ((((t545 ++ t546) ++ t547) ++ t548) ++ a0_4).size + a0_5.size ≤ 9223372036854775807 then (if (((((t545 ++ t546) ++ t547) ++ t548) ++ a0_4) ++ a0_5).size + a1.size ≤ 9223372036854775807 then (some ((((((t545 ++ t546) ++ t547) ++ t548) ++ a0_4) ++ a0_5) ++ a1, 0)) else (none)) else (none)) else (none)) else (none))) else (none))) else (none))) = some (r1, r2) := H
      have A9 := Aside0.mk A90
      clear A90
      replace H := Option.bind_eq_some_iff.mp H
      obtain ⟨t546, A100, H⟩ := H
      replace H : (if t545.size + t546.size ≤ 9223372036854775807 then ((palanquinref01_Bytes.f k (IntKind.u64.wrap (a0_2)) 1).bind fun t547 => (if (t545 ++ t546).size + t547.size ≤ 9223372036854775807 then ((palanquinref01_Bytes.f k (IntKind.u64.wrap (a0_3)) 1).bind fun t548 => (if ((t545 ++ t546) ++ t547).size + t548.size ≤ 9223372036854775807 then (if (((t545 ++ t546) ++ t547) ++ t548).size + a0_4.size ≤ 9223372036854775807 then (if ((((t545 ++ t546) ++ t547) ++ t548) ++ a0_4).size + a0_5.size ≤ 9223372036854775807 then (if (((((t545 ++ t546) ++ t547) ++ t548) ++ a0_4) ++ a0_5).size + a1.size ≤ 9223372036854775807 then (some ((((((t545 ++ t546) ++ t547) ++ t548) ++ a0_4) ++ a0_5) ++ a1, 0)) else (none)) else (none)) else (none)) else (none))) else (none))) else (none)) = some (r1, r2) := H
      have A10 := Aside0.mk A100
      clear A100
      by_cases c11 : t545.size + t546.size ≤ 9223372036854775807
      · rw [if_pos c11] at H
        have c11b0 := eq_true c11
        have c11b1 : decide (t545.size + t546.size ≤ 9223372036854775807) = true := decide_eq_true c11
        try have c11b2 : (9223372036854775807 < t545.size + t546.size) = False := eq_false (Nat.not_lt.2 c11)
        replace H := Option.bind_eq_some_iff.mp H
        obtain ⟨t547, A120, H⟩ := H
        replace H : (if (t545 ++ t546).size + t547.size ≤ 9223372036854775807 then ((palanquinref01_Bytes.f k (IntKind.u64.wrap (a0_3)) 1).bind fun t548 => (if ((t545 ++ t546) ++ t547).size + t548.size ≤ 9223372036854775807 then (if (((t545 ++ t546) ++ t547) ++ t548).size + a0_4.size ≤ 9223372036854775807 then (if ((((t545 ++ t546) ++ t547) ++ t548) ++ a0_4).size + a0_5.size ≤ 9223372036854775807 then (if (((((t545 ++ t546) ++ t547) ++ t548) ++ a0_4) ++ a0_5).size + a1.size ≤ 9223372036854775807 then (some ((((((t545 ++ t546) ++ t547) ++ t548) ++ a0_4) ++ a0_5) ++ a1, 0)) else (none)) else (none)) else (none)) else (none))) else (none)) = some (r1, r2) := H
        have A12 := Aside0.mk A120
        clear A120
        by_cases c13 : (t545 ++ t546).size + t547.size ≤ 9223372036854775807
        · rw [if_pos c13] at H
          have c13b0 := eq_true c13
          have c13b1 : decide ((t545 ++ t546).size + t547.size ≤ 9223372036854775807) = true := decide_eq_true c13
          try have c13b2 : (9223372036854775807 < (t545 ++ t546).size + t547.size) = False := eq_false (Nat.not_lt.2 c13)
          try have c13b3 : (9223372036854775807 < (t545.size) + (t546.size) + t547.size) = False := eq_false (by have h_ := c13; simp only [ByteArray.size_append] at h_; omega)
          try have c13b4 : ((t545.size) + (t546.size) + t547.size ≤ 9223372036854775807) = True := eq_true (by have h_ := c13; simp only [ByteArray.size_append] at h_; omega)
          replace H := Option.bind_eq_some_iff.mp H
          obtain ⟨t548, A140, H⟩ := H
          replace H : (if ((t545 ++ t546) ++ t547).size + t548.size ≤ 9223372036854775807 then (if (((t545 ++ t546) ++ t547) ++ t548).size + a0_4.size ≤ 9223372036854775807 then (if ((((t545 ++ t546) ++ t547) ++ t548) ++ a0_4).size + a0_5.size ≤ 9223372036854775807 then (if (((((t545 ++ t546) ++ t547) ++ t548) ++ a0_4) ++ a0_5).size + a1.size ≤ 9223372036854775807 then (some ((((((t545 ++ t546) ++ t547) ++ t548) ++ a0_4) ++ a0_5) ++ a1, 0)) else (none)) else (none)) else (none)) else (none)) = some (r1, r2) := H
          have A14 := Aside0.mk A140
          clear A140
          by_cases c15 : ((t545 ++ t546) ++ t547).size + t548.size ≤ 9223372036854775807
          · rw [if_pos c15] at H
            have c15b0 := eq_true c15
            have c15b1 : decide (((t545 ++ t546) ++ t547).size + t548.size ≤ 9223372036854775807) = true := decide_eq_true c15
            try have c15b2 : (9223372036854775807 < ((t545 ++ t546) ++ t547).size + t548.size) = False := eq_false (Nat.not_lt.2 c15)
            try have c15b3 : (9223372036854775807 < (t545.size) + (t546.size) + (t547.size) + t548.size) = False := eq_false (by have h_ := c15; simp only [ByteArray.size_append] at h_; omega)
            try have c15b4 : ((t545.size) + (t546.size) + (t547.size) + t548.size ≤ 9223372036854775807) = True := eq_true (by have h_ := c15; simp only [ByteArray.size_append] at h_; omega)
            by_cases c16 : (((t545 ++ t546) ++ t547) ++ t548).size + a0_4.size ≤ 9223372036854775807
            · rw [if_pos c16] at H
              have c16b0 := eq_true c16
              have c16b1 : decide ((((t545 ++ t546) ++ t547) ++ t548).size + a0_4.size ≤ 9223372036854775807) = true := decide_eq_true c16
              try have c16b2 : (9223372036854775807 < (((t545 ++ t546) ++ t547) ++ t548).size + a0_4.size) = False := eq_false (Nat.not_lt.2 c16)
              try have c16b3 : (9223372036854775807 < (t545.size) + (t546.size) + (t547.size) + (t548.size) + a0_4.size) = False := eq_false (by have h_ := c16; simp only [ByteArray.size_append] at h_; omega)
              try have c16b4 : ((t545.size) + (t546.size) + (t547.size) + (t548.size) + a0_4.size ≤ 9223372036854775807) = True := eq_true (by have h_ := c16; simp only [ByteArray.size_append] at h_; omega)
              by_cases c17 : ((((t545 ++ t546) ++ t547) ++ t548) ++ a0_4).size + a0_5.size ≤ 9223372036854775807
              · rw [if_pos c17] at H
                have c17b0 := eq_true c17
                have c17b1 : decide (((((t545 ++ t546) ++ t547) ++ t548) ++ a0_4).size + a0_5.size ≤ 9223372036854775807) = true := decide_eq_true c17
                try have c17b2 : (9223372036854775807 < ((((t545 ++ t546) ++ t547) ++ t548) ++ a0_4).size + a0_5.size) = False := eq_false (Nat.not_lt.2 c17)
                try have c17b3 : (9223372036854775807 < (t545.size) + (t546.size) + (t547.size) + (t548.size) + (a0_4.size) + a0_5.size) = False := eq_false (by have h_ := c17; simp only [ByteArray.size_append] at h_; omega)
                try have c17b4 : ((t545.size) + (t546.size) + (t547.size) + (t548.size) + (a0_4.size) + a0_5.size ≤ 9223372036854775807) = True := eq_true (by have h_ := c17; simp only [ByteArray.size_append] at h_; omega)
                by_cases c18 : (((((t545 ++ t546) ++ t547) ++ t548) ++ a0_4) ++ a0_5).size + a1.size ≤ 9223372036854775807
                · rw [if_pos c18] at H
                  have c18b0 := eq_true c18
                  have c18b1 : decide ((((((t545 ++ t546) ++ t547) ++ t548) ++ a0_4) ++ a0_5).size + a1.size ≤ 9223372036854775807) = true := decide_eq_true c18
                  try have c18b2 : (9223372036854775807 < (((((t545 ++ t546) ++ t547) ++ t548) ++ a0_4) ++ a0_5).size + a1.size) = False := eq_false (Nat.not_lt.2 c18)
                  try have c18b3 : (9223372036854775807 < (t545.size) + (t546.size) + (t547.size) + (t548.size) + (a0_4.size) + (a0_5.size) + a1.size) = False := eq_false (by have h_ := c18; simp only [ByteArray.size_append] at h_; omega)
                  try have c18b4 : ((t545.size) + (t546.size) + (t547.size) + (t548.size) + (a0_4.size) + (a0_5.size) + a1.size ≤ 9223372036854775807) = True := eq_true (by have h_ := c18; simp only [ByteArray.size_append] at h_; omega)
                  simp only [Option.some.injEq, Prod.mk.injEq] at H
                  obtain ⟨rfl, rfl⟩ := H
                  go_enter Try.func99, Try.ntmps99
                  try go_wp2_with (first | ((with_reducible refine gate_dst (N := 2) rfl ?_); refine box_event ?hg (N := 2) ?hd (cs := #[.int .i64 a0_0, .int .i64 a0_1, .int .i64 a0_2, .int .i64 a0_3, .string a0_4, .string a0_5]) (t := 114) ?hr ?_; (case hd => rfl); (case hg => rfl); (case hr => first | (go_simp; done) | (go_simp; rfl)); intro gb543 hg w19 hbox hb; have n0_ := Aside0.mk (below_step (by repeat (first | (with_reducible first | exact HB.out | apply below_alloc | apply pw_below_drewN | apply below_drew1) | exact HB.out)) hb); have n1_ := Aside0.mk (hbox); have n2_ := Aside0.mk ((by rw [hg]; exact (below_size (by repeat (first | (with_reducible first | exact HB.out | apply below_alloc | apply pw_below_drewN | apply below_drew1) | exact HB.out))) : w.heap.size ≤ gb543)); have n3_ := Aside0.mk ((by rw [hg]; exact (below_size (by repeat (first | (with_reducible first | exact HB.out | apply below_alloc | apply pw_below_drewN | apply below_drew1) | exact HB.out))) : w.heap.size ≤ gb543)); clear HB; have HB := n0_; have BK543 := n1_; have GW543 := n2_; have GE543 := n3_; clear n0_ n1_ n2_ n3_; clear hb hbox hg; have hcz20_0 : w19.cell? ⟨gb543, 0, none⟩ = some (.int .i64 a0_0) := (blk_cell BK543.out 0).trans rfl; have hcz20_1 : w19.cell? ⟨gb543, 1, none⟩ = some (.int .i64 a0_1) := (blk_cell BK543.out 1).trans rfl; have hcz20_2 : w19.cell? ⟨gb543, 2, none⟩ = some (.int .i64 a0_2) := (blk_cell BK543.out 2).trans rfl; have hcz20_3 : w19.cell? ⟨gb543, 3, none⟩ = some (.int .i64 a0_3) := (blk_cell BK543.out 3).trans rfl; have hcz20_4 : w19.cell? ⟨gb543, 4, none⟩ = some (.string a0_4) := (blk_cell BK543.out 4).trans rfl; have hcz20_5 : w19.cell? ⟨gb543, 5, none⟩ = some (.string a0_5) := (blk_cell BK543.out 5).trans rfl; have hfz20_0 := blk_frozen BK543.out 0; have hfz20_1 := blk_frozen BK543.out 1; have hfz20_2 := blk_frozen BK543.out 2; have hfz20_3 := blk_frozen BK543.out 3; have hfz20_4 := blk_frozen BK543.out 4; have hfz20_5 := blk_frozen BK543.out 5) | ((with_reducible refine gate_callee (f := 103) rfl ?_); refine goesL_ (some 8) rfl rfl Try.func103 (by kernel_rfl) rfl #[.agg #[.int .i64 a0_0, .int .i64 a0_1, .int .i64 a0_2, .int .i64 a0_3, .string a0_4, .string a0_5]] rfl (by (try simp only [List.map_toArray, List.map_cons, List.map_nil]); first | done | rfl | (simp only [List.length_drop, List.length_take]; rfl)) ?_; (with_reducible refine (palanquinref06_Right.calls a0_0 a0_1 a0_2 a0_3 a0_4 a0_5 true _ A3.out).mono ?_); rintro e w21 ⟨rfl, hb⟩; refine ⟨_, rfl, ?_⟩; have n0_ := Aside0.mk (blk_below (g := gb543) (o := .cells #[.int .i64 a0_0, .int .i64 a0_1, .int .i64 a0_2, .int .i64 a0_3, .string a0_4, .string a0_5] 114 (0, 0)) (by (with_reducible repeat (first | refine blk_drewN ?_ _ | refine blk_drew ?_ | refine blk_alloc ?_ _)); exact BK543.out) hb); have n1_ := Aside0.mk (below_step (by repeat (first | (with_reducible first | exact HB.out | apply below_alloc | apply pw_below_drewN | apply below_drew1 | refine below_set ?_ GE543.out) | exact HB.out)) hb); clear BK543; clear HB; have BK543 := n0_; have HB := n1_; clear n0_ n1_; (try clear hb); (try clear hb2); (try clear hk); (try clear hi); have hcz22_0 : w21.cell? ⟨gb543, 0, none⟩ = some (.int .i64 a0_0) := (blk_cell BK543.out 0).trans rfl; have hcz22_1 : w21.cell? ⟨gb543, 1, none⟩ = some (.int .i64 a0_1) := (blk_cell BK543.out 1).trans rfl; have hcz22_2 : w21.cell? ⟨gb543, 2, none⟩ = some (.int .i64 a0_2) := (blk_cell BK543.out 2).trans rfl; have hcz22_3 : w21.cell? ⟨gb543, 3, none⟩ = some (.int .i64 a0_3) := (blk_cell BK543.out 3).trans rfl; have hcz22_4 : w21.cell? ⟨gb543, 4, none⟩ = some (.string a0_4) := (blk_cell BK543.out 4).trans rfl; have hcz22_5 : w21.cell? ⟨gb543, 5, none⟩ = some (.string a0_5) := (blk_cell BK543.out 5).trans rfl; have hfz22_0 := blk_frozen BK543.out 0; have hfz22_1 := blk_frozen BK543.out 1; have hfz22_2 := blk_frozen BK543.out 2; have hfz22_3 := blk_frozen BK543.out 3; have hfz22_4 := blk_frozen BK543.out 4; have hfz22_5 := blk_frozen BK543.out 5))
                  have n0_ := Aside0.mk (blk_drew BK543.out)
                  have n1_ := Aside0.mk (below_drew1 HB.out)
                  clear BK543
                  clear HB
                  have BK543 := n0_
                  have HB := n1_
                  clear n0_ n1_
                  refine start_ (n := 28) (S := fun w' => w'.cell? ⟨gb543, 0, none⟩ = some (.int .i64 a0_0) ∧ w'.cell? ⟨gb543, 1, none⟩ = some (.int .i64 a0_1) ∧ w'.cell? ⟨gb543, 2, none⟩ = some (.int .i64 a0_2) ∧ w'.cell? ⟨gb543, 3, none⟩ = some (.int .i64 a0_3) ∧ w'.cell? ⟨gb543, 4, none⟩ = some (.string a0_4) ∧ w'.cell? ⟨gb543, 5, none⟩ = some (.string a0_5)) (ds := []) #[false, false, false, false, false, false, false, false, false, false, false, false, false, false, false, false, false, false, false, false, false, false, false, false, false, false, false, false] (by kernel_rfl) rfl rfl ⟨(blk_cell BK543.out 0).trans rfl, (blk_cell BK543.out 1).trans rfl, (blk_cell BK543.out 2).trans rfl, (blk_cell BK543.out 3).trans rfl, (blk_cell BK543.out 4).trans rfl, (blk_cell BK543.out 5).trans rfl⟩ (fun hHeld => ?_); refine with_tabW palanquinref06_Put.tab6 palanquinref06_Put.bits6 (fun HT_ HW_ => ?_)
                  generalize w21.drew = w23 at BK543 HB hHeld ⊢
                  refine pure_ (i := 0) (N := some 20) (v := ?_) (a' := ?_) #[true, false, false, false, false, false, false, false, false, false, false, false, false, false, false, false, false, false, false, false, false, false, false, false, false, false, false, false] rfl rfl (any_of HT_.out (by kernel_rfl)) (fun _ _ _ h => h) (Or.inl ⟨by rfl, ?_⟩) ?_ ?_
                  rotate_left
                  · intro w'
                    go_simp
                    with_reducible rfl
                  rotate_left
                  · simp only [Act.put, List.setIfInBounds_toArray, List.set_cons_zero, List.set_cons_succ, i64_w, i32_w]
                    rfl
                  refine pure_ (i := 1) (N := some 21) (v := ?_) (a' := ?_) #[true, true, false, false, false, false, false, false, false, false, false, false, false, false, false, false, false, false, false, false, false, false, false, false, false, false, false, false] rfl rfl (any_of HT_.out (by kernel_rfl)) (fun _ _ _ h => h) (Or.inl ⟨by rfl, ?_⟩) ?_ ?_
                  rotate_left
                  · intro w'
                    go_simp
                    with_reducible rfl
                  rotate_left
                  · simp only [Act.put, List.setIfInBounds_toArray, List.set_cons_zero, List.set_cons_succ, i64_w, i32_w]
                    rfl
                  refine pure_ (i := 3) (N := some 23) (v := ?_) (a' := ?_) #[true, true, false, true, false, false, false, false, false, false, false, false, false, false, false, false, false, false, false, false, false, false, false, false, false, false, false, false] rfl rfl (any_of HT_.out (by kernel_rfl)) (fun _ _ _ h => h) (Or.inl ⟨by rfl, ?_⟩) ?_ ?_
                  rotate_left
                  · intro w'
                    go_simp
                    with_reducible rfl
                  rotate_left
                  · simp only [Act.put, List.setIfInBounds_toArray, List.set_cons_zero, List.set_cons_succ, i64_w, i32_w]
                    rfl
                  refine pure_ (i := 4) (N := some 24) (v := ?_) (a' := ?_) #[true, true, false, true, true, false, false, false, false, false, false, false, false, false, false, false, false, false, false, false, false, false, false, false, false, false, false, false] rfl rfl (any_of HT_.out (by kernel_rfl)) (fun _ _ _ h => h) (Or.inl ⟨by rfl, ?_⟩) ?_ ?_
                  rotate_left
                  · intro w'
                    go_simp
                    with_reducible rfl
                  rotate_left
                  · simp only [Act.put, List.setIfInBounds_toArray, List.set_cons_zero, List.set_cons_succ, i64_w, i32_w]
                    rfl
                  refine pure_ (i := 5) (N := some 25) (v := ?_) (a' := ?_) #[true, true, false, true, true, true, false, false, false, false, false, false, false, false, false, false, false, false, false, false, false, false, false, false, false, false, false, false] rfl rfl (any_of HT_.out (by kernel_rfl)) (fun _ _ _ h => h) (Or.inl ⟨by rfl, ?_⟩) ?_ ?_
                  rotate_left
                  · intro w'
                    go_simp
                    with_reducible rfl
                  rotate_left
                  · simp only [Act.put, List.setIfInBounds_toArray, List.set_cons_zero, List.set_cons_succ, i64_w, i32_w]
                    rfl
                  refine pure_ (i := 8) (N := some 28) (v := ?_) (a' := ?_) #[true, true, false, true, true, true, false, false, true, false, false, false, false, false, false, false, false, false, false, false, false, false, false, false, false, false, false, false] rfl rfl (any_of HT_.out (by kernel_rfl)) (fun _ _ _ h => h) (Or.inl ⟨by rfl, ?_⟩) ?_ ?_
                  rotate_left
                  · intro w'
                    go_simp
                    with_reducible rfl
                  rotate_left
                  · simp only [Act.put, List.setIfInBounds_toArray, List.set_cons_zero, List.set_cons_succ, i64_w, i32_w]
                    rfl
                  refine pure_ (i := 13) (N := some 33) (v := ?_) (a' := ?_) #[true, true, false, true, true, true, false, false, true, false, false, false, false, true, false, false, false, false, false, false, false, false, false, false, false, false, false, false] rfl rfl (any_of HT_.out (by kernel_rfl)) (fun _ _ _ h => h) (Or.inl ⟨by rfl, ?_⟩) ?_ ?_
                  rotate_left
                  · intro w'
                    go_simp
                    with_reducible rfl
                  rotate_left
                  · simp only [Act.put, List.setIfInBounds_toArray, List.set_cons_zero, List.set_cons_succ, i64_w, i32_w]
                    rfl
                  refine pure_ (i := 18) (N := some 38) (v := ?_) (a' := ?_) #[true, true, false, true, true, true, false, false, true, false, false, false, false, true, false, false, false, false, true, false, false, false, false, false, false, false, false, false] rfl rfl (any_of HT_.out (by kernel_rfl)) (fun _ _ _ h => h) (Or.inl ⟨by rfl, ?_⟩) ?_ ?_
                  rotate_left
                  · intro w'
                    go_simp
                    with_reducible rfl
                  rotate_left
                  · simp only [Act.put, List.setIfInBounds_toArray, List.set_cons_zero, List.set_cons_succ, i64_w, i32_w]
                    rfl
                  refine pure_ (i := 21) (N := some 41) (v := ?_) (a' := ?_) #[true, true, false, true, true, true, false, false, true, false, false, false, false, true, false, false, false, false, true, false, false, true, false, false, false, false, false, false] rfl rfl (any_of HT_.out (by kernel_rfl)) (fun _ _ _ h => h) (Or.inl ⟨by rfl, ?_⟩) ?_ ?_
                  rotate_left
                  · intro w'
                    go_simp
                    with_reducible rfl
                  rotate_left
                  · simp only [Act.put, List.setIfInBounds_toArray, List.set_cons_zero, List.set_cons_succ, i64_w, i32_w]
                    rfl
                  refine pure_ (i := 24) (N := some 44) (v := ?_) (a' := ?_) #[true, true, false, true, true, true, false, false, true, false, false, false, false, true, false, false, false, false, true, false, false, true, false, false, true, false, false, false] rfl rfl (any_of HT_.out (by kernel_rfl)) (fun _ _ _ h => h) (Or.inl ⟨by rfl, ?_⟩) ?_ ?_
                  rotate_left
                  · intro w'
                    go_simp
                    with_reducible rfl
                  rotate_left
                  · simp only [Act.put, List.setIfInBounds_toArray, List.set_cons_zero, List.set_cons_succ, i64_w, i32_w]
                    rfl
                  refine take_ (i := 9) (N := some 29) (v := ?_) (a' := ?_) #[true, true, false, true, true, true, false, false, true, true, false, false, false, true, false, false, false, false, true, false, false, true, false, false, true, false, false, false] rfl rfl (take_ofW HT_.out HW_.out (by kernel_rfl)) (fun _ _ _ h => h) (Or.inl ⟨by rfl, ?_⟩) hHeld ?_ ?_
                  rotate_left
                  · rintro w' ⟨s0, s1, s2, s3, s4, s5⟩
                    go_simp
                    with_reducible rfl
                  rotate_left
                  · simp only [Act.put, List.setIfInBounds_toArray, List.set_cons_zero, List.set_cons_succ, i64_w, i32_w]
                    rfl
                  refine pure_ (i := 10) (N := some 30) (v := ?_) (a' := ?_) #[true, true, false, true, true, true, false, false, true, true, true, false, false, true, false, false, false, false, true, false, false, true, false, false, true, false, false, false] rfl rfl (any_of HT_.out (by kernel_rfl)) (fun _ _ _ h => h) (Or.inl ⟨by rfl, ?_⟩) ?_ ?_
                  rotate_left
                  · intro w'
                    go_simp
                    with_reducible rfl
                  rotate_left
                  · simp only [Act.put, List.setIfInBounds_toArray, List.set_cons_zero, List.set_cons_succ, i64_w, i32_w]
                    rfl
                  refine take_ (i := 14) (N := some 34) (v := ?_) (a' := ?_) #[true, true, false, true, true, true, false, false, true, true, true, false, false, true, true, false, false, false, true, false, false, true, false, false, true, false, false, false] rfl rfl (take_ofW HT_.out HW_.out (by kernel_rfl)) (fun _ _ _ h => h) (Or.inl ⟨by rfl, ?_⟩) hHeld ?_ ?_
                  rotate_left
                  · rintro w' ⟨s0, s1, s2, s3, s4, s5⟩
                    go_simp
                    with_reducible rfl
                  rotate_left
                  · simp only [Act.put, List.setIfInBounds_toArray, List.set_cons_zero, List.set_cons_succ, i64_w, i32_w]
                    rfl
                  refine pure_ (i := 15) (N := some 35) (v := ?_) (a' := ?_) #[true, true, false, true, true, true, false, false, true, true, true, false, false, true, true, true, false, false, true, false, false, true, false, false, true, false, false, false] rfl rfl (any_of HT_.out (by kernel_rfl)) (fun _ _ _ h => h) (Or.inl ⟨by rfl, ?_⟩) ?_ ?_
                  rotate_left
                  · intro w'
                    go_simp
                    with_reducible rfl
                  rotate_left
                  · simp only [Act.put, List.setIfInBounds_toArray, List.set_cons_zero, List.set_cons_succ, i64_w, i32_w]
                    rfl
                  refine take_ (i := 19) (N := some 39) (v := ?_) (a' := ?_) #[true, true, false, true, true, true, false, false, true, true, true, false, false, true, true, true, false, false, true, true, false, true, false, false, true, false, false, false] rfl rfl (take_ofW HT_.out HW_.out (by kernel_rfl)) (fun _ _ _ h => h) (Or.inl ⟨by rfl, ?_⟩) hHeld ?_ ?_
                  rotate_left
                  · rintro w' ⟨s0, s1, s2, s3, s4, s5⟩
                    go_simp
                    with_reducible rfl
                  rotate_left
                  · simp only [Act.put, List.setIfInBounds_toArray, List.set_cons_zero, List.set_cons_succ, i64_w, i32_w]
                    rfl
                  refine take_ (i := 22) (N := some 42) (v := ?_) (a' := ?_) #[true, true, false, true, true, true, false, false, true, true, true, false, false, true, true, true, false, false, true, true, false, true, true, false, true, false, false, false] rfl rfl (take_ofW HT_.out HW_.out (by kernel_rfl)) (fun _ _ _ h => h) (Or.inl ⟨by rfl, ?_⟩) hHeld ?_ ?_
                  rotate_left
                  · rintro w' ⟨s0, s1, s2, s3, s4, s5⟩
                    go_simp
                    with_reducible rfl
                  rotate_left
                  · simp only [Act.put, List.setIfInBounds_toArray, List.set_cons_zero, List.set_cons_succ, i64_w, i32_w]
                    rfl
                  refine one_ (i := 2) (N := some 22) #[true, true, true, true, true, true, false, false, true, true, true, false, false, true, true, true, false, false, true, true, false, true, true, false, true, false, false, false] rfl rfl (one_of HT_.out (by kernel_rfl)) (by decide) (fun K hK => ?_)
                  refine goes_ Try.func124 (by kernel_rfl) rfl #[.int .u64 (IntKind.u64.wrap (wrap64 ((wrap64 ((wrap64 (1536 + a0_0)) * 1048576)) + a0_1))), .int .i64 4] (by rfl) rfl rfl (by (try simp only [List.map_toArray, List.map_cons, List.map_nil]); first | done | rfl | (simp only [List.length_drop, List.length_take]; rfl)) ?_
                  with_reducible refine (palanquinref01_Bytes.calls k (IntKind.u64.wrap (wrap64 ((wrap64 ((wrap64 (1536 + a0_0)) * 1048576)) + a0_1))) 4 t545 _ A9.out).mono ?_
                  rintro e w24 ⟨rfl, hb⟩
                  refine ⟨_, rfl, ?_⟩
                  have n0_ := Aside0.mk (blk_below (g := gb543) (o := .cells #[.int .i64 a0_0, .int .i64 a0_1, .int .i64 a0_2, .int .i64 a0_3, .string a0_4, .string a0_5] 114 (0, 0)) (by (with_reducible repeat (first | refine blk_drewN ?_ _ | refine blk_drew ?_ | refine blk_alloc ?_ _)); exact BK543.out) hb)
                  have n1_ := Aside0.mk (below_step (by repeat (first | (with_reducible first | exact HB.out | apply below_alloc | apply pw_below_drewN | apply below_drew1 | refine below_set ?_ GE543.out) | exact HB.out)) hb)
                  clear BK543
                  clear HB
                  have BK543 := n0_
                  have HB := n1_
                  clear n0_ n1_
                  (try clear hb)
                  (try clear hb2)
                  (try clear hk)
                  (try clear hi)
                  refine hK.out _ _ ⟨(blk_cell BK543.out 0).trans rfl, (blk_cell BK543.out 1).trans rfl, (blk_cell BK543.out 2).trans rfl, (blk_cell BK543.out 3).trans rfl, (blk_cell BK543.out 4).trans rfl, (blk_cell BK543.out 5).trans rfl⟩ (fun hHeld => ?_)
                  clear hK K
                  refine norm_ (a' := ?_) ?_ ?_
                  rotate_left
                  · show Act.put _ (some 22) _ = _
                    simp only [Act.put, List.setIfInBounds_toArray, List.set_cons_zero, List.set_cons_succ, i64_w, i32_w]
                    rfl
                  refine one_ (i := 6) (N := some 26) #[true, true, true, true, true, true, true, false, true, true, true, false, false, true, true, true, false, false, true, true, false, true, true, false, true, false, false, false] rfl rfl (one_of HT_.out (by kernel_rfl)) (by decide) (fun K hK => ?_)
                  refine goes_ Try.func124 (by kernel_rfl) rfl #[.int .u64 (IntKind.u64.wrap ((a1.size : Int))), .int .i64 2] (by rfl) rfl rfl (by (try simp only [List.map_toArray, List.map_cons, List.map_nil]); first | done | rfl | (simp only [List.length_drop, List.length_take]; rfl)) ?_
                  with_reducible refine (palanquinref01_Bytes.calls k (IntKind.u64.wrap ((a1.size : Int))) 2 t546 _ A10.out).mono ?_
                  rintro e w25 ⟨rfl, hb⟩
                  refine ⟨_, rfl, ?_⟩
                  have n0_ := Aside0.mk (blk_below (g := gb543) (o := .cells #[.int .i64 a0_0, .int .i64 a0_1, .int .i64 a0_2, .int .i64 a0_3, .string a0_4, .string a0_5] 114 (0, 0)) (by (with_reducible repeat (first | refine blk_drewN ?_ _ | refine blk_drew ?_ | refine blk_alloc ?_ _)); exact BK543.out) hb)
                  have n1_ := Aside0.mk (below_step (by repeat (first | (with_reducible first | exact HB.out | apply below_alloc | apply pw_below_drewN | apply below_drew1 | refine below_set ?_ GE543.out) | exact HB.out)) hb)
                  clear BK543
                  clear HB
                  have BK543 := n0_
                  have HB := n1_
                  clear n0_ n1_
                  (try clear hb)
                  (try clear hb2)
                  (try clear hk)
                  (try clear hi)
                  refine hK.out _ _ ⟨(blk_cell BK543.out 0).trans rfl, (blk_cell BK543.out 1).trans rfl, (blk_cell BK543.out 2).trans rfl, (blk_cell BK543.out 3).trans rfl, (blk_cell BK543.out 4).trans rfl, (blk_cell BK543.out 5).trans rfl⟩ (fun hHeld => ?_)
                  clear hK K
                  refine norm_ (a' := ?_) ?_ ?_
                  rotate_left
                  · show Act.put _ (some 26) _ = _
                    simp only [Act.put, List.setIfInBounds_toArray, List.set_cons_zero, List.set_cons_succ, i64_w, i32_w]
                    rfl
                  refine pure_ (i := 7) (N := some 27) (v := ?_) (a' := ?_) #[true, true, true, true, true, true, true, true, true, true, true, false, false, true, true, true, false, false, true, true, false, true, true, false, true, false, false, false] rfl rfl (any_of HT_.out (by kernel_rfl)) (fun _ _ _ h => h) (Or.inl ⟨by rfl, ?_⟩) ?_ ?_
                  rotate_left
                  · intro w'
                    go_simp
                    with_reducible rfl
                  rotate_left
                  · simp only [Act.put, List.setIfInBounds_toArray, List.set_cons_zero, List.set_cons_succ, i64_w, i32_w]
                    rfl
                  refine one_ (i := 11) (N := some 31) #[true, true, true, true, true, true, true, true, true, true, true, true, false, true, true, true, false, false, true, true, false, true, true, false, true, false, false, false] rfl rfl (one_of HT_.out (by kernel_rfl)) (by decide) (fun K hK => ?_)
                  refine goes_ Try.func124 (by kernel_rfl) rfl #[.int .u64 (IntKind.u64.wrap (a0_2)), .int .i64 1] (by rfl) rfl rfl (by (try simp only [List.map_toArray, List.map_cons, List.map_nil]); first | done | rfl | (simp only [List.length_drop, List.length_take]; rfl)) ?_
                  with_reducible refine (palanquinref01_Bytes.calls k (IntKind.u64.wrap (a0_2)) 1 t547 _ A12.out).mono ?_
                  rintro e w26 ⟨rfl, hb⟩
                  refine ⟨_, rfl, ?_⟩
                  have n0_ := Aside0.mk (blk_below (g := gb543) (o := .cells #[.int .i64 a0_0, .int .i64 a0_1, .int .i64 a0_2, .int .i64 a0_3, .string a0_4, .string a0_5] 114 (0, 0)) (by (with_reducible repeat (first | refine blk_drewN ?_ _ | refine blk_drew ?_ | refine blk_alloc ?_ _)); exact BK543.out) hb)
                  have n1_ := Aside0.mk (below_step (by repeat (first | (with_reducible first | exact HB.out | apply below_alloc | apply pw_below_drewN | apply below_drew1 | refine below_set ?_ GE543.out) | exact HB.out)) hb)
                  clear BK543
                  clear HB
                  have BK543 := n0_
                  have HB := n1_
                  clear n0_ n1_
                  (try clear hb)
                  (try clear hb2)
                  (try clear hk)
                  (try clear hi)
                  refine hK.out _ _ ⟨(blk_cell BK543.out 0).trans rfl, (blk_cell BK543.out 1).trans rfl, (blk_cell BK543.out 2).trans rfl, (blk_cell BK543.out 3).trans rfl, (blk_cell BK543.out 4).trans rfl, (blk_cell BK543.out 5).trans rfl⟩ (fun hHeld => ?_)
                  clear hK K
                  refine norm_ (a' := ?_) ?_ ?_
                  rotate_left
                  · show Act.put _ (some 31) _ = _
                    simp only [Act.put, List.setIfInBounds_toArray, List.set_cons_zero, List.set_cons_succ, i64_w, i32_w]
                    rfl
                  refine pure_ (i := 12) (N := some 32) (v := ?_) (a' := ?_) #[true, true, true, true, true, true, true, true, true, true, true, true, true, true, true, true, false, false, true, true, false, true, true, false, true, false, false, false] rfl rfl (any_of HT_.out (by kernel_rfl)) (fun _ _ _ h => h) (Or.inl ⟨by rfl, ?_⟩) ?_ ?_
                  rotate_left
                  · intro w'
                    go_simp
                    with_reducible rfl
                  rotate_left
                  · simp only [Act.put, List.setIfInBounds_toArray, List.set_cons_zero, List.set_cons_succ, i64_w, i32_w]
                    rfl
                  refine one_ (i := 16) (N := some 36) #[true, true, true, true, true, true, true, true, true, true, true, true, true, true, true, true, true, false, true, true, false, true, true, false, true, false, false, false] rfl rfl (one_of HT_.out (by kernel_rfl)) (by decide) (fun K hK => ?_)
                  refine goes_ Try.func124 (by kernel_rfl) rfl #[.int .u64 (IntKind.u64.wrap (a0_3)), .int .i64 1] (by rfl) rfl rfl (by (try simp only [List.map_toArray, List.map_cons, List.map_nil]); first | done | rfl | (simp only [List.length_drop, List.length_take]; rfl)) ?_
                  with_reducible refine (palanquinref01_Bytes.calls k (IntKind.u64.wrap (a0_3)) 1 t548 _ A14.out).mono ?_
                  rintro e w27 ⟨rfl, hb⟩
                  refine ⟨_, rfl, ?_⟩
                  have n0_ := Aside0.mk (blk_below (g := gb543) (o := .cells #[.int .i64 a0_0, .int .i64 a0_1, .int .i64 a0_2, .int .i64 a0_3, .string a0_4, .string a0_5] 114 (0, 0)) (by (with_reducible repeat (first | refine blk_drewN ?_ _ | refine blk_drew ?_ | refine blk_alloc ?_ _)); exact BK543.out) hb)
                  have n1_ := Aside0.mk (below_step (by repeat (first | (with_reducible first | exact HB.out | apply below_alloc | apply pw_below_drewN | apply below_drew1 | refine below_set ?_ GE543.out) | exact HB.out)) hb)
                  clear BK543
                  clear HB
                  have BK543 := n0_
                  have HB := n1_
                  clear n0_ n1_
                  (try clear hb)
                  (try clear hb2)
                  (try clear hk)
                  (try clear hi)
                  refine hK.out _ _ ⟨(blk_cell BK543.out 0).trans rfl, (blk_cell BK543.out 1).trans rfl, (blk_cell BK543.out 2).trans rfl, (blk_cell BK543.out 3).trans rfl, (blk_cell BK543.out 4).trans rfl, (blk_cell BK543.out 5).trans rfl⟩ (fun hHeld => ?_)
                  clear hK K
                  refine norm_ (a' := ?_) ?_ ?_
                  rotate_left
                  · show Act.put _ (some 36) _ = _
                    simp only [Act.put, List.setIfInBounds_toArray, List.set_cons_zero, List.set_cons_succ, i64_w, i32_w]
                    rfl
                  refine pure_ (i := 17) (N := some 37) (v := ?_) (a' := ?_) #[true, true, true, true, true, true, true, true, true, true, true, true, true, true, true, true, true, true, true, true, false, true, true, false, true, false, false, false] rfl rfl (any_of HT_.out (by kernel_rfl)) (fun _ _ _ h => h) (Or.inl ⟨by rfl, ?_⟩) ?_ ?_
                  rotate_left
                  · intro w'
                    go_simp
                    with_reducible rfl
                  rotate_left
                  · simp only [Act.put, List.setIfInBounds_toArray, List.set_cons_zero, List.set_cons_succ, i64_w, i32_w]
                    rfl
                  refine pure_ (i := 20) (N := some 40) (v := ?_) (a' := ?_) #[true, true, true, true, true, true, true, true, true, true, true, true, true, true, true, true, true, true, true, true, true, true, true, false, true, false, false, false] rfl rfl (any_of HT_.out (by kernel_rfl)) (fun _ _ _ h => h) (Or.inl ⟨by rfl, ?_⟩) ?_ ?_
                  rotate_left
                  · intro w'
                    go_simp
                    with_reducible rfl
                  rotate_left
                  · simp only [Act.put, List.setIfInBounds_toArray, List.set_cons_zero, List.set_cons_succ, i64_w, i32_w]
                    rfl
                  refine pure_ (i := 23) (N := some 43) (v := ?_) (a' := ?_) #[true, true, true, true, true, true, true, true, true, true, true, true, true, true, true, true, true, true, true, true, true, true, true, true, true, false, false, false] rfl rfl (any_of HT_.out (by kernel_rfl)) (fun _ _ _ h => h) (Or.inl ⟨by rfl, ?_⟩) ?_ ?_
                  rotate_left
                  · intro w'
                    go_simp
                    with_reducible rfl
                  rotate_left
                  · simp only [Act.put, List.setIfInBounds_toArray, List.set_cons_zero, List.set_cons_succ, i64_w, i32_w]
                    rfl
                  refine pure_ (i := 25) (N := some 45) (v := ?_) (a' := ?_) #[true, true, true, true, true, true, true, true, true, true, true, true, true, true, true, true, true, true, true, true, true, true, true, true, true, true, false, false] rfl rfl (any_of HT_.out (by kernel_rfl)) (fun _ _ _ h => h) (Or.inl ⟨by rfl, ?_⟩) ?_ ?_
                  rotate_left
                  · intro w'
                    go_simp
                    with_reducible rfl
                  rotate_left
                  · simp only [Act.put, List.setIfInBounds_toArray, List.set_cons_zero, List.set_cons_succ, i64_w, i32_w]
                    rfl
                  refine pure_ (i := 26) (N := some 4) (v := ?_) (a' := ?_) #[true, true, true, true, true, true, true, true, true, true, true, true, true, true, true, true, true, true, true, true, true, true, true, true, true, true, true, false] rfl rfl (any_of HT_.out (by kernel_rfl)) (fun _ _ _ h => h) (Or.inl ⟨by rfl, ?_⟩) ?_ ?_
                  rotate_left
                  · intro w'
                    go_simp
                    with_reducible rfl
                  rotate_left
                  · simp only [Act.put, List.setIfInBounds_toArray, List.set_cons_zero, List.set_cons_succ, i64_w, i32_w]
                    rfl
                  refine pure_ (i := 27) (N := some 5) (v := ?_) (a' := ?_) #[true, true, true, true, true, true, true, true, true, true, true, true, true, true, true, true, true, true, true, true, true, true, true, true, true, true, true, true] rfl rfl (any_of HT_.out (by kernel_rfl)) (fun _ _ _ h => h) (Or.inl ⟨by rfl, ?_⟩) ?_ ?_
                  rotate_left
                  · intro w'
                    go_simp
                    with_reducible rfl
                  rotate_left
                  · simp only [Act.put, List.setIfInBounds_toArray, List.set_cons_zero, List.set_cons_succ, i64_w, i32_w]
                    rfl
                  refine done_ (done_of HT_.out (by kernel_rfl)) ?_
                  try go_wp2
                  go_ret2
                  exact ⟨by first | rfl | (simp [errW_none, errW_some] <;> rfl) | (simp [*, errW_none, errW_some] <;> rfl), by repeat (first | (with_reducible first | exact HB.out | apply below_alloc | apply pw_below_drewN | apply below_drew1 | refine below_set ?_ GE543.out) | exact HB.out)⟩
                · rw [if_neg c18] at H
                  exact absurd H (by simp)
              · rw [if_neg c17] at H
                exact absurd H (by simp)
            · rw [if_neg c16] at H
              exact absurd H (by simp)
          · rw [if_neg c15] at H
            exact absurd H (by simp)
        · rw [if_neg c13] at H
          exact absurd H (by simp)
      · rw [if_neg c11] at H
        exact absurd H (by simp)
  · replace c4 := Bool.eq_false_iff.mpr c4
    subst c4
    have H1 : (some ((⟨#[]⟩ : ByteArray), 1)) = some (r1, r2) := by rw [if_neg (show ¬ (false = true) by decide)] at H; exact H
    clear H
    have H := H1
    clear H1
    simp only [Option.some.injEq, Prod.mk.injEq] at H
    obtain ⟨rfl, rfl⟩ := H
    go_enter Try.func99, Try.ntmps99
    go_wp2_with (first | ((with_reducible refine gate_dst (N := 2) rfl ?_); refine box_event ?hg (N := 2) ?hd (cs := #[.int .i64 a0_0, .int .i64 a0_1, .int .i64 a0_2, .int .i64 a0_3, .string a0_4, .string a0_5]) (t := 114) ?hr ?_; (case hd => rfl); (case hg => rfl); (case hr => first | (go_simp; done) | (go_simp; rfl)); intro gb543 hg w28 hbox hb; have n0_ := Aside0.mk (below_step (by repeat (first | (with_reducible first | exact HB.out | apply below_alloc | apply pw_below_drewN | apply below_drew1) | exact HB.out)) hb); have n1_ := Aside0.mk (hbox); have n2_ := Aside0.mk ((by rw [hg]; exact (below_size (by repeat (first | (with_reducible first | exact HB.out | apply below_alloc | apply pw_below_drewN | apply below_drew1) | exact HB.out))) : w.heap.size ≤ gb543)); have n3_ := Aside0.mk ((by rw [hg]; exact (below_size (by repeat (first | (with_reducible first | exact HB.out | apply below_alloc | apply pw_below_drewN | apply below_drew1) | exact HB.out))) : w.heap.size ≤ gb543)); clear HB; have HB := n0_; have BK543 := n1_; have GW543 := n2_; have GE543 := n3_; clear n0_ n1_ n2_ n3_; clear hb hbox hg; have hcz29_0 : w28.cell? ⟨gb543, 0, none⟩ = some (.int .i64 a0_0) := (blk_cell BK543.out 0).trans rfl; have hcz29_1 : w28.cell? ⟨gb543, 1, none⟩ = some (.int .i64 a0_1) := (blk_cell BK543.out 1).trans rfl; have hcz29_2 : w28.cell? ⟨gb543, 2, none⟩ = some (.int .i64 a0_2) := (blk_cell BK543.out 2).trans rfl; have hcz29_3 : w28.cell? ⟨gb543, 3, none⟩ = some (.int .i64 a0_3) := (blk_cell BK543.out 3).trans rfl; have hcz29_4 : w28.cell? ⟨gb543, 4, none⟩ = some (.string a0_4) := (blk_cell BK543.out 4).trans rfl; have hcz29_5 : w28.cell? ⟨gb543, 5, none⟩ = some (.string a0_5) := (blk_cell BK543.out 5).trans rfl; have hfz29_0 := blk_frozen BK543.out 0; have hfz29_1 := blk_frozen BK543.out 1; have hfz29_2 := blk_frozen BK543.out 2; have hfz29_3 := blk_frozen BK543.out 3; have hfz29_4 := blk_frozen BK543.out 4; have hfz29_5 := blk_frozen BK543.out 5) | ((with_reducible refine gate_callee (f := 103) rfl ?_); refine goesL_ (some 8) rfl rfl Try.func103 (by kernel_rfl) rfl #[.agg #[.int .i64 a0_0, .int .i64 a0_1, .int .i64 a0_2, .int .i64 a0_3, .string a0_4, .string a0_5]] rfl (by (try simp only [List.map_toArray, List.map_cons, List.map_nil]); first | done | rfl | (simp only [List.length_drop, List.length_take]; rfl)) ?_; (with_reducible refine (palanquinref06_Right.calls a0_0 a0_1 a0_2 a0_3 a0_4 a0_5 false _ A3.out).mono ?_); rintro e w30 ⟨rfl, hb⟩; refine ⟨_, rfl, ?_⟩; have n0_ := Aside0.mk (blk_below (g := gb543) (o := .cells #[.int .i64 a0_0, .int .i64 a0_1, .int .i64 a0_2, .int .i64 a0_3, .string a0_4, .string a0_5] 114 (0, 0)) (by (with_reducible repeat (first | refine blk_drewN ?_ _ | refine blk_drew ?_ | refine blk_alloc ?_ _)); exact BK543.out) hb); have n1_ := Aside0.mk (below_step (by repeat (first | (with_reducible first | exact HB.out | apply below_alloc | apply pw_below_drewN | apply below_drew1 | refine below_set ?_ GE543.out) | exact HB.out)) hb); clear BK543; clear HB; have BK543 := n0_; have HB := n1_; clear n0_ n1_; (try clear hb); (try clear hb2); (try clear hk); (try clear hi)))
    go_ret2
    exact ⟨by first | rfl | (simp [errW_none, errW_some] <;> rfl) | (simp [*, errW_none, errW_some] <;> rfl), by repeat (first | (with_reducible first | exact HB.out | apply below_alloc | apply pw_below_drewN | apply below_drew1 | refine below_set ?_ GE543.out) | exact HB.out)⟩

end Go.Proofs.Ytejmipoolbodgaa.G
