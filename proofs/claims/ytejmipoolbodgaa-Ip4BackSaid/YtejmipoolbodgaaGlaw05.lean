-- Laid by a program of this session (wip/gen/gprint.py) over the translation's print. Lean checks it.
import Derived.Test.YtejmipoolbodgaaG0
import Derived.Test.YtejmipoolbodgaaGip4
import Derived.Test.YtejmipoolbodgaaHIp4
namespace Go.Proofs.Ytejmipoolbodgaa.G
open Go.RowKit Go.Proofs.YtejmipoolbodgaaW.PrintWords Go.Proofs.YtejmipoolbodgaaW.PrintLast Go.Proofs.YtejmipoolbodgaaW.PrintMore
attribute [local go_sem] max2_int min2_int max_two min_two max_three min_three max_four min_four   -- for this text's walks alone
set_option linter.unusedVariables false
set_option linter.unusedSimpArgs false

/-! ### palanquinlaw05_awake: function 83 -/
def palanquinlaw05_awake.f  : Option (Bool) := (ip4_Put.f 0 0 0 0 0 false false (⟨#[97, 98, 99, 100]⟩ : ByteArray) (⟨#[101, 102, 103, 104]⟩ : ByteArray) (⟨#[]⟩ : ByteArray) (⟨#[]⟩ : ByteArray)).bind fun bt405 => (if (bt405.1.size : Int) = 20 then (if bt405.2 = 0 then ((ip4_Check.f 0 0 0 0 0 false false (⟨#[]⟩ : ByteArray) (⟨#[]⟩ : ByteArray) (⟨#[]⟩ : ByteArray)).bind fun t407 => (some (t407 == 1))) else (some false)) else (some false))
set_option maxHeartbeats 8000000 in
set_option maxRecDepth 100000 in
theorem palanquinlaw05_awake.calls  (r : Bool) (w : World) (h : palanquinlaw05_awake.f  = some r) :
    Calls Try.prog 83 #[] w fun e w' => e = .returned (.bool r) ∧ Below w.heap.size w w' := by
  have hu93 := Try.underlying93
  have HB := Aside0.mk (Below.refl w.heap.size w)
  have H : ((ip4_Put.f 0 0 0 0 0 false false (⟨#[97, 98, 99, 100]⟩ : ByteArray) (⟨#[101, 102, 103, 104]⟩ : ByteArray) (⟨#[]⟩ : ByteArray) (⟨#[]⟩ : ByteArray)).bind fun bt405 => (if (bt405.1.size : Int) = 20 then (if bt405.2 = 0 then ((ip4_Check.f 0 0 0 0 0 false false (⟨#[]⟩ : ByteArray) (⟨#[]⟩ : ByteArray) (⟨#[]⟩ : ByteArray)).bind fun t407 => (some (t407 == 1))) else (some false)) else (some false))) = some r := h
  clear h
  replace H := Option.bind_eq_some_iff.mp H
  obtain ⟨⟨t405, t406⟩, A10, H⟩ := H
  replace H : (if (t405.size : Int) = 20 then (if t406 = 0 then ((ip4_Check.f 0 0 0 0 0 false false (⟨#[]⟩ : ByteArray) (⟨#[]⟩ : ByteArray) (⟨#[]⟩ : ByteArray)).bind fun t407 => (some (t407 == 1))) else (some false)) else (some false)) = some r := H
  have A1 := Aside0.mk A10
  clear A10
  by_cases c2 : (t405.size : Int) = 20
  · rw [if_pos c2] at H
    have c2b0 : ((t405.size : Int) == 20) = true := beq_iff_eq.mpr c2
    have c2b1 : ((t405.size : Int) != 20) = false := bne_eq_false_iff_eq.mpr c2
    clear c2
    by_cases c3 : t406 = 0
    · rw [if_pos c3] at H
      have c3b0 : (t406 == 0) = true := beq_iff_eq.mpr c3
      have c3b1 : (t406 != 0) = false := bne_eq_false_iff_eq.mpr c3
      clear c3
      replace H := Option.bind_eq_some_iff.mp H
      obtain ⟨t407, A40, H⟩ := H
      replace H : (some (t407 == 1)) = some r := H
      have A4 := Aside0.mk A40
      clear A40
      obtain rfl := Option.some.inj H
      go_enter Try.func83, Try.ntmps83
      go_wp2_with (first | ((with_reducible refine gate_callee (f := 85) rfl ?_); refine goesL_ (some 5) rfl rfl Try.func85 (by kernel_rfl) rfl #[.agg #[.int .i64 0, .int .i64 0, .int .i64 0, .int .i64 0, .int .i64 0, .bool false, .bool false, .string (⟨#[97, 98, 99, 100]⟩ : ByteArray), .string (⟨#[101, 102, 103, 104]⟩ : ByteArray), .string (⟨#[]⟩ : ByteArray)], .string (⟨#[]⟩ : ByteArray)] rfl (by (try simp only [List.map_toArray, List.map_cons, List.map_nil]); first | done | rfl | (simp only [List.length_drop, List.length_take]; rfl)) ?_; (with_reducible refine (ip4_Put.calls 0 0 0 0 0 false false (⟨#[97, 98, 99, 100]⟩ : ByteArray) (⟨#[101, 102, 103, 104]⟩ : ByteArray) (⟨#[]⟩ : ByteArray) (⟨#[]⟩ : ByteArray) t405 t406 _ A1.out).mono ?_); rintro e w5 ⟨rfl, hb⟩; refine ⟨_, rfl, ?_⟩; have n0_ := Aside0.mk (below_step (by repeat (first | (with_reducible first | exact HB.out | apply below_alloc | apply pw_below_drewN | apply below_drew1) | exact HB.out)) hb); clear HB; have HB := n0_; clear n0_; (try clear hb); (try clear hb2); (try clear hk); (try clear hi)) | (go_at_call 87; (with_reducible refine (ip4_Check.calls 0 0 0 0 0 false false (⟨#[]⟩ : ByteArray) (⟨#[]⟩ : ByteArray) (⟨#[]⟩ : ByteArray) t407 _ A4.out).mono ?_); rintro e w6 ⟨rfl, hb⟩; have n0_ := Aside0.mk (below_step (by repeat (first | (with_reducible first | exact HB.out | apply below_alloc | apply pw_below_drewN | apply below_drew1) | exact HB.out)) hb); clear HB; have HB := n0_; clear n0_; (try clear hb); (try clear hb2); (try clear hk); (try clear hi)))
      go_ret
      exact ⟨by first | rfl | (simp [errW_none, errW_some] <;> rfl) | (simp [*, errW_none, errW_some] <;> rfl), by repeat (first | (with_reducible first | exact HB.out | apply below_alloc | apply pw_below_drewN | apply below_drew1) | exact HB.out)⟩
    · rw [if_neg c3] at H
      have c3b0 : (t406 == 0) = false := beq_eq_false_iff_ne.mpr c3
      have c3b1 : (t406 != 0) = true := bne_iff_ne.mpr c3
      obtain rfl := Option.some.inj H
      go_enter Try.func83, Try.ntmps83
      go_wp2_with (first | ((with_reducible refine gate_callee (f := 85) rfl ?_); refine goesL_ (some 5) rfl rfl Try.func85 (by kernel_rfl) rfl #[.agg #[.int .i64 0, .int .i64 0, .int .i64 0, .int .i64 0, .int .i64 0, .bool false, .bool false, .string (⟨#[97, 98, 99, 100]⟩ : ByteArray), .string (⟨#[101, 102, 103, 104]⟩ : ByteArray), .string (⟨#[]⟩ : ByteArray)], .string (⟨#[]⟩ : ByteArray)] rfl (by (try simp only [List.map_toArray, List.map_cons, List.map_nil]); first | done | rfl | (simp only [List.length_drop, List.length_take]; rfl)) ?_; (with_reducible refine (ip4_Put.calls 0 0 0 0 0 false false (⟨#[97, 98, 99, 100]⟩ : ByteArray) (⟨#[101, 102, 103, 104]⟩ : ByteArray) (⟨#[]⟩ : ByteArray) (⟨#[]⟩ : ByteArray) t405 t406 _ A1.out).mono ?_); rintro e w7 ⟨rfl, hb⟩; refine ⟨_, rfl, ?_⟩; have n0_ := Aside0.mk (below_step (by repeat (first | (with_reducible first | exact HB.out | apply below_alloc | apply pw_below_drewN | apply below_drew1) | exact HB.out)) hb); clear HB; have HB := n0_; clear n0_; (try clear hb); (try clear hb2); (try clear hk); (try clear hi)))
      go_ret
      exact ⟨by first | rfl | (simp [errW_none, errW_some] <;> rfl) | (simp [*, errW_none, errW_some] <;> rfl), by repeat (first | (with_reducible first | exact HB.out | apply below_alloc | apply pw_below_drewN | apply below_drew1) | exact HB.out)⟩
  · rw [if_neg c2] at H
    have c2b0 : ((t405.size : Int) == 20) = false := beq_eq_false_iff_ne.mpr c2
    have c2b1 : ((t405.size : Int) != 20) = true := bne_iff_ne.mpr c2
    obtain rfl := Option.some.inj H
    go_enter Try.func83, Try.ntmps83
    go_wp2_with (first | ((with_reducible refine gate_callee (f := 85) rfl ?_); refine goesL_ (some 5) rfl rfl Try.func85 (by kernel_rfl) rfl #[.agg #[.int .i64 0, .int .i64 0, .int .i64 0, .int .i64 0, .int .i64 0, .bool false, .bool false, .string (⟨#[97, 98, 99, 100]⟩ : ByteArray), .string (⟨#[101, 102, 103, 104]⟩ : ByteArray), .string (⟨#[]⟩ : ByteArray)], .string (⟨#[]⟩ : ByteArray)] rfl (by (try simp only [List.map_toArray, List.map_cons, List.map_nil]); first | done | rfl | (simp only [List.length_drop, List.length_take]; rfl)) ?_; (with_reducible refine (ip4_Put.calls 0 0 0 0 0 false false (⟨#[97, 98, 99, 100]⟩ : ByteArray) (⟨#[101, 102, 103, 104]⟩ : ByteArray) (⟨#[]⟩ : ByteArray) (⟨#[]⟩ : ByteArray) t405 t406 _ A1.out).mono ?_); rintro e w8 ⟨rfl, hb⟩; refine ⟨_, rfl, ?_⟩; have n0_ := Aside0.mk (below_step (by repeat (first | (with_reducible first | exact HB.out | apply below_alloc | apply pw_below_drewN | apply below_drew1) | exact HB.out)) hb); clear HB; have HB := n0_; clear n0_; (try clear hb); (try clear hb2); (try clear hk); (try clear hi)))
    go_ret
    exact ⟨by first | rfl | (simp [errW_none, errW_some] <;> rfl) | (simp [*, errW_none, errW_some] <;> rfl), by repeat (first | (with_reducible first | exact HB.out | apply below_alloc | apply pw_below_drewN | apply below_drew1) | exact HB.out)⟩

/-! ### palanquinlaw05_few: function 84 -/
def palanquinlaw05_few.f (a0_0 : Int) (a0_1 : Int) (a0_2 : Int) (a0_3 : Int) (a0_4 : Int) (a0_5 : Bool) (a0_6 : Bool) (a0_7 : ByteArray) (a0_8 : ByteArray) (a0_9 : ByteArray) : Option (Bool) := if (a0_7.size : Int) ≤ 300 then (if (a0_8.size : Int) ≤ 300 then (some (decide ((a0_9.size : Int) ≤ 300))) else (some false)) else (some false)
set_option maxHeartbeats 8000000 in
set_option maxRecDepth 100000 in
theorem palanquinlaw05_few.calls (a0_0 : Int) (a0_1 : Int) (a0_2 : Int) (a0_3 : Int) (a0_4 : Int) (a0_5 : Bool) (a0_6 : Bool) (a0_7 : ByteArray) (a0_8 : ByteArray) (a0_9 : ByteArray) (r : Bool) (w : World) (h : palanquinlaw05_few.f a0_0 a0_1 a0_2 a0_3 a0_4 a0_5 a0_6 a0_7 a0_8 a0_9 = some r) :
    Calls Try.prog 84 #[.agg #[.int .i64 a0_0, .int .i64 a0_1, .int .i64 a0_2, .int .i64 a0_3, .int .i64 a0_4, .bool a0_5, .bool a0_6, .string a0_7, .string a0_8, .string a0_9]] w fun e w' => e = .returned (.bool r) ∧ Below w.heap.size w w' := by
  have hu93 := Try.underlying93
  have HB := Aside0.mk (Below.refl w.heap.size w)
  have H : (if (a0_7.size : Int) ≤ 300 then (if (a0_8.size : Int) ≤ 300 then (some (decide ((a0_9.size : Int) ≤ 300))) else (some false)) else (some false)) = some r := h
  clear h
  by_cases c2 : (a0_7.size : Int) ≤ 300
  · rw [if_pos c2] at H
    have c2b0 : decide ((a0_7.size : Int) ≤ 300) = true := decide_eq_true c2
    have c2b1 : decide (a0_7.size ≤ 300) = true := decide_eq_true (by omega)
    clear c2
    by_cases c3 : (a0_8.size : Int) ≤ 300
    · rw [if_pos c3] at H
      have c3b0 : decide ((a0_8.size : Int) ≤ 300) = true := decide_eq_true c3
      have c3b1 : decide (a0_8.size ≤ 300) = true := decide_eq_true (by omega)
      clear c3
      obtain rfl := Option.some.inj H
      go_enter Try.func84, Try.ntmps84
      go_wp2_with (first | ((with_reducible refine gate_dst (N := 1) rfl ?_); (try (refine gate_guard (by rfl) ?_; dsimp only)); refine box_event ?hg (N := 1) ?hd (cs := #[.int .i64 a0_0, .int .i64 a0_1, .int .i64 a0_2, .int .i64 a0_3, .int .i64 a0_4, .bool a0_5, .bool a0_6, .string a0_7, .string a0_8, .string a0_9]) (t := 93) ?hr ?_; (case hd => rfl); (case hg => rfl); (case hr => first | (go_simp; done) | (go_simp; rfl)); intro gb408 hg w4 hbox hb; have n0_ := Aside0.mk (below_step (by repeat (first | (with_reducible first | exact HB.out | apply below_alloc | apply pw_below_drewN | apply below_drew1) | exact HB.out)) hb); have n1_ := Aside0.mk (hbox); have n2_ := Aside0.mk ((by rw [hg]; exact (below_size (by repeat (first | (with_reducible first | exact HB.out | apply below_alloc | apply pw_below_drewN | apply below_drew1) | exact HB.out))) : w.heap.size ≤ gb408)); have n3_ := Aside0.mk ((by rw [hg]; exact (below_size (by repeat (first | (with_reducible first | exact HB.out | apply below_alloc | apply pw_below_drewN | apply below_drew1) | exact HB.out))) : w.heap.size ≤ gb408)); clear HB; have HB := n0_; have BK408 := n1_; have GW408 := n2_; have GE408 := n3_; clear n0_ n1_ n2_ n3_; clear hb hbox hg; have hcz5_0 : w4.cell? ⟨gb408, 0, none⟩ = some (.int .i64 a0_0) := (blk_cell BK408.out 0).trans rfl; have hcz5_1 : w4.cell? ⟨gb408, 1, none⟩ = some (.int .i64 a0_1) := (blk_cell BK408.out 1).trans rfl; have hcz5_2 : w4.cell? ⟨gb408, 2, none⟩ = some (.int .i64 a0_2) := (blk_cell BK408.out 2).trans rfl; have hcz5_3 : w4.cell? ⟨gb408, 3, none⟩ = some (.int .i64 a0_3) := (blk_cell BK408.out 3).trans rfl; have hcz5_4 : w4.cell? ⟨gb408, 4, none⟩ = some (.int .i64 a0_4) := (blk_cell BK408.out 4).trans rfl; have hcz5_5 : w4.cell? ⟨gb408, 5, none⟩ = some (.bool a0_5) := (blk_cell BK408.out 5).trans rfl; have hcz5_6 : w4.cell? ⟨gb408, 6, none⟩ = some (.bool a0_6) := (blk_cell BK408.out 6).trans rfl; have hcz5_7 : w4.cell? ⟨gb408, 7, none⟩ = some (.string a0_7) := (blk_cell BK408.out 7).trans rfl; have hcz5_8 : w4.cell? ⟨gb408, 8, none⟩ = some (.string a0_8) := (blk_cell BK408.out 8).trans rfl; have hcz5_9 : w4.cell? ⟨gb408, 9, none⟩ = some (.string a0_9) := (blk_cell BK408.out 9).trans rfl; have hfz5_0 := blk_frozen BK408.out 0; have hfz5_1 := blk_frozen BK408.out 1; have hfz5_2 := blk_frozen BK408.out 2; have hfz5_3 := blk_frozen BK408.out 3; have hfz5_4 := blk_frozen BK408.out 4; have hfz5_5 := blk_frozen BK408.out 5; have hfz5_6 := blk_frozen BK408.out 6; have hfz5_7 := blk_frozen BK408.out 7; have hfz5_8 := blk_frozen BK408.out 8; have hfz5_9 := blk_frozen BK408.out 9))
      go_ret
      exact ⟨by first | rfl | (simp [errW_none, errW_some] <;> rfl) | (simp [*, errW_none, errW_some] <;> rfl), by repeat (first | (with_reducible first | exact HB.out | apply below_alloc | apply pw_below_drewN | apply below_drew1 | refine below_set ?_ GE408.out) | exact HB.out)⟩
    · rw [if_neg c3] at H
      have c3b0 : decide ((a0_8.size : Int) ≤ 300) = false := decide_eq_false c3
      have c3b1 : decide (a0_8.size ≤ 300) = false := decide_eq_false (by omega)
      clear c3
      obtain rfl := Option.some.inj H
      go_enter Try.func84, Try.ntmps84
      go_wp2_with (first | ((with_reducible refine gate_dst (N := 1) rfl ?_); (try (refine gate_guard (by rfl) ?_; dsimp only)); refine box_event ?hg (N := 1) ?hd (cs := #[.int .i64 a0_0, .int .i64 a0_1, .int .i64 a0_2, .int .i64 a0_3, .int .i64 a0_4, .bool a0_5, .bool a0_6, .string a0_7, .string a0_8, .string a0_9]) (t := 93) ?hr ?_; (case hd => rfl); (case hg => rfl); (case hr => first | (go_simp; done) | (go_simp; rfl)); intro gb408 hg w6 hbox hb; have n0_ := Aside0.mk (below_step (by repeat (first | (with_reducible first | exact HB.out | apply below_alloc | apply pw_below_drewN | apply below_drew1) | exact HB.out)) hb); have n1_ := Aside0.mk (hbox); have n2_ := Aside0.mk ((by rw [hg]; exact (below_size (by repeat (first | (with_reducible first | exact HB.out | apply below_alloc | apply pw_below_drewN | apply below_drew1) | exact HB.out))) : w.heap.size ≤ gb408)); have n3_ := Aside0.mk ((by rw [hg]; exact (below_size (by repeat (first | (with_reducible first | exact HB.out | apply below_alloc | apply pw_below_drewN | apply below_drew1) | exact HB.out))) : w.heap.size ≤ gb408)); clear HB; have HB := n0_; have BK408 := n1_; have GW408 := n2_; have GE408 := n3_; clear n0_ n1_ n2_ n3_; clear hb hbox hg; have hcz7_0 : w6.cell? ⟨gb408, 0, none⟩ = some (.int .i64 a0_0) := (blk_cell BK408.out 0).trans rfl; have hcz7_1 : w6.cell? ⟨gb408, 1, none⟩ = some (.int .i64 a0_1) := (blk_cell BK408.out 1).trans rfl; have hcz7_2 : w6.cell? ⟨gb408, 2, none⟩ = some (.int .i64 a0_2) := (blk_cell BK408.out 2).trans rfl; have hcz7_3 : w6.cell? ⟨gb408, 3, none⟩ = some (.int .i64 a0_3) := (blk_cell BK408.out 3).trans rfl; have hcz7_4 : w6.cell? ⟨gb408, 4, none⟩ = some (.int .i64 a0_4) := (blk_cell BK408.out 4).trans rfl; have hcz7_5 : w6.cell? ⟨gb408, 5, none⟩ = some (.bool a0_5) := (blk_cell BK408.out 5).trans rfl; have hcz7_6 : w6.cell? ⟨gb408, 6, none⟩ = some (.bool a0_6) := (blk_cell BK408.out 6).trans rfl; have hcz7_7 : w6.cell? ⟨gb408, 7, none⟩ = some (.string a0_7) := (blk_cell BK408.out 7).trans rfl; have hcz7_8 : w6.cell? ⟨gb408, 8, none⟩ = some (.string a0_8) := (blk_cell BK408.out 8).trans rfl; have hcz7_9 : w6.cell? ⟨gb408, 9, none⟩ = some (.string a0_9) := (blk_cell BK408.out 9).trans rfl; have hfz7_0 := blk_frozen BK408.out 0; have hfz7_1 := blk_frozen BK408.out 1; have hfz7_2 := blk_frozen BK408.out 2; have hfz7_3 := blk_frozen BK408.out 3; have hfz7_4 := blk_frozen BK408.out 4; have hfz7_5 := blk_frozen BK408.out 5; have hfz7_6 := blk_frozen BK408.out 6; have hfz7_7 := blk_frozen BK408.out 7; have hfz7_8 := blk_frozen BK408.out 8; have hfz7_9 := blk_frozen BK408.out 9))
      go_ret
      exact ⟨by first | rfl | (simp [errW_none, errW_some] <;> rfl) | (simp [*, errW_none, errW_some] <;> rfl), by repeat (first | (with_reducible first | exact HB.out | apply below_alloc | apply pw_below_drewN | apply below_drew1 | refine below_set ?_ GE408.out) | exact HB.out)⟩
  · rw [if_neg c2] at H
    have c2b0 : decide ((a0_7.size : Int) ≤ 300) = false := decide_eq_false c2
    have c2b1 : decide (a0_7.size ≤ 300) = false := decide_eq_false (by omega)
    clear c2
    obtain rfl := Option.some.inj H
    go_enter Try.func84, Try.ntmps84
    go_wp2_with (first | ((with_reducible refine gate_dst (N := 1) rfl ?_); (try (refine gate_guard (by rfl) ?_; dsimp only)); refine box_event ?hg (N := 1) ?hd (cs := #[.int .i64 a0_0, .int .i64 a0_1, .int .i64 a0_2, .int .i64 a0_3, .int .i64 a0_4, .bool a0_5, .bool a0_6, .string a0_7, .string a0_8, .string a0_9]) (t := 93) ?hr ?_; (case hd => rfl); (case hg => rfl); (case hr => first | (go_simp; done) | (go_simp; rfl)); intro gb408 hg w8 hbox hb; have n0_ := Aside0.mk (below_step (by repeat (first | (with_reducible first | exact HB.out | apply below_alloc | apply pw_below_drewN | apply below_drew1) | exact HB.out)) hb); have n1_ := Aside0.mk (hbox); have n2_ := Aside0.mk ((by rw [hg]; exact (below_size (by repeat (first | (with_reducible first | exact HB.out | apply below_alloc | apply pw_below_drewN | apply below_drew1) | exact HB.out))) : w.heap.size ≤ gb408)); have n3_ := Aside0.mk ((by rw [hg]; exact (below_size (by repeat (first | (with_reducible first | exact HB.out | apply below_alloc | apply pw_below_drewN | apply below_drew1) | exact HB.out))) : w.heap.size ≤ gb408)); clear HB; have HB := n0_; have BK408 := n1_; have GW408 := n2_; have GE408 := n3_; clear n0_ n1_ n2_ n3_; clear hb hbox hg; have hcz9_0 : w8.cell? ⟨gb408, 0, none⟩ = some (.int .i64 a0_0) := (blk_cell BK408.out 0).trans rfl; have hcz9_1 : w8.cell? ⟨gb408, 1, none⟩ = some (.int .i64 a0_1) := (blk_cell BK408.out 1).trans rfl; have hcz9_2 : w8.cell? ⟨gb408, 2, none⟩ = some (.int .i64 a0_2) := (blk_cell BK408.out 2).trans rfl; have hcz9_3 : w8.cell? ⟨gb408, 3, none⟩ = some (.int .i64 a0_3) := (blk_cell BK408.out 3).trans rfl; have hcz9_4 : w8.cell? ⟨gb408, 4, none⟩ = some (.int .i64 a0_4) := (blk_cell BK408.out 4).trans rfl; have hcz9_5 : w8.cell? ⟨gb408, 5, none⟩ = some (.bool a0_5) := (blk_cell BK408.out 5).trans rfl; have hcz9_6 : w8.cell? ⟨gb408, 6, none⟩ = some (.bool a0_6) := (blk_cell BK408.out 6).trans rfl; have hcz9_7 : w8.cell? ⟨gb408, 7, none⟩ = some (.string a0_7) := (blk_cell BK408.out 7).trans rfl; have hcz9_8 : w8.cell? ⟨gb408, 8, none⟩ = some (.string a0_8) := (blk_cell BK408.out 8).trans rfl; have hcz9_9 : w8.cell? ⟨gb408, 9, none⟩ = some (.string a0_9) := (blk_cell BK408.out 9).trans rfl; have hfz9_0 := blk_frozen BK408.out 0; have hfz9_1 := blk_frozen BK408.out 1; have hfz9_2 := blk_frozen BK408.out 2; have hfz9_3 := blk_frozen BK408.out 3; have hfz9_4 := blk_frozen BK408.out 4; have hfz9_5 := blk_frozen BK408.out 5; have hfz9_6 := blk_frozen BK408.out 6; have hfz9_7 := blk_frozen BK408.out 7; have hfz9_8 := blk_frozen BK408.out 8; have hfz9_9 := blk_frozen BK408.out 9))
    go_ret
    exact ⟨by first | rfl | (simp [errW_none, errW_some] <;> rfl) | (simp [*, errW_none, errW_some] <;> rfl), by repeat (first | (with_reducible first | exact HB.out | apply below_alloc | apply pw_below_drewN | apply below_drew1 | refine below_set ?_ GE408.out) | exact HB.out)⟩

end Go.Proofs.Ytejmipoolbodgaa.G
