-- Laid by a program of this session (wip/gen/gprint.py) over the translation's print. Lean checks it.
import Derived.Test.YtejmipoolbodgaaG0
import Derived.Test.YtejmipoolbodgaaHTcpN
namespace Go.Proofs.Ytejmipoolbodgaa.G
open Go.RowKit Go.Proofs.YtejmipoolbodgaaW.PrintWords Go.Proofs.YtejmipoolbodgaaW.PrintLast Go.Proofs.YtejmipoolbodgaaW.PrintMore
attribute [local go_sem] max2_int min2_int max_two min_two max_three min_three max_four min_four   -- for this text's walks alone
set_option linter.unusedVariables false
set_option linter.unusedSimpArgs false

/-! ### palanquinlaw07_awake: function 61 -/
def palanquinlaw07_awake.f  : Option (Bool) := (tcp_MSS.f (⟨#[2, 4, 5, 180]⟩ : ByteArray)).bind fun bt235 => (if bt235.1 = 1460 then (if bt235.2.1 = 2 then (some bt235.2.2) else (some false)) else (some false))
set_option maxHeartbeats 8000000 in
set_option maxRecDepth 100000 in
theorem palanquinlaw07_awake.calls  (r : Bool) (w : World) (h : palanquinlaw07_awake.f  = some r) :
    Calls Try.prog 61 #[] w fun e w' => e = .returned (.bool r) ∧ Below w.heap.size w w' := by
  have HB := Aside0.mk (Below.refl w.heap.size w)
  have H : ((tcp_MSS.f (⟨#[2, 4, 5, 180]⟩ : ByteArray)).bind fun bt235 => (if bt235.1 = 1460 then (if bt235.2.1 = 2 then (some bt235.2.2) else (some false)) else (some false))) = some r := h
  clear h
  replace H := Option.bind_eq_some_iff.mp H
  obtain ⟨⟨t235, t236, t237⟩, A10, H⟩ := H
  replace H : (if t235 = 1460 then (if t236 = 2 then (some t237) else (some false)) else (some false)) = some r := H
  have A1 := Aside0.mk A10
  clear A10
  by_cases c2 : t235 = 1460
  · rw [if_pos c2] at H
    have c2b0 : (t235 == 1460) = true := beq_iff_eq.mpr c2
    have c2b1 : (t235 != 1460) = false := bne_eq_false_iff_eq.mpr c2
    clear c2
    by_cases c3 : t236 = 2
    · rw [if_pos c3] at H
      have c3b0 : (t236 == 2) = true := beq_iff_eq.mpr c3
      have c3b1 : (t236 != 2) = false := bne_eq_false_iff_eq.mpr c3
      clear c3
      obtain rfl := Option.some.inj H
      go_enter Try.func61, Try.ntmps61
      go_wp2_with (first | ((with_reducible refine gate_callee (f := 63) rfl ?_); refine goesL_ (some 5) rfl rfl Try.func63 (by kernel_rfl) rfl #[.string (⟨#[2, 4, 5, 180]⟩ : ByteArray)] rfl (by (try simp only [List.map_toArray, List.map_cons, List.map_nil]); first | done | rfl | (simp only [List.length_drop, List.length_take]; rfl)) ?_; (with_reducible refine (tcp_MSS.calls (⟨#[2, 4, 5, 180]⟩ : ByteArray) t235 t236 t237 _ A1.out).mono ?_); rintro e w4 ⟨rfl, hb⟩; refine ⟨_, rfl, ?_⟩; have n0_ := Aside0.mk (below_step (by repeat (first | (with_reducible first | exact HB.out | apply below_alloc | apply pw_below_drewN | apply below_drew1) | exact HB.out)) hb); clear HB; have HB := n0_; clear n0_; (try clear hb); (try clear hb2); (try clear hk); (try clear hi)))
      go_ret
      exact ⟨by first | rfl | (simp [errW_none, errW_some] <;> rfl) | (simp [*, errW_none, errW_some] <;> rfl), by repeat (first | (with_reducible first | exact HB.out | apply below_alloc | apply pw_below_drewN | apply below_drew1) | exact HB.out)⟩
    · rw [if_neg c3] at H
      have c3b0 : (t236 == 2) = false := beq_eq_false_iff_ne.mpr c3
      have c3b1 : (t236 != 2) = true := bne_iff_ne.mpr c3
      obtain rfl := Option.some.inj H
      go_enter Try.func61, Try.ntmps61
      go_wp2_with (first | ((with_reducible refine gate_callee (f := 63) rfl ?_); refine goesL_ (some 5) rfl rfl Try.func63 (by kernel_rfl) rfl #[.string (⟨#[2, 4, 5, 180]⟩ : ByteArray)] rfl (by (try simp only [List.map_toArray, List.map_cons, List.map_nil]); first | done | rfl | (simp only [List.length_drop, List.length_take]; rfl)) ?_; (with_reducible refine (tcp_MSS.calls (⟨#[2, 4, 5, 180]⟩ : ByteArray) t235 t236 t237 _ A1.out).mono ?_); rintro e w5 ⟨rfl, hb⟩; refine ⟨_, rfl, ?_⟩; have n0_ := Aside0.mk (below_step (by repeat (first | (with_reducible first | exact HB.out | apply below_alloc | apply pw_below_drewN | apply below_drew1) | exact HB.out)) hb); clear HB; have HB := n0_; clear n0_; (try clear hb); (try clear hb2); (try clear hk); (try clear hi)))
      go_ret
      exact ⟨by first | rfl | (simp [errW_none, errW_some] <;> rfl) | (simp [*, errW_none, errW_some] <;> rfl), by repeat (first | (with_reducible first | exact HB.out | apply below_alloc | apply pw_below_drewN | apply below_drew1) | exact HB.out)⟩
  · rw [if_neg c2] at H
    have c2b0 : (t235 == 1460) = false := beq_eq_false_iff_ne.mpr c2
    have c2b1 : (t235 != 1460) = true := bne_iff_ne.mpr c2
    obtain rfl := Option.some.inj H
    go_enter Try.func61, Try.ntmps61
    go_wp2_with (first | ((with_reducible refine gate_callee (f := 63) rfl ?_); refine goesL_ (some 5) rfl rfl Try.func63 (by kernel_rfl) rfl #[.string (⟨#[2, 4, 5, 180]⟩ : ByteArray)] rfl (by (try simp only [List.map_toArray, List.map_cons, List.map_nil]); first | done | rfl | (simp only [List.length_drop, List.length_take]; rfl)) ?_; (with_reducible refine (tcp_MSS.calls (⟨#[2, 4, 5, 180]⟩ : ByteArray) t235 t236 t237 _ A1.out).mono ?_); rintro e w6 ⟨rfl, hb⟩; refine ⟨_, rfl, ?_⟩; have n0_ := Aside0.mk (below_step (by repeat (first | (with_reducible first | exact HB.out | apply below_alloc | apply pw_below_drewN | apply below_drew1) | exact HB.out)) hb); clear HB; have HB := n0_; clear n0_; (try clear hb); (try clear hb2); (try clear hk); (try clear hi)))
    go_ret
    exact ⟨by first | rfl | (simp [errW_none, errW_some] <;> rfl) | (simp [*, errW_none, errW_some] <;> rfl), by repeat (first | (with_reducible first | exact HB.out | apply below_alloc | apply pw_below_drewN | apply below_drew1) | exact HB.out)⟩

/-! ### palanquinlaw07_few: function 104 -/
def palanquinlaw07_few.f (a0_0 : Int) (a0_1 : Int) (a0_2 : Int) (a0_3 : Int) (a0_4 : Int) (a0_5 : Int) (a0_6 : Int) (a0_7 : ByteArray) (a0_8 : ByteArray) : Option (Bool) := if (a0_7.size : Int) ≤ 300 then (some (decide ((a0_8.size : Int) ≤ 5000))) else (some false)
set_option maxHeartbeats 8000000 in
set_option maxRecDepth 100000 in
theorem palanquinlaw07_few.calls (a0_0 : Int) (a0_1 : Int) (a0_2 : Int) (a0_3 : Int) (a0_4 : Int) (a0_5 : Int) (a0_6 : Int) (a0_7 : ByteArray) (a0_8 : ByteArray) (r : Bool) (w : World) (h : palanquinlaw07_few.f a0_0 a0_1 a0_2 a0_3 a0_4 a0_5 a0_6 a0_7 a0_8 = some r) :
    Calls Try.prog 104 #[.agg #[.int .i64 a0_0, .int .i64 a0_1, .int .u32 a0_2, .int .u32 a0_3, .int .i64 a0_4, .int .i64 a0_5, .int .i64 a0_6, .string a0_7, .string a0_8]] w fun e w' => e = .returned (.bool r) ∧ Below w.heap.size w w' := by
  have hu127 := Try.underlying127
  have HB := Aside0.mk (Below.refl w.heap.size w)
  have H : (if (a0_7.size : Int) ≤ 300 then (some (decide ((a0_8.size : Int) ≤ 5000))) else (some false)) = some r := h
  clear h
  by_cases c2 : (a0_7.size : Int) ≤ 300
  · rw [if_pos c2] at H
    have c2b0 : decide ((a0_7.size : Int) ≤ 300) = true := decide_eq_true c2
    have c2b1 : decide (a0_7.size ≤ 300) = true := decide_eq_true (by omega)
    clear c2
    obtain rfl := Option.some.inj H
    go_enter Try.func104, Try.ntmps104
    go_wp2_with (first | ((with_reducible refine gate_dst (N := 1) rfl ?_); (try (refine gate_guard (by rfl) ?_; dsimp only)); refine box_event ?hg (N := 1) ?hd (cs := #[.int .i64 a0_0, .int .i64 a0_1, .int .u32 a0_2, .int .u32 a0_3, .int .i64 a0_4, .int .i64 a0_5, .int .i64 a0_6, .string a0_7, .string a0_8]) (t := 127) ?hr ?_; (case hd => rfl); (case hg => rfl); (case hr => first | (go_simp; done) | (go_simp; rfl)); intro gb641 hg w3 hbox hb; have n0_ := Aside0.mk (below_step (by repeat (first | (with_reducible first | exact HB.out | apply below_alloc | apply pw_below_drewN | apply below_drew1) | exact HB.out)) hb); have n1_ := Aside0.mk (hbox); have n2_ := Aside0.mk ((by rw [hg]; exact (below_size (by repeat (first | (with_reducible first | exact HB.out | apply below_alloc | apply pw_below_drewN | apply below_drew1) | exact HB.out))) : w.heap.size ≤ gb641)); have n3_ := Aside0.mk ((by rw [hg]; exact (below_size (by repeat (first | (with_reducible first | exact HB.out | apply below_alloc | apply pw_below_drewN | apply below_drew1) | exact HB.out))) : w.heap.size ≤ gb641)); clear HB; have HB := n0_; have BK641 := n1_; have GW641 := n2_; have GE641 := n3_; clear n0_ n1_ n2_ n3_; clear hb hbox hg; have hcz4_0 : w3.cell? ⟨gb641, 0, none⟩ = some (.int .i64 a0_0) := (blk_cell BK641.out 0).trans rfl; have hcz4_1 : w3.cell? ⟨gb641, 1, none⟩ = some (.int .i64 a0_1) := (blk_cell BK641.out 1).trans rfl; have hcz4_2 : w3.cell? ⟨gb641, 2, none⟩ = some (.int .u32 a0_2) := (blk_cell BK641.out 2).trans rfl; have hcz4_3 : w3.cell? ⟨gb641, 3, none⟩ = some (.int .u32 a0_3) := (blk_cell BK641.out 3).trans rfl; have hcz4_4 : w3.cell? ⟨gb641, 4, none⟩ = some (.int .i64 a0_4) := (blk_cell BK641.out 4).trans rfl; have hcz4_5 : w3.cell? ⟨gb641, 5, none⟩ = some (.int .i64 a0_5) := (blk_cell BK641.out 5).trans rfl; have hcz4_6 : w3.cell? ⟨gb641, 6, none⟩ = some (.int .i64 a0_6) := (blk_cell BK641.out 6).trans rfl; have hcz4_7 : w3.cell? ⟨gb641, 7, none⟩ = some (.string a0_7) := (blk_cell BK641.out 7).trans rfl; have hcz4_8 : w3.cell? ⟨gb641, 8, none⟩ = some (.string a0_8) := (blk_cell BK641.out 8).trans rfl; have hfz4_0 := blk_frozen BK641.out 0; have hfz4_1 := blk_frozen BK641.out 1; have hfz4_2 := blk_frozen BK641.out 2; have hfz4_3 := blk_frozen BK641.out 3; have hfz4_4 := blk_frozen BK641.out 4; have hfz4_5 := blk_frozen BK641.out 5; have hfz4_6 := blk_frozen BK641.out 6; have hfz4_7 := blk_frozen BK641.out 7; have hfz4_8 := blk_frozen BK641.out 8))
    go_ret
    exact ⟨by first | rfl | (simp [errW_none, errW_some] <;> rfl) | (simp [*, errW_none, errW_some] <;> rfl), by repeat (first | (with_reducible first | exact HB.out | apply below_alloc | apply pw_below_drewN | apply below_drew1 | refine below_set ?_ GE641.out) | exact HB.out)⟩
  · rw [if_neg c2] at H
    have c2b0 : decide ((a0_7.size : Int) ≤ 300) = false := decide_eq_false c2
    have c2b1 : decide (a0_7.size ≤ 300) = false := decide_eq_false (by omega)
    clear c2
    obtain rfl := Option.some.inj H
    go_enter Try.func104, Try.ntmps104
    go_wp2_with (first | ((with_reducible refine gate_dst (N := 1) rfl ?_); (try (refine gate_guard (by rfl) ?_; dsimp only)); refine box_event ?hg (N := 1) ?hd (cs := #[.int .i64 a0_0, .int .i64 a0_1, .int .u32 a0_2, .int .u32 a0_3, .int .i64 a0_4, .int .i64 a0_5, .int .i64 a0_6, .string a0_7, .string a0_8]) (t := 127) ?hr ?_; (case hd => rfl); (case hg => rfl); (case hr => first | (go_simp; done) | (go_simp; rfl)); intro gb641 hg w5 hbox hb; have n0_ := Aside0.mk (below_step (by repeat (first | (with_reducible first | exact HB.out | apply below_alloc | apply pw_below_drewN | apply below_drew1) | exact HB.out)) hb); have n1_ := Aside0.mk (hbox); have n2_ := Aside0.mk ((by rw [hg]; exact (below_size (by repeat (first | (with_reducible first | exact HB.out | apply below_alloc | apply pw_below_drewN | apply below_drew1) | exact HB.out))) : w.heap.size ≤ gb641)); have n3_ := Aside0.mk ((by rw [hg]; exact (below_size (by repeat (first | (with_reducible first | exact HB.out | apply below_alloc | apply pw_below_drewN | apply below_drew1) | exact HB.out))) : w.heap.size ≤ gb641)); clear HB; have HB := n0_; have BK641 := n1_; have GW641 := n2_; have GE641 := n3_; clear n0_ n1_ n2_ n3_; clear hb hbox hg; have hcz6_0 : w5.cell? ⟨gb641, 0, none⟩ = some (.int .i64 a0_0) := (blk_cell BK641.out 0).trans rfl; have hcz6_1 : w5.cell? ⟨gb641, 1, none⟩ = some (.int .i64 a0_1) := (blk_cell BK641.out 1).trans rfl; have hcz6_2 : w5.cell? ⟨gb641, 2, none⟩ = some (.int .u32 a0_2) := (blk_cell BK641.out 2).trans rfl; have hcz6_3 : w5.cell? ⟨gb641, 3, none⟩ = some (.int .u32 a0_3) := (blk_cell BK641.out 3).trans rfl; have hcz6_4 : w5.cell? ⟨gb641, 4, none⟩ = some (.int .i64 a0_4) := (blk_cell BK641.out 4).trans rfl; have hcz6_5 : w5.cell? ⟨gb641, 5, none⟩ = some (.int .i64 a0_5) := (blk_cell BK641.out 5).trans rfl; have hcz6_6 : w5.cell? ⟨gb641, 6, none⟩ = some (.int .i64 a0_6) := (blk_cell BK641.out 6).trans rfl; have hcz6_7 : w5.cell? ⟨gb641, 7, none⟩ = some (.string a0_7) := (blk_cell BK641.out 7).trans rfl; have hcz6_8 : w5.cell? ⟨gb641, 8, none⟩ = some (.string a0_8) := (blk_cell BK641.out 8).trans rfl; have hfz6_0 := blk_frozen BK641.out 0; have hfz6_1 := blk_frozen BK641.out 1; have hfz6_2 := blk_frozen BK641.out 2; have hfz6_3 := blk_frozen BK641.out 3; have hfz6_4 := blk_frozen BK641.out 4; have hfz6_5 := blk_frozen BK641.out 5; have hfz6_6 := blk_frozen BK641.out 6; have hfz6_7 := blk_frozen BK641.out 7; have hfz6_8 := blk_frozen BK641.out 8))
    go_ret
    exact ⟨by first | rfl | (simp [errW_none, errW_some] <;> rfl) | (simp [*, errW_none, errW_some] <;> rfl), by repeat (first | (with_reducible first | exact HB.out | apply below_alloc | apply pw_below_drewN | apply below_drew1 | refine below_set ?_ GE641.out) | exact HB.out)⟩

end Go.Proofs.Ytejmipoolbodgaa.G
