-- Laid by a program of this session (wip/gen/gprint.py) over the translation's print. Lean checks it.
import Derived.Test.YtejmipoolbodgaaG0
import Derived.Test.YtejmipoolbodgaaGref01
namespace Go.Proofs.Ytejmipoolbodgaa.G
open Go.RowKit Go.Proofs.YtejmipoolbodgaaW.PrintWords Go.Proofs.YtejmipoolbodgaaW.PrintLast Go.Proofs.YtejmipoolbodgaaW.PrintMore
attribute [local go_sem] max2_int min2_int max_two min_two max_three min_three max_four min_four   -- for this text's walks alone
set_option linter.unusedVariables false
set_option linter.unusedSimpArgs false

/-! ### palanquinref01_Read: function 59 -/
mutual
def palanquinref01_Read.l0 : Nat → ByteArray → List (S87) → List (S90) → Int → Int → Option ((List (S90)) × Int)
  | 0, _, _, _, _, _ => none
  | k + 1, x0, x1, x6, x7, x8 => if x8 < (x1.length : Int) then (if 0 ≤ x8 then (if ((rd_T87 x1 x8).f0) ≥ 0 then (palanquinref01_Read.j1 k x0 x1 x6 x7 x8 0 (decide (((rd_T87 x1 x8).f0) ≤ 3)) ((rd_T87 x1 x8).f0) ((rd_T87 x1 x8).f1) ((rd_T87 x1 x8).f2) ((rd_T87 x1 x8).f3) 0 (⟨#[]⟩ : ByteArray) 0 0) else (palanquinref01_Read.j1 k x0 x1 x6 x7 x8 0 false ((rd_T87 x1 x8).f0) ((rd_T87 x1 x8).f1) ((rd_T87 x1 x8).f2) ((rd_T87 x1 x8).f3) 0 (⟨#[]⟩ : ByteArray) 0 0)) else (none)) else (some (x6, 0))
def palanquinref01_Read.j2 : Nat → ByteArray → List (S87) → List (S90) → Int → Int → Int → Int → Int → Int → ByteArray → Int → ByteArray → Int → Int → Option ((List (S90)) × Int)
  | 0, _, _, _, _, _, _, _, _, _, _, _, _, _, _ => none
  | k + 1, x0, x1, x6, x7, x8, x11, x209000, x209001, x209002, x209003, x210000, x210001, x210002, x210003 => if x11 < 0 then (palanquinref01_Read.j3 k x0 x1 x6 x7 x8 x11 true x209000 x209001 x209002 x209003 x210000 x210001 x210002 x210003) else (palanquinref01_Read.j3 k x0 x1 x6 x7 x8 x11 (decide (x11 > (wrap64 ((x0.size : Int) - x7)))) x209000 x209001 x209002 x209003 x210000 x210001 x210002 x210003)
def palanquinref01_Read.j3 : Nat → ByteArray → List (S87) → List (S90) → Int → Int → Int → Bool → Int → Int → Int → ByteArray → Int → ByteArray → Int → Int → Option ((List (S90)) × Int)
  | 0, _, _, _, _, _, _, _, _, _, _, _, _, _, _, _ => none
  | k + 1, x0, x1, x6, x7, x8, x11, x67, x209000, x209001, x209002, x209003, x210000, x210001, x210002, x210003 => if x67 = true then (some (x6, 2)) else (if 0 ≤ x7 then (if x7 ≤ (wrap64 (x7 + x11)) then (if (wrap64 (x7 + x11)) ≤ (x0.size : Int) then (if x209000 ≥ 0 then (if x209000 ≤ 3 then ((palanquinref01_Value.f k (x0.extract (x7 : Int).toNat ((wrap64 (x7 + x11)) : Int).toNat)).bind fun t211 => (if x6.length < 3518437208883 then (palanquinref01_Read.l0 k x0 x1 (x6 ++ [(⟨t211, x210001, wrap64 (x7 + x11), wrap64 ((x0.size : Int) - (wrap64 (x7 + x11)))⟩ : S90)]) (wrap64 (x7 + x11)) (wrap64 (x8 + 1))) else (none))) else (if x6.length < 3518437208883 then (palanquinref01_Read.l0 k x0 x1 (x6 ++ [(⟨x210000, x0.extract (x7 : Int).toNat ((wrap64 (x7 + x11)) : Int).toNat, wrap64 (x7 + x11), wrap64 ((x0.size : Int) - (wrap64 (x7 + x11)))⟩ : S90)]) (wrap64 (x7 + x11)) (wrap64 (x8 + 1))) else (none))) else (if x6.length < 3518437208883 then (palanquinref01_Read.l0 k x0 x1 (x6 ++ [(⟨x210000, x0.extract (x7 : Int).toNat ((wrap64 (x7 + x11)) : Int).toNat, wrap64 (x7 + x11), wrap64 ((x0.size : Int) - (wrap64 (x7 + x11)))⟩ : S90)]) (wrap64 (x7 + x11)) (wrap64 (x8 + 1))) else (none))) else (none)) else (none)) else (none))
def palanquinref01_Read.j1 : Nat → ByteArray → List (S87) → List (S90) → Int → Int → Int → Bool → Int → Int → Int → ByteArray → Int → ByteArray → Int → Int → Option ((List (S90)) × Int)
  | 0, _, _, _, _, _, _, _, _, _, _, _, _, _, _, _ => none
  | k + 1, x0, x1, x6, x7, x8, x11, x24, x209000, x209001, x209002, x209003, x210000, x210001, x210002, x210003 => if x24 = true then ((palanquinref01_Size.f x209000).bind fun t210 => (palanquinref01_Read.j2 k x0 x1 x6 x7 x8 t210 x209000 x209001 x209002 x209003 x210000 x210001 x210002 x210003)) else (if x209000 = 4 then (palanquinref01_Read.j2 k x0 x1 x6 x7 x8 x209001 x209000 x209001 x209002 x209003 x210000 x210001 x210002 x210003) else (if x209000 = 5 then (palanquinref01_Read.j2 k x0 x1 x6 x7 x8 (wrap64 ((x0.size : Int) - x7)) x209000 x209001 x209002 x209003 x210000 x210001 x210002 x210003) else (if (Int.tmod x209002 2) = 1 then (some (x6, x209001)) else (palanquinref01_Read.j2 k x0 x1 x6 x7 x8 x11 x209000 x209001 x209002 x209003 x210000 x210001 x210002 x210003))))
end
def palanquinref01_Read.f (k : Nat) (a0 : ByteArray) (l1 : List (S87)) : Option ((List (S90)) × Int) := palanquinref01_Read.l0 k a0 l1 ([] : List (S90)) 0 0
theorem palanquinref01_Read.mono_l : ∀ k, (∀ y0 y1 y2 y3 y4, LeO (palanquinref01_Read.l0 k y0 y1 y2 y3 y4) (palanquinref01_Read.l0 (k + 1) y0 y1 y2 y3 y4)) ∧ (∀ y0 y1 y2 y3 y4 y5 y6 y7 y8 y9 y10 y11 y12 y13, LeO (palanquinref01_Read.j2 k y0 y1 y2 y3 y4 y5 y6 y7 y8 y9 y10 y11 y12 y13) (palanquinref01_Read.j2 (k + 1) y0 y1 y2 y3 y4 y5 y6 y7 y8 y9 y10 y11 y12 y13)) ∧ (∀ y0 y1 y2 y3 y4 y5 y6 y7 y8 y9 y10 y11 y12 y13 y14, LeO (palanquinref01_Read.j3 k y0 y1 y2 y3 y4 y5 y6 y7 y8 y9 y10 y11 y12 y13 y14) (palanquinref01_Read.j3 (k + 1) y0 y1 y2 y3 y4 y5 y6 y7 y8 y9 y10 y11 y12 y13 y14)) ∧ (∀ y0 y1 y2 y3 y4 y5 y6 y7 y8 y9 y10 y11 y12 y13 y14, LeO (palanquinref01_Read.j1 k y0 y1 y2 y3 y4 y5 y6 y7 y8 y9 y10 y11 y12 y13 y14) (palanquinref01_Read.j1 (k + 1) y0 y1 y2 y3 y4 y5 y6 y7 y8 y9 y10 y11 y12 y13 y14))
  | 0 => ⟨fun _ _ _ _ _ r h => by simp [palanquinref01_Read.l0] at h, fun _ _ _ _ _ _ _ _ _ _ _ _ _ _ r h => by simp [palanquinref01_Read.j2] at h, fun _ _ _ _ _ _ _ _ _ _ _ _ _ _ _ r h => by simp [palanquinref01_Read.j3] at h, fun _ _ _ _ _ _ _ _ _ _ _ _ _ _ _ r h => by simp [palanquinref01_Read.j1] at h⟩
  | k + 1 => by
    obtain ⟨ih0, ih1, ih2, ih3⟩ := palanquinref01_Read.mono_l k
    refine ⟨?_, ?_, ?_, ?_⟩
    · intro y0 y1 y2 y3 y4
      unfold palanquinref01_Read.l0
      repeat' first
      | (with_reducible exact ih0 _ _ _ _ _)
      | (with_reducible exact ih1 _ _ _ _ _ _ _ _ _ _ _ _ _ _)
      | (with_reducible exact ih2 _ _ _ _ _ _ _ _ _ _ _ _ _ _ _)
      | (with_reducible exact ih3 _ _ _ _ _ _ _ _ _ _ _ _ _ _ _)
      | (with_reducible exact palanquinref01_Value.mono _ _)
      | (with_reducible exact LeO.refl _)
      | (with_reducible exact LeO.none _)
      | (with_reducible refine LeO.ite ?_ ?_)
      | (with_reducible refine LeO.bind ?_ (fun _ => ?_))
      | exact ih0 _ _ _ _ _
      | exact ih1 _ _ _ _ _ _ _ _ _ _ _ _ _ _
      | exact ih2 _ _ _ _ _ _ _ _ _ _ _ _ _ _ _
      | exact ih3 _ _ _ _ _ _ _ _ _ _ _ _ _ _ _
      | exact palanquinref01_Value.mono _ _
      | exact LeO.none _
      | refine LeO.ite ?_ ?_
      | refine LeO.bind ?_ (fun _ => ?_)
    · intro y0 y1 y2 y3 y4 y5 y6 y7 y8 y9 y10 y11 y12 y13
      unfold palanquinref01_Read.j2
      repeat' first
      | (with_reducible exact ih0 _ _ _ _ _)
      | (with_reducible exact ih1 _ _ _ _ _ _ _ _ _ _ _ _ _ _)
      | (with_reducible exact ih2 _ _ _ _ _ _ _ _ _ _ _ _ _ _ _)
      | (with_reducible exact ih3 _ _ _ _ _ _ _ _ _ _ _ _ _ _ _)
      | (with_reducible exact palanquinref01_Value.mono _ _)
      | (with_reducible exact LeO.refl _)
      | (with_reducible exact LeO.none _)
      | (with_reducible refine LeO.ite ?_ ?_)
      | (with_reducible refine LeO.bind ?_ (fun _ => ?_))
      | exact ih0 _ _ _ _ _
      | exact ih1 _ _ _ _ _ _ _ _ _ _ _ _ _ _
      | exact ih2 _ _ _ _ _ _ _ _ _ _ _ _ _ _ _
      | exact ih3 _ _ _ _ _ _ _ _ _ _ _ _ _ _ _
      | exact palanquinref01_Value.mono _ _
      | exact LeO.none _
      | refine LeO.ite ?_ ?_
      | refine LeO.bind ?_ (fun _ => ?_)
    · intro y0 y1 y2 y3 y4 y5 y6 y7 y8 y9 y10 y11 y12 y13 y14
      unfold palanquinref01_Read.j3
      repeat' first
      | (with_reducible exact ih0 _ _ _ _ _)
      | (with_reducible exact ih1 _ _ _ _ _ _ _ _ _ _ _ _ _ _)
      | (with_reducible exact ih2 _ _ _ _ _ _ _ _ _ _ _ _ _ _ _)
      | (with_reducible exact ih3 _ _ _ _ _ _ _ _ _ _ _ _ _ _ _)
      | (with_reducible exact palanquinref01_Value.mono _ _)
      | (with_reducible exact LeO.refl _)
      | (with_reducible exact LeO.none _)
      | (with_reducible refine LeO.ite ?_ ?_)
      | (with_reducible refine LeO.bind ?_ (fun _ => ?_))
      | exact ih0 _ _ _ _ _
      | exact ih1 _ _ _ _ _ _ _ _ _ _ _ _ _ _
      | exact ih2 _ _ _ _ _ _ _ _ _ _ _ _ _ _ _
      | exact ih3 _ _ _ _ _ _ _ _ _ _ _ _ _ _ _
      | exact palanquinref01_Value.mono _ _
      | exact LeO.none _
      | refine LeO.ite ?_ ?_
      | refine LeO.bind ?_ (fun _ => ?_)
    · intro y0 y1 y2 y3 y4 y5 y6 y7 y8 y9 y10 y11 y12 y13 y14
      unfold palanquinref01_Read.j1
      repeat' first
      | (with_reducible exact ih0 _ _ _ _ _)
      | (with_reducible exact ih1 _ _ _ _ _ _ _ _ _ _ _ _ _ _)
      | (with_reducible exact ih2 _ _ _ _ _ _ _ _ _ _ _ _ _ _ _)
      | (with_reducible exact ih3 _ _ _ _ _ _ _ _ _ _ _ _ _ _ _)
      | (with_reducible exact palanquinref01_Value.mono _ _)
      | (with_reducible exact LeO.refl _)
      | (with_reducible exact LeO.none _)
      | (with_reducible refine LeO.ite ?_ ?_)
      | (with_reducible refine LeO.bind ?_ (fun _ => ?_))
      | exact ih0 _ _ _ _ _
      | exact ih1 _ _ _ _ _ _ _ _ _ _ _ _ _ _
      | exact ih2 _ _ _ _ _ _ _ _ _ _ _ _ _ _ _
      | exact ih3 _ _ _ _ _ _ _ _ _ _ _ _ _ _ _
      | exact palanquinref01_Value.mono _ _
      | exact LeO.none _
      | refine LeO.ite ?_ ?_
      | refine LeO.bind ?_ (fun _ => ?_)
theorem palanquinref01_Read.mono : ∀ a0 a1 k, LeO (palanquinref01_Read.f k a0 a1) (palanquinref01_Read.f (k + 1) a0 a1) := by
  intro a0 a1 k
  obtain ⟨ih0, ih1, ih2, ih3⟩ := palanquinref01_Read.mono_l k
  unfold palanquinref01_Read.f
  repeat' first
      | (with_reducible exact ih0 _ _ _ _ _)
      | (with_reducible exact ih1 _ _ _ _ _ _ _ _ _ _ _ _ _ _)
      | (with_reducible exact ih2 _ _ _ _ _ _ _ _ _ _ _ _ _ _ _)
      | (with_reducible exact ih3 _ _ _ _ _ _ _ _ _ _ _ _ _ _ _)
      | (with_reducible exact palanquinref01_Value.mono _ _)
      | (with_reducible exact LeO.refl _)
      | (with_reducible exact LeO.none _)
      | (with_reducible refine LeO.ite ?_ ?_)
      | (with_reducible refine LeO.bind ?_ (fun _ => ?_))
      | exact ih0 _ _ _ _ _
      | exact ih1 _ _ _ _ _ _ _ _ _ _ _ _ _ _
      | exact ih2 _ _ _ _ _ _ _ _ _ _ _ _ _ _ _
      | exact ih3 _ _ _ _ _ _ _ _ _ _ _ _ _ _ _
      | exact palanquinref01_Value.mono _ _
      | exact LeO.none _
      | refine LeO.ite ?_ ?_
      | refine LeO.bind ?_ (fun _ => ?_)
set_option maxHeartbeats 8000000 in
set_option maxRecDepth 100000 in
theorem palanquinref01_Read.calls (k : Nat) (a0 : ByteArray) (A1 : Option Addr) (c1 : Nat) (l1 : List (S87)) (r1 : List (S90)) (r2 : Int) (w : World) (hr1 : Kd.C k87 w A1 l1.length l1) (hc1 : l1.length ≤ c1) (h : palanquinref01_Read.f k a0 l1 = some (r1, r2)) :
    Calls Try.prog 59 #[.string a0, .slice A1 l1.length c1] w fun e w' => ∃ v0_ : Value, e = .returned (.tuple #[v0_, .int .i64 r2]) ∧ Kd.R k90 90 w' w.heap.size (fun _ => True) v0_ r1 ∧ Below w.heap.size w w' := by
  have hu87 := Try.underlying87
  have hu90 := Try.underlying90
  have HR1 := Aside0.mk hr1
  have HC1 := Aside0.mk hc1
  clear hr1 hc1
  have HB := Aside0.mk (Below.refl w.heap.size w)
  have H : (palanquinref01_Read.l0 k a0 l1 ([] : List (S90)) 0 0) = some (r1, r2) := h
  clear h
  have H' := Aside0.mk H
  clear H
  go_enter Try.func59, Try.ntmps59
  go_wp2
  repeat (go_quiet (fail); try go_wp2)
  go_loopg [6, 7, 8] k (fun kq v6 v7 v8 w' => ∃ (x6_1 : List (S90)) (x7_1 : Int) (x8_1 : Int), v7 = .int .i64 x7_1 ∧ v8 = .int .i64 x8_1 ∧ Aside0 (palanquinref01_Read.l0 kq a0 l1 x6_1 x7_1 x8_1 = some (r1, r2)) ∧ Aside0 (kq ≤ k) ∧ Aside0 (Kd.R k90 90 w' w.heap.size (fun _ => True) v6 x6_1) ∧ Aside0 (Below w.heap.size w w'))
  case atStart => exact ⟨(([] : List (S90))), (0), (0), (by first | rfl | (simp; done) | (simp [*]; done)), (by first | rfl | (simp; done) | (simp [*]; done)), H', ⟨Nat.le_refl _⟩, ⟨by first | exact Kd.R_nil _ _ _ _ _ | exact Kd.N_nil _ _ _ _ _ | exact Kd.V_nil _ _ _ _ _ | exact Kd.Q_nil _ _ _ _ _ | exact Kd.S_nil _ _ _ _ _⟩, ⟨by repeat (first | (with_reducible first | exact HB.out | apply below_alloc | apply pw_below_drewN | apply below_drew1) | exact HB.out)⟩⟩
  case round =>
    clear H'
    try clear c1
    try clear p2
    obtain ⟨x6_1, x7_1, x8_1, rfl, rfl, HA, HK1, HO_6, HB⟩ := hrel
    cases gk with
    | zero => exact absurd HA.out (by simp [palanquinref01_Read.l0])
    | succ k1 =>
      have H := HA.out
      clear HA
      simp only [palanquinref01_Read.l0] at H
      by_cases c3 : x8_1 < (l1.length : Int)
      · rw [if_pos c3] at H
        have c3b0 : decide (x8_1 < (l1.length : Int)) = true := decide_eq_true c3
        clear c3
        by_cases c4 : 0 ≤ x8_1
        · rw [if_pos c4] at H
          have c4b0 : decide (0 ≤ x8_1) = true := decide_eq_true c4
          clear c4
          have HC5 := Aside0.mk H
          clear H
          have p207 : 0 ≤ (x8_1 : Int) := of_decide_eq_true (by first | (with_reducible assumption) | assumption)
          have q207 : x8_1 < (l1.length : Int) := of_decide_eq_true (by first | (with_reducible assumption) | assumption)
          obtain ⟨ad207, e207, hx207_0, hx207_1, hx207_2, hx207_3⟩ := at_T87 HR1.out x8_1 p207 q207
          cases e207
          replace hx207_0 := (HB.out.cell (World.block_lt_of_cell? w _ hx207_0)).trans hx207_0
          replace hx207_1 := (HB.out.cell (World.block_lt_of_cell? w _ hx207_1)).trans hx207_1
          replace hx207_2 := (HB.out.cell (World.block_lt_of_cell? w _ hx207_2)).trans hx207_2
          replace hx207_3 := (HB.out.cell (World.block_lt_of_cell? w _ hx207_3)).trans hx207_3
          replace p207 := eq_true p207
          replace q207 := eq_true q207
          go_upto_block 2 with (first | ((with_reducible refine gate_dst (N := 9) rfl ?_); (try (refine gate_guard (by rfl) ?_; dsimp only)); refine box_event ?hg (N := 9) ?hd (cs := #[.int .i64 0, .int .i64 0, .int .u64 0, .string (⟨#[]⟩ : ByteArray)]) (t := 87) ?hr ?_; (case hd => rfl); (case hg => rfl); (case hr => first | (go_simp; done) | (go_simp; rfl)); intro gb208 hg w6 hbox hb; have n0_ := Aside0.mk (Kd.R_below (by (with_reducible repeat (first | apply Kd.R_alloc | apply Kd.R_drewN | apply Kd.R_drew)); exact HO_6.out) hb); have n1_ := Aside0.mk (below_step (by repeat (first | (with_reducible first | exact HB.out | apply below_alloc | apply pw_below_drewN | apply below_drew1) | exact HB.out)) hb); have n2_ := Aside0.mk (hbox); have n3_ := Aside0.mk ((by rw [hg]; exact (below_size (by repeat (first | (with_reducible first | exact HB.out | apply below_alloc | apply pw_below_drewN | apply below_drew1) | exact HB.out))) : w.heap.size ≤ gb208)); have n4_ := Aside0.mk ((by rw [hg]; exact (below_size (by repeat (first | (with_reducible first | exact HB.out | apply below_alloc | apply pw_below_drewN | apply below_drew1) | exact HB.out))) : w.heap.size ≤ gb208)); clear HO_6; clear HB; have HO_6 := n0_; have HB := n1_; have BK208 := n2_; have GW208 := n3_; have GE208 := n4_; clear n0_ n1_ n2_ n3_ n4_; clear hb hbox hg; have hcz7_0 : w6.cell? ⟨gb208, 0, none⟩ = some (.int .i64 0) := (blk_cell BK208.out 0).trans rfl; have hcz7_1 : w6.cell? ⟨gb208, 1, none⟩ = some (.int .i64 0) := (blk_cell BK208.out 1).trans rfl; have hcz7_2 : w6.cell? ⟨gb208, 2, none⟩ = some (.int .u64 0) := (blk_cell BK208.out 2).trans rfl; have hcz7_3 : w6.cell? ⟨gb208, 3, none⟩ = some (.string (⟨#[]⟩ : ByteArray)) := (blk_cell BK208.out 3).trans rfl; have hfz7_0 := blk_frozen BK208.out 0; have hfz7_1 := blk_frozen BK208.out 1; have hfz7_2 := blk_frozen BK208.out 2; have hfz7_3 := blk_frozen BK208.out 3) | ((with_reducible refine gate_dst (N := 10) rfl ?_); (try (refine gate_guard (by rfl) ?_; dsimp only)); refine box_event ?hg (N := 10) ?hd (cs := #[.int .u64 0, .string (⟨#[]⟩ : ByteArray), .int .i64 0, .int .i64 0]) (t := 90) ?hr ?_; (case hd => rfl); (case hg => rfl); (case hr => first | (go_simp; done) | (go_simp; rfl)); intro gb209 hg w8 hbox hb; have n0_ := Aside0.mk (Kd.R_below (Kd.R_elderB (by (with_reducible repeat (first | apply Kd.R_alloc | apply Kd.R_drewN | apply Kd.R_drew)); exact (Kd.R_mono (Kd.R_far (p := ⟨gb208, 3, none⟩) (Kd.R_far (p := ⟨gb208, 2, none⟩) (Kd.R_far (p := ⟨gb208, 1, none⟩) (Kd.R_far (p := ⟨gb208, 0, none⟩) (Kd.R_types HO_6.out BK208.out (by decide)) (fun _ hk => hk.2) (.int .i64 ((rd_T87 l1 x8_1).f0))) (fun _ hk => hk.2) (.int .i64 ((rd_T87 l1 x8_1).f1))) (fun _ hk => hk.2) (.int .u64 ((rd_T87 l1 x8_1).f2))) (fun _ hk => hk.2) (.string ((rd_T87 l1 x8_1).f3))) (fun _ h_ => h_.1))) gb209 (Nat.le_of_eq hg.symm)) hb); have n1_ := Aside0.mk (blk_below (g := gb208) (o := .cells #[.int .i64 ((rd_T87 l1 x8_1).f0), .int .i64 ((rd_T87 l1 x8_1).f1), .int .u64 ((rd_T87 l1 x8_1).f2), .string ((rd_T87 l1 x8_1).f3)] 87 (0, 0)) (by (with_reducible repeat (first | refine blk_drewN ?_ _ | refine blk_drew ?_ | refine blk_alloc ?_ _)); refine blk_put (cs := #[.int .i64 ((rd_T87 l1 x8_1).f0), .int .i64 ((rd_T87 l1 x8_1).f1), .int .u64 ((rd_T87 l1 x8_1).f2), .string (⟨#[]⟩ : ByteArray)]) ?_ 3 _ rfl; (with_reducible repeat (first | refine blk_drewN ?_ _ | refine blk_drew ?_ | refine blk_alloc ?_ _)); refine blk_put (cs := #[.int .i64 ((rd_T87 l1 x8_1).f0), .int .i64 ((rd_T87 l1 x8_1).f1), .int .u64 0, .string (⟨#[]⟩ : ByteArray)]) ?_ 2 _ rfl; (with_reducible repeat (first | refine blk_drewN ?_ _ | refine blk_drew ?_ | refine blk_alloc ?_ _)); refine blk_put (cs := #[.int .i64 ((rd_T87 l1 x8_1).f0), .int .i64 0, .int .u64 0, .string (⟨#[]⟩ : ByteArray)]) ?_ 1 _ rfl; (with_reducible repeat (first | refine blk_drewN ?_ _ | refine blk_drew ?_ | refine blk_alloc ?_ _)); refine blk_put (cs := #[.int .i64 0, .int .i64 0, .int .u64 0, .string (⟨#[]⟩ : ByteArray)]) ?_ 0 _ rfl; (with_reducible repeat (first | refine blk_drewN ?_ _ | refine blk_drew ?_ | refine blk_alloc ?_ _)); exact BK208.out) hb); have n2_ := Aside0.mk (below_step (by repeat (first | (with_reducible first | exact HB.out | apply below_alloc | apply pw_below_drewN | apply below_drew1 | refine below_set ?_ GE208.out) | exact HB.out)) hb); have n3_ := Aside0.mk (hbox); have n4_ := Aside0.mk ((by rw [hg]; exact (below_size (by repeat (first | (with_reducible first | exact HB.out | apply below_alloc | apply pw_below_drewN | apply below_drew1 | refine below_set ?_ GE208.out) | exact HB.out))) : w.heap.size ≤ gb209)); have n5_ := Aside0.mk ((by rw [hg]; exact (below_size (by repeat (first | (with_reducible first | exact HB.out | apply below_alloc | apply pw_below_drewN | apply below_drew1 | refine below_set ?_ GE208.out) | exact HB.out))) : w.heap.size ≤ gb209)); have n6_ := Aside0.mk ((by rw [hg]; exact Nat.ne_of_lt (blk_lt (g := gb208) (o := .cells #[.int .i64 ((rd_T87 l1 x8_1).f0), .int .i64 ((rd_T87 l1 x8_1).f1), .int .u64 ((rd_T87 l1 x8_1).f2), .string ((rd_T87 l1 x8_1).f3)] 87 (0, 0)) (by (with_reducible repeat (first | refine blk_drewN ?_ _ | refine blk_drew ?_ | refine blk_alloc ?_ _)); refine blk_put (cs := #[.int .i64 ((rd_T87 l1 x8_1).f0), .int .i64 ((rd_T87 l1 x8_1).f1), .int .u64 ((rd_T87 l1 x8_1).f2), .string (⟨#[]⟩ : ByteArray)]) ?_ 3 _ rfl; (with_reducible repeat (first | refine blk_drewN ?_ _ | refine blk_drew ?_ | refine blk_alloc ?_ _)); refine blk_put (cs := #[.int .i64 ((rd_T87 l1 x8_1).f0), .int .i64 ((rd_T87 l1 x8_1).f1), .int .u64 0, .string (⟨#[]⟩ : ByteArray)]) ?_ 2 _ rfl; (with_reducible repeat (first | refine blk_drewN ?_ _ | refine blk_drew ?_ | refine blk_alloc ?_ _)); refine blk_put (cs := #[.int .i64 ((rd_T87 l1 x8_1).f0), .int .i64 0, .int .u64 0, .string (⟨#[]⟩ : ByteArray)]) ?_ 1 _ rfl; (with_reducible repeat (first | refine blk_drewN ?_ _ | refine blk_drew ?_ | refine blk_alloc ?_ _)); refine blk_put (cs := #[.int .i64 0, .int .i64 0, .int .u64 0, .string (⟨#[]⟩ : ByteArray)]) ?_ 0 _ rfl; (with_reducible repeat (first | refine blk_drewN ?_ _ | refine blk_drew ?_ | refine blk_alloc ?_ _)); exact BK208.out)) : gb208 ≠ gb209)); have n7_ := Aside0.mk ((by rw [hg]; exact Nat.ne_of_gt (blk_lt (g := gb208) (o := .cells #[.int .i64 ((rd_T87 l1 x8_1).f0), .int .i64 ((rd_T87 l1 x8_1).f1), .int .u64 ((rd_T87 l1 x8_1).f2), .string ((rd_T87 l1 x8_1).f3)] 87 (0, 0)) (by (with_reducible repeat (first | refine blk_drewN ?_ _ | refine blk_drew ?_ | refine blk_alloc ?_ _)); refine blk_put (cs := #[.int .i64 ((rd_T87 l1 x8_1).f0), .int .i64 ((rd_T87 l1 x8_1).f1), .int .u64 ((rd_T87 l1 x8_1).f2), .string (⟨#[]⟩ : ByteArray)]) ?_ 3 _ rfl; (with_reducible repeat (first | refine blk_drewN ?_ _ | refine blk_drew ?_ | refine blk_alloc ?_ _)); refine blk_put (cs := #[.int .i64 ((rd_T87 l1 x8_1).f0), .int .i64 ((rd_T87 l1 x8_1).f1), .int .u64 0, .string (⟨#[]⟩ : ByteArray)]) ?_ 2 _ rfl; (with_reducible repeat (first | refine blk_drewN ?_ _ | refine blk_drew ?_ | refine blk_alloc ?_ _)); refine blk_put (cs := #[.int .i64 ((rd_T87 l1 x8_1).f0), .int .i64 0, .int .u64 0, .string (⟨#[]⟩ : ByteArray)]) ?_ 1 _ rfl; (with_reducible repeat (first | refine blk_drewN ?_ _ | refine blk_drew ?_ | refine blk_alloc ?_ _)); refine blk_put (cs := #[.int .i64 0, .int .i64 0, .int .u64 0, .string (⟨#[]⟩ : ByteArray)]) ?_ 0 _ rfl; (with_reducible repeat (first | refine blk_drewN ?_ _ | refine blk_drew ?_ | refine blk_alloc ?_ _)); exact BK208.out)) : gb209 ≠ gb208)); clear HO_6; clear BK208; clear HB; have HO_6 := n0_; have BK208 := n1_; have HB := n2_; have BK209 := n3_; have GW209 := n4_; have GE209 := n5_; have NB208_209 := n6_; have NB209_208 := n7_; clear n0_ n1_ n2_ n3_ n4_ n5_ n6_ n7_; clear hb hbox hg; have hnb9 := NB209_208.out; have hnc9 := NB208_209.out; have hcz10_0 : w8.cell? ⟨gb209, 0, none⟩ = some (.int .u64 0) := (blk_cell BK209.out 0).trans rfl; have hcz10_1 : w8.cell? ⟨gb209, 1, none⟩ = some (.string (⟨#[]⟩ : ByteArray)) := (blk_cell BK209.out 1).trans rfl; have hcz10_2 : w8.cell? ⟨gb209, 2, none⟩ = some (.int .i64 0) := (blk_cell BK209.out 2).trans rfl; have hcz10_3 : w8.cell? ⟨gb209, 3, none⟩ = some (.int .i64 0) := (blk_cell BK209.out 3).trans rfl; have hfz10_0 := blk_frozen BK209.out 0; have hfz10_1 := blk_frozen BK209.out 1; have hfz10_2 := blk_frozen BK209.out 2; have hfz10_3 := blk_frozen BK209.out 3))
          repeat (go_quiet (first | ((with_reducible refine gate_dst (N := 9) rfl ?_); (try (refine gate_guard (by rfl) ?_; dsimp only)); refine box_event ?hg (N := 9) ?hd (cs := #[.int .i64 0, .int .i64 0, .int .u64 0, .string (⟨#[]⟩ : ByteArray)]) (t := 87) ?hr ?_; (case hd => rfl); (case hg => rfl); (case hr => first | (go_simp; done) | (go_simp; rfl)); intro gb208 hg w6 hbox hb; have n0_ := Aside0.mk (Kd.R_below (by (with_reducible repeat (first | apply Kd.R_alloc | apply Kd.R_drewN | apply Kd.R_drew)); exact HO_6.out) hb); have n1_ := Aside0.mk (below_step (by repeat (first | (with_reducible first | exact HB.out | apply below_alloc | apply pw_below_drewN | apply below_drew1) | exact HB.out)) hb); have n2_ := Aside0.mk (hbox); have n3_ := Aside0.mk ((by rw [hg]; exact (below_size (by repeat (first | (with_reducible first | exact HB.out | apply below_alloc | apply pw_below_drewN | apply below_drew1) | exact HB.out))) : w.heap.size ≤ gb208)); have n4_ := Aside0.mk ((by rw [hg]; exact (below_size (by repeat (first | (with_reducible first | exact HB.out | apply below_alloc | apply pw_below_drewN | apply below_drew1) | exact HB.out))) : w.heap.size ≤ gb208)); clear HO_6; clear HB; have HO_6 := n0_; have HB := n1_; have BK208 := n2_; have GW208 := n3_; have GE208 := n4_; clear n0_ n1_ n2_ n3_ n4_; clear hb hbox hg; have hcz7_0 : w6.cell? ⟨gb208, 0, none⟩ = some (.int .i64 0) := (blk_cell BK208.out 0).trans rfl; have hcz7_1 : w6.cell? ⟨gb208, 1, none⟩ = some (.int .i64 0) := (blk_cell BK208.out 1).trans rfl; have hcz7_2 : w6.cell? ⟨gb208, 2, none⟩ = some (.int .u64 0) := (blk_cell BK208.out 2).trans rfl; have hcz7_3 : w6.cell? ⟨gb208, 3, none⟩ = some (.string (⟨#[]⟩ : ByteArray)) := (blk_cell BK208.out 3).trans rfl; have hfz7_0 := blk_frozen BK208.out 0; have hfz7_1 := blk_frozen BK208.out 1; have hfz7_2 := blk_frozen BK208.out 2; have hfz7_3 := blk_frozen BK208.out 3) | ((with_reducible refine gate_dst (N := 10) rfl ?_); (try (refine gate_guard (by rfl) ?_; dsimp only)); refine box_event ?hg (N := 10) ?hd (cs := #[.int .u64 0, .string (⟨#[]⟩ : ByteArray), .int .i64 0, .int .i64 0]) (t := 90) ?hr ?_; (case hd => rfl); (case hg => rfl); (case hr => first | (go_simp; done) | (go_simp; rfl)); intro gb209 hg w8 hbox hb; have n0_ := Aside0.mk (Kd.R_below (Kd.R_elderB (by (with_reducible repeat (first | apply Kd.R_alloc | apply Kd.R_drewN | apply Kd.R_drew)); exact (Kd.R_mono (Kd.R_far (p := ⟨gb208, 3, none⟩) (Kd.R_far (p := ⟨gb208, 2, none⟩) (Kd.R_far (p := ⟨gb208, 1, none⟩) (Kd.R_far (p := ⟨gb208, 0, none⟩) (Kd.R_types HO_6.out BK208.out (by decide)) (fun _ hk => hk.2) (.int .i64 ((rd_T87 l1 x8_1).f0))) (fun _ hk => hk.2) (.int .i64 ((rd_T87 l1 x8_1).f1))) (fun _ hk => hk.2) (.int .u64 ((rd_T87 l1 x8_1).f2))) (fun _ hk => hk.2) (.string ((rd_T87 l1 x8_1).f3))) (fun _ h_ => h_.1))) gb209 (Nat.le_of_eq hg.symm)) hb); have n1_ := Aside0.mk (blk_below (g := gb208) (o := .cells #[.int .i64 ((rd_T87 l1 x8_1).f0), .int .i64 ((rd_T87 l1 x8_1).f1), .int .u64 ((rd_T87 l1 x8_1).f2), .string ((rd_T87 l1 x8_1).f3)] 87 (0, 0)) (by (with_reducible repeat (first | refine blk_drewN ?_ _ | refine blk_drew ?_ | refine blk_alloc ?_ _)); refine blk_put (cs := #[.int .i64 ((rd_T87 l1 x8_1).f0), .int .i64 ((rd_T87 l1 x8_1).f1), .int .u64 ((rd_T87 l1 x8_1).f2), .string (⟨#[]⟩ : ByteArray)]) ?_ 3 _ rfl; (with_reducible repeat (first | refine blk_drewN ?_ _ | refine blk_drew ?_ | refine blk_alloc ?_ _)); refine blk_put (cs := #[.int .i64 ((rd_T87 l1 x8_1).f0), .int .i64 ((rd_T87 l1 x8_1).f1), .int .u64 0, .string (⟨#[]⟩ : ByteArray)]) ?_ 2 _ rfl; (with_reducible repeat (first | refine blk_drewN ?_ _ | refine blk_drew ?_ | refine blk_alloc ?_ _)); refine blk_put (cs := #[.int .i64 ((rd_T87 l1 x8_1).f0), .int .i64 0, .int .u64 0, .string (⟨#[]⟩ : ByteArray)]) ?_ 1 _ rfl; (with_reducible repeat (first | refine blk_drewN ?_ _ | refine blk_drew ?_ | refine blk_alloc ?_ _)); refine blk_put (cs := #[.int .i64 0, .int .i64 0, .int .u64 0, .string (⟨#[]⟩ : ByteArray)]) ?_ 0 _ rfl; (with_reducible repeat (first | refine blk_drewN ?_ _ | refine blk_drew ?_ | refine blk_alloc ?_ _)); exact BK208.out) hb); have n2_ := Aside0.mk (below_step (by repeat (first | (with_reducible first | exact HB.out | apply below_alloc | apply pw_below_drewN | apply below_drew1 | refine below_set ?_ GE208.out) | exact HB.out)) hb); have n3_ := Aside0.mk (hbox); have n4_ := Aside0.mk ((by rw [hg]; exact (below_size (by repeat (first | (with_reducible first | exact HB.out | apply below_alloc | apply pw_below_drewN | apply below_drew1 | refine below_set ?_ GE208.out) | exact HB.out))) : w.heap.size ≤ gb209)); have n5_ := Aside0.mk ((by rw [hg]; exact (below_size (by repeat (first | (with_reducible first | exact HB.out | apply below_alloc | apply pw_below_drewN | apply below_drew1 | refine below_set ?_ GE208.out) | exact HB.out))) : w.heap.size ≤ gb209)); have n6_ := Aside0.mk ((by rw [hg]; exact Nat.ne_of_lt (blk_lt (g := gb208) (o := .cells #[.int .i64 ((rd_T87 l1 x8_1).f0), .int .i64 ((rd_T87 l1 x8_1).f1), .int .u64 ((rd_T87 l1 x8_1).f2), .string ((rd_T87 l1 x8_1).f3)] 87 (0, 0)) (by (with_reducible repeat (first | refine blk_drewN ?_ _ | refine blk_drew ?_ | refine blk_alloc ?_ _)); refine blk_put (cs := #[.int .i64 ((rd_T87 l1 x8_1).f0), .int .i64 ((rd_T87 l1 x8_1).f1), .int .u64 ((rd_T87 l1 x8_1).f2), .string (⟨#[]⟩ : ByteArray)]) ?_ 3 _ rfl; (with_reducible repeat (first | refine blk_drewN ?_ _ | refine blk_drew ?_ | refine blk_alloc ?_ _)); refine blk_put (cs := #[.int .i64 ((rd_T87 l1 x8_1).f0), .int .i64 ((rd_T87 l1 x8_1).f1), .int .u64 0, .string (⟨#[]⟩ : ByteArray)]) ?_ 2 _ rfl; (with_reducible repeat (first | refine blk_drewN ?_ _ | refine blk_drew ?_ | refine blk_alloc ?_ _)); refine blk_put (cs := #[.int .i64 ((rd_T87 l1 x8_1).f0), .int .i64 0, .int .u64 0, .string (⟨#[]⟩ : ByteArray)]) ?_ 1 _ rfl; (with_reducible repeat (first | refine blk_drewN ?_ _ | refine blk_drew ?_ | refine blk_alloc ?_ _)); refine blk_put (cs := #[.int .i64 0, .int .i64 0, .int .u64 0, .string (⟨#[]⟩ : ByteArray)]) ?_ 0 _ rfl; (with_reducible repeat (first | refine blk_drewN ?_ _ | refine blk_drew ?_ | refine blk_alloc ?_ _)); exact BK208.out)) : gb208 ≠ gb209)); have n7_ := Aside0.mk ((by rw [hg]; exact Nat.ne_of_gt (blk_lt (g := gb208) (o := .cells #[.int .i64 ((rd_T87 l1 x8_1).f0), .int .i64 ((rd_T87 l1 x8_1).f1), .int .u64 ((rd_T87 l1 x8_1).f2), .string ((rd_T87 l1 x8_1).f3)] 87 (0, 0)) (by (with_reducible repeat (first | refine blk_drewN ?_ _ | refine blk_drew ?_ | refine blk_alloc ?_ _)); refine blk_put (cs := #[.int .i64 ((rd_T87 l1 x8_1).f0), .int .i64 ((rd_T87 l1 x8_1).f1), .int .u64 ((rd_T87 l1 x8_1).f2), .string (⟨#[]⟩ : ByteArray)]) ?_ 3 _ rfl; (with_reducible repeat (first | refine blk_drewN ?_ _ | refine blk_drew ?_ | refine blk_alloc ?_ _)); refine blk_put (cs := #[.int .i64 ((rd_T87 l1 x8_1).f0), .int .i64 ((rd_T87 l1 x8_1).f1), .int .u64 0, .string (⟨#[]⟩ : ByteArray)]) ?_ 2 _ rfl; (with_reducible repeat (first | refine blk_drewN ?_ _ | refine blk_drew ?_ | refine blk_alloc ?_ _)); refine blk_put (cs := #[.int .i64 ((rd_T87 l1 x8_1).f0), .int .i64 0, .int .u64 0, .string (⟨#[]⟩ : ByteArray)]) ?_ 1 _ rfl; (with_reducible repeat (first | refine blk_drewN ?_ _ | refine blk_drew ?_ | refine blk_alloc ?_ _)); refine blk_put (cs := #[.int .i64 0, .int .i64 0, .int .u64 0, .string (⟨#[]⟩ : ByteArray)]) ?_ 0 _ rfl; (with_reducible repeat (first | refine blk_drewN ?_ _ | refine blk_drew ?_ | refine blk_alloc ?_ _)); exact BK208.out)) : gb209 ≠ gb208)); clear HO_6; clear BK208; clear HB; have HO_6 := n0_; have BK208 := n1_; have HB := n2_; have BK209 := n3_; have GW209 := n4_; have GE209 := n5_; have NB208_209 := n6_; have NB209_208 := n7_; clear n0_ n1_ n2_ n3_ n4_ n5_ n6_ n7_; clear hb hbox hg; have hnb9 := NB209_208.out; have hnc9 := NB208_209.out; have hcz10_0 : w8.cell? ⟨gb209, 0, none⟩ = some (.int .u64 0) := (blk_cell BK209.out 0).trans rfl; have hcz10_1 : w8.cell? ⟨gb209, 1, none⟩ = some (.string (⟨#[]⟩ : ByteArray)) := (blk_cell BK209.out 1).trans rfl; have hcz10_2 : w8.cell? ⟨gb209, 2, none⟩ = some (.int .i64 0) := (blk_cell BK209.out 2).trans rfl; have hcz10_3 : w8.cell? ⟨gb209, 3, none⟩ = some (.int .i64 0) := (blk_cell BK209.out 3).trans rfl; have hfz10_0 := blk_frozen BK209.out 0; have hfz10_1 := blk_frozen BK209.out 1; have hfz10_2 := blk_frozen BK209.out 2; have hfz10_3 := blk_frozen BK209.out 3)); go_upto_block 2 with (first | ((with_reducible refine gate_dst (N := 9) rfl ?_); (try (refine gate_guard (by rfl) ?_; dsimp only)); refine box_event ?hg (N := 9) ?hd (cs := #[.int .i64 0, .int .i64 0, .int .u64 0, .string (⟨#[]⟩ : ByteArray)]) (t := 87) ?hr ?_; (case hd => rfl); (case hg => rfl); (case hr => first | (go_simp; done) | (go_simp; rfl)); intro gb208 hg w6 hbox hb; have n0_ := Aside0.mk (Kd.R_below (by (with_reducible repeat (first | apply Kd.R_alloc | apply Kd.R_drewN | apply Kd.R_drew)); exact HO_6.out) hb); have n1_ := Aside0.mk (below_step (by repeat (first | (with_reducible first | exact HB.out | apply below_alloc | apply pw_below_drewN | apply below_drew1) | exact HB.out)) hb); have n2_ := Aside0.mk (hbox); have n3_ := Aside0.mk ((by rw [hg]; exact (below_size (by repeat (first | (with_reducible first | exact HB.out | apply below_alloc | apply pw_below_drewN | apply below_drew1) | exact HB.out))) : w.heap.size ≤ gb208)); have n4_ := Aside0.mk ((by rw [hg]; exact (below_size (by repeat (first | (with_reducible first | exact HB.out | apply below_alloc | apply pw_below_drewN | apply below_drew1) | exact HB.out))) : w.heap.size ≤ gb208)); clear HO_6; clear HB; have HO_6 := n0_; have HB := n1_; have BK208 := n2_; have GW208 := n3_; have GE208 := n4_; clear n0_ n1_ n2_ n3_ n4_; clear hb hbox hg; have hcz7_0 : w6.cell? ⟨gb208, 0, none⟩ = some (.int .i64 0) := (blk_cell BK208.out 0).trans rfl; have hcz7_1 : w6.cell? ⟨gb208, 1, none⟩ = some (.int .i64 0) := (blk_cell BK208.out 1).trans rfl; have hcz7_2 : w6.cell? ⟨gb208, 2, none⟩ = some (.int .u64 0) := (blk_cell BK208.out 2).trans rfl; have hcz7_3 : w6.cell? ⟨gb208, 3, none⟩ = some (.string (⟨#[]⟩ : ByteArray)) := (blk_cell BK208.out 3).trans rfl; have hfz7_0 := blk_frozen BK208.out 0; have hfz7_1 := blk_frozen BK208.out 1; have hfz7_2 := blk_frozen BK208.out 2; have hfz7_3 := blk_frozen BK208.out 3) | ((with_reducible refine gate_dst (N := 10) rfl ?_); (try (refine gate_guard (by rfl) ?_; dsimp only)); refine box_event ?hg (N := 10) ?hd (cs := #[.int .u64 0, .string (⟨#[]⟩ : ByteArray), .int .i64 0, .int .i64 0]) (t := 90) ?hr ?_; (case hd => rfl); (case hg => rfl); (case hr => first | (go_simp; done) | (go_simp; rfl)); intro gb209 hg w8 hbox hb; have n0_ := Aside0.mk (Kd.R_below (Kd.R_elderB (by (with_reducible repeat (first | apply Kd.R_alloc | apply Kd.R_drewN | apply Kd.R_drew)); exact (Kd.R_mono (Kd.R_far (p := ⟨gb208, 3, none⟩) (Kd.R_far (p := ⟨gb208, 2, none⟩) (Kd.R_far (p := ⟨gb208, 1, none⟩) (Kd.R_far (p := ⟨gb208, 0, none⟩) (Kd.R_types HO_6.out BK208.out (by decide)) (fun _ hk => hk.2) (.int .i64 ((rd_T87 l1 x8_1).f0))) (fun _ hk => hk.2) (.int .i64 ((rd_T87 l1 x8_1).f1))) (fun _ hk => hk.2) (.int .u64 ((rd_T87 l1 x8_1).f2))) (fun _ hk => hk.2) (.string ((rd_T87 l1 x8_1).f3))) (fun _ h_ => h_.1))) gb209 (Nat.le_of_eq hg.symm)) hb); have n1_ := Aside0.mk (blk_below (g := gb208) (o := .cells #[.int .i64 ((rd_T87 l1 x8_1).f0), .int .i64 ((rd_T87 l1 x8_1).f1), .int .u64 ((rd_T87 l1 x8_1).f2), .string ((rd_T87 l1 x8_1).f3)] 87 (0, 0)) (by (with_reducible repeat (first | refine blk_drewN ?_ _ | refine blk_drew ?_ | refine blk_alloc ?_ _)); refine blk_put (cs := #[.int .i64 ((rd_T87 l1 x8_1).f0), .int .i64 ((rd_T87 l1 x8_1).f1), .int .u64 ((rd_T87 l1 x8_1).f2), .string (⟨#[]⟩ : ByteArray)]) ?_ 3 _ rfl; (with_reducible repeat (first | refine blk_drewN ?_ _ | refine blk_drew ?_ | refine blk_alloc ?_ _)); refine blk_put (cs := #[.int .i64 ((rd_T87 l1 x8_1).f0), .int .i64 ((rd_T87 l1 x8_1).f1), .int .u64 0, .string (⟨#[]⟩ : ByteArray)]) ?_ 2 _ rfl; (with_reducible repeat (first | refine blk_drewN ?_ _ | refine blk_drew ?_ | refine blk_alloc ?_ _)); refine blk_put (cs := #[.int .i64 ((rd_T87 l1 x8_1).f0), .int .i64 0, .int .u64 0, .string (⟨#[]⟩ : ByteArray)]) ?_ 1 _ rfl; (with_reducible repeat (first | refine blk_drewN ?_ _ | refine blk_drew ?_ | refine blk_alloc ?_ _)); refine blk_put (cs := #[.int .i64 0, .int .i64 0, .int .u64 0, .string (⟨#[]⟩ : ByteArray)]) ?_ 0 _ rfl; (with_reducible repeat (first | refine blk_drewN ?_ _ | refine blk_drew ?_ | refine blk_alloc ?_ _)); exact BK208.out) hb); have n2_ := Aside0.mk (below_step (by repeat (first | (with_reducible first | exact HB.out | apply below_alloc | apply pw_below_drewN | apply below_drew1 | refine below_set ?_ GE208.out) | exact HB.out)) hb); have n3_ := Aside0.mk (hbox); have n4_ := Aside0.mk ((by rw [hg]; exact (below_size (by repeat (first | (with_reducible first | exact HB.out | apply below_alloc | apply pw_below_drewN | apply below_drew1 | refine below_set ?_ GE208.out) | exact HB.out))) : w.heap.size ≤ gb209)); have n5_ := Aside0.mk ((by rw [hg]; exact (below_size (by repeat (first | (with_reducible first | exact HB.out | apply below_alloc | apply pw_below_drewN | apply below_drew1 | refine below_set ?_ GE208.out) | exact HB.out))) : w.heap.size ≤ gb209)); have n6_ := Aside0.mk ((by rw [hg]; exact Nat.ne_of_lt (blk_lt (g := gb208) (o := .cells #[.int .i64 ((rd_T87 l1 x8_1).f0), .int .i64 ((rd_T87 l1 x8_1).f1), .int .u64 ((rd_T87 l1 x8_1).f2), .string ((rd_T87 l1 x8_1).f3)] 87 (0, 0)) (by (with_reducible repeat (first | refine blk_drewN ?_ _ | refine blk_drew ?_ | refine blk_alloc ?_ _)); refine blk_put (cs := #[.int .i64 ((rd_T87 l1 x8_1).f0), .int .i64 ((rd_T87 l1 x8_1).f1), .int .u64 ((rd_T87 l1 x8_1).f2), .string (⟨#[]⟩ : ByteArray)]) ?_ 3 _ rfl; (with_reducible repeat (first | refine blk_drewN ?_ _ | refine blk_drew ?_ | refine blk_alloc ?_ _)); refine blk_put (cs := #[.int .i64 ((rd_T87 l1 x8_1).f0), .int .i64 ((rd_T87 l1 x8_1).f1), .int .u64 0, .string (⟨#[]⟩ : ByteArray)]) ?_ 2 _ rfl; (with_reducible repeat (first | refine blk_drewN ?_ _ | refine blk_drew ?_ | refine blk_alloc ?_ _)); refine blk_put (cs := #[.int .i64 ((rd_T87 l1 x8_1).f0), .int .i64 0, .int .u64 0, .string (⟨#[]⟩ : ByteArray)]) ?_ 1 _ rfl; (with_reducible repeat (first | refine blk_drewN ?_ _ | refine blk_drew ?_ | refine blk_alloc ?_ _)); refine blk_put (cs := #[.int .i64 0, .int .i64 0, .int .u64 0, .string (⟨#[]⟩ : ByteArray)]) ?_ 0 _ rfl; (with_reducible repeat (first | refine blk_drewN ?_ _ | refine blk_drew ?_ | refine blk_alloc ?_ _)); exact BK208.out)) : gb208 ≠ gb209)); have n7_ := Aside0.mk ((by rw [hg]; exact Nat.ne_of_gt (blk_lt (g := gb208) (o := .cells #[.int .i64 ((rd_T87 l1 x8_1).f0), .int .i64 ((rd_T87 l1 x8_1).f1), .int .u64 ((rd_T87 l1 x8_1).f2), .string ((rd_T87 l1 x8_1).f3)] 87 (0, 0)) (by (with_reducible repeat (first | refine blk_drewN ?_ _ | refine blk_drew ?_ | refine blk_alloc ?_ _)); refine blk_put (cs := #[.int .i64 ((rd_T87 l1 x8_1).f0), .int .i64 ((rd_T87 l1 x8_1).f1), .int .u64 ((rd_T87 l1 x8_1).f2), .string (⟨#[]⟩ : ByteArray)]) ?_ 3 _ rfl; (with_reducible repeat (first | refine blk_drewN ?_ _ | refine blk_drew ?_ | refine blk_alloc ?_ _)); refine blk_put (cs := #[.int .i64 ((rd_T87 l1 x8_1).f0), .int .i64 ((rd_T87 l1 x8_1).f1), .int .u64 0, .string (⟨#[]⟩ : ByteArray)]) ?_ 2 _ rfl; (with_reducible repeat (first | refine blk_drewN ?_ _ | refine blk_drew ?_ | refine blk_alloc ?_ _)); refine blk_put (cs := #[.int .i64 ((rd_T87 l1 x8_1).f0), .int .i64 0, .int .u64 0, .string (⟨#[]⟩ : ByteArray)]) ?_ 1 _ rfl; (with_reducible repeat (first | refine blk_drewN ?_ _ | refine blk_drew ?_ | refine blk_alloc ?_ _)); refine blk_put (cs := #[.int .i64 0, .int .i64 0, .int .u64 0, .string (⟨#[]⟩ : ByteArray)]) ?_ 0 _ rfl; (with_reducible repeat (first | refine blk_drewN ?_ _ | refine blk_drew ?_ | refine blk_alloc ?_ _)); exact BK208.out)) : gb209 ≠ gb208)); clear HO_6; clear BK208; clear HB; have HO_6 := n0_; have BK208 := n1_; have HB := n2_; have BK209 := n3_; have GW209 := n4_; have GE209 := n5_; have NB208_209 := n6_; have NB209_208 := n7_; clear n0_ n1_ n2_ n3_ n4_ n5_ n6_ n7_; clear hb hbox hg; have hnb9 := NB209_208.out; have hnc9 := NB208_209.out; have hcz10_0 : w8.cell? ⟨gb209, 0, none⟩ = some (.int .u64 0) := (blk_cell BK209.out 0).trans rfl; have hcz10_1 : w8.cell? ⟨gb209, 1, none⟩ = some (.string (⟨#[]⟩ : ByteArray)) := (blk_cell BK209.out 1).trans rfl; have hcz10_2 : w8.cell? ⟨gb209, 2, none⟩ = some (.int .i64 0) := (blk_cell BK209.out 2).trans rfl; have hcz10_3 : w8.cell? ⟨gb209, 3, none⟩ = some (.int .i64 0) := (blk_cell BK209.out 3).trans rfl; have hfz10_0 := blk_frozen BK209.out 0; have hfz10_1 := blk_frozen BK209.out 1; have hfz10_2 := blk_frozen BK209.out 2; have hfz10_3 := blk_frozen BK209.out 3)))
          (try simp only [Act.put, List.setIfInBounds_toArray, List.set_cons_zero, List.set_cons_succ])
          go_cut [11] (fun v11 wc => ∃ (kq : Nat) (x11_4 : Int), v11 = .int .i64 x11_4 ∧ Aside0 (palanquinref01_Read.j2 kq a0 l1 x6_1 x7_1 x8_1 x11_4 ((rd_T87 l1 x8_1).f0) ((rd_T87 l1 x8_1).f1) ((rd_T87 l1 x8_1).f2) ((rd_T87 l1 x8_1).f3) 0 (⟨#[]⟩ : ByteArray) 0 0 = some (r1, r2)) ∧ Aside0 (kq ≤ k1) ∧ Aside0 (Kd.R k90 90 wc w.heap.size (fun k_ => k_ ≠ gb209) u6 x6_1) ∧ Aside0 (wc.heap[gb208]? = some (.cells #[.int .i64 ((rd_T87 l1 x8_1).f0), .int .i64 ((rd_T87 l1 x8_1).f1), .int .u64 ((rd_T87 l1 x8_1).f2), .string ((rd_T87 l1 x8_1).f3)] 87 (0, 0))) ∧ Aside0 (wc.heap[gb209]? = some (.cells #[.int .u64 0, .string (⟨#[]⟩ : ByteArray), .int .i64 0, .int .i64 0] 90 (0, 0))) ∧ Aside0 (Below w.heap.size w wc))
          case first =>
            have H := HC5.out
            clear HC5
            have HC11 := Aside0.mk H
            clear H
            go_upto_region 9 with (fail)
            repeat (go_quiet (fail); go_upto_region 9 with (fail))
            go_cut [24] (fun v24 wc => ∃ (kq : Nat) (x24_10 : Bool), v24 = .bool x24_10 ∧ Aside0 (palanquinref01_Read.j1 kq a0 l1 x6_1 x7_1 x8_1 0 x24_10 ((rd_T87 l1 x8_1).f0) ((rd_T87 l1 x8_1).f1) ((rd_T87 l1 x8_1).f2) ((rd_T87 l1 x8_1).f3) 0 (⟨#[]⟩ : ByteArray) 0 0 = some (r1, r2)) ∧ Aside0 (kq ≤ k1) ∧ Aside0 (Kd.R k90 90 wc w.heap.size (fun k_ => k_ ≠ gb209) u6 x6_1) ∧ Aside0 (wc.heap[gb208]? = some (.cells #[.int .i64 ((rd_T87 l1 x8_1).f0), .int .i64 ((rd_T87 l1 x8_1).f1), .int .u64 ((rd_T87 l1 x8_1).f2), .string ((rd_T87 l1 x8_1).f3)] 87 (0, 0))) ∧ Aside0 (wc.heap[gb209]? = some (.cells #[.int .u64 0, .string (⟨#[]⟩ : ByteArray), .int .i64 0, .int .i64 0] 90 (0, 0))) ∧ Aside0 (Below w.heap.size w wc))
            case first =>
              have H := HC11.out
              clear HC11
              by_cases c12 : ((rd_T87 l1 x8_1).f0) ≥ 0
              · rw [if_pos c12] at H
                have c12b0 : decide (0 ≤ ((rd_T87 l1 x8_1).f0)) = true := decide_eq_true c12
                clear c12
                (first | rw [c12b0] | (simp only [i64_w, i32_w]; rw [c12b0]) | skip)
                have H' := Aside0.mk H
                clear H
                have hnb13 := NB208_209.out
                have hnc13 := NB209_208.out
                have hcz14_0 : w8.cell? ⟨gb208, 0, none⟩ = some (.int .i64 ((rd_T87 l1 x8_1).f0)) := (blk_cell BK208.out 0).trans rfl
                have hcz14_1 : w8.cell? ⟨gb208, 1, none⟩ = some (.int .i64 ((rd_T87 l1 x8_1).f1)) := (blk_cell BK208.out 1).trans rfl
                have hcz14_2 : w8.cell? ⟨gb208, 2, none⟩ = some (.int .u64 ((rd_T87 l1 x8_1).f2)) := (blk_cell BK208.out 2).trans rfl
                have hcz14_3 : w8.cell? ⟨gb208, 3, none⟩ = some (.string ((rd_T87 l1 x8_1).f3)) := (blk_cell BK208.out 3).trans rfl
                have hfz14_0 := blk_frozen BK208.out 0
                have hfz14_1 := blk_frozen BK208.out 1
                have hfz14_2 := blk_frozen BK208.out 2
                have hfz14_3 := blk_frozen BK208.out 3
                go_wp2
                repeat (go_quiet (fail); try go_wp2)
                go_meet
                case rel => exact ⟨_, (decide (((rd_T87 l1 x8_1).f0) ≤ 3)), (by first | rfl | (simp; done) | (simp [*]; done)), H', ⟨by have := HK1.out; first | omega | exact Nat.le_refl _⟩, ⟨by (with_reducible repeat (first | apply Kd.R_alloc | apply Kd.R_drewN | apply Kd.R_drew)); exact Kd.R_mono (Kd.R_far (p := ⟨gb209, 3, none⟩) (Kd.R_far (p := ⟨gb209, 2, none⟩) (Kd.R_far (p := ⟨gb209, 1, none⟩) (Kd.R_far (p := ⟨gb209, 0, none⟩) (Kd.R_mono HO_6.out (fun k_ hk => (⟨hk, hk.2⟩ : _ ∧ k_ ≠ gb209))) (fun _ hk => hk.2) (.int .u64 0)) (fun _ hk => hk.2) (.string (⟨#[]⟩ : ByteArray))) (fun _ hk => hk.2) (.int .i64 0)) (fun _ hk => hk.2) (.int .i64 0)) (fun _ hk => hk.1.2)⟩, ⟨by (with_reducible repeat (first | refine blk_drewN ?_ _ | refine blk_drew ?_ | refine blk_alloc ?_ _)); refine blk_far ?_ NB208_209.out _; (with_reducible repeat (first | refine blk_drewN ?_ _ | refine blk_drew ?_ | refine blk_alloc ?_ _)); refine blk_far ?_ NB208_209.out _; (with_reducible repeat (first | refine blk_drewN ?_ _ | refine blk_drew ?_ | refine blk_alloc ?_ _)); refine blk_far ?_ NB208_209.out _; (with_reducible repeat (first | refine blk_drewN ?_ _ | refine blk_drew ?_ | refine blk_alloc ?_ _)); refine blk_far ?_ NB208_209.out _; (with_reducible repeat (first | refine blk_drewN ?_ _ | refine blk_drew ?_ | refine blk_alloc ?_ _)); exact BK208.out⟩, ⟨by (with_reducible repeat (first | refine blk_drewN ?_ _ | refine blk_drew ?_ | refine blk_alloc ?_ _)); refine blk_put (cs := #[.int .u64 0, .string (⟨#[]⟩ : ByteArray), .int .i64 0, .int .i64 0]) ?_ 3 _ rfl; (with_reducible repeat (first | refine blk_drewN ?_ _ | refine blk_drew ?_ | refine blk_alloc ?_ _)); refine blk_put (cs := #[.int .u64 0, .string (⟨#[]⟩ : ByteArray), .int .i64 0, .int .i64 0]) ?_ 2 _ rfl; (with_reducible repeat (first | refine blk_drewN ?_ _ | refine blk_drew ?_ | refine blk_alloc ?_ _)); refine blk_put (cs := #[.int .u64 0, .string (⟨#[]⟩ : ByteArray), .int .i64 0, .int .i64 0]) ?_ 1 _ rfl; (with_reducible repeat (first | refine blk_drewN ?_ _ | refine blk_drew ?_ | refine blk_alloc ?_ _)); refine blk_put (cs := #[.int .u64 0, .string (⟨#[]⟩ : ByteArray), .int .i64 0, .int .i64 0]) ?_ 0 _ rfl; (with_reducible repeat (first | refine blk_drewN ?_ _ | refine blk_drew ?_ | refine blk_alloc ?_ _)); exact BK209.out⟩, ⟨by repeat (first | (with_reducible first | exact HB.out | apply below_alloc | apply pw_below_drewN | apply below_drew1 | refine below_set ?_ GE208.out | refine below_set ?_ GE209.out) | exact HB.out)⟩⟩
              · rw [if_neg c12] at H
                have c12b0 : decide (0 ≤ ((rd_T87 l1 x8_1).f0)) = false := decide_eq_false c12
                clear c12
                (first | rw [c12b0] | (simp only [i64_w, i32_w]; rw [c12b0]) | skip)
                have H' := Aside0.mk H
                clear H
                have hnb15 := NB208_209.out
                have hnc15 := NB209_208.out
                have hcz16_0 : w8.cell? ⟨gb208, 0, none⟩ = some (.int .i64 ((rd_T87 l1 x8_1).f0)) := (blk_cell BK208.out 0).trans rfl
                have hcz16_1 : w8.cell? ⟨gb208, 1, none⟩ = some (.int .i64 ((rd_T87 l1 x8_1).f1)) := (blk_cell BK208.out 1).trans rfl
                have hcz16_2 : w8.cell? ⟨gb208, 2, none⟩ = some (.int .u64 ((rd_T87 l1 x8_1).f2)) := (blk_cell BK208.out 2).trans rfl
                have hcz16_3 : w8.cell? ⟨gb208, 3, none⟩ = some (.string ((rd_T87 l1 x8_1).f3)) := (blk_cell BK208.out 3).trans rfl
                have hfz16_0 := blk_frozen BK208.out 0
                have hfz16_1 := blk_frozen BK208.out 1
                have hfz16_2 := blk_frozen BK208.out 2
                have hfz16_3 := blk_frozen BK208.out 3
                go_wp2
                repeat (go_quiet (fail); try go_wp2)
                go_meet
                case rel => exact ⟨_, (false), (by first | rfl | (simp; done) | (simp [*]; done)), H', ⟨by have := HK1.out; first | omega | exact Nat.le_refl _⟩, ⟨by (with_reducible repeat (first | apply Kd.R_alloc | apply Kd.R_drewN | apply Kd.R_drew)); exact Kd.R_mono (Kd.R_far (p := ⟨gb209, 3, none⟩) (Kd.R_far (p := ⟨gb209, 2, none⟩) (Kd.R_far (p := ⟨gb209, 1, none⟩) (Kd.R_far (p := ⟨gb209, 0, none⟩) (Kd.R_mono HO_6.out (fun k_ hk => (⟨hk, hk.2⟩ : _ ∧ k_ ≠ gb209))) (fun _ hk => hk.2) (.int .u64 0)) (fun _ hk => hk.2) (.string (⟨#[]⟩ : ByteArray))) (fun _ hk => hk.2) (.int .i64 0)) (fun _ hk => hk.2) (.int .i64 0)) (fun _ hk => hk.1.2)⟩, ⟨by (with_reducible repeat (first | refine blk_drewN ?_ _ | refine blk_drew ?_ | refine blk_alloc ?_ _)); refine blk_far ?_ NB208_209.out _; (with_reducible repeat (first | refine blk_drewN ?_ _ | refine blk_drew ?_ | refine blk_alloc ?_ _)); refine blk_far ?_ NB208_209.out _; (with_reducible repeat (first | refine blk_drewN ?_ _ | refine blk_drew ?_ | refine blk_alloc ?_ _)); refine blk_far ?_ NB208_209.out _; (with_reducible repeat (first | refine blk_drewN ?_ _ | refine blk_drew ?_ | refine blk_alloc ?_ _)); refine blk_far ?_ NB208_209.out _; (with_reducible repeat (first | refine blk_drewN ?_ _ | refine blk_drew ?_ | refine blk_alloc ?_ _)); exact BK208.out⟩, ⟨by (with_reducible repeat (first | refine blk_drewN ?_ _ | refine blk_drew ?_ | refine blk_alloc ?_ _)); refine blk_put (cs := #[.int .u64 0, .string (⟨#[]⟩ : ByteArray), .int .i64 0, .int .i64 0]) ?_ 3 _ rfl; (with_reducible repeat (first | refine blk_drewN ?_ _ | refine blk_drew ?_ | refine blk_alloc ?_ _)); refine blk_put (cs := #[.int .u64 0, .string (⟨#[]⟩ : ByteArray), .int .i64 0, .int .i64 0]) ?_ 2 _ rfl; (with_reducible repeat (first | refine blk_drewN ?_ _ | refine blk_drew ?_ | refine blk_alloc ?_ _)); refine blk_put (cs := #[.int .u64 0, .string (⟨#[]⟩ : ByteArray), .int .i64 0, .int .i64 0]) ?_ 1 _ rfl; (with_reducible repeat (first | refine blk_drewN ?_ _ | refine blk_drew ?_ | refine blk_alloc ?_ _)); refine blk_put (cs := #[.int .u64 0, .string (⟨#[]⟩ : ByteArray), .int .i64 0, .int .i64 0]) ?_ 0 _ rfl; (with_reducible repeat (first | refine blk_drewN ?_ _ | refine blk_drew ?_ | refine blk_alloc ?_ _)); exact BK209.out⟩, ⟨by repeat (first | (with_reducible first | exact HB.out | apply below_alloc | apply pw_below_drewN | apply below_drew1 | refine below_set ?_ GE208.out | refine below_set ?_ GE209.out) | exact HB.out)⟩⟩
            case rest =>
              clear HC11
              try clear c1
              try clear p2
              try clear q2
              try clear hx2
              try clear c3
              try clear c3b0
              try clear c4
              try clear c4b0
              try clear c5
              try clear c9
              try clear c12
              try clear c12b0
              try clear c13
              try clear c15
              try clear hcz10_0
              try clear hcz10_1
              try clear hcz10_2
              try clear hcz10_3
              try clear hcz14_0
              try clear hcz14_1
              try clear hcz14_2
              try clear hcz14_3
              try clear hcz16_0
              try clear hcz16_1
              try clear hcz16_2
              try clear hcz16_3
              try clear hcz7_0
              try clear hcz7_1
              try clear hcz7_2
              try clear hcz7_3
              try clear hfz10_0
              try clear hfz10_1
              try clear hfz10_2
              try clear hfz10_3
              try clear hfz14_0
              try clear hfz14_1
              try clear hfz14_2
              try clear hfz14_3
              try clear hfz16_0
              try clear hfz16_1
              try clear hfz16_2
              try clear hfz16_3
              try clear hfz7_0
              try clear hfz7_1
              try clear hfz7_2
              try clear hfz7_3
              try clear hx207_0
              try clear hx207_1
              try clear hx207_2
              try clear hx207_3
              try clear p2
              try clear p207
              try clear q207
              obtain ⟨kq, x24_10, rfl, HA, HJ10, HO_6, BK208, BK209, HB⟩ := hcut
              cases kq with
              | zero => exact absurd HA.out (by simp [palanquinref01_Read.j1])
              | succ kj10 =>
                have H := HA.out
                clear HA
                simp only [palanquinref01_Read.j1] at H
                by_cases c17 : x24_10 = true
                · subst c17
                  have H1 : ((palanquinref01_Size.f ((rd_T87 l1 x8_1).f0)).bind fun t210 => (palanquinref01_Read.j2 kj10 a0 l1 x6_1 x7_1 x8_1 t210 ((rd_T87 l1 x8_1).f0) ((rd_T87 l1 x8_1).f1) ((rd_T87 l1 x8_1).f2) ((rd_T87 l1 x8_1).f3) 0 (⟨#[]⟩ : ByteArray) 0 0)) = some (r1, r2) := by rw [if_pos rfl] at H; exact H
                  clear H
                  have H := H1
                  clear H1
                  replace H := Option.bind_eq_some_iff.mp H
                  obtain ⟨t210, A180, H⟩ := H
                  replace H : (palanquinref01_Read.j2 kj10 a0 l1 x6_1 x7_1 x8_1 t210 ((rd_T87 l1 x8_1).f0) ((rd_T87 l1 x8_1).f1) ((rd_T87 l1 x8_1).f2) ((rd_T87 l1 x8_1).f3) 0 (⟨#[]⟩ : ByteArray) 0 0) = some (r1, r2) := H
                  have A18 := Aside0.mk A180
                  clear A180
                  have H' := Aside0.mk H
                  clear H
                  have hnb19 := NB208_209.out
                  have hnc19 := NB209_208.out
                  have hcz20_0 : wc.cell? ⟨gb208, 0, none⟩ = some (.int .i64 ((rd_T87 l1 x8_1).f0)) := (blk_cell BK208.out 0).trans rfl
                  have hcz20_1 : wc.cell? ⟨gb208, 1, none⟩ = some (.int .i64 ((rd_T87 l1 x8_1).f1)) := (blk_cell BK208.out 1).trans rfl
                  have hcz20_2 : wc.cell? ⟨gb208, 2, none⟩ = some (.int .u64 ((rd_T87 l1 x8_1).f2)) := (blk_cell BK208.out 2).trans rfl
                  have hcz20_3 : wc.cell? ⟨gb208, 3, none⟩ = some (.string ((rd_T87 l1 x8_1).f3)) := (blk_cell BK208.out 3).trans rfl
                  have hfz20_0 := blk_frozen BK208.out 0
                  have hfz20_1 := blk_frozen BK208.out 1
                  have hfz20_2 := blk_frozen BK208.out 2
                  have hfz20_3 := blk_frozen BK208.out 3
                  go_wp2_with (first | (go_at_call 82; (with_reducible refine (palanquinref01_Size.calls ((rd_T87 l1 x8_1).f0) t210 _ A18.out).mono ?_); rintro e w' ⟨rfl, ⟨nd, rfl⟩⟩; (try first | exact ⟨rfl, _, World.drewN_drewN _ _ _⟩ | exact ⟨rfl, _, Eq.trans (World.drewN_drewN _ _ _) (congrArg (World.drewN _) (Nat.add_assoc _ _ _))⟩)))
                  repeat (go_quiet (first | (go_at_call 82; (with_reducible refine (palanquinref01_Size.calls ((rd_T87 l1 x8_1).f0) t210 _ A18.out).mono ?_); rintro e w' ⟨rfl, ⟨nd, rfl⟩⟩; (try first | exact ⟨rfl, _, World.drewN_drewN _ _ _⟩ | exact ⟨rfl, _, Eq.trans (World.drewN_drewN _ _ _) (congrArg (World.drewN _) (Nat.add_assoc _ _ _))⟩))); try go_wp2_with (first | (go_at_call 82; (with_reducible refine (palanquinref01_Size.calls ((rd_T87 l1 x8_1).f0) t210 _ A18.out).mono ?_); rintro e w' ⟨rfl, ⟨nd, rfl⟩⟩; (try first | exact ⟨rfl, _, World.drewN_drewN _ _ _⟩ | exact ⟨rfl, _, Eq.trans (World.drewN_drewN _ _ _) (congrArg (World.drewN _) (Nat.add_assoc _ _ _))⟩))))
                  go_meet
                  case rel => exact ⟨_, (t210), (by first | rfl | (simp; done) | (simp [*]; done)), H', ⟨by have := HK1.out; have := HJ10.out; first | omega | exact Nat.le_refl _⟩, ⟨by (with_reducible repeat (first | apply Kd.R_alloc | apply Kd.R_drewN | apply Kd.R_drew)); exact HO_6.out⟩, ⟨by (with_reducible repeat (first | refine blk_drewN ?_ _ | refine blk_drew ?_ | refine blk_alloc ?_ _)); exact BK208.out⟩, ⟨by (with_reducible repeat (first | refine blk_drewN ?_ _ | refine blk_drew ?_ | refine blk_alloc ?_ _)); exact BK209.out⟩, ⟨by repeat (first | (with_reducible first | exact HB.out | apply below_alloc | apply pw_below_drewN | apply below_drew1 | refine below_set ?_ GE208.out | refine below_set ?_ GE209.out) | exact HB.out)⟩⟩
                · replace c17 := Bool.eq_false_iff.mpr c17
                  subst c17
                  have H1 : (if ((rd_T87 l1 x8_1).f0) = 4 then (palanquinref01_Read.j2 kj10 a0 l1 x6_1 x7_1 x8_1 ((rd_T87 l1 x8_1).f1) ((rd_T87 l1 x8_1).f0) ((rd_T87 l1 x8_1).f1) ((rd_T87 l1 x8_1).f2) ((rd_T87 l1 x8_1).f3) 0 (⟨#[]⟩ : ByteArray) 0 0) else (if ((rd_T87 l1 x8_1).f0) = 5 then (palanquinref01_Read.j2 kj10 a0 l1 x6_1 x7_1 x8_1 (wrap64 ((a0.size : Int) - x7_1)) ((rd_T87 l1 x8_1).f0) ((rd_T87 l1 x8_1).f1) ((rd_T87 l1 x8_1).f2) ((rd_T87 l1 x8_1).f3) 0 (⟨#[]⟩ : ByteArray) 0 0) else (if (Int.tmod ((rd_T87 l1 x8_1).f2) 2) = 1 then (some (x6_1, ((rd_T87 l1 x8_1).f1))) else (palanquinref01_Read.j2 kj10 a0 l1 x6_1 x7_1 x8_1 0 ((rd_T87 l1 x8_1).f0) ((rd_T87 l1 x8_1).f1) ((rd_T87 l1 x8_1).f2) ((rd_T87 l1 x8_1).f3) 0 (⟨#[]⟩ : ByteArray) 0 0)))) = some (r1, r2) := by rw [if_neg (show ¬ (false = true) by decide)] at H; exact H
                  clear H
                  have H := H1
                  clear H1
                  by_cases c21 : ((rd_T87 l1 x8_1).f0) = 4
                  · rw [if_pos c21] at H
                    have c21b0 : (((rd_T87 l1 x8_1).f0) == 4) = true := beq_iff_eq.mpr c21
                    have c21b1 : (((rd_T87 l1 x8_1).f0) != 4) = false := bne_eq_false_iff_eq.mpr c21
                    clear c21
                    have H' := Aside0.mk H
                    clear H
                    have hnb22 := NB208_209.out
                    have hnc22 := NB209_208.out
                    have hcz23_0 : wc.cell? ⟨gb208, 0, none⟩ = some (.int .i64 ((rd_T87 l1 x8_1).f0)) := (blk_cell BK208.out 0).trans rfl
                    have hcz23_1 : wc.cell? ⟨gb208, 1, none⟩ = some (.int .i64 ((rd_T87 l1 x8_1).f1)) := (blk_cell BK208.out 1).trans rfl
                    have hcz23_2 : wc.cell? ⟨gb208, 2, none⟩ = some (.int .u64 ((rd_T87 l1 x8_1).f2)) := (blk_cell BK208.out 2).trans rfl
                    have hcz23_3 : wc.cell? ⟨gb208, 3, none⟩ = some (.string ((rd_T87 l1 x8_1).f3)) := (blk_cell BK208.out 3).trans rfl
                    have hfz23_0 := blk_frozen BK208.out 0
                    have hfz23_1 := blk_frozen BK208.out 1
                    have hfz23_2 := blk_frozen BK208.out 2
                    have hfz23_3 := blk_frozen BK208.out 3
                    go_wp2
                    repeat (go_quiet (fail); try go_wp2)
                    go_meet
                    case rel => exact ⟨_, (((rd_T87 l1 x8_1).f1)), (by first | rfl | (simp; done) | (simp [*]; done)), H', ⟨by have := HK1.out; have := HJ10.out; first | omega | exact Nat.le_refl _⟩, ⟨by (with_reducible repeat (first | apply Kd.R_alloc | apply Kd.R_drewN | apply Kd.R_drew)); exact HO_6.out⟩, ⟨by (with_reducible repeat (first | refine blk_drewN ?_ _ | refine blk_drew ?_ | refine blk_alloc ?_ _)); exact BK208.out⟩, ⟨by (with_reducible repeat (first | refine blk_drewN ?_ _ | refine blk_drew ?_ | refine blk_alloc ?_ _)); exact BK209.out⟩, ⟨by repeat (first | (with_reducible first | exact HB.out | apply below_alloc | apply pw_below_drewN | apply below_drew1 | refine below_set ?_ GE208.out | refine below_set ?_ GE209.out) | exact HB.out)⟩⟩
                  · rw [if_neg c21] at H
                    have c21b0 : (((rd_T87 l1 x8_1).f0) == 4) = false := beq_eq_false_iff_ne.mpr c21
                    have c21b1 : (((rd_T87 l1 x8_1).f0) != 4) = true := bne_iff_ne.mpr c21
                    by_cases c24 : ((rd_T87 l1 x8_1).f0) = 5
                    · rw [if_pos c24] at H
                      have c24b0 : (((rd_T87 l1 x8_1).f0) == 5) = true := beq_iff_eq.mpr c24
                      have c24b1 : (((rd_T87 l1 x8_1).f0) != 5) = false := bne_eq_false_iff_eq.mpr c24
                      clear c24
                      have H' := Aside0.mk H
                      clear H
                      have hnb25 := NB208_209.out
                      have hnc25 := NB209_208.out
                      have hcz26_0 : wc.cell? ⟨gb208, 0, none⟩ = some (.int .i64 ((rd_T87 l1 x8_1).f0)) := (blk_cell BK208.out 0).trans rfl
                      have hcz26_1 : wc.cell? ⟨gb208, 1, none⟩ = some (.int .i64 ((rd_T87 l1 x8_1).f1)) := (blk_cell BK208.out 1).trans rfl
                      have hcz26_2 : wc.cell? ⟨gb208, 2, none⟩ = some (.int .u64 ((rd_T87 l1 x8_1).f2)) := (blk_cell BK208.out 2).trans rfl
                      have hcz26_3 : wc.cell? ⟨gb208, 3, none⟩ = some (.string ((rd_T87 l1 x8_1).f3)) := (blk_cell BK208.out 3).trans rfl
                      have hfz26_0 := blk_frozen BK208.out 0
                      have hfz26_1 := blk_frozen BK208.out 1
                      have hfz26_2 := blk_frozen BK208.out 2
                      have hfz26_3 := blk_frozen BK208.out 3
                      go_wp2
                      repeat (go_quiet (fail); try go_wp2)
                      go_meet
                      case rel => exact ⟨_, (wrap64 ((a0.size : Int) - x7_1)), (by first | rfl | (simp; done) | (simp [*]; done)), H', ⟨by have := HK1.out; have := HJ10.out; first | omega | exact Nat.le_refl _⟩, ⟨by (with_reducible repeat (first | apply Kd.R_alloc | apply Kd.R_drewN | apply Kd.R_drew)); exact HO_6.out⟩, ⟨by (with_reducible repeat (first | refine blk_drewN ?_ _ | refine blk_drew ?_ | refine blk_alloc ?_ _)); exact BK208.out⟩, ⟨by (with_reducible repeat (first | refine blk_drewN ?_ _ | refine blk_drew ?_ | refine blk_alloc ?_ _)); exact BK209.out⟩, ⟨by repeat (first | (with_reducible first | exact HB.out | apply below_alloc | apply pw_below_drewN | apply below_drew1 | refine below_set ?_ GE208.out | refine below_set ?_ GE209.out) | exact HB.out)⟩⟩
                    · rw [if_neg c24] at H
                      have c24b0 : (((rd_T87 l1 x8_1).f0) == 5) = false := beq_eq_false_iff_ne.mpr c24
                      have c24b1 : (((rd_T87 l1 x8_1).f0) != 5) = true := bne_iff_ne.mpr c24
                      by_cases c27 : (Int.tmod ((rd_T87 l1 x8_1).f2) 2) = 1
                      · rw [if_pos c27] at H
                        have c27b0 : ((Int.tmod ((rd_T87 l1 x8_1).f2) 2) == 1) = true := beq_iff_eq.mpr c27
                        have c27b1 : ((Int.tmod ((rd_T87 l1 x8_1).f2) 2) != 1) = false := bne_eq_false_iff_eq.mpr c27
                        clear c27
                        simp only [Option.some.injEq, Prod.mk.injEq] at H
                        obtain ⟨rfl, rfl⟩ := H
                        have hnb28 := NB208_209.out
                        have hnc28 := NB209_208.out
                        have hcz29_0 : wc.cell? ⟨gb208, 0, none⟩ = some (.int .i64 ((rd_T87 l1 x8_1).f0)) := (blk_cell BK208.out 0).trans rfl
                        have hcz29_1 : wc.cell? ⟨gb208, 1, none⟩ = some (.int .i64 ((rd_T87 l1 x8_1).f1)) := (blk_cell BK208.out 1).trans rfl
                        have hcz29_2 : wc.cell? ⟨gb208, 2, none⟩ = some (.int .u64 ((rd_T87 l1 x8_1).f2)) := (blk_cell BK208.out 2).trans rfl
                        have hcz29_3 : wc.cell? ⟨gb208, 3, none⟩ = some (.string ((rd_T87 l1 x8_1).f3)) := (blk_cell BK208.out 3).trans rfl
                        have hfz29_0 := blk_frozen BK208.out 0
                        have hfz29_1 := blk_frozen BK208.out 1
                        have hfz29_2 := blk_frozen BK208.out 2
                        have hfz29_3 := blk_frozen BK208.out 3
                        go_wp2
                        repeat (go_quiet (fail); try go_wp2)
                        go_ret2
                        exact ⟨_, by first | rfl | (simp [errW_none, errW_some] <;> rfl) | (simp [*, errW_none, errW_some] <;> rfl), by (with_reducible repeat (first | apply Kd.R_alloc | apply Kd.R_drewN | apply Kd.R_drew)); exact Kd.R_mono HO_6.out (fun _ hk => trivial), by repeat (first | (with_reducible first | exact HB.out | apply below_alloc | apply pw_below_drewN | apply below_drew1 | refine below_set ?_ GE208.out | refine below_set ?_ GE209.out) | exact HB.out)⟩
                      · rw [if_neg c27] at H
                        have c27b0 : ((Int.tmod ((rd_T87 l1 x8_1).f2) 2) == 1) = false := beq_eq_false_iff_ne.mpr c27
                        have c27b1 : ((Int.tmod ((rd_T87 l1 x8_1).f2) 2) != 1) = true := bne_iff_ne.mpr c27
                        have H' := Aside0.mk H
                        clear H
                        have hnb30 := NB208_209.out
                        have hnc30 := NB209_208.out
                        have hcz31_0 : wc.cell? ⟨gb208, 0, none⟩ = some (.int .i64 ((rd_T87 l1 x8_1).f0)) := (blk_cell BK208.out 0).trans rfl
                        have hcz31_1 : wc.cell? ⟨gb208, 1, none⟩ = some (.int .i64 ((rd_T87 l1 x8_1).f1)) := (blk_cell BK208.out 1).trans rfl
                        have hcz31_2 : wc.cell? ⟨gb208, 2, none⟩ = some (.int .u64 ((rd_T87 l1 x8_1).f2)) := (blk_cell BK208.out 2).trans rfl
                        have hcz31_3 : wc.cell? ⟨gb208, 3, none⟩ = some (.string ((rd_T87 l1 x8_1).f3)) := (blk_cell BK208.out 3).trans rfl
                        have hfz31_0 := blk_frozen BK208.out 0
                        have hfz31_1 := blk_frozen BK208.out 1
                        have hfz31_2 := blk_frozen BK208.out 2
                        have hfz31_3 := blk_frozen BK208.out 3
                        go_wp2
                        repeat (go_quiet (fail); try go_wp2)
                        go_meet
                        case rel => exact ⟨_, (0), (by first | rfl | (simp; done) | (simp [*]; done)), H', ⟨by have := HK1.out; have := HJ10.out; first | omega | exact Nat.le_refl _⟩, ⟨by (with_reducible repeat (first | apply Kd.R_alloc | apply Kd.R_drewN | apply Kd.R_drew)); exact HO_6.out⟩, ⟨by (with_reducible repeat (first | refine blk_drewN ?_ _ | refine blk_drew ?_ | refine blk_alloc ?_ _)); exact BK208.out⟩, ⟨by (with_reducible repeat (first | refine blk_drewN ?_ _ | refine blk_drew ?_ | refine blk_alloc ?_ _)); exact BK209.out⟩, ⟨by repeat (first | (with_reducible first | exact HB.out | apply below_alloc | apply pw_below_drewN | apply below_drew1 | refine below_set ?_ GE208.out | refine below_set ?_ GE209.out) | exact HB.out)⟩⟩
          case rest =>
            clear HC5
            try clear c1
            try clear c2
            try clear p2
            try clear q2
            try clear hx2
            try clear c3
            try clear c3b0
            try clear c4
            try clear c4b0
            try clear c5
            try clear p6
            try clear c9
            try clear c12
            try clear c12b0
            try clear c13
            try clear c15
            try clear c17
            try clear c19
            try clear p20
            try clear q20
            try clear hx20
            try clear c21
            try clear c21b0
            try clear c21b1
            try clear c22
            try clear c24
            try clear c24b0
            try clear c24b1
            try clear c25
            try clear c27
            try clear c27b0
            try clear c27b1
            try clear c28
            try clear c30
            try clear hcz10_0
            try clear hcz10_1
            try clear hcz10_2
            try clear hcz10_3
            try clear hcz14_0
            try clear hcz14_1
            try clear hcz14_2
            try clear hcz14_3
            try clear hcz16_0
            try clear hcz16_1
            try clear hcz16_2
            try clear hcz16_3
            try clear hcz20_0
            try clear hcz20_1
            try clear hcz20_2
            try clear hcz20_3
            try clear hcz23_0
            try clear hcz23_1
            try clear hcz23_2
            try clear hcz23_3
            try clear hcz26_0
            try clear hcz26_1
            try clear hcz26_2
            try clear hcz26_3
            try clear hcz29_0
            try clear hcz29_1
            try clear hcz29_2
            try clear hcz29_3
            try clear hcz31_0
            try clear hcz31_1
            try clear hcz31_2
            try clear hcz31_3
            try clear hcz7_0
            try clear hcz7_1
            try clear hcz7_2
            try clear hcz7_3
            try clear hfz10_0
            try clear hfz10_1
            try clear hfz10_2
            try clear hfz10_3
            try clear hfz14_0
            try clear hfz14_1
            try clear hfz14_2
            try clear hfz14_3
            try clear hfz16_0
            try clear hfz16_1
            try clear hfz16_2
            try clear hfz16_3
            try clear hfz20_0
            try clear hfz20_1
            try clear hfz20_2
            try clear hfz20_3
            try clear hfz23_0
            try clear hfz23_1
            try clear hfz23_2
            try clear hfz23_3
            try clear hfz26_0
            try clear hfz26_1
            try clear hfz26_2
            try clear hfz26_3
            try clear hfz29_0
            try clear hfz29_1
            try clear hfz29_2
            try clear hfz29_3
            try clear hfz31_0
            try clear hfz31_1
            try clear hfz31_2
            try clear hfz31_3
            try clear hfz7_0
            try clear hfz7_1
            try clear hfz7_2
            try clear hfz7_3
            try clear hx207_0
            try clear hx207_1
            try clear hx207_2
            try clear hx207_3
            try clear p2
            try clear p207
            try clear q2
            try clear q207
            obtain ⟨kq, x11_4, rfl, HA, HJ4, HO_6, BK208, BK209, HB⟩ := hcut
            cases kq with
            | zero => exact absurd HA.out (by simp [palanquinref01_Read.j2])
            | succ kj4 =>
              have H := HA.out
              clear HA
              simp only [palanquinref01_Read.j2] at H
              have HC32 := Aside0.mk H
              clear H
              go_upto_region 17 with (fail)
              repeat (go_quiet (fail); go_upto_region 17 with (fail))
              go_cut [67] (fun v67 wc => ∃ (kq : Nat) (x67_31 : Bool), v67 = .bool x67_31 ∧ Aside0 (palanquinref01_Read.j3 kq a0 l1 x6_1 x7_1 x8_1 x11_4 x67_31 ((rd_T87 l1 x8_1).f0) ((rd_T87 l1 x8_1).f1) ((rd_T87 l1 x8_1).f2) ((rd_T87 l1 x8_1).f3) 0 (⟨#[]⟩ : ByteArray) 0 0 = some (r1, r2)) ∧ Aside0 (kq ≤ kj4) ∧ Aside0 (Kd.R k90 90 wc w.heap.size (fun k_ => k_ ≠ gb209) u6 x6_1) ∧ Aside0 (wc.heap[gb208]? = some (.cells #[.int .i64 ((rd_T87 l1 x8_1).f0), .int .i64 ((rd_T87 l1 x8_1).f1), .int .u64 ((rd_T87 l1 x8_1).f2), .string ((rd_T87 l1 x8_1).f3)] 87 (0, 0))) ∧ Aside0 (wc.heap[gb209]? = some (.cells #[.int .u64 0, .string (⟨#[]⟩ : ByteArray), .int .i64 0, .int .i64 0] 90 (0, 0))) ∧ Aside0 (Below w.heap.size w wc))
              case first =>
                have H := HC32.out
                clear HC32
                by_cases c33 : x11_4 < 0
                · rw [if_pos c33] at H
                  have c33b0 : decide (x11_4 < 0) = true := decide_eq_true c33
                  clear c33
                  (first | rw [c33b0] | (simp only [i64_w, i32_w]; rw [c33b0]) | skip)
                  have H' := Aside0.mk H
                  clear H
                  go_wp2
                  repeat (go_quiet (fail); try go_wp2)
                  go_meet
                  case rel => exact ⟨_, (true), (by first | rfl | (simp; done) | (simp [*]; done)), H', ⟨by have := HK1.out; have := HJ4.out; first | omega | exact Nat.le_refl _⟩, ⟨by (with_reducible repeat (first | apply Kd.R_alloc | apply Kd.R_drewN | apply Kd.R_drew)); exact HO_6.out⟩, ⟨by (with_reducible repeat (first | refine blk_drewN ?_ _ | refine blk_drew ?_ | refine blk_alloc ?_ _)); exact BK208.out⟩, ⟨by (with_reducible repeat (first | refine blk_drewN ?_ _ | refine blk_drew ?_ | refine blk_alloc ?_ _)); exact BK209.out⟩, ⟨by repeat (first | (with_reducible first | exact HB.out | apply below_alloc | apply pw_below_drewN | apply below_drew1 | refine below_set ?_ GE208.out | refine below_set ?_ GE209.out) | exact HB.out)⟩⟩
                · rw [if_neg c33] at H
                  have c33b0 : decide (x11_4 < 0) = false := decide_eq_false c33
                  clear c33
                  (first | rw [c33b0] | (simp only [i64_w, i32_w]; rw [c33b0]) | skip)
                  have H' := Aside0.mk H
                  clear H
                  go_wp2
                  repeat (go_quiet (fail); try go_wp2)
                  go_meet
                  case rel => exact ⟨_, (decide (x11_4 > (wrap64 ((a0.size : Int) - x7_1)))), (by first | rfl | (simp; done) | (simp [*]; done)), H', ⟨by have := HK1.out; have := HJ4.out; first | omega | exact Nat.le_refl _⟩, ⟨by (with_reducible repeat (first | apply Kd.R_alloc | apply Kd.R_drewN | apply Kd.R_drew)); exact HO_6.out⟩, ⟨by (with_reducible repeat (first | refine blk_drewN ?_ _ | refine blk_drew ?_ | refine blk_alloc ?_ _)); exact BK208.out⟩, ⟨by (with_reducible repeat (first | refine blk_drewN ?_ _ | refine blk_drew ?_ | refine blk_alloc ?_ _)); exact BK209.out⟩, ⟨by repeat (first | (with_reducible first | exact HB.out | apply below_alloc | apply pw_below_drewN | apply below_drew1 | refine below_set ?_ GE208.out | refine below_set ?_ GE209.out) | exact HB.out)⟩⟩
              case rest =>
                clear HC32
                try clear c1
                try clear c2
                try clear p2
                try clear q2
                try clear hx2
                try clear c3
                try clear c3b0
                try clear c4
                try clear c4b0
                try clear c5
                try clear p6
                try clear c9
                try clear c12
                try clear c12b0
                try clear c13
                try clear c15
                try clear c17
                try clear c19
                try clear p20
                try clear q20
                try clear hx20
                try clear c21
                try clear c21b0
                try clear c21b1
                try clear c22
                try clear c24
                try clear c24b0
                try clear c24b1
                try clear c25
                try clear c27
                try clear c27b0
                try clear c27b1
                try clear c28
                try clear c30
                try clear c33
                try clear c33b0
                try clear hcz10_0
                try clear hcz10_1
                try clear hcz10_2
                try clear hcz10_3
                try clear hcz14_0
                try clear hcz14_1
                try clear hcz14_2
                try clear hcz14_3
                try clear hcz16_0
                try clear hcz16_1
                try clear hcz16_2
                try clear hcz16_3
                try clear hcz20_0
                try clear hcz20_1
                try clear hcz20_2
                try clear hcz20_3
                try clear hcz23_0
                try clear hcz23_1
                try clear hcz23_2
                try clear hcz23_3
                try clear hcz26_0
                try clear hcz26_1
                try clear hcz26_2
                try clear hcz26_3
                try clear hcz29_0
                try clear hcz29_1
                try clear hcz29_2
                try clear hcz29_3
                try clear hcz31_0
                try clear hcz31_1
                try clear hcz31_2
                try clear hcz31_3
                try clear hcz7_0
                try clear hcz7_1
                try clear hcz7_2
                try clear hcz7_3
                try clear hfz10_0
                try clear hfz10_1
                try clear hfz10_2
                try clear hfz10_3
                try clear hfz14_0
                try clear hfz14_1
                try clear hfz14_2
                try clear hfz14_3
                try clear hfz16_0
                try clear hfz16_1
                try clear hfz16_2
                try clear hfz16_3
                try clear hfz20_0
                try clear hfz20_1
                try clear hfz20_2
                try clear hfz20_3
                try clear hfz23_0
                try clear hfz23_1
                try clear hfz23_2
                try clear hfz23_3
                try clear hfz26_0
                try clear hfz26_1
                try clear hfz26_2
                try clear hfz26_3
                try clear hfz29_0
                try clear hfz29_1
                try clear hfz29_2
                try clear hfz29_3
                try clear hfz31_0
                try clear hfz31_1
                try clear hfz31_2
                try clear hfz31_3
                try clear hfz7_0
                try clear hfz7_1
                try clear hfz7_2
                try clear hfz7_3
                try clear hx207_0
                try clear hx207_1
                try clear hx207_2
                try clear hx207_3
                try clear p2
                try clear p20
                try clear p207
                try clear p6
                try clear q2
                try clear q20
                try clear q207
                obtain ⟨kq, x67_31, rfl, HA, HJ31, HO_6, BK208, BK209, HB⟩ := hcut
                cases kq with
                | zero => exact absurd HA.out (by simp [palanquinref01_Read.j3])
                | succ kj31 =>
                  have H := HA.out
                  clear HA
                  simp only [palanquinref01_Read.j3] at H
                  by_cases c34 : x67_31 = true
                  · subst c34
                    have H1 : (some (x6_1, 2)) = some (r1, r2) := by rw [if_pos rfl] at H; exact H
                    clear H
                    have H := H1
                    clear H1
                    simp only [Option.some.injEq, Prod.mk.injEq] at H
                    obtain ⟨rfl, rfl⟩ := H
                    go_wp2
                    repeat (go_quiet (fail); try go_wp2)
                    go_ret2
                    exact ⟨_, by first | rfl | (simp [errW_none, errW_some] <;> rfl) | (simp [*, errW_none, errW_some] <;> rfl), by (with_reducible repeat (first | apply Kd.R_alloc | apply Kd.R_drewN | apply Kd.R_drew)); exact Kd.R_mono HO_6.out (fun _ hk => trivial), by repeat (first | (with_reducible first | exact HB.out | apply below_alloc | apply pw_below_drewN | apply below_drew1 | refine below_set ?_ GE208.out | refine below_set ?_ GE209.out) | exact HB.out)⟩
                  · replace c34 := Bool.eq_false_iff.mpr c34
                    subst c34
                    have H1 : (if 0 ≤ x7_1 then (if x7_1 ≤ (wrap64 (x7_1 + x11_4)) then (if (wrap64 (x7_1 + x11_4)) ≤ (a0.size : Int) then (if ((rd_T87 l1 x8_1).f0) ≥ 0 then (if ((rd_T87 l1 x8_1).f0) ≤ 3 then ((palanquinref01_Value.f kj31 (a0.extract (x7_1 : Int).toNat ((wrap64 (x7_1 + x11_4)) : Int).toNat)).bind fun t211 => (if x6_1.length < 3518437208883 then (palanquinref01_Read.l0 kj31 a0 l1 (x6_1 ++ [(⟨t211, (⟨#[]⟩ : ByteArray), wrap64 (x7_1 + x11_4), wrap64 ((a0.size : Int) - (wrap64 (x7_1 + x11_4)))⟩ : S90)]) (wrap64 (x7_1 + x11_4)) (wrap64 (x8_1 + 1))) else (none))) else (if x6_1.length < 3518437208883 then (palanquinref01_Read.l0 kj31 a0 l1 (x6_1 ++ [(⟨0, a0.extract (x7_1 : Int).toNat ((wrap64 (x7_1 + x11_4)) : Int).toNat, wrap64 (x7_1 + x11_4), wrap64 ((a0.size : Int) - (wrap64 (x7_1 + x11_4)))⟩ : S90)]) (wrap64 (x7_1 + x11_4)) (wrap64 (x8_1 + 1))) else (none))) else (if x6_1.length < 3518437208883 then (palanquinref01_Read.l0 kj31 a0 l1 (x6_1 ++ [(⟨0, a0.extract (x7_1 : Int).toNat ((wrap64 (x7_1 + x11_4)) : Int).toNat, wrap64 (x7_1 + x11_4), wrap64 ((a0.size : Int) - (wrap64 (x7_1 + x11_4)))⟩ : S90)]) (wrap64 (x7_1 + x11_4)) (wrap64 (x8_1 + 1))) else (none))) else (none)) else (none)) else (none)) = some (r1, r2) := by rw [if_neg (show ¬ (false = true) by decide)] at H; exact H
                    clear H
                    have H := H1
                    clear H1
                    by_cases c35 : 0 ≤ x7_1
                    · rw [if_pos c35] at H
                      have c35b0 := eq_true c35
                      have c35b1 : decide (0 ≤ x7_1) = true := decide_eq_true c35
                      clear c35
                      by_cases c36 : x7_1 ≤ (wrap64 (x7_1 + x11_4))
                      · rw [if_pos c36] at H
                        have c36b0 := eq_true c36
                        have c36b1 : decide (x7_1 ≤ (wrap64 (x7_1 + x11_4))) = true := decide_eq_true c36
                        by_cases c37 : (wrap64 (x7_1 + x11_4)) ≤ (a0.size : Int)
                        · rw [if_pos c37] at H
                          have c37b0 := eq_true c37
                          have c37b1 : decide ((wrap64 (x7_1 + x11_4)) ≤ (a0.size : Int)) = true := decide_eq_true c37
                          by_cases c38 : ((rd_T87 l1 x8_1).f0) ≥ 0
                          · rw [if_pos c38] at H
                            have c38b0 : decide (0 ≤ ((rd_T87 l1 x8_1).f0)) = true := decide_eq_true c38
                            clear c38
                            by_cases c39 : ((rd_T87 l1 x8_1).f0) ≤ 3
                            · rw [if_pos c39] at H
                              have c39b0 : decide (((rd_T87 l1 x8_1).f0) ≤ 3) = true := decide_eq_true c39
                              clear c39
                              replace H := Option.bind_eq_some_iff.mp H
                              obtain ⟨t211, A400, H⟩ := H
                              replace H : (if x6_1.length < 3518437208883 then (palanquinref01_Read.l0 kj31 a0 l1 (x6_1 ++ [(⟨t211, (⟨#[]⟩ : ByteArray), wrap64 (x7_1 + x11_4), wrap64 ((a0.size : Int) - (wrap64 (x7_1 + x11_4)))⟩ : S90)]) (wrap64 (x7_1 + x11_4)) (wrap64 (x8_1 + 1))) else (none)) = some (r1, r2) := H
                              have A40 := Aside0.mk A400
                              clear A400
                              by_cases c41 : x6_1.length < 3518437208883
                              · rw [if_pos c41] at H
                                have LMc41 := Aside0.mk c41
                                clear c41
                                obtain ⟨y212, hy212⟩ : ∃ y_ : List (S90), y_ = (x6_1 ++ [(⟨t211, (⟨#[]⟩ : ByteArray), wrap64 (x7_1 + x11_4), wrap64 ((a0.size : Int) - (wrap64 (x7_1 + x11_4)))⟩ : S90)]) := ⟨_, rfl⟩
                                replace H : (palanquinref01_Read.l0 kj31 a0 l1 y212 (wrap64 (x7_1 + x11_4)) (wrap64 (x8_1 + 1))) = some (r1, r2) := by first | (rw [hy212]; with_reducible exact H) | (have H2_ := (Option.bind_some _ _).symm.trans H; rw [hy212]; with_reducible exact H2_) | (have H2_ := (Option.bind_some _ _).symm.trans H; with_reducible exact H2_) | with_reducible exact H | (rw [hy212]; exact H) | exact H
                                have Ny212 := Aside0.mk hy212
                                clear hy212
                                have H' := Aside0.mk H
                                clear H
                                have hnb42 := NB208_209.out
                                have hnc42 := NB209_208.out
                                have hcz43_0 : wc.cell? ⟨gb208, 0, none⟩ = some (.int .i64 ((rd_T87 l1 x8_1).f0)) := (blk_cell BK208.out 0).trans rfl
                                have hcz43_1 : wc.cell? ⟨gb208, 1, none⟩ = some (.int .i64 ((rd_T87 l1 x8_1).f1)) := (blk_cell BK208.out 1).trans rfl
                                have hcz43_2 : wc.cell? ⟨gb208, 2, none⟩ = some (.int .u64 ((rd_T87 l1 x8_1).f2)) := (blk_cell BK208.out 2).trans rfl
                                have hcz43_3 : wc.cell? ⟨gb208, 3, none⟩ = some (.string ((rd_T87 l1 x8_1).f3)) := (blk_cell BK208.out 3).trans rfl
                                have hfz43_0 := blk_frozen BK208.out 0
                                have hfz43_1 := blk_frozen BK208.out 1
                                have hfz43_2 := blk_frozen BK208.out 2
                                have hfz43_3 := blk_frozen BK208.out 3
                                go_wp2_with (first | (go_at_call 132; (with_reducible refine (palanquinref01_Value.calls kj31 (a0.extract (x7_1 : Int).toNat ((wrap64 (x7_1 + x11_4)) : Int).toNat) t211 _ A40.out).mono ?_); rintro e w' ⟨rfl, ⟨nd, rfl⟩⟩; (try first | exact ⟨rfl, _, World.drewN_drewN _ _ _⟩ | exact ⟨rfl, _, Eq.trans (World.drewN_drewN _ _ _) (congrArg (World.drewN _) (Nat.add_assoc _ _ _))⟩); have hcz44_0 : wc.cell? ⟨gb209, 0, none⟩ = some (.int .u64 0) := (blk_cell BK209.out 0).trans rfl; have hcz44_1 : wc.cell? ⟨gb209, 1, none⟩ = some (.string (⟨#[]⟩ : ByteArray)) := (blk_cell BK209.out 1).trans rfl; have hcz44_2 : wc.cell? ⟨gb209, 2, none⟩ = some (.int .i64 0) := (blk_cell BK209.out 2).trans rfl; have hcz44_3 : wc.cell? ⟨gb209, 3, none⟩ = some (.int .i64 0) := (blk_cell BK209.out 3).trans rfl; have hfz44_0 := blk_frozen BK209.out 0; have hfz44_1 := blk_frozen BK209.out 1; have hfz44_2 := blk_frozen BK209.out 2; have hfz44_3 := blk_frozen BK209.out 3) | ((with_reducible refine gate_builtin (b := .append) (xs := #[.tmp 98, .tmp 100]) rfl ?_); (try (refine gate_guard (by rfl) ?_; dsimp only)); at_builtin; refine Kd.R_append k90 (w0 := w) w.heap.size rfl (.tmp 98) (.tmp 100) 50 90 (.agg #[(.int .u64 0), (.string ⟨#[]⟩), (.int .i64 0), (.int .i64 0)]) 40 rfl Try.underlying50 info90 rfl (by decide) (by omega) u6 x6_1 (⟨t211, (⟨#[]⟩ : ByteArray), wrap64 (x7_1 + x11_4), wrap64 ((a0.size : Int) - (wrap64 (x7_1 + x11_4)))⟩ : S90) [.int .u64 t211, .string (⟨#[]⟩ : ByteArray), .int .i64 (wrap64 (x7_1 + x11_4)), .int .i64 (wrap64 ((a0.size : Int) - (wrap64 (x7_1 + x11_4))))] (fun k_ => k_ ≠ gb209) (fun _ => False) rfl (by first | (go_simp; done) | (go_simp; rfl)) ?aP (fun _ hk => hk.elim) ?aF ?aO ?aB ?aS ?aL ?_; (case aP => exact k90_mkM _ _ _ (⟨t211, (⟨#[]⟩ : ByteArray), wrap64 (x7_1 + x11_4), wrap64 ((a0.size : Int) - (wrap64 (x7_1 + x11_4)))⟩ : S90)); (case aB => exact (by repeat (first | (with_reducible first | exact HB.out | apply below_alloc | apply pw_below_drewN | apply below_drew1 | refine below_set ?_ GE208.out | refine below_set ?_ GE209.out) | exact HB.out))); (case aF => exact (fun k_ hk => Kd.freshB (g := gb209) (o := .cells #[.int .u64 t211, .string (⟨#[]⟩ : ByteArray), .int .i64 (wrap64 (x7_1 + x11_4)), .int .i64 (wrap64 ((a0.size : Int) - (wrap64 (x7_1 + x11_4))))] 90 (0, 0)) (by (with_reducible repeat (first | refine blk_drewN ?_ _ | refine blk_drew ?_ | refine blk_alloc ?_ _)); refine blk_put (cs := #[.int .u64 t211, .string (⟨#[]⟩ : ByteArray), .int .i64 (wrap64 (x7_1 + x11_4)), .int .i64 0]) ?_ 3 _ rfl; (with_reducible repeat (first | refine blk_drewN ?_ _ | refine blk_drew ?_ | refine blk_alloc ?_ _)); refine blk_put (cs := #[.int .u64 t211, .string (⟨#[]⟩ : ByteArray), .int .i64 0, .int .i64 0]) ?_ 2 _ rfl; (with_reducible repeat (first | refine blk_drewN ?_ _ | refine blk_drew ?_ | refine blk_alloc ?_ _)); refine blk_put (cs := #[.int .u64 0, .string (⟨#[]⟩ : ByteArray), .int .i64 0, .int .i64 0]) ?_ 0 _ rfl; (with_reducible repeat (first | refine blk_drewN ?_ _ | refine blk_drew ?_ | refine blk_alloc ?_ _)); exact BK209.out) k_ hk)); (case aO => exact (by (with_reducible repeat (first | apply Kd.R_alloc | apply Kd.R_drewN | apply Kd.R_drew)); exact Kd.R_mono (Kd.R_far (p := ⟨gb209, 3, none⟩) (Kd.R_far (p := ⟨gb209, 2, none⟩) (Kd.R_far (p := ⟨gb209, 0, none⟩) (Kd.R_mono HO_6.out (fun k_ hk => (⟨hk, hk⟩ : _ ∧ k_ ≠ gb209))) (fun _ hk => hk.2) (.int .u64 t211)) (fun _ hk => hk.2) (.int .i64 (wrap64 (x7_1 + x11_4)))) (fun _ hk => hk.2) (.int .i64 (wrap64 ((a0.size : Int) - (wrap64 (x7_1 + x11_4)))))) (fun _ hk => hk.1))); (case aS => exact (below_size (by repeat (first | (with_reducible first | exact HB.out | apply below_alloc | apply pw_below_drewN | apply below_drew1 | refine below_set ?_ GE208.out | refine below_set ?_ GE209.out) | exact HB.out)))); (case aL => have := LMc41.out; omega); intro v213 w45 ho hb hg hat; rw [← Ny212.out] at ho; have n0_ := Aside0.mk (blk_grown (g := gb208) (o := .cells #[.int .i64 ((rd_T87 l1 x8_1).f0), .int .i64 ((rd_T87 l1 x8_1).f1), .int .u64 ((rd_T87 l1 x8_1).f2), .string ((rd_T87 l1 x8_1).f3)] 87 (0, 0)) (by (with_reducible repeat (first | refine blk_drewN ?_ _ | refine blk_drew ?_ | refine blk_alloc ?_ _)); refine blk_far ?_ NB208_209.out _; (with_reducible repeat (first | refine blk_drewN ?_ _ | refine blk_drew ?_ | refine blk_alloc ?_ _)); refine blk_far ?_ NB208_209.out _; (with_reducible repeat (first | refine blk_drewN ?_ _ | refine blk_drew ?_ | refine blk_alloc ?_ _)); refine blk_far ?_ NB208_209.out _; (with_reducible repeat (first | refine blk_drewN ?_ _ | refine blk_drew ?_ | refine blk_alloc ?_ _)); exact BK208.out) hg (Kd.R_ne HO_6.out BK208.out (by decide))); have n1_ := Aside0.mk (blk_grown (g := gb209) (o := .cells #[.int .u64 t211, .string (⟨#[]⟩ : ByteArray), .int .i64 (wrap64 (x7_1 + x11_4)), .int .i64 (wrap64 ((a0.size : Int) - (wrap64 (x7_1 + x11_4))))] 90 (0, 0)) (by (with_reducible repeat (first | refine blk_drewN ?_ _ | refine blk_drew ?_ | refine blk_alloc ?_ _)); refine blk_put (cs := #[.int .u64 t211, .string (⟨#[]⟩ : ByteArray), .int .i64 (wrap64 (x7_1 + x11_4)), .int .i64 0]) ?_ 3 _ rfl; (with_reducible repeat (first | refine blk_drewN ?_ _ | refine blk_drew ?_ | refine blk_alloc ?_ _)); refine blk_put (cs := #[.int .u64 t211, .string (⟨#[]⟩ : ByteArray), .int .i64 0, .int .i64 0]) ?_ 2 _ rfl; (with_reducible repeat (first | refine blk_drewN ?_ _ | refine blk_drew ?_ | refine blk_alloc ?_ _)); refine blk_put (cs := #[.int .u64 0, .string (⟨#[]⟩ : ByteArray), .int .i64 0, .int .i64 0]) ?_ 0 _ rfl; (with_reducible repeat (first | refine blk_drewN ?_ _ | refine blk_drew ?_ | refine blk_alloc ?_ _)); exact BK209.out) hg (Kd.R_away HO_6.out (fun _ hk => hk))); have n2_ := Aside0.mk (hb); have n3_ := Aside0.mk (ho); clear BK208; clear BK209; clear HB; clear HO_6; have BK208 := n0_; have BK209 := n1_; have HB := n2_; have HO214 := n3_; clear n0_ n1_ n2_ n3_; clear ho hb hg hat))
                                repeat (go_quiet (first | (go_at_call 132; (with_reducible refine (palanquinref01_Value.calls kj31 (a0.extract (x7_1 : Int).toNat ((wrap64 (x7_1 + x11_4)) : Int).toNat) t211 _ A40.out).mono ?_); rintro e w' ⟨rfl, ⟨nd, rfl⟩⟩; (try first | exact ⟨rfl, _, World.drewN_drewN _ _ _⟩ | exact ⟨rfl, _, Eq.trans (World.drewN_drewN _ _ _) (congrArg (World.drewN _) (Nat.add_assoc _ _ _))⟩); have hcz44_0 : wc.cell? ⟨gb209, 0, none⟩ = some (.int .u64 0) := (blk_cell BK209.out 0).trans rfl; have hcz44_1 : wc.cell? ⟨gb209, 1, none⟩ = some (.string (⟨#[]⟩ : ByteArray)) := (blk_cell BK209.out 1).trans rfl; have hcz44_2 : wc.cell? ⟨gb209, 2, none⟩ = some (.int .i64 0) := (blk_cell BK209.out 2).trans rfl; have hcz44_3 : wc.cell? ⟨gb209, 3, none⟩ = some (.int .i64 0) := (blk_cell BK209.out 3).trans rfl; have hfz44_0 := blk_frozen BK209.out 0; have hfz44_1 := blk_frozen BK209.out 1; have hfz44_2 := blk_frozen BK209.out 2; have hfz44_3 := blk_frozen BK209.out 3) | ((with_reducible refine gate_builtin (b := .append) (xs := #[.tmp 98, .tmp 100]) rfl ?_); (try (refine gate_guard (by rfl) ?_; dsimp only)); at_builtin; refine Kd.R_append k90 (w0 := w) w.heap.size rfl (.tmp 98) (.tmp 100) 50 90 (.agg #[(.int .u64 0), (.string ⟨#[]⟩), (.int .i64 0), (.int .i64 0)]) 40 rfl Try.underlying50 info90 rfl (by decide) (by omega) u6 x6_1 (⟨t211, (⟨#[]⟩ : ByteArray), wrap64 (x7_1 + x11_4), wrap64 ((a0.size : Int) - (wrap64 (x7_1 + x11_4)))⟩ : S90) [.int .u64 t211, .string (⟨#[]⟩ : ByteArray), .int .i64 (wrap64 (x7_1 + x11_4)), .int .i64 (wrap64 ((a0.size : Int) - (wrap64 (x7_1 + x11_4))))] (fun k_ => k_ ≠ gb209) (fun _ => False) rfl (by first | (go_simp; done) | (go_simp; rfl)) ?aP (fun _ hk => hk.elim) ?aF ?aO ?aB ?aS ?aL ?_; (case aP => exact k90_mkM _ _ _ (⟨t211, (⟨#[]⟩ : ByteArray), wrap64 (x7_1 + x11_4), wrap64 ((a0.size : Int) - (wrap64 (x7_1 + x11_4)))⟩ : S90)); (case aB => exact (by repeat (first | (with_reducible first | exact HB.out | apply below_alloc | apply pw_below_drewN | apply below_drew1 | refine below_set ?_ GE208.out | refine below_set ?_ GE209.out) | exact HB.out))); (case aF => exact (fun k_ hk => Kd.freshB (g := gb209) (o := .cells #[.int .u64 t211, .string (⟨#[]⟩ : ByteArray), .int .i64 (wrap64 (x7_1 + x11_4)), .int .i64 (wrap64 ((a0.size : Int) - (wrap64 (x7_1 + x11_4))))] 90 (0, 0)) (by (with_reducible repeat (first | refine blk_drewN ?_ _ | refine blk_drew ?_ | refine blk_alloc ?_ _)); refine blk_put (cs := #[.int .u64 t211, .string (⟨#[]⟩ : ByteArray), .int .i64 (wrap64 (x7_1 + x11_4)), .int .i64 0]) ?_ 3 _ rfl; (with_reducible repeat (first | refine blk_drewN ?_ _ | refine blk_drew ?_ | refine blk_alloc ?_ _)); refine blk_put (cs := #[.int .u64 t211, .string (⟨#[]⟩ : ByteArray), .int .i64 0, .int .i64 0]) ?_ 2 _ rfl; (with_reducible repeat (first | refine blk_drewN ?_ _ | refine blk_drew ?_ | refine blk_alloc ?_ _)); refine blk_put (cs := #[.int .u64 0, .string (⟨#[]⟩ : ByteArray), .int .i64 0, .int .i64 0]) ?_ 0 _ rfl; (with_reducible repeat (first | refine blk_drewN ?_ _ | refine blk_drew ?_ | refine blk_alloc ?_ _)); exact BK209.out) k_ hk)); (case aO => exact (by (with_reducible repeat (first | apply Kd.R_alloc | apply Kd.R_drewN | apply Kd.R_drew)); exact Kd.R_mono (Kd.R_far (p := ⟨gb209, 3, none⟩) (Kd.R_far (p := ⟨gb209, 2, none⟩) (Kd.R_far (p := ⟨gb209, 0, none⟩) (Kd.R_mono HO_6.out (fun k_ hk => (⟨hk, hk⟩ : _ ∧ k_ ≠ gb209))) (fun _ hk => hk.2) (.int .u64 t211)) (fun _ hk => hk.2) (.int .i64 (wrap64 (x7_1 + x11_4)))) (fun _ hk => hk.2) (.int .i64 (wrap64 ((a0.size : Int) - (wrap64 (x7_1 + x11_4)))))) (fun _ hk => hk.1))); (case aS => exact (below_size (by repeat (first | (with_reducible first | exact HB.out | apply below_alloc | apply pw_below_drewN | apply below_drew1 | refine below_set ?_ GE208.out | refine below_set ?_ GE209.out) | exact HB.out)))); (case aL => have := LMc41.out; omega); intro v213 w45 ho hb hg hat; rw [← Ny212.out] at ho; have n0_ := Aside0.mk (blk_grown (g := gb208) (o := .cells #[.int .i64 ((rd_T87 l1 x8_1).f0), .int .i64 ((rd_T87 l1 x8_1).f1), .int .u64 ((rd_T87 l1 x8_1).f2), .string ((rd_T87 l1 x8_1).f3)] 87 (0, 0)) (by (with_reducible repeat (first | refine blk_drewN ?_ _ | refine blk_drew ?_ | refine blk_alloc ?_ _)); refine blk_far ?_ NB208_209.out _; (with_reducible repeat (first | refine blk_drewN ?_ _ | refine blk_drew ?_ | refine blk_alloc ?_ _)); refine blk_far ?_ NB208_209.out _; (with_reducible repeat (first | refine blk_drewN ?_ _ | refine blk_drew ?_ | refine blk_alloc ?_ _)); refine blk_far ?_ NB208_209.out _; (with_reducible repeat (first | refine blk_drewN ?_ _ | refine blk_drew ?_ | refine blk_alloc ?_ _)); exact BK208.out) hg (Kd.R_ne HO_6.out BK208.out (by decide))); have n1_ := Aside0.mk (blk_grown (g := gb209) (o := .cells #[.int .u64 t211, .string (⟨#[]⟩ : ByteArray), .int .i64 (wrap64 (x7_1 + x11_4)), .int .i64 (wrap64 ((a0.size : Int) - (wrap64 (x7_1 + x11_4))))] 90 (0, 0)) (by (with_reducible repeat (first | refine blk_drewN ?_ _ | refine blk_drew ?_ | refine blk_alloc ?_ _)); refine blk_put (cs := #[.int .u64 t211, .string (⟨#[]⟩ : ByteArray), .int .i64 (wrap64 (x7_1 + x11_4)), .int .i64 0]) ?_ 3 _ rfl; (with_reducible repeat (first | refine blk_drewN ?_ _ | refine blk_drew ?_ | refine blk_alloc ?_ _)); refine blk_put (cs := #[.int .u64 t211, .string (⟨#[]⟩ : ByteArray), .int .i64 0, .int .i64 0]) ?_ 2 _ rfl; (with_reducible repeat (first | refine blk_drewN ?_ _ | refine blk_drew ?_ | refine blk_alloc ?_ _)); refine blk_put (cs := #[.int .u64 0, .string (⟨#[]⟩ : ByteArray), .int .i64 0, .int .i64 0]) ?_ 0 _ rfl; (with_reducible repeat (first | refine blk_drewN ?_ _ | refine blk_drew ?_ | refine blk_alloc ?_ _)); exact BK209.out) hg (Kd.R_away HO_6.out (fun _ hk => hk))); have n2_ := Aside0.mk (hb); have n3_ := Aside0.mk (ho); clear BK208; clear BK209; clear HB; clear HO_6; have BK208 := n0_; have BK209 := n1_; have HB := n2_; have HO214 := n3_; clear n0_ n1_ n2_ n3_; clear ho hb hg hat)); try go_wp2_with (first | (go_at_call 132; (with_reducible refine (palanquinref01_Value.calls kj31 (a0.extract (x7_1 : Int).toNat ((wrap64 (x7_1 + x11_4)) : Int).toNat) t211 _ A40.out).mono ?_); rintro e w' ⟨rfl, ⟨nd, rfl⟩⟩; (try first | exact ⟨rfl, _, World.drewN_drewN _ _ _⟩ | exact ⟨rfl, _, Eq.trans (World.drewN_drewN _ _ _) (congrArg (World.drewN _) (Nat.add_assoc _ _ _))⟩); have hcz44_0 : wc.cell? ⟨gb209, 0, none⟩ = some (.int .u64 0) := (blk_cell BK209.out 0).trans rfl; have hcz44_1 : wc.cell? ⟨gb209, 1, none⟩ = some (.string (⟨#[]⟩ : ByteArray)) := (blk_cell BK209.out 1).trans rfl; have hcz44_2 : wc.cell? ⟨gb209, 2, none⟩ = some (.int .i64 0) := (blk_cell BK209.out 2).trans rfl; have hcz44_3 : wc.cell? ⟨gb209, 3, none⟩ = some (.int .i64 0) := (blk_cell BK209.out 3).trans rfl; have hfz44_0 := blk_frozen BK209.out 0; have hfz44_1 := blk_frozen BK209.out 1; have hfz44_2 := blk_frozen BK209.out 2; have hfz44_3 := blk_frozen BK209.out 3) | ((with_reducible refine gate_builtin (b := .append) (xs := #[.tmp 98, .tmp 100]) rfl ?_); (try (refine gate_guard (by rfl) ?_; dsimp only)); at_builtin; refine Kd.R_append k90 (w0 := w) w.heap.size rfl (.tmp 98) (.tmp 100) 50 90 (.agg #[(.int .u64 0), (.string ⟨#[]⟩), (.int .i64 0), (.int .i64 0)]) 40 rfl Try.underlying50 info90 rfl (by decide) (by omega) u6 x6_1 (⟨t211, (⟨#[]⟩ : ByteArray), wrap64 (x7_1 + x11_4), wrap64 ((a0.size : Int) - (wrap64 (x7_1 + x11_4)))⟩ : S90) [.int .u64 t211, .string (⟨#[]⟩ : ByteArray), .int .i64 (wrap64 (x7_1 + x11_4)), .int .i64 (wrap64 ((a0.size : Int) - (wrap64 (x7_1 + x11_4))))] (fun k_ => k_ ≠ gb209) (fun _ => False) rfl (by first | (go_simp; done) | (go_simp; rfl)) ?aP (fun _ hk => hk.elim) ?aF ?aO ?aB ?aS ?aL ?_; (case aP => exact k90_mkM _ _ _ (⟨t211, (⟨#[]⟩ : ByteArray), wrap64 (x7_1 + x11_4), wrap64 ((a0.size : Int) - (wrap64 (x7_1 + x11_4)))⟩ : S90)); (case aB => exact (by repeat (first | (with_reducible first | exact HB.out | apply below_alloc | apply pw_below_drewN | apply below_drew1 | refine below_set ?_ GE208.out | refine below_set ?_ GE209.out) | exact HB.out))); (case aF => exact (fun k_ hk => Kd.freshB (g := gb209) (o := .cells #[.int .u64 t211, .string (⟨#[]⟩ : ByteArray), .int .i64 (wrap64 (x7_1 + x11_4)), .int .i64 (wrap64 ((a0.size : Int) - (wrap64 (x7_1 + x11_4))))] 90 (0, 0)) (by (with_reducible repeat (first | refine blk_drewN ?_ _ | refine blk_drew ?_ | refine blk_alloc ?_ _)); refine blk_put (cs := #[.int .u64 t211, .string (⟨#[]⟩ : ByteArray), .int .i64 (wrap64 (x7_1 + x11_4)), .int .i64 0]) ?_ 3 _ rfl; (with_reducible repeat (first | refine blk_drewN ?_ _ | refine blk_drew ?_ | refine blk_alloc ?_ _)); refine blk_put (cs := #[.int .u64 t211, .string (⟨#[]⟩ : ByteArray), .int .i64 0, .int .i64 0]) ?_ 2 _ rfl; (with_reducible repeat (first | refine blk_drewN ?_ _ | refine blk_drew ?_ | refine blk_alloc ?_ _)); refine blk_put (cs := #[.int .u64 0, .string (⟨#[]⟩ : ByteArray), .int .i64 0, .int .i64 0]) ?_ 0 _ rfl; (with_reducible repeat (first | refine blk_drewN ?_ _ | refine blk_drew ?_ | refine blk_alloc ?_ _)); exact BK209.out) k_ hk)); (case aO => exact (by (with_reducible repeat (first | apply Kd.R_alloc | apply Kd.R_drewN | apply Kd.R_drew)); exact Kd.R_mono (Kd.R_far (p := ⟨gb209, 3, none⟩) (Kd.R_far (p := ⟨gb209, 2, none⟩) (Kd.R_far (p := ⟨gb209, 0, none⟩) (Kd.R_mono HO_6.out (fun k_ hk => (⟨hk, hk⟩ : _ ∧ k_ ≠ gb209))) (fun _ hk => hk.2) (.int .u64 t211)) (fun _ hk => hk.2) (.int .i64 (wrap64 (x7_1 + x11_4)))) (fun _ hk => hk.2) (.int .i64 (wrap64 ((a0.size : Int) - (wrap64 (x7_1 + x11_4)))))) (fun _ hk => hk.1))); (case aS => exact (below_size (by repeat (first | (with_reducible first | exact HB.out | apply below_alloc | apply pw_below_drewN | apply below_drew1 | refine below_set ?_ GE208.out | refine below_set ?_ GE209.out) | exact HB.out)))); (case aL => have := LMc41.out; omega); intro v213 w45 ho hb hg hat; rw [← Ny212.out] at ho; have n0_ := Aside0.mk (blk_grown (g := gb208) (o := .cells #[.int .i64 ((rd_T87 l1 x8_1).f0), .int .i64 ((rd_T87 l1 x8_1).f1), .int .u64 ((rd_T87 l1 x8_1).f2), .string ((rd_T87 l1 x8_1).f3)] 87 (0, 0)) (by (with_reducible repeat (first | refine blk_drewN ?_ _ | refine blk_drew ?_ | refine blk_alloc ?_ _)); refine blk_far ?_ NB208_209.out _; (with_reducible repeat (first | refine blk_drewN ?_ _ | refine blk_drew ?_ | refine blk_alloc ?_ _)); refine blk_far ?_ NB208_209.out _; (with_reducible repeat (first | refine blk_drewN ?_ _ | refine blk_drew ?_ | refine blk_alloc ?_ _)); refine blk_far ?_ NB208_209.out _; (with_reducible repeat (first | refine blk_drewN ?_ _ | refine blk_drew ?_ | refine blk_alloc ?_ _)); exact BK208.out) hg (Kd.R_ne HO_6.out BK208.out (by decide))); have n1_ := Aside0.mk (blk_grown (g := gb209) (o := .cells #[.int .u64 t211, .string (⟨#[]⟩ : ByteArray), .int .i64 (wrap64 (x7_1 + x11_4)), .int .i64 (wrap64 ((a0.size : Int) - (wrap64 (x7_1 + x11_4))))] 90 (0, 0)) (by (with_reducible repeat (first | refine blk_drewN ?_ _ | refine blk_drew ?_ | refine blk_alloc ?_ _)); refine blk_put (cs := #[.int .u64 t211, .string (⟨#[]⟩ : ByteArray), .int .i64 (wrap64 (x7_1 + x11_4)), .int .i64 0]) ?_ 3 _ rfl; (with_reducible repeat (first | refine blk_drewN ?_ _ | refine blk_drew ?_ | refine blk_alloc ?_ _)); refine blk_put (cs := #[.int .u64 t211, .string (⟨#[]⟩ : ByteArray), .int .i64 0, .int .i64 0]) ?_ 2 _ rfl; (with_reducible repeat (first | refine blk_drewN ?_ _ | refine blk_drew ?_ | refine blk_alloc ?_ _)); refine blk_put (cs := #[.int .u64 0, .string (⟨#[]⟩ : ByteArray), .int .i64 0, .int .i64 0]) ?_ 0 _ rfl; (with_reducible repeat (first | refine blk_drewN ?_ _ | refine blk_drew ?_ | refine blk_alloc ?_ _)); exact BK209.out) hg (Kd.R_away HO_6.out (fun _ hk => hk))); have n2_ := Aside0.mk (hb); have n3_ := Aside0.mk (ho); clear BK208; clear BK209; clear HB; clear HO_6; have BK208 := n0_; have BK209 := n1_; have HB := n2_; have HO214 := n3_; clear n0_ n1_ n2_ n3_; clear ho hb hg hat)))
                                go_roundg kj31
                                case measure => have := HK1.out; have := HJ4.out; have := HJ31.out; omega
                                case rel => exact ⟨(y212), (wrap64 (x7_1 + x11_4)), (wrap64 (x8_1 + 1)), (by first | rfl | (simp; done) | (simp [*]; done)), (by first | rfl | (simp; done) | (simp [*]; done)), H', ⟨by have := HK1.out; have := HJ4.out; have := HJ31.out; omega⟩, ⟨by (with_reducible repeat (first | apply Kd.R_alloc | apply Kd.R_drewN | apply Kd.R_drew)); exact Kd.R_mono HO214.out (fun _ hk => trivial)⟩, ⟨by repeat (first | (with_reducible first | exact HB.out | apply below_alloc | apply pw_below_drewN | apply below_drew1 | refine below_set ?_ GE208.out | refine below_set ?_ GE209.out) | exact HB.out)⟩⟩
                              · rw [if_neg c41] at H
                                exact absurd H (by simp)
                            · rw [if_neg c39] at H
                              have c39b0 : decide (((rd_T87 l1 x8_1).f0) ≤ 3) = false := decide_eq_false c39
                              clear c39
                              by_cases c46 : x6_1.length < 3518437208883
                              · rw [if_pos c46] at H
                                have LMc46 := Aside0.mk c46
                                clear c46
                                obtain ⟨y215, hy215⟩ : ∃ y_ : List (S90), y_ = (x6_1 ++ [(⟨0, a0.extract (x7_1 : Int).toNat ((wrap64 (x7_1 + x11_4)) : Int).toNat, wrap64 (x7_1 + x11_4), wrap64 ((a0.size : Int) - (wrap64 (x7_1 + x11_4)))⟩ : S90)]) := ⟨_, rfl⟩
                                replace H : (palanquinref01_Read.l0 kj31 a0 l1 y215 (wrap64 (x7_1 + x11_4)) (wrap64 (x8_1 + 1))) = some (r1, r2) := by first | (rw [hy215]; with_reducible exact H) | (have H2_ := (Option.bind_some _ _).symm.trans H; rw [hy215]; with_reducible exact H2_) | (have H2_ := (Option.bind_some _ _).symm.trans H; with_reducible exact H2_) | with_reducible exact H | (rw [hy215]; exact H) | exact H
                                have Ny215 := Aside0.mk hy215
                                clear hy215
                                have H' := Aside0.mk H
                                clear H
                                have hnb47 := NB208_209.out
                                have hnc47 := NB209_208.out
                                have hcz48_0 : wc.cell? ⟨gb208, 0, none⟩ = some (.int .i64 ((rd_T87 l1 x8_1).f0)) := (blk_cell BK208.out 0).trans rfl
                                have hcz48_1 : wc.cell? ⟨gb208, 1, none⟩ = some (.int .i64 ((rd_T87 l1 x8_1).f1)) := (blk_cell BK208.out 1).trans rfl
                                have hcz48_2 : wc.cell? ⟨gb208, 2, none⟩ = some (.int .u64 ((rd_T87 l1 x8_1).f2)) := (blk_cell BK208.out 2).trans rfl
                                have hcz48_3 : wc.cell? ⟨gb208, 3, none⟩ = some (.string ((rd_T87 l1 x8_1).f3)) := (blk_cell BK208.out 3).trans rfl
                                have hfz48_0 := blk_frozen BK208.out 0
                                have hfz48_1 := blk_frozen BK208.out 1
                                have hfz48_2 := blk_frozen BK208.out 2
                                have hfz48_3 := blk_frozen BK208.out 3
                                have hcz49_0 : wc.cell? ⟨gb209, 0, none⟩ = some (.int .u64 0) := (blk_cell BK209.out 0).trans rfl
                                have hcz49_1 : wc.cell? ⟨gb209, 1, none⟩ = some (.string (⟨#[]⟩ : ByteArray)) := (blk_cell BK209.out 1).trans rfl
                                have hcz49_2 : wc.cell? ⟨gb209, 2, none⟩ = some (.int .i64 0) := (blk_cell BK209.out 2).trans rfl
                                have hcz49_3 : wc.cell? ⟨gb209, 3, none⟩ = some (.int .i64 0) := (blk_cell BK209.out 3).trans rfl
                                have hfz49_0 := blk_frozen BK209.out 0
                                have hfz49_1 := blk_frozen BK209.out 1
                                have hfz49_2 := blk_frozen BK209.out 2
                                have hfz49_3 := blk_frozen BK209.out 3
                                go_wp2_with (first | ((with_reducible refine gate_builtin (b := .append) (xs := #[.tmp 98, .tmp 100]) rfl ?_); (try (refine gate_guard (by rfl) ?_; dsimp only)); at_builtin; refine Kd.R_append k90 (w0 := w) w.heap.size rfl (.tmp 98) (.tmp 100) 50 90 (.agg #[(.int .u64 0), (.string ⟨#[]⟩), (.int .i64 0), (.int .i64 0)]) 40 rfl Try.underlying50 info90 rfl (by decide) (by omega) u6 x6_1 (⟨0, a0.extract (x7_1 : Int).toNat ((wrap64 (x7_1 + x11_4)) : Int).toNat, wrap64 (x7_1 + x11_4), wrap64 ((a0.size : Int) - (wrap64 (x7_1 + x11_4)))⟩ : S90) [.int .u64 0, .string (a0.extract (x7_1 : Int).toNat ((wrap64 (x7_1 + x11_4)) : Int).toNat), .int .i64 (wrap64 (x7_1 + x11_4)), .int .i64 (wrap64 ((a0.size : Int) - (wrap64 (x7_1 + x11_4))))] (fun k_ => k_ ≠ gb209) (fun _ => False) rfl (by first | (go_simp; done) | (go_simp; rfl)) ?aP (fun _ hk => hk.elim) ?aF ?aO ?aB ?aS ?aL ?_; (case aP => exact k90_mkM _ _ _ (⟨0, a0.extract (x7_1 : Int).toNat ((wrap64 (x7_1 + x11_4)) : Int).toNat, wrap64 (x7_1 + x11_4), wrap64 ((a0.size : Int) - (wrap64 (x7_1 + x11_4)))⟩ : S90)); (case aB => exact (by repeat (first | (with_reducible first | exact HB.out | apply below_alloc | apply pw_below_drewN | apply below_drew1 | refine below_set ?_ GE208.out | refine below_set ?_ GE209.out) | exact HB.out))); (case aF => exact (fun k_ hk => Kd.freshB (g := gb209) (o := .cells #[.int .u64 0, .string (a0.extract (x7_1 : Int).toNat ((wrap64 (x7_1 + x11_4)) : Int).toNat), .int .i64 (wrap64 (x7_1 + x11_4)), .int .i64 (wrap64 ((a0.size : Int) - (wrap64 (x7_1 + x11_4))))] 90 (0, 0)) (by (with_reducible repeat (first | refine blk_drewN ?_ _ | refine blk_drew ?_ | refine blk_alloc ?_ _)); refine blk_put (cs := #[.int .u64 0, .string (a0.extract (x7_1 : Int).toNat ((wrap64 (x7_1 + x11_4)) : Int).toNat), .int .i64 (wrap64 (x7_1 + x11_4)), .int .i64 0]) ?_ 3 _ rfl; (with_reducible repeat (first | refine blk_drewN ?_ _ | refine blk_drew ?_ | refine blk_alloc ?_ _)); refine blk_put (cs := #[.int .u64 0, .string (a0.extract (x7_1 : Int).toNat ((wrap64 (x7_1 + x11_4)) : Int).toNat), .int .i64 0, .int .i64 0]) ?_ 2 _ rfl; (with_reducible repeat (first | refine blk_drewN ?_ _ | refine blk_drew ?_ | refine blk_alloc ?_ _)); refine blk_put (cs := #[.int .u64 0, .string (⟨#[]⟩ : ByteArray), .int .i64 0, .int .i64 0]) ?_ 1 _ rfl; (with_reducible repeat (first | refine blk_drewN ?_ _ | refine blk_drew ?_ | refine blk_alloc ?_ _)); exact BK209.out) k_ hk)); (case aO => exact (by (with_reducible repeat (first | apply Kd.R_alloc | apply Kd.R_drewN | apply Kd.R_drew)); exact Kd.R_mono (Kd.R_far (p := ⟨gb209, 3, none⟩) (Kd.R_far (p := ⟨gb209, 2, none⟩) (Kd.R_far (p := ⟨gb209, 1, none⟩) (Kd.R_mono HO_6.out (fun k_ hk => (⟨hk, hk⟩ : _ ∧ k_ ≠ gb209))) (fun _ hk => hk.2) (.string (a0.extract (x7_1 : Int).toNat ((wrap64 (x7_1 + x11_4)) : Int).toNat))) (fun _ hk => hk.2) (.int .i64 (wrap64 (x7_1 + x11_4)))) (fun _ hk => hk.2) (.int .i64 (wrap64 ((a0.size : Int) - (wrap64 (x7_1 + x11_4)))))) (fun _ hk => hk.1))); (case aS => exact (below_size (by repeat (first | (with_reducible first | exact HB.out | apply below_alloc | apply pw_below_drewN | apply below_drew1 | refine below_set ?_ GE208.out | refine below_set ?_ GE209.out) | exact HB.out)))); (case aL => have := LMc46.out; omega); intro v216 w50 ho hb hg hat; rw [← Ny215.out] at ho; have n0_ := Aside0.mk (blk_grown (g := gb208) (o := .cells #[.int .i64 ((rd_T87 l1 x8_1).f0), .int .i64 ((rd_T87 l1 x8_1).f1), .int .u64 ((rd_T87 l1 x8_1).f2), .string ((rd_T87 l1 x8_1).f3)] 87 (0, 0)) (by (with_reducible repeat (first | refine blk_drewN ?_ _ | refine blk_drew ?_ | refine blk_alloc ?_ _)); refine blk_far ?_ NB208_209.out _; (with_reducible repeat (first | refine blk_drewN ?_ _ | refine blk_drew ?_ | refine blk_alloc ?_ _)); refine blk_far ?_ NB208_209.out _; (with_reducible repeat (first | refine blk_drewN ?_ _ | refine blk_drew ?_ | refine blk_alloc ?_ _)); refine blk_far ?_ NB208_209.out _; (with_reducible repeat (first | refine blk_drewN ?_ _ | refine blk_drew ?_ | refine blk_alloc ?_ _)); exact BK208.out) hg (Kd.R_ne HO_6.out BK208.out (by decide))); have n1_ := Aside0.mk (blk_grown (g := gb209) (o := .cells #[.int .u64 0, .string (a0.extract (x7_1 : Int).toNat ((wrap64 (x7_1 + x11_4)) : Int).toNat), .int .i64 (wrap64 (x7_1 + x11_4)), .int .i64 (wrap64 ((a0.size : Int) - (wrap64 (x7_1 + x11_4))))] 90 (0, 0)) (by (with_reducible repeat (first | refine blk_drewN ?_ _ | refine blk_drew ?_ | refine blk_alloc ?_ _)); refine blk_put (cs := #[.int .u64 0, .string (a0.extract (x7_1 : Int).toNat ((wrap64 (x7_1 + x11_4)) : Int).toNat), .int .i64 (wrap64 (x7_1 + x11_4)), .int .i64 0]) ?_ 3 _ rfl; (with_reducible repeat (first | refine blk_drewN ?_ _ | refine blk_drew ?_ | refine blk_alloc ?_ _)); refine blk_put (cs := #[.int .u64 0, .string (a0.extract (x7_1 : Int).toNat ((wrap64 (x7_1 + x11_4)) : Int).toNat), .int .i64 0, .int .i64 0]) ?_ 2 _ rfl; (with_reducible repeat (first | refine blk_drewN ?_ _ | refine blk_drew ?_ | refine blk_alloc ?_ _)); refine blk_put (cs := #[.int .u64 0, .string (⟨#[]⟩ : ByteArray), .int .i64 0, .int .i64 0]) ?_ 1 _ rfl; (with_reducible repeat (first | refine blk_drewN ?_ _ | refine blk_drew ?_ | refine blk_alloc ?_ _)); exact BK209.out) hg (Kd.R_away HO_6.out (fun _ hk => hk))); have n2_ := Aside0.mk (hb); have n3_ := Aside0.mk (ho); clear BK208; clear BK209; clear HB; clear HO_6; have BK208 := n0_; have BK209 := n1_; have HB := n2_; have HO217 := n3_; clear n0_ n1_ n2_ n3_; clear ho hb hg hat))
                                repeat (go_quiet (first | ((with_reducible refine gate_builtin (b := .append) (xs := #[.tmp 98, .tmp 100]) rfl ?_); (try (refine gate_guard (by rfl) ?_; dsimp only)); at_builtin; refine Kd.R_append k90 (w0 := w) w.heap.size rfl (.tmp 98) (.tmp 100) 50 90 (.agg #[(.int .u64 0), (.string ⟨#[]⟩), (.int .i64 0), (.int .i64 0)]) 40 rfl Try.underlying50 info90 rfl (by decide) (by omega) u6 x6_1 (⟨0, a0.extract (x7_1 : Int).toNat ((wrap64 (x7_1 + x11_4)) : Int).toNat, wrap64 (x7_1 + x11_4), wrap64 ((a0.size : Int) - (wrap64 (x7_1 + x11_4)))⟩ : S90) [.int .u64 0, .string (a0.extract (x7_1 : Int).toNat ((wrap64 (x7_1 + x11_4)) : Int).toNat), .int .i64 (wrap64 (x7_1 + x11_4)), .int .i64 (wrap64 ((a0.size : Int) - (wrap64 (x7_1 + x11_4))))] (fun k_ => k_ ≠ gb209) (fun _ => False) rfl (by first | (go_simp; done) | (go_simp; rfl)) ?aP (fun _ hk => hk.elim) ?aF ?aO ?aB ?aS ?aL ?_; (case aP => exact k90_mkM _ _ _ (⟨0, a0.extract (x7_1 : Int).toNat ((wrap64 (x7_1 + x11_4)) : Int).toNat, wrap64 (x7_1 + x11_4), wrap64 ((a0.size : Int) - (wrap64 (x7_1 + x11_4)))⟩ : S90)); (case aB => exact (by repeat (first | (with_reducible first | exact HB.out | apply below_alloc | apply pw_below_drewN | apply below_drew1 | refine below_set ?_ GE208.out | refine below_set ?_ GE209.out) | exact HB.out))); (case aF => exact (fun k_ hk => Kd.freshB (g := gb209) (o := .cells #[.int .u64 0, .string (a0.extract (x7_1 : Int).toNat ((wrap64 (x7_1 + x11_4)) : Int).toNat), .int .i64 (wrap64 (x7_1 + x11_4)), .int .i64 (wrap64 ((a0.size : Int) - (wrap64 (x7_1 + x11_4))))] 90 (0, 0)) (by (with_reducible repeat (first | refine blk_drewN ?_ _ | refine blk_drew ?_ | refine blk_alloc ?_ _)); refine blk_put (cs := #[.int .u64 0, .string (a0.extract (x7_1 : Int).toNat ((wrap64 (x7_1 + x11_4)) : Int).toNat), .int .i64 (wrap64 (x7_1 + x11_4)), .int .i64 0]) ?_ 3 _ rfl; (with_reducible repeat (first | refine blk_drewN ?_ _ | refine blk_drew ?_ | refine blk_alloc ?_ _)); refine blk_put (cs := #[.int .u64 0, .string (a0.extract (x7_1 : Int).toNat ((wrap64 (x7_1 + x11_4)) : Int).toNat), .int .i64 0, .int .i64 0]) ?_ 2 _ rfl; (with_reducible repeat (first | refine blk_drewN ?_ _ | refine blk_drew ?_ | refine blk_alloc ?_ _)); refine blk_put (cs := #[.int .u64 0, .string (⟨#[]⟩ : ByteArray), .int .i64 0, .int .i64 0]) ?_ 1 _ rfl; (with_reducible repeat (first | refine blk_drewN ?_ _ | refine blk_drew ?_ | refine blk_alloc ?_ _)); exact BK209.out) k_ hk)); (case aO => exact (by (with_reducible repeat (first | apply Kd.R_alloc | apply Kd.R_drewN | apply Kd.R_drew)); exact Kd.R_mono (Kd.R_far (p := ⟨gb209, 3, none⟩) (Kd.R_far (p := ⟨gb209, 2, none⟩) (Kd.R_far (p := ⟨gb209, 1, none⟩) (Kd.R_mono HO_6.out (fun k_ hk => (⟨hk, hk⟩ : _ ∧ k_ ≠ gb209))) (fun _ hk => hk.2) (.string (a0.extract (x7_1 : Int).toNat ((wrap64 (x7_1 + x11_4)) : Int).toNat))) (fun _ hk => hk.2) (.int .i64 (wrap64 (x7_1 + x11_4)))) (fun _ hk => hk.2) (.int .i64 (wrap64 ((a0.size : Int) - (wrap64 (x7_1 + x11_4)))))) (fun _ hk => hk.1))); (case aS => exact (below_size (by repeat (first | (with_reducible first | exact HB.out | apply below_alloc | apply pw_below_drewN | apply below_drew1 | refine below_set ?_ GE208.out | refine below_set ?_ GE209.out) | exact HB.out)))); (case aL => have := LMc46.out; omega); intro v216 w50 ho hb hg hat; rw [← Ny215.out] at ho; have n0_ := Aside0.mk (blk_grown (g := gb208) (o := .cells #[.int .i64 ((rd_T87 l1 x8_1).f0), .int .i64 ((rd_T87 l1 x8_1).f1), .int .u64 ((rd_T87 l1 x8_1).f2), .string ((rd_T87 l1 x8_1).f3)] 87 (0, 0)) (by (with_reducible repeat (first | refine blk_drewN ?_ _ | refine blk_drew ?_ | refine blk_alloc ?_ _)); refine blk_far ?_ NB208_209.out _; (with_reducible repeat (first | refine blk_drewN ?_ _ | refine blk_drew ?_ | refine blk_alloc ?_ _)); refine blk_far ?_ NB208_209.out _; (with_reducible repeat (first | refine blk_drewN ?_ _ | refine blk_drew ?_ | refine blk_alloc ?_ _)); refine blk_far ?_ NB208_209.out _; (with_reducible repeat (first | refine blk_drewN ?_ _ | refine blk_drew ?_ | refine blk_alloc ?_ _)); exact BK208.out) hg (Kd.R_ne HO_6.out BK208.out (by decide))); have n1_ := Aside0.mk (blk_grown (g := gb209) (o := .cells #[.int .u64 0, .string (a0.extract (x7_1 : Int).toNat ((wrap64 (x7_1 + x11_4)) : Int).toNat), .int .i64 (wrap64 (x7_1 + x11_4)), .int .i64 (wrap64 ((a0.size : Int) - (wrap64 (x7_1 + x11_4))))] 90 (0, 0)) (by (with_reducible repeat (first | refine blk_drewN ?_ _ | refine blk_drew ?_ | refine blk_alloc ?_ _)); refine blk_put (cs := #[.int .u64 0, .string (a0.extract (x7_1 : Int).toNat ((wrap64 (x7_1 + x11_4)) : Int).toNat), .int .i64 (wrap64 (x7_1 + x11_4)), .int .i64 0]) ?_ 3 _ rfl; (with_reducible repeat (first | refine blk_drewN ?_ _ | refine blk_drew ?_ | refine blk_alloc ?_ _)); refine blk_put (cs := #[.int .u64 0, .string (a0.extract (x7_1 : Int).toNat ((wrap64 (x7_1 + x11_4)) : Int).toNat), .int .i64 0, .int .i64 0]) ?_ 2 _ rfl; (with_reducible repeat (first | refine blk_drewN ?_ _ | refine blk_drew ?_ | refine blk_alloc ?_ _)); refine blk_put (cs := #[.int .u64 0, .string (⟨#[]⟩ : ByteArray), .int .i64 0, .int .i64 0]) ?_ 1 _ rfl; (with_reducible repeat (first | refine blk_drewN ?_ _ | refine blk_drew ?_ | refine blk_alloc ?_ _)); exact BK209.out) hg (Kd.R_away HO_6.out (fun _ hk => hk))); have n2_ := Aside0.mk (hb); have n3_ := Aside0.mk (ho); clear BK208; clear BK209; clear HB; clear HO_6; have BK208 := n0_; have BK209 := n1_; have HB := n2_; have HO217 := n3_; clear n0_ n1_ n2_ n3_; clear ho hb hg hat)); try go_wp2_with (first | ((with_reducible refine gate_builtin (b := .append) (xs := #[.tmp 98, .tmp 100]) rfl ?_); (try (refine gate_guard (by rfl) ?_; dsimp only)); at_builtin; refine Kd.R_append k90 (w0 := w) w.heap.size rfl (.tmp 98) (.tmp 100) 50 90 (.agg #[(.int .u64 0), (.string ⟨#[]⟩), (.int .i64 0), (.int .i64 0)]) 40 rfl Try.underlying50 info90 rfl (by decide) (by omega) u6 x6_1 (⟨0, a0.extract (x7_1 : Int).toNat ((wrap64 (x7_1 + x11_4)) : Int).toNat, wrap64 (x7_1 + x11_4), wrap64 ((a0.size : Int) - (wrap64 (x7_1 + x11_4)))⟩ : S90) [.int .u64 0, .string (a0.extract (x7_1 : Int).toNat ((wrap64 (x7_1 + x11_4)) : Int).toNat), .int .i64 (wrap64 (x7_1 + x11_4)), .int .i64 (wrap64 ((a0.size : Int) - (wrap64 (x7_1 + x11_4))))] (fun k_ => k_ ≠ gb209) (fun _ => False) rfl (by first | (go_simp; done) | (go_simp; rfl)) ?aP (fun _ hk => hk.elim) ?aF ?aO ?aB ?aS ?aL ?_; (case aP => exact k90_mkM _ _ _ (⟨0, a0.extract (x7_1 : Int).toNat ((wrap64 (x7_1 + x11_4)) : Int).toNat, wrap64 (x7_1 + x11_4), wrap64 ((a0.size : Int) - (wrap64 (x7_1 + x11_4)))⟩ : S90)); (case aB => exact (by repeat (first | (with_reducible first | exact HB.out | apply below_alloc | apply pw_below_drewN | apply below_drew1 | refine below_set ?_ GE208.out | refine below_set ?_ GE209.out) | exact HB.out))); (case aF => exact (fun k_ hk => Kd.freshB (g := gb209) (o := .cells #[.int .u64 0, .string (a0.extract (x7_1 : Int).toNat ((wrap64 (x7_1 + x11_4)) : Int).toNat), .int .i64 (wrap64 (x7_1 + x11_4)), .int .i64 (wrap64 ((a0.size : Int) - (wrap64 (x7_1 + x11_4))))] 90 (0, 0)) (by (with_reducible repeat (first | refine blk_drewN ?_ _ | refine blk_drew ?_ | refine blk_alloc ?_ _)); refine blk_put (cs := #[.int .u64 0, .string (a0.extract (x7_1 : Int).toNat ((wrap64 (x7_1 + x11_4)) : Int).toNat), .int .i64 (wrap64 (x7_1 + x11_4)), .int .i64 0]) ?_ 3 _ rfl; (with_reducible repeat (first | refine blk_drewN ?_ _ | refine blk_drew ?_ | refine blk_alloc ?_ _)); refine blk_put (cs := #[.int .u64 0, .string (a0.extract (x7_1 : Int).toNat ((wrap64 (x7_1 + x11_4)) : Int).toNat), .int .i64 0, .int .i64 0]) ?_ 2 _ rfl; (with_reducible repeat (first | refine blk_drewN ?_ _ | refine blk_drew ?_ | refine blk_alloc ?_ _)); refine blk_put (cs := #[.int .u64 0, .string (⟨#[]⟩ : ByteArray), .int .i64 0, .int .i64 0]) ?_ 1 _ rfl; (with_reducible repeat (first | refine blk_drewN ?_ _ | refine blk_drew ?_ | refine blk_alloc ?_ _)); exact BK209.out) k_ hk)); (case aO => exact (by (with_reducible repeat (first | apply Kd.R_alloc | apply Kd.R_drewN | apply Kd.R_drew)); exact Kd.R_mono (Kd.R_far (p := ⟨gb209, 3, none⟩) (Kd.R_far (p := ⟨gb209, 2, none⟩) (Kd.R_far (p := ⟨gb209, 1, none⟩) (Kd.R_mono HO_6.out (fun k_ hk => (⟨hk, hk⟩ : _ ∧ k_ ≠ gb209))) (fun _ hk => hk.2) (.string (a0.extract (x7_1 : Int).toNat ((wrap64 (x7_1 + x11_4)) : Int).toNat))) (fun _ hk => hk.2) (.int .i64 (wrap64 (x7_1 + x11_4)))) (fun _ hk => hk.2) (.int .i64 (wrap64 ((a0.size : Int) - (wrap64 (x7_1 + x11_4)))))) (fun _ hk => hk.1))); (case aS => exact (below_size (by repeat (first | (with_reducible first | exact HB.out | apply below_alloc | apply pw_below_drewN | apply below_drew1 | refine below_set ?_ GE208.out | refine below_set ?_ GE209.out) | exact HB.out)))); (case aL => have := LMc46.out; omega); intro v216 w50 ho hb hg hat; rw [← Ny215.out] at ho; have n0_ := Aside0.mk (blk_grown (g := gb208) (o := .cells #[.int .i64 ((rd_T87 l1 x8_1).f0), .int .i64 ((rd_T87 l1 x8_1).f1), .int .u64 ((rd_T87 l1 x8_1).f2), .string ((rd_T87 l1 x8_1).f3)] 87 (0, 0)) (by (with_reducible repeat (first | refine blk_drewN ?_ _ | refine blk_drew ?_ | refine blk_alloc ?_ _)); refine blk_far ?_ NB208_209.out _; (with_reducible repeat (first | refine blk_drewN ?_ _ | refine blk_drew ?_ | refine blk_alloc ?_ _)); refine blk_far ?_ NB208_209.out _; (with_reducible repeat (first | refine blk_drewN ?_ _ | refine blk_drew ?_ | refine blk_alloc ?_ _)); refine blk_far ?_ NB208_209.out _; (with_reducible repeat (first | refine blk_drewN ?_ _ | refine blk_drew ?_ | refine blk_alloc ?_ _)); exact BK208.out) hg (Kd.R_ne HO_6.out BK208.out (by decide))); have n1_ := Aside0.mk (blk_grown (g := gb209) (o := .cells #[.int .u64 0, .string (a0.extract (x7_1 : Int).toNat ((wrap64 (x7_1 + x11_4)) : Int).toNat), .int .i64 (wrap64 (x7_1 + x11_4)), .int .i64 (wrap64 ((a0.size : Int) - (wrap64 (x7_1 + x11_4))))] 90 (0, 0)) (by (with_reducible repeat (first | refine blk_drewN ?_ _ | refine blk_drew ?_ | refine blk_alloc ?_ _)); refine blk_put (cs := #[.int .u64 0, .string (a0.extract (x7_1 : Int).toNat ((wrap64 (x7_1 + x11_4)) : Int).toNat), .int .i64 (wrap64 (x7_1 + x11_4)), .int .i64 0]) ?_ 3 _ rfl; (with_reducible repeat (first | refine blk_drewN ?_ _ | refine blk_drew ?_ | refine blk_alloc ?_ _)); refine blk_put (cs := #[.int .u64 0, .string (a0.extract (x7_1 : Int).toNat ((wrap64 (x7_1 + x11_4)) : Int).toNat), .int .i64 0, .int .i64 0]) ?_ 2 _ rfl; (with_reducible repeat (first | refine blk_drewN ?_ _ | refine blk_drew ?_ | refine blk_alloc ?_ _)); refine blk_put (cs := #[.int .u64 0, .string (⟨#[]⟩ : ByteArray), .int .i64 0, .int .i64 0]) ?_ 1 _ rfl; (with_reducible repeat (first | refine blk_drewN ?_ _ | refine blk_drew ?_ | refine blk_alloc ?_ _)); exact BK209.out) hg (Kd.R_away HO_6.out (fun _ hk => hk))); have n2_ := Aside0.mk (hb); have n3_ := Aside0.mk (ho); clear BK208; clear BK209; clear HB; clear HO_6; have BK208 := n0_; have BK209 := n1_; have HB := n2_; have HO217 := n3_; clear n0_ n1_ n2_ n3_; clear ho hb hg hat)))
                                go_roundg kj31
                                case measure => have := HK1.out; have := HJ4.out; have := HJ31.out; omega
                                case rel => exact ⟨(y215), (wrap64 (x7_1 + x11_4)), (wrap64 (x8_1 + 1)), (by first | rfl | (simp; done) | (simp [*]; done)), (by first | rfl | (simp; done) | (simp [*]; done)), H', ⟨by have := HK1.out; have := HJ4.out; have := HJ31.out; omega⟩, ⟨by (with_reducible repeat (first | apply Kd.R_alloc | apply Kd.R_drewN | apply Kd.R_drew)); exact Kd.R_mono HO217.out (fun _ hk => trivial)⟩, ⟨by repeat (first | (with_reducible first | exact HB.out | apply below_alloc | apply pw_below_drewN | apply below_drew1 | refine below_set ?_ GE208.out | refine below_set ?_ GE209.out) | exact HB.out)⟩⟩
                              · rw [if_neg c46] at H
                                exact absurd H (by simp)
                          · rw [if_neg c38] at H
                            have c38b0 : decide (0 ≤ ((rd_T87 l1 x8_1).f0)) = false := decide_eq_false c38
                            clear c38
                            by_cases c51 : x6_1.length < 3518437208883
                            · rw [if_pos c51] at H
                              have LMc51 := Aside0.mk c51
                              clear c51
                              obtain ⟨y218, hy218⟩ : ∃ y_ : List (S90), y_ = (x6_1 ++ [(⟨0, a0.extract (x7_1 : Int).toNat ((wrap64 (x7_1 + x11_4)) : Int).toNat, wrap64 (x7_1 + x11_4), wrap64 ((a0.size : Int) - (wrap64 (x7_1 + x11_4)))⟩ : S90)]) := ⟨_, rfl⟩
                              replace H : (palanquinref01_Read.l0 kj31 a0 l1 y218 (wrap64 (x7_1 + x11_4)) (wrap64 (x8_1 + 1))) = some (r1, r2) := by first | (rw [hy218]; with_reducible exact H) | (have H2_ := (Option.bind_some _ _).symm.trans H; rw [hy218]; with_reducible exact H2_) | (have H2_ := (Option.bind_some _ _).symm.trans H; with_reducible exact H2_) | with_reducible exact H | (rw [hy218]; exact H) | exact H
                              have Ny218 := Aside0.mk hy218
                              clear hy218
                              have H' := Aside0.mk H
                              clear H
                              have hnb52 := NB208_209.out
                              have hnc52 := NB209_208.out
                              have hcz53_0 : wc.cell? ⟨gb208, 0, none⟩ = some (.int .i64 ((rd_T87 l1 x8_1).f0)) := (blk_cell BK208.out 0).trans rfl
                              have hcz53_1 : wc.cell? ⟨gb208, 1, none⟩ = some (.int .i64 ((rd_T87 l1 x8_1).f1)) := (blk_cell BK208.out 1).trans rfl
                              have hcz53_2 : wc.cell? ⟨gb208, 2, none⟩ = some (.int .u64 ((rd_T87 l1 x8_1).f2)) := (blk_cell BK208.out 2).trans rfl
                              have hcz53_3 : wc.cell? ⟨gb208, 3, none⟩ = some (.string ((rd_T87 l1 x8_1).f3)) := (blk_cell BK208.out 3).trans rfl
                              have hfz53_0 := blk_frozen BK208.out 0
                              have hfz53_1 := blk_frozen BK208.out 1
                              have hfz53_2 := blk_frozen BK208.out 2
                              have hfz53_3 := blk_frozen BK208.out 3
                              have hcz54_0 : wc.cell? ⟨gb209, 0, none⟩ = some (.int .u64 0) := (blk_cell BK209.out 0).trans rfl
                              have hcz54_1 : wc.cell? ⟨gb209, 1, none⟩ = some (.string (⟨#[]⟩ : ByteArray)) := (blk_cell BK209.out 1).trans rfl
                              have hcz54_2 : wc.cell? ⟨gb209, 2, none⟩ = some (.int .i64 0) := (blk_cell BK209.out 2).trans rfl
                              have hcz54_3 : wc.cell? ⟨gb209, 3, none⟩ = some (.int .i64 0) := (blk_cell BK209.out 3).trans rfl
                              have hfz54_0 := blk_frozen BK209.out 0
                              have hfz54_1 := blk_frozen BK209.out 1
                              have hfz54_2 := blk_frozen BK209.out 2
                              have hfz54_3 := blk_frozen BK209.out 3
                              go_wp2_with (first | ((with_reducible refine gate_builtin (b := .append) (xs := #[.tmp 98, .tmp 100]) rfl ?_); (try (refine gate_guard (by rfl) ?_; dsimp only)); at_builtin; refine Kd.R_append k90 (w0 := w) w.heap.size rfl (.tmp 98) (.tmp 100) 50 90 (.agg #[(.int .u64 0), (.string ⟨#[]⟩), (.int .i64 0), (.int .i64 0)]) 40 rfl Try.underlying50 info90 rfl (by decide) (by omega) u6 x6_1 (⟨0, a0.extract (x7_1 : Int).toNat ((wrap64 (x7_1 + x11_4)) : Int).toNat, wrap64 (x7_1 + x11_4), wrap64 ((a0.size : Int) - (wrap64 (x7_1 + x11_4)))⟩ : S90) [.int .u64 0, .string (a0.extract (x7_1 : Int).toNat ((wrap64 (x7_1 + x11_4)) : Int).toNat), .int .i64 (wrap64 (x7_1 + x11_4)), .int .i64 (wrap64 ((a0.size : Int) - (wrap64 (x7_1 + x11_4))))] (fun k_ => k_ ≠ gb209) (fun _ => False) rfl (by first | (go_simp; done) | (go_simp; rfl)) ?aP (fun _ hk => hk.elim) ?aF ?aO ?aB ?aS ?aL ?_; (case aP => exact k90_mkM _ _ _ (⟨0, a0.extract (x7_1 : Int).toNat ((wrap64 (x7_1 + x11_4)) : Int).toNat, wrap64 (x7_1 + x11_4), wrap64 ((a0.size : Int) - (wrap64 (x7_1 + x11_4)))⟩ : S90)); (case aB => exact (by repeat (first | (with_reducible first | exact HB.out | apply below_alloc | apply pw_below_drewN | apply below_drew1 | refine below_set ?_ GE208.out | refine below_set ?_ GE209.out) | exact HB.out))); (case aF => exact (fun k_ hk => Kd.freshB (g := gb209) (o := .cells #[.int .u64 0, .string (a0.extract (x7_1 : Int).toNat ((wrap64 (x7_1 + x11_4)) : Int).toNat), .int .i64 (wrap64 (x7_1 + x11_4)), .int .i64 (wrap64 ((a0.size : Int) - (wrap64 (x7_1 + x11_4))))] 90 (0, 0)) (by (with_reducible repeat (first | refine blk_drewN ?_ _ | refine blk_drew ?_ | refine blk_alloc ?_ _)); refine blk_put (cs := #[.int .u64 0, .string (a0.extract (x7_1 : Int).toNat ((wrap64 (x7_1 + x11_4)) : Int).toNat), .int .i64 (wrap64 (x7_1 + x11_4)), .int .i64 0]) ?_ 3 _ rfl; (with_reducible repeat (first | refine blk_drewN ?_ _ | refine blk_drew ?_ | refine blk_alloc ?_ _)); refine blk_put (cs := #[.int .u64 0, .string (a0.extract (x7_1 : Int).toNat ((wrap64 (x7_1 + x11_4)) : Int).toNat), .int .i64 0, .int .i64 0]) ?_ 2 _ rfl; (with_reducible repeat (first | refine blk_drewN ?_ _ | refine blk_drew ?_ | refine blk_alloc ?_ _)); refine blk_put (cs := #[.int .u64 0, .string (⟨#[]⟩ : ByteArray), .int .i64 0, .int .i64 0]) ?_ 1 _ rfl; (with_reducible repeat (first | refine blk_drewN ?_ _ | refine blk_drew ?_ | refine blk_alloc ?_ _)); exact BK209.out) k_ hk)); (case aO => exact (by (with_reducible repeat (first | apply Kd.R_alloc | apply Kd.R_drewN | apply Kd.R_drew)); exact Kd.R_mono (Kd.R_far (p := ⟨gb209, 3, none⟩) (Kd.R_far (p := ⟨gb209, 2, none⟩) (Kd.R_far (p := ⟨gb209, 1, none⟩) (Kd.R_mono HO_6.out (fun k_ hk => (⟨hk, hk⟩ : _ ∧ k_ ≠ gb209))) (fun _ hk => hk.2) (.string (a0.extract (x7_1 : Int).toNat ((wrap64 (x7_1 + x11_4)) : Int).toNat))) (fun _ hk => hk.2) (.int .i64 (wrap64 (x7_1 + x11_4)))) (fun _ hk => hk.2) (.int .i64 (wrap64 ((a0.size : Int) - (wrap64 (x7_1 + x11_4)))))) (fun _ hk => hk.1))); (case aS => exact (below_size (by repeat (first | (with_reducible first | exact HB.out | apply below_alloc | apply pw_below_drewN | apply below_drew1 | refine below_set ?_ GE208.out | refine below_set ?_ GE209.out) | exact HB.out)))); (case aL => have := LMc51.out; omega); intro v219 w55 ho hb hg hat; rw [← Ny218.out] at ho; have n0_ := Aside0.mk (blk_grown (g := gb208) (o := .cells #[.int .i64 ((rd_T87 l1 x8_1).f0), .int .i64 ((rd_T87 l1 x8_1).f1), .int .u64 ((rd_T87 l1 x8_1).f2), .string ((rd_T87 l1 x8_1).f3)] 87 (0, 0)) (by (with_reducible repeat (first | refine blk_drewN ?_ _ | refine blk_drew ?_ | refine blk_alloc ?_ _)); refine blk_far ?_ NB208_209.out _; (with_reducible repeat (first | refine blk_drewN ?_ _ | refine blk_drew ?_ | refine blk_alloc ?_ _)); refine blk_far ?_ NB208_209.out _; (with_reducible repeat (first | refine blk_drewN ?_ _ | refine blk_drew ?_ | refine blk_alloc ?_ _)); refine blk_far ?_ NB208_209.out _; (with_reducible repeat (first | refine blk_drewN ?_ _ | refine blk_drew ?_ | refine blk_alloc ?_ _)); exact BK208.out) hg (Kd.R_ne HO_6.out BK208.out (by decide))); have n1_ := Aside0.mk (blk_grown (g := gb209) (o := .cells #[.int .u64 0, .string (a0.extract (x7_1 : Int).toNat ((wrap64 (x7_1 + x11_4)) : Int).toNat), .int .i64 (wrap64 (x7_1 + x11_4)), .int .i64 (wrap64 ((a0.size : Int) - (wrap64 (x7_1 + x11_4))))] 90 (0, 0)) (by (with_reducible repeat (first | refine blk_drewN ?_ _ | refine blk_drew ?_ | refine blk_alloc ?_ _)); refine blk_put (cs := #[.int .u64 0, .string (a0.extract (x7_1 : Int).toNat ((wrap64 (x7_1 + x11_4)) : Int).toNat), .int .i64 (wrap64 (x7_1 + x11_4)), .int .i64 0]) ?_ 3 _ rfl; (with_reducible repeat (first | refine blk_drewN ?_ _ | refine blk_drew ?_ | refine blk_alloc ?_ _)); refine blk_put (cs := #[.int .u64 0, .string (a0.extract (x7_1 : Int).toNat ((wrap64 (x7_1 + x11_4)) : Int).toNat), .int .i64 0, .int .i64 0]) ?_ 2 _ rfl; (with_reducible repeat (first | refine blk_drewN ?_ _ | refine blk_drew ?_ | refine blk_alloc ?_ _)); refine blk_put (cs := #[.int .u64 0, .string (⟨#[]⟩ : ByteArray), .int .i64 0, .int .i64 0]) ?_ 1 _ rfl; (with_reducible repeat (first | refine blk_drewN ?_ _ | refine blk_drew ?_ | refine blk_alloc ?_ _)); exact BK209.out) hg (Kd.R_away HO_6.out (fun _ hk => hk))); have n2_ := Aside0.mk (hb); have n3_ := Aside0.mk (ho); clear BK208; clear BK209; clear HB; clear HO_6; have BK208 := n0_; have BK209 := n1_; have HB := n2_; have HO220 := n3_; clear n0_ n1_ n2_ n3_; clear ho hb hg hat))
                              repeat (go_quiet (first | ((with_reducible refine gate_builtin (b := .append) (xs := #[.tmp 98, .tmp 100]) rfl ?_); (try (refine gate_guard (by rfl) ?_; dsimp only)); at_builtin; refine Kd.R_append k90 (w0 := w) w.heap.size rfl (.tmp 98) (.tmp 100) 50 90 (.agg #[(.int .u64 0), (.string ⟨#[]⟩), (.int .i64 0), (.int .i64 0)]) 40 rfl Try.underlying50 info90 rfl (by decide) (by omega) u6 x6_1 (⟨0, a0.extract (x7_1 : Int).toNat ((wrap64 (x7_1 + x11_4)) : Int).toNat, wrap64 (x7_1 + x11_4), wrap64 ((a0.size : Int) - (wrap64 (x7_1 + x11_4)))⟩ : S90) [.int .u64 0, .string (a0.extract (x7_1 : Int).toNat ((wrap64 (x7_1 + x11_4)) : Int).toNat), .int .i64 (wrap64 (x7_1 + x11_4)), .int .i64 (wrap64 ((a0.size : Int) - (wrap64 (x7_1 + x11_4))))] (fun k_ => k_ ≠ gb209) (fun _ => False) rfl (by first | (go_simp; done) | (go_simp; rfl)) ?aP (fun _ hk => hk.elim) ?aF ?aO ?aB ?aS ?aL ?_; (case aP => exact k90_mkM _ _ _ (⟨0, a0.extract (x7_1 : Int).toNat ((wrap64 (x7_1 + x11_4)) : Int).toNat, wrap64 (x7_1 + x11_4), wrap64 ((a0.size : Int) - (wrap64 (x7_1 + x11_4)))⟩ : S90)); (case aB => exact (by repeat (first | (with_reducible first | exact HB.out | apply below_alloc | apply pw_below_drewN | apply below_drew1 | refine below_set ?_ GE208.out | refine below_set ?_ GE209.out) | exact HB.out))); (case aF => exact (fun k_ hk => Kd.freshB (g := gb209) (o := .cells #[.int .u64 0, .string (a0.extract (x7_1 : Int).toNat ((wrap64 (x7_1 + x11_4)) : Int).toNat), .int .i64 (wrap64 (x7_1 + x11_4)), .int .i64 (wrap64 ((a0.size : Int) - (wrap64 (x7_1 + x11_4))))] 90 (0, 0)) (by (with_reducible repeat (first | refine blk_drewN ?_ _ | refine blk_drew ?_ | refine blk_alloc ?_ _)); refine blk_put (cs := #[.int .u64 0, .string (a0.extract (x7_1 : Int).toNat ((wrap64 (x7_1 + x11_4)) : Int).toNat), .int .i64 (wrap64 (x7_1 + x11_4)), .int .i64 0]) ?_ 3 _ rfl; (with_reducible repeat (first | refine blk_drewN ?_ _ | refine blk_drew ?_ | refine blk_alloc ?_ _)); refine blk_put (cs := #[.int .u64 0, .string (a0.extract (x7_1 : Int).toNat ((wrap64 (x7_1 + x11_4)) : Int).toNat), .int .i64 0, .int .i64 0]) ?_ 2 _ rfl; (with_reducible repeat (first | refine blk_drewN ?_ _ | refine blk_drew ?_ | refine blk_alloc ?_ _)); refine blk_put (cs := #[.int .u64 0, .string (⟨#[]⟩ : ByteArray), .int .i64 0, .int .i64 0]) ?_ 1 _ rfl; (with_reducible repeat (first | refine blk_drewN ?_ _ | refine blk_drew ?_ | refine blk_alloc ?_ _)); exact BK209.out) k_ hk)); (case aO => exact (by (with_reducible repeat (first | apply Kd.R_alloc | apply Kd.R_drewN | apply Kd.R_drew)); exact Kd.R_mono (Kd.R_far (p := ⟨gb209, 3, none⟩) (Kd.R_far (p := ⟨gb209, 2, none⟩) (Kd.R_far (p := ⟨gb209, 1, none⟩) (Kd.R_mono HO_6.out (fun k_ hk => (⟨hk, hk⟩ : _ ∧ k_ ≠ gb209))) (fun _ hk => hk.2) (.string (a0.extract (x7_1 : Int).toNat ((wrap64 (x7_1 + x11_4)) : Int).toNat))) (fun _ hk => hk.2) (.int .i64 (wrap64 (x7_1 + x11_4)))) (fun _ hk => hk.2) (.int .i64 (wrap64 ((a0.size : Int) - (wrap64 (x7_1 + x11_4)))))) (fun _ hk => hk.1))); (case aS => exact (below_size (by repeat (first | (with_reducible first | exact HB.out | apply below_alloc | apply pw_below_drewN | apply below_drew1 | refine below_set ?_ GE208.out | refine below_set ?_ GE209.out) | exact HB.out)))); (case aL => have := LMc51.out; omega); intro v219 w55 ho hb hg hat; rw [← Ny218.out] at ho; have n0_ := Aside0.mk (blk_grown (g := gb208) (o := .cells #[.int .i64 ((rd_T87 l1 x8_1).f0), .int .i64 ((rd_T87 l1 x8_1).f1), .int .u64 ((rd_T87 l1 x8_1).f2), .string ((rd_T87 l1 x8_1).f3)] 87 (0, 0)) (by (with_reducible repeat (first | refine blk_drewN ?_ _ | refine blk_drew ?_ | refine blk_alloc ?_ _)); refine blk_far ?_ NB208_209.out _; (with_reducible repeat (first | refine blk_drewN ?_ _ | refine blk_drew ?_ | refine blk_alloc ?_ _)); refine blk_far ?_ NB208_209.out _; (with_reducible repeat (first | refine blk_drewN ?_ _ | refine blk_drew ?_ | refine blk_alloc ?_ _)); refine blk_far ?_ NB208_209.out _; (with_reducible repeat (first | refine blk_drewN ?_ _ | refine blk_drew ?_ | refine blk_alloc ?_ _)); exact BK208.out) hg (Kd.R_ne HO_6.out BK208.out (by decide))); have n1_ := Aside0.mk (blk_grown (g := gb209) (o := .cells #[.int .u64 0, .string (a0.extract (x7_1 : Int).toNat ((wrap64 (x7_1 + x11_4)) : Int).toNat), .int .i64 (wrap64 (x7_1 + x11_4)), .int .i64 (wrap64 ((a0.size : Int) - (wrap64 (x7_1 + x11_4))))] 90 (0, 0)) (by (with_reducible repeat (first | refine blk_drewN ?_ _ | refine blk_drew ?_ | refine blk_alloc ?_ _)); refine blk_put (cs := #[.int .u64 0, .string (a0.extract (x7_1 : Int).toNat ((wrap64 (x7_1 + x11_4)) : Int).toNat), .int .i64 (wrap64 (x7_1 + x11_4)), .int .i64 0]) ?_ 3 _ rfl; (with_reducible repeat (first | refine blk_drewN ?_ _ | refine blk_drew ?_ | refine blk_alloc ?_ _)); refine blk_put (cs := #[.int .u64 0, .string (a0.extract (x7_1 : Int).toNat ((wrap64 (x7_1 + x11_4)) : Int).toNat), .int .i64 0, .int .i64 0]) ?_ 2 _ rfl; (with_reducible repeat (first | refine blk_drewN ?_ _ | refine blk_drew ?_ | refine blk_alloc ?_ _)); refine blk_put (cs := #[.int .u64 0, .string (⟨#[]⟩ : ByteArray), .int .i64 0, .int .i64 0]) ?_ 1 _ rfl; (with_reducible repeat (first | refine blk_drewN ?_ _ | refine blk_drew ?_ | refine blk_alloc ?_ _)); exact BK209.out) hg (Kd.R_away HO_6.out (fun _ hk => hk))); have n2_ := Aside0.mk (hb); have n3_ := Aside0.mk (ho); clear BK208; clear BK209; clear HB; clear HO_6; have BK208 := n0_; have BK209 := n1_; have HB := n2_; have HO220 := n3_; clear n0_ n1_ n2_ n3_; clear ho hb hg hat)); try go_wp2_with (first | ((with_reducible refine gate_builtin (b := .append) (xs := #[.tmp 98, .tmp 100]) rfl ?_); (try (refine gate_guard (by rfl) ?_; dsimp only)); at_builtin; refine Kd.R_append k90 (w0 := w) w.heap.size rfl (.tmp 98) (.tmp 100) 50 90 (.agg #[(.int .u64 0), (.string ⟨#[]⟩), (.int .i64 0), (.int .i64 0)]) 40 rfl Try.underlying50 info90 rfl (by decide) (by omega) u6 x6_1 (⟨0, a0.extract (x7_1 : Int).toNat ((wrap64 (x7_1 + x11_4)) : Int).toNat, wrap64 (x7_1 + x11_4), wrap64 ((a0.size : Int) - (wrap64 (x7_1 + x11_4)))⟩ : S90) [.int .u64 0, .string (a0.extract (x7_1 : Int).toNat ((wrap64 (x7_1 + x11_4)) : Int).toNat), .int .i64 (wrap64 (x7_1 + x11_4)), .int .i64 (wrap64 ((a0.size : Int) - (wrap64 (x7_1 + x11_4))))] (fun k_ => k_ ≠ gb209) (fun _ => False) rfl (by first | (go_simp; done) | (go_simp; rfl)) ?aP (fun _ hk => hk.elim) ?aF ?aO ?aB ?aS ?aL ?_; (case aP => exact k90_mkM _ _ _ (⟨0, a0.extract (x7_1 : Int).toNat ((wrap64 (x7_1 + x11_4)) : Int).toNat, wrap64 (x7_1 + x11_4), wrap64 ((a0.size : Int) - (wrap64 (x7_1 + x11_4)))⟩ : S90)); (case aB => exact (by repeat (first | (with_reducible first | exact HB.out | apply below_alloc | apply pw_below_drewN | apply below_drew1 | refine below_set ?_ GE208.out | refine below_set ?_ GE209.out) | exact HB.out))); (case aF => exact (fun k_ hk => Kd.freshB (g := gb209) (o := .cells #[.int .u64 0, .string (a0.extract (x7_1 : Int).toNat ((wrap64 (x7_1 + x11_4)) : Int).toNat), .int .i64 (wrap64 (x7_1 + x11_4)), .int .i64 (wrap64 ((a0.size : Int) - (wrap64 (x7_1 + x11_4))))] 90 (0, 0)) (by (with_reducible repeat (first | refine blk_drewN ?_ _ | refine blk_drew ?_ | refine blk_alloc ?_ _)); refine blk_put (cs := #[.int .u64 0, .string (a0.extract (x7_1 : Int).toNat ((wrap64 (x7_1 + x11_4)) : Int).toNat), .int .i64 (wrap64 (x7_1 + x11_4)), .int .i64 0]) ?_ 3 _ rfl; (with_reducible repeat (first | refine blk_drewN ?_ _ | refine blk_drew ?_ | refine blk_alloc ?_ _)); refine blk_put (cs := #[.int .u64 0, .string (a0.extract (x7_1 : Int).toNat ((wrap64 (x7_1 + x11_4)) : Int).toNat), .int .i64 0, .int .i64 0]) ?_ 2 _ rfl; (with_reducible repeat (first | refine blk_drewN ?_ _ | refine blk_drew ?_ | refine blk_alloc ?_ _)); refine blk_put (cs := #[.int .u64 0, .string (⟨#[]⟩ : ByteArray), .int .i64 0, .int .i64 0]) ?_ 1 _ rfl; (with_reducible repeat (first | refine blk_drewN ?_ _ | refine blk_drew ?_ | refine blk_alloc ?_ _)); exact BK209.out) k_ hk)); (case aO => exact (by (with_reducible repeat (first | apply Kd.R_alloc | apply Kd.R_drewN | apply Kd.R_drew)); exact Kd.R_mono (Kd.R_far (p := ⟨gb209, 3, none⟩) (Kd.R_far (p := ⟨gb209, 2, none⟩) (Kd.R_far (p := ⟨gb209, 1, none⟩) (Kd.R_mono HO_6.out (fun k_ hk => (⟨hk, hk⟩ : _ ∧ k_ ≠ gb209))) (fun _ hk => hk.2) (.string (a0.extract (x7_1 : Int).toNat ((wrap64 (x7_1 + x11_4)) : Int).toNat))) (fun _ hk => hk.2) (.int .i64 (wrap64 (x7_1 + x11_4)))) (fun _ hk => hk.2) (.int .i64 (wrap64 ((a0.size : Int) - (wrap64 (x7_1 + x11_4)))))) (fun _ hk => hk.1))); (case aS => exact (below_size (by repeat (first | (with_reducible first | exact HB.out | apply below_alloc | apply pw_below_drewN | apply below_drew1 | refine below_set ?_ GE208.out | refine below_set ?_ GE209.out) | exact HB.out)))); (case aL => have := LMc51.out; omega); intro v219 w55 ho hb hg hat; rw [← Ny218.out] at ho; have n0_ := Aside0.mk (blk_grown (g := gb208) (o := .cells #[.int .i64 ((rd_T87 l1 x8_1).f0), .int .i64 ((rd_T87 l1 x8_1).f1), .int .u64 ((rd_T87 l1 x8_1).f2), .string ((rd_T87 l1 x8_1).f3)] 87 (0, 0)) (by (with_reducible repeat (first | refine blk_drewN ?_ _ | refine blk_drew ?_ | refine blk_alloc ?_ _)); refine blk_far ?_ NB208_209.out _; (with_reducible repeat (first | refine blk_drewN ?_ _ | refine blk_drew ?_ | refine blk_alloc ?_ _)); refine blk_far ?_ NB208_209.out _; (with_reducible repeat (first | refine blk_drewN ?_ _ | refine blk_drew ?_ | refine blk_alloc ?_ _)); refine blk_far ?_ NB208_209.out _; (with_reducible repeat (first | refine blk_drewN ?_ _ | refine blk_drew ?_ | refine blk_alloc ?_ _)); exact BK208.out) hg (Kd.R_ne HO_6.out BK208.out (by decide))); have n1_ := Aside0.mk (blk_grown (g := gb209) (o := .cells #[.int .u64 0, .string (a0.extract (x7_1 : Int).toNat ((wrap64 (x7_1 + x11_4)) : Int).toNat), .int .i64 (wrap64 (x7_1 + x11_4)), .int .i64 (wrap64 ((a0.size : Int) - (wrap64 (x7_1 + x11_4))))] 90 (0, 0)) (by (with_reducible repeat (first | refine blk_drewN ?_ _ | refine blk_drew ?_ | refine blk_alloc ?_ _)); refine blk_put (cs := #[.int .u64 0, .string (a0.extract (x7_1 : Int).toNat ((wrap64 (x7_1 + x11_4)) : Int).toNat), .int .i64 (wrap64 (x7_1 + x11_4)), .int .i64 0]) ?_ 3 _ rfl; (with_reducible repeat (first | refine blk_drewN ?_ _ | refine blk_drew ?_ | refine blk_alloc ?_ _)); refine blk_put (cs := #[.int .u64 0, .string (a0.extract (x7_1 : Int).toNat ((wrap64 (x7_1 + x11_4)) : Int).toNat), .int .i64 0, .int .i64 0]) ?_ 2 _ rfl; (with_reducible repeat (first | refine blk_drewN ?_ _ | refine blk_drew ?_ | refine blk_alloc ?_ _)); refine blk_put (cs := #[.int .u64 0, .string (⟨#[]⟩ : ByteArray), .int .i64 0, .int .i64 0]) ?_ 1 _ rfl; (with_reducible repeat (first | refine blk_drewN ?_ _ | refine blk_drew ?_ | refine blk_alloc ?_ _)); exact BK209.out) hg (Kd.R_away HO_6.out (fun _ hk => hk))); have n2_ := Aside0.mk (hb); have n3_ := Aside0.mk (ho); clear BK208; clear BK209; clear HB; clear HO_6; have BK208 := n0_; have BK209 := n1_; have HB := n2_; have HO220 := n3_; clear n0_ n1_ n2_ n3_; clear ho hb hg hat)))
                              go_roundg kj31
                              case measure => have := HK1.out; have := HJ4.out; have := HJ31.out; omega
                              case rel => exact ⟨(y218), (wrap64 (x7_1 + x11_4)), (wrap64 (x8_1 + 1)), (by first | rfl | (simp; done) | (simp [*]; done)), (by first | rfl | (simp; done) | (simp [*]; done)), H', ⟨by have := HK1.out; have := HJ4.out; have := HJ31.out; omega⟩, ⟨by (with_reducible repeat (first | apply Kd.R_alloc | apply Kd.R_drewN | apply Kd.R_drew)); exact Kd.R_mono HO220.out (fun _ hk => trivial)⟩, ⟨by repeat (first | (with_reducible first | exact HB.out | apply below_alloc | apply pw_below_drewN | apply below_drew1 | refine below_set ?_ GE208.out | refine below_set ?_ GE209.out) | exact HB.out)⟩⟩
                            · rw [if_neg c51] at H
                              exact absurd H (by simp)
                        · rw [if_neg c37] at H
                          exact absurd H (by simp)
                      · rw [if_neg c36] at H
                        exact absurd H (by simp)
                    · rw [if_neg c35] at H
                      exact absurd H (by simp)
        · rw [if_neg c4] at H
          exact absurd H (by simp)
      · rw [if_neg c3] at H
        have c3b0 : decide (x8_1 < (l1.length : Int)) = false := decide_eq_false c3
        clear c3
        simp only [Option.some.injEq, Prod.mk.injEq] at H
        obtain ⟨rfl, rfl⟩ := H
        go_wp2
        repeat (go_quiet (fail); try go_wp2)
        go_ret2
        exact ⟨_, by first | rfl | (simp [errW_none, errW_some] <;> rfl) | (simp [*, errW_none, errW_some] <;> rfl), by (with_reducible repeat (first | apply Kd.R_alloc | apply Kd.R_drewN | apply Kd.R_drew)); exact HO_6.out, by repeat (first | (with_reducible first | exact HB.out | apply below_alloc | apply pw_below_drewN | apply below_drew1) | exact HB.out)⟩

end Go.Proofs.Ytejmipoolbodgaa.G
