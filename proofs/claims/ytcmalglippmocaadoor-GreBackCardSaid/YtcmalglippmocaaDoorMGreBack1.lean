/- Texts of this session, joined: each is a section. -/
import Derived.Test.YtcmalglippmocaaDoorMGrbg1
import Derived.Test.YtcmalglippmocaaDoorMGrbg2
import Derived.Test.YtcmalglippmocaaDoorMGrbg3
import Derived.Test.YtcmalglippmocaaDoorWWords
import Derived.Deep.Fields
import Derived.Deep.Strs
import Derived.WideShapes
import Derived.ChangeArms
import Derived.Test.YtcmalglippmocaaDoorTie
import Derived.ProofKit
import Derived.LaidMore
import Derived.OpenShut
set_option linter.unusedVariables false
set_option linter.unusedSimpArgs false
section
namespace Go.Proofs.YtcmalglippmocaaDoor.G
open Go.RowKit Go.Proofs.YtcmalglippmocaaDoorW.PrintWords Go.Proofs.YtcmalglippmocaaDoorW.PrintLast Go.Proofs.YtcmalglippmocaaDoorW.PrintMore
attribute [local go_sem] max2_int min2_int max_two min_two max_three min_three max_four min_four   -- for this text's walks alone
set_option linter.unusedVariables false
set_option linter.unusedSimpArgs false

theorem eqA40 (d : Nat) (w : World) (x0 y0 : Bool) (x1 y1 : Bool) (x2 y2 : Int) :
    (Op.equalIn (d + 2) 40 (.agg #[.bool x0, .bool x1, .int .u32 x2]) (.agg #[.bool y0, .bool y1, .int .u32 y2])).run Tryd.prog w = .ok (x0 == y0 && (x1 == y1 && (x2 == y2))) w := by
  refine eqA_of Tryd.underlying40 (by kernel_rfl) ?_
  refine eqf_cons (by rfl) (by go_simp; rfl) (by go_simp; rfl) (by go_simp) ?_
  refine eqf_cons (by rfl) (by go_simp; rfl) (by go_simp; rfl) (by go_simp) ?_
  exact eqf_last (by rfl) (by go_simp; rfl) (by go_simp; rfl) (by go_simp)
end Go.Proofs.YtcmalglippmocaaDoor.G
end

section
namespace Go.Proofs.YtcmalglippmocaaDoor.G
open Go.RowKit Go.Proofs.YtcmalglippmocaaDoorW.PrintWords Go.Proofs.YtcmalglippmocaaDoorW.PrintLast Go.Proofs.YtcmalglippmocaaDoorW.PrintMore
attribute [local go_sem] max2_int min2_int max_two min_two max_three min_three max_four min_four   -- for this text's walks alone
set_option linter.unusedVariables false
set_option linter.unusedSimpArgs false

attribute [local go_sem high] eqA40
/-! ### palanquinlaw12_GreBack: function 7 -/
mutual
def palanquinlaw12_GreBack.j0 : Nat → Bool → Bool → Int → ByteArray → ByteArray → Bool → Option (Bool)
  | 0, _, _, _, _, _, _ => none
  | k + 1, x0, x1, x2, x3, x4, x31 => if x31 = true then (some true) else ((gre_Put.f x0 x1 x2 x3).bind fun bt216 => (if x1 = true then (palanquinlaw12_GreBack.j1 k x3 x4 bt216.1 bt216.2 x0 x1 x2) else (palanquinlaw12_GreBack.j1 k x3 x4 bt216.1 bt216.2 x0 x1 0)))
def palanquinlaw12_GreBack.j1 : Nat → ByteArray → ByteArray → ByteArray → Int → Bool → Bool → Int → Option (Bool)
  | 0, _, _, _, _, _, _, _ => none
  | k + 1, x3, x4, x12, x13, x216000, x216001, x216002 => if x13 = 0 then ((gre_Get.f x12).bind fun bt218 => (if (!(bt218.1 == x216000) || (!(bt218.2.1 == x216001) || (!(bt218.2.2.1 == x216002)))) = true then (some false) else (if bt218.2.2.2.1.toList = x3.toList then (if bt218.2.2.2.2 = 0 then ((gre_Size.f x216000 x216001 x216002).bind fun t224 => (if (x12.size : Int) = (wrap64 (t224 + (x3.size : Int))) then (palanquinlaw12_GreBack.j2 k x4) else (some false))) else (some false)) else (some false)))) else (if x12.toList = ([] : List UInt8) then (palanquinlaw12_GreBack.j2 k x4) else (some false))
def palanquinlaw12_GreBack.j2 : Nat → ByteArray → Option (Bool)
  | 0, _ => none
  | k + 1, x4 => (gre_Get.f x4).bind fun bt225 => (if bt225.2.2.2.2 = 0 then (if bt225.1 = true then (if 4 < (x4.size : Int) then (if (bt x4 4) = 255 then (if 5 < (x4.size : Int) then (if (bt x4 5) = 255 then (some true) else ((gre_Put.f bt225.1 bt225.2.1 bt225.2.2.1 bt225.2.2.2.1).bind fun bt231 => (if bt231.2 = 0 then (some (bt231.1.toList == x4.toList)) else (some false)))) else (none)) else ((gre_Put.f bt225.1 bt225.2.1 bt225.2.2.1 bt225.2.2.2.1).bind fun bt233 => (if bt233.2 = 0 then (some (bt233.1.toList == x4.toList)) else (some false)))) else (none)) else ((gre_Put.f bt225.1 bt225.2.1 bt225.2.2.1 bt225.2.2.2.1).bind fun bt235 => (if bt235.2 = 0 then (some (bt235.1.toList == x4.toList)) else (some false)))) else (if (!bt225.1 && (!bt225.2.1 && (bt225.2.2.1 == 0))) = true then (some (bt225.2.2.2.1.toList == ([] : List UInt8))) else (some false)))
end
def palanquinlaw12_GreBack.f (k : Nat) (a0 : Bool) (a1 : Bool) (a2 : Int) (a3 : ByteArray) (a4 : ByteArray) : Option (Bool) := (palanquinlaw12_awake.f).bind fun t214 => (if t214 = true then (if (a3.size : Int) > 5000 then (palanquinlaw12_GreBack.j0 k a0 a1 a2 a3 a4 true) else (palanquinlaw12_GreBack.j0 k a0 a1 a2 a3 a4 (decide ((a4.size : Int) > 5000)))) else (some false))
theorem palanquinlaw12_GreBack.mono_l : ∀ k, (∀ y0 y1 y2 y3 y4 y5, LeO (palanquinlaw12_GreBack.j0 k y0 y1 y2 y3 y4 y5) (palanquinlaw12_GreBack.j0 (k + 1) y0 y1 y2 y3 y4 y5)) ∧ (∀ y0 y1 y2 y3 y4 y5 y6, LeO (palanquinlaw12_GreBack.j1 k y0 y1 y2 y3 y4 y5 y6) (palanquinlaw12_GreBack.j1 (k + 1) y0 y1 y2 y3 y4 y5 y6)) ∧ (∀ y0, LeO (palanquinlaw12_GreBack.j2 k y0) (palanquinlaw12_GreBack.j2 (k + 1) y0))
  | 0 => ⟨fun _ _ _ _ _ _ r h => by simp [palanquinlaw12_GreBack.j0] at h, fun _ _ _ _ _ _ _ r h => by simp [palanquinlaw12_GreBack.j1] at h, fun _ r h => by simp [palanquinlaw12_GreBack.j2] at h⟩
  | k + 1 => by
    obtain ⟨ih0, ih1, ih2⟩ := palanquinlaw12_GreBack.mono_l k
    refine ⟨?_, ?_, ?_⟩
    · intro y0 y1 y2 y3 y4 y5
      unfold palanquinlaw12_GreBack.j0
      repeat' first
      | (with_reducible exact ih0 _ _ _ _ _ _)
      | (with_reducible exact ih1 _ _ _ _ _ _ _)
      | (with_reducible exact ih2 _)
      | (with_reducible exact LeO.refl _)
      | (with_reducible exact LeO.none _)
      | (with_reducible refine LeO.ite ?_ ?_)
      | (with_reducible refine LeO.bind ?_ (fun _ => ?_))
      | exact ih0 _ _ _ _ _ _
      | exact ih1 _ _ _ _ _ _ _
      | exact ih2 _
      | exact LeO.none _
      | refine LeO.ite ?_ ?_
      | refine LeO.bind ?_ (fun _ => ?_)
    · intro y0 y1 y2 y3 y4 y5 y6
      unfold palanquinlaw12_GreBack.j1
      repeat' first
      | (with_reducible exact ih0 _ _ _ _ _ _)
      | (with_reducible exact ih1 _ _ _ _ _ _ _)
      | (with_reducible exact ih2 _)
      | (with_reducible exact LeO.refl _)
      | (with_reducible exact LeO.none _)
      | (with_reducible refine LeO.ite ?_ ?_)
      | (with_reducible refine LeO.bind ?_ (fun _ => ?_))
      | exact ih0 _ _ _ _ _ _
      | exact ih1 _ _ _ _ _ _ _
      | exact ih2 _
      | exact LeO.none _
      | refine LeO.ite ?_ ?_
      | refine LeO.bind ?_ (fun _ => ?_)
    · intro y0
      unfold palanquinlaw12_GreBack.j2
      repeat' first
      | (with_reducible exact ih0 _ _ _ _ _ _)
      | (with_reducible exact ih1 _ _ _ _ _ _ _)
      | (with_reducible exact ih2 _)
      | (with_reducible exact LeO.refl _)
      | (with_reducible exact LeO.none _)
      | (with_reducible refine LeO.ite ?_ ?_)
      | (with_reducible refine LeO.bind ?_ (fun _ => ?_))
      | exact ih0 _ _ _ _ _ _
      | exact ih1 _ _ _ _ _ _ _
      | exact ih2 _
      | exact LeO.none _
      | refine LeO.ite ?_ ?_
      | refine LeO.bind ?_ (fun _ => ?_)
theorem palanquinlaw12_GreBack.mono : ∀ a0 a1 a2 a3 a4 k, LeO (palanquinlaw12_GreBack.f k a0 a1 a2 a3 a4) (palanquinlaw12_GreBack.f (k + 1) a0 a1 a2 a3 a4) := by
  intro a0 a1 a2 a3 a4 k
  obtain ⟨ih0, ih1, ih2⟩ := palanquinlaw12_GreBack.mono_l k
  unfold palanquinlaw12_GreBack.f
  repeat' first
      | (with_reducible exact ih0 _ _ _ _ _ _)
      | (with_reducible exact ih1 _ _ _ _ _ _ _)
      | (with_reducible exact ih2 _)
      | (with_reducible exact LeO.refl _)
      | (with_reducible exact LeO.none _)
      | (with_reducible refine LeO.ite ?_ ?_)
      | (with_reducible refine LeO.bind ?_ (fun _ => ?_))
      | exact ih0 _ _ _ _ _ _
      | exact ih1 _ _ _ _ _ _ _
      | exact ih2 _
      | exact LeO.none _
      | refine LeO.ite ?_ ?_
      | refine LeO.bind ?_ (fun _ => ?_)
set_option maxHeartbeats 8000000 in
set_option maxRecDepth 100000 in
theorem palanquinlaw12_GreBack.calls (k : Nat) (a0 : Bool) (a1 : Bool) (a2 : Int) (a3 : ByteArray) (a4 : ByteArray) (r : Bool) (w : World) (h : palanquinlaw12_GreBack.f k a0 a1 a2 a3 a4 = some r) (hrt_ : Aside0 (r = true)) (hgV_ : GV w) :
    Calls Tryd.prog 7 #[.bool a0, .bool a1, .int .u32 a2, .string a3, .string a4] w fun e w' => e = .returned (.bool r) ∧ Below w.heap.size w w' := by
  have HgV_ := Aside0.mk hgV_
  clear hgV_
  have hu40 := Tryd.underlying40
  have HB := Aside0.mk (Below.refl w.heap.size w)
  have H : ((palanquinlaw12_awake.f).bind fun t214 => (if t214 = true then (if (a3.size : Int) > 5000 then (palanquinlaw12_GreBack.j0 k a0 a1 a2 a3 a4 true) else (palanquinlaw12_GreBack.j0 k a0 a1 a2 a3 a4 (decide ((a4.size : Int) > 5000)))) else (some false))) = some r := h
  clear h
  replace H := Option.bind_eq_some_iff.mp H
  obtain ⟨t214, A60, H⟩ := H
  replace H : (if t214 = true then (if (a3.size : Int) > 5000 then (palanquinlaw12_GreBack.j0 k a0 a1 a2 a3 a4 true) else (palanquinlaw12_GreBack.j0 k a0 a1 a2 a3 a4 (decide ((a4.size : Int) > 5000)))) else (some false)) = some r := H
  have A6 := Aside0.mk A60
  clear A60
  by_cases c7 : t214 = true
  · subst c7
    have H1 : (if (a3.size : Int) > 5000 then (palanquinlaw12_GreBack.j0 k a0 a1 a2 a3 a4 true) else (palanquinlaw12_GreBack.j0 k a0 a1 a2 a3 a4 (decide ((a4.size : Int) > 5000)))) = some r := by rw [if_pos rfl] at H; exact H
    clear H
    have H := H1
    clear H1
    have HC8 := Aside0.mk H
    clear H
    go_enter Tryd.func7, Tryd.ntmps7
    go_upto_region 3 with (first | ((with_reducible refine gate_callee (f := 28) rfl ?_); refine goesL_ (some 22) rfl rfl Tryd.func28 (by kernel_rfl) rfl #[] rfl (by (try simp only [List.map_toArray, List.map_cons, List.map_nil]); first | done | rfl | (simp only [List.length_drop, List.length_take]; rfl)) ?_; (with_reducible refine (palanquinlaw12_awake.calls  true _ A6.out (GV.below HgV_.out (by repeat (first | (with_reducible first | exact HB.out | apply below_alloc | apply pw_below_drewN | apply below_drew1 | refine below_set ?_ GE215.out | refine below_set ?_ GE223.out | refine below_set ?_ GE230.out) | exact HB.out)))).mono ?_); rintro e w9 ⟨rfl, hb⟩; refine ⟨_, rfl, ?_⟩; have n0_ := Aside0.mk (below_step (by repeat (first | (with_reducible first | exact HB.out | apply below_alloc | apply pw_below_drewN | apply below_drew1) | exact HB.out)) hb); clear HB; have HB := n0_; clear n0_; (try clear hb); (try clear hb2); (try clear hk); (try clear hi)))
    (try simp only [Act.put, List.setIfInBounds_toArray, List.set_cons_zero, List.set_cons_succ])
    go_cut [31] (fun v31 wc => ∃ (kq : Nat) (x31_7 : Bool), v31 = .bool x31_7 ∧ Aside0 (palanquinlaw12_GreBack.j0 kq a0 a1 a2 a3 a4 x31_7 = some r) ∧ Aside0 (kq ≤ k) ∧ Aside0 (Below w.heap.size w wc))
    case first =>
      have H := HC8.out
      clear HC8
      by_cases c10 : (a3.size : Int) > 5000
      · rw [if_pos c10] at H
        have c10b0 : decide (5000 < (a3.size : Int)) = true := decide_eq_true c10
        have c10b1 : decide (5000 < a3.size) = true := decide_eq_true (by omega)
        clear c10
        (first | rw [c10b0] | (simp only [i64_w, i32_w]; rw [c10b0]) | skip)
        have H' := Aside0.mk H
        clear H
        go_wp2
        go_meet
        case rel => exact ⟨_, (true), (by first | rfl | (simp; done) | (simp [*]; done)), H', ⟨by first | omega | exact Nat.le_refl _⟩, ⟨by repeat (first | (with_reducible first | exact HB.out | apply below_alloc | apply pw_below_drewN | apply below_drew1) | exact HB.out)⟩⟩
      · rw [if_neg c10] at H
        have c10b0 : decide (5000 < (a3.size : Int)) = false := decide_eq_false c10
        have c10b1 : decide (5000 < a3.size) = false := decide_eq_false (by omega)
        clear c10
        (first | rw [c10b0] | (simp only [i64_w, i32_w]; rw [c10b0]) | skip)
        have H' := Aside0.mk H
        clear H
        go_wp2
        go_meet
        case rel => exact ⟨_, (decide ((a4.size : Int) > 5000)), (by first | rfl | (simp; done) | (simp [*]; done)), H', ⟨by first | omega | exact Nat.le_refl _⟩, ⟨by repeat (first | (with_reducible first | exact HB.out | apply below_alloc | apply pw_below_drewN | apply below_drew1) | exact HB.out)⟩⟩
    case rest =>
      clear HC8
      try clear c1
      try clear c2
      try clear p2
      try clear c7
      try clear c10
      try clear c10b0
      try clear c10b1
      obtain ⟨kq, x31_7, rfl, HA, HJ7, HB⟩ := hcut
      cases kq with
      | zero => exact absurd HA.out (by simp [palanquinlaw12_GreBack.j0])
      | succ kj7 =>
        have H := HA.out
        clear HA
        simp only [palanquinlaw12_GreBack.j0] at H
        by_cases c11 : x31_7 = true
        · subst c11
          have H1 : (some true) = some r := by rw [if_pos rfl] at H; exact H
          clear H
          have H := H1
          clear H1
          obtain rfl := Option.some.inj H
          go_wp2
          go_ret
          exact ⟨by first | rfl | (simp [errW_none, errW_some] <;> rfl) | (simp [*, errW_none, errW_some] <;> rfl), by repeat (first | (with_reducible first | exact HB.out | apply below_alloc | apply pw_below_drewN | apply below_drew1) | exact HB.out)⟩
        · replace c11 := Bool.eq_false_iff.mpr c11
          subst c11
          have H1 : ((gre_Put.f a0 a1 a2 a3).bind fun bt216 => (if a1 = true then (palanquinlaw12_GreBack.j1 kj7 a3 a4 bt216.1 bt216.2 a0 a1 a2) else (palanquinlaw12_GreBack.j1 kj7 a3 a4 bt216.1 bt216.2 a0 a1 0))) = some r := by rw [if_neg (show ¬ (false = true) by decide)] at H; exact H
          clear H
          have H := H1
          clear H1
          replace H := Option.bind_eq_some_iff.mp H
          obtain ⟨⟨t216, t217⟩, A120, H⟩ := H
          replace H : (if a1 = true then (palanquinlaw12_GreBack.j1 kj7 a3 a4 t216 t217 a0 a1 a2) else (palanquinlaw12_GreBack.j1 kj7 a3 a4 t216 t217 a0 a1 0)) = some r := H
          have A12 := Aside0.mk A120
          clear A120
          have HC13 := Aside0.mk H
          clear H
          go_upto_if 43 with (first | ((with_reducible refine gate_dst (N := 11) rfl ?_); (try (refine gate_guard (by rfl) ?_; dsimp only)); refine box_event ?hg (N := 11) ?hd (cs := #[.bool false, .bool false, .int .u32 0]) (t := 40) ?hr ?_; (case hd => rfl); (case hg => rfl); (case hr => first | (go_simp; done) | (go_simp; rfl)); intro gb215 hg w14 hbox hb; have n0_ := Aside0.mk (below_step (by repeat (first | (with_reducible first | exact HB.out | apply below_alloc | apply pw_below_drewN | apply below_drew1) | exact HB.out)) hb); have n1_ := Aside0.mk (hbox); have n2_ := Aside0.mk ((by rw [hg]; exact (below_size (by repeat (first | (with_reducible first | exact HB.out | apply below_alloc | apply pw_below_drewN | apply below_drew1) | exact HB.out))) : w.heap.size ≤ gb215)); have n3_ := Aside0.mk ((by rw [hg]; exact (below_size (by repeat (first | (with_reducible first | exact HB.out | apply below_alloc | apply pw_below_drewN | apply below_drew1) | exact HB.out))) : w.heap.size ≤ gb215)); clear HB; have HB := n0_; have BK215 := n1_; have GW215 := n2_; have GE215 := n3_; clear n0_ n1_ n2_ n3_; clear hb hbox hg; have hcz15_0 : w14.cell? ⟨gb215, 0, none⟩ = some (.bool false) := (blk_cell BK215.out 0).trans rfl; have hcz15_1 : w14.cell? ⟨gb215, 1, none⟩ = some (.bool false) := (blk_cell BK215.out 1).trans rfl; have hcz15_2 : w14.cell? ⟨gb215, 2, none⟩ = some (.int .u32 0) := (blk_cell BK215.out 2).trans rfl; have hfz15_0 := blk_frozen BK215.out 0; have hfz15_1 := blk_frozen BK215.out 1; have hfz15_2 := blk_frozen BK215.out 2) | ((with_reducible refine gate_callee (f := 29) rfl ?_); refine goesL_ (some 39) rfl rfl Tryd.func29 (by kernel_rfl) rfl #[.agg #[.bool a0, .bool a1, .int .u32 a2], .string a3] rfl (by (try simp only [List.map_toArray, List.map_cons, List.map_nil]); first | done | rfl | (simp only [List.length_drop, List.length_take]; rfl)) ?_; (with_reducible refine (gre_Put.calls a0 a1 a2 a3 t216 t217 _ A12.out (GV.below HgV_.out (by repeat (first | (with_reducible first | exact HB.out | apply below_alloc | apply pw_below_drewN | apply below_drew1 | refine below_set ?_ GE215.out | refine below_set ?_ GE223.out | refine below_set ?_ GE230.out) | exact HB.out)))).mono ?_); rintro e w16 ⟨rfl, hb⟩; refine ⟨_, rfl, ?_⟩; have n0_ := Aside0.mk (blk_below (g := gb215) (o := .cells #[.bool a0, .bool a1, .int .u32 a2] 40 (0, 0)) (by (with_reducible repeat (first | refine blk_drewN ?_ _ | refine blk_drew ?_ | refine blk_alloc ?_ _)); refine blk_put (cs := #[.bool a0, .bool a1, .int .u32 0]) ?_ 2 _ (by first | rfl | (simp [*]; done)); (with_reducible repeat (first | refine blk_drewN ?_ _ | refine blk_drew ?_ | refine blk_alloc ?_ _)); refine blk_put (cs := #[.bool a0, .bool false, .int .u32 0]) ?_ 1 _ (by first | rfl | (simp [*]; done)); (with_reducible repeat (first | refine blk_drewN ?_ _ | refine blk_drew ?_ | refine blk_alloc ?_ _)); refine blk_put (cs := #[.bool false, .bool false, .int .u32 0]) ?_ 0 _ (by first | rfl | (simp [*]; done)); (with_reducible repeat (first | refine blk_drewN ?_ _ | refine blk_drew ?_ | refine blk_alloc ?_ _)); exact BK215.out) hb); have n1_ := Aside0.mk (below_step (by repeat (first | (with_reducible first | exact HB.out | apply below_alloc | apply pw_below_drewN | apply below_drew1 | refine below_set ?_ GE215.out) | exact HB.out)) hb); clear BK215; clear HB; have BK215 := n0_; have HB := n1_; clear n0_ n1_; (try clear hb); (try clear hb2); (try clear hk); (try clear hi)))
          (try simp only [Act.put, List.setIfInBounds_toArray, List.set_cons_zero, List.set_cons_succ])
          go_cut [] (fun wc => ∃ (kq : Nat) (x216002_12 : Int), Aside0 (palanquinlaw12_GreBack.j1 kq a3 a4 t216 t217 a0 a1 x216002_12 = some r) ∧ Aside0 (kq ≤ kj7) ∧ Aside0 (wc.heap[gb215]? = some (.cells #[.bool a0, .bool a1, .int .u32 x216002_12] 40 (0, 0))) ∧ Aside0 (Below w.heap.size w wc))
          case first =>
            have H := HC13.out
            clear HC13
            by_cases c17 : a1 = true
            · subst c17
              have H1 : (palanquinlaw12_GreBack.j1 kj7 a3 a4 t216 t217 a0 true a2) = some r := by rw [if_pos rfl] at H; exact H
              clear H
              have H := H1
              clear H1
              have H' := Aside0.mk H
              clear H
              go_wp2
              go_meet
              case rel => exact ⟨_, (a2), H', ⟨by have := HJ7.out; first | omega | exact Nat.le_refl _⟩, ⟨by (with_reducible repeat (first | refine blk_drewN ?_ _ | refine blk_drew ?_ | refine blk_alloc ?_ _)); exact BK215.out⟩, ⟨by repeat (first | (with_reducible first | exact HB.out | apply below_alloc | apply pw_below_drewN | apply below_drew1 | refine below_set ?_ GE215.out) | exact HB.out)⟩⟩
            · replace c17 := Bool.eq_false_iff.mpr c17
              subst c17
              have H1 : (palanquinlaw12_GreBack.j1 kj7 a3 a4 t216 t217 a0 false 0) = some r := by rw [if_neg (show ¬ (false = true) by decide)] at H; exact H
              clear H
              have H := H1
              clear H1
              have H' := Aside0.mk H
              clear H
              have hcz18_0 : w16.cell? ⟨gb215, 0, none⟩ = some (.bool a0) := (blk_cell BK215.out 0).trans rfl
              have hcz18_1 : w16.cell? ⟨gb215, 1, none⟩ = some (.bool false) := (blk_cell BK215.out 1).trans rfl
              have hcz18_2 : w16.cell? ⟨gb215, 2, none⟩ = some (.int .u32 a2) := (blk_cell BK215.out 2).trans rfl
              have hfz18_0 := blk_frozen BK215.out 0
              have hfz18_1 := blk_frozen BK215.out 1
              have hfz18_2 := blk_frozen BK215.out 2
              go_wp2
              go_meet
              case rel => exact ⟨_, (0), H', ⟨by have := HJ7.out; first | omega | exact Nat.le_refl _⟩, ⟨by (with_reducible repeat (first | refine blk_drewN ?_ _ | refine blk_drew ?_ | refine blk_alloc ?_ _)); refine blk_put (cs := #[.bool a0, .bool false, .int .u32 a2]) ?_ 2 _ (by first | rfl | (simp [*]; done)); (with_reducible repeat (first | refine blk_drewN ?_ _ | refine blk_drew ?_ | refine blk_alloc ?_ _)); exact BK215.out⟩, ⟨by repeat (first | (with_reducible first | exact HB.out | apply below_alloc | apply pw_below_drewN | apply below_drew1 | refine below_set ?_ GE215.out) | exact HB.out)⟩⟩
          case rest =>
            clear HC13
            try clear c1
            try clear c2
            try clear p2
            try clear c7
            try clear c10
            try clear c10b0
            try clear c10b1
            try clear c11
            try clear c17
            try clear hcz15_0
            try clear hcz15_1
            try clear hcz15_2
            try clear hcz18_0
            try clear hcz18_1
            try clear hcz18_2
            try clear hfz15_0
            try clear hfz15_1
            try clear hfz15_2
            try clear hfz18_0
            try clear hfz18_1
            try clear hfz18_2
            try clear p2
            obtain ⟨kq, x216002_12, HA, HJ12, BK215, HB⟩ := hcut
            cases kq with
            | zero => exact absurd HA.out (by simp [palanquinlaw12_GreBack.j1])
            | succ kj12 =>
              have H := HA.out
              clear HA
              simp only [palanquinlaw12_GreBack.j1] at H
              have HC19 := Aside0.mk H
              clear H
              go_upto_if 46 with (fail)
              go_cut [] (fun wc => ∃ (kq : Nat), Aside0 (palanquinlaw12_GreBack.j2 kq a4 = some r) ∧ Aside0 (kq ≤ kj12) ∧ Aside0 (wc.heap[gb215]? = some (.cells #[.bool a0, .bool a1, .int .u32 x216002_12] 40 (0, 0))) ∧ Aside0 (Below w.heap.size w wc))
              case first =>
                have H := HC19.out
                clear HC19
                by_cases c20 : t217 = 0
                · rw [if_pos c20] at H
                  have c20b0 : (t217 == 0) = true := beq_iff_eq.mpr c20
                  have c20b1 : (t217 != 0) = false := bne_eq_false_iff_eq.mpr c20
                  clear c20
                  (first | rw [c20b0] | (simp only [i64_w, i32_w]; rw [c20b0]) | skip)
                  replace H := Option.bind_eq_some_iff.mp H
                  obtain ⟨⟨t218, t219, t220, t221, t222⟩, A210, H⟩ := H
                  replace H : (if (!(t218 == a0) || (!(t219 == a1) || (!(t220 == x216002_12)))) = true then (some false) else (if t221.toList = a3.toList then (if t222 = 0 then ((gre_Size.f a0 a1 x216002_12).bind fun t224 => (if (t216.size : Int) = (wrap64 (t224 + (a3.size : Int))) then (palanquinlaw12_GreBack.j2 kj12 a4) else (some false))) else (some false)) else (some false))) = some r := H
                  have A21 := Aside0.mk A210
                  clear A210
                  by_cases c22 : (!(t218 == a0) || (!(t219 == a1) || (!(t220 == x216002_12)))) = true
                  · rw [if_pos c22] at H
                    exact absurd ((Option.some.inj H).trans hrt_.out) (by decide)
                  · rw [if_neg c22] at H
                    have c22b0 : (!(t218 == a0) || (!(t219 == a1) || (!(t220 == x216002_12)))) = false := by simpa using c22
                    clear c22
                    by_cases c28 : t221.toList = a3.toList
                    · rw [if_pos c28] at H
                      have c28b0 : (t221.toList == a3.toList) = true := beq_iff_eq.mpr c28
                      have c28b1 : (t221.toList != a3.toList) = false := bne_eq_false_iff_eq.mpr c28
                      clear c28
                      by_cases c29 : t222 = 0
                      · rw [if_pos c29] at H
                        have c29b0 : (t222 == 0) = true := beq_iff_eq.mpr c29
                        have c29b1 : (t222 != 0) = false := bne_eq_false_iff_eq.mpr c29
                        clear c29
                        replace H := Option.bind_eq_some_iff.mp H
                        obtain ⟨t224, A300, H⟩ := H
                        replace H : (if (t216.size : Int) = (wrap64 (t224 + (a3.size : Int))) then (palanquinlaw12_GreBack.j2 kj12 a4) else (some false)) = some r := H
                        have A30 := Aside0.mk A300
                        clear A300
                        by_cases c31 : (t216.size : Int) = (wrap64 (t224 + (a3.size : Int)))
                        · rw [if_pos c31] at H
                          have c31b0 : ((t216.size : Int) == (wrap64 (t224 + (a3.size : Int)))) = true := beq_iff_eq.mpr c31
                          have c31b1 : ((t216.size : Int) != (wrap64 (t224 + (a3.size : Int)))) = false := bne_eq_false_iff_eq.mpr c31
                          clear c31
                          have H' := Aside0.mk H
                          clear H
                          go_wp2_with (first | ((with_reducible refine gate_callee (f := 31) rfl ?_); refine goesL_ (some 49) rfl rfl Tryd.func31 (by kernel_rfl) rfl #[.string t216] rfl (by (try simp only [List.map_toArray, List.map_cons, List.map_nil]); first | done | rfl | (simp only [List.length_drop, List.length_take]; rfl)) ?_; (with_reducible refine (gre_Get.calls t216 t218 t219 t220 t221 t222 _ A21.out (GV.below HgV_.out (by repeat (first | (with_reducible first | exact HB.out | apply below_alloc | apply pw_below_drewN | apply below_drew1 | refine below_set ?_ GE215.out | refine below_set ?_ GE223.out | refine below_set ?_ GE230.out) | exact HB.out)))).mono ?_); rintro e w32 ⟨rfl, hb⟩; refine ⟨_, rfl, ?_⟩; have n0_ := Aside0.mk (blk_below (g := gb215) (o := .cells #[.bool a0, .bool a1, .int .u32 x216002_12] 40 (0, 0)) (by (with_reducible repeat (first | refine blk_drewN ?_ _ | refine blk_drew ?_ | refine blk_alloc ?_ _)); exact BK215.out) hb); have n1_ := Aside0.mk (below_step (by repeat (first | (with_reducible first | exact HB.out | apply below_alloc | apply pw_below_drewN | apply below_drew1 | refine below_set ?_ GE215.out) | exact HB.out)) hb); clear BK215; clear HB; have BK215 := n0_; have HB := n1_; clear n0_ n1_; (try clear hb); (try clear hb2); (try clear hk); (try clear hi)) | ((with_reducible refine gate_dst (N := 14) rfl ?_); (try (refine gate_guard (by rfl) ?_; dsimp only)); refine box_event ?hg (N := 14) ?hd (cs := #[.bool false, .bool false, .int .u32 0]) (t := 40) ?hr ?_; (case hd => rfl); (case hg => rfl); (case hr => first | (go_simp; done) | (go_simp; rfl)); intro gb223 hg w33 hbox hb; have n0_ := Aside0.mk (blk_below (g := gb215) (o := .cells #[.bool a0, .bool a1, .int .u32 x216002_12] 40 (0, 0)) (by (with_reducible repeat (first | refine blk_drewN ?_ _ | refine blk_drew ?_ | refine blk_alloc ?_ _)); exact BK215.out) hb); have n1_ := Aside0.mk (below_step (by repeat (first | (with_reducible first | exact HB.out | apply below_alloc | apply pw_below_drewN | apply below_drew1 | refine below_set ?_ GE215.out) | exact HB.out)) hb); have n2_ := Aside0.mk (hbox); have n3_ := Aside0.mk ((by rw [hg]; exact (below_size (by repeat (first | (with_reducible first | exact HB.out | apply below_alloc | apply pw_below_drewN | apply below_drew1 | refine below_set ?_ GE215.out) | exact HB.out))) : w.heap.size ≤ gb223)); have n4_ := Aside0.mk ((by rw [hg]; exact (below_size (by repeat (first | (with_reducible first | exact HB.out | apply below_alloc | apply pw_below_drewN | apply below_drew1 | refine below_set ?_ GE215.out) | exact HB.out))) : w.heap.size ≤ gb223)); have n5_ := Aside0.mk ((by rw [hg]; exact Nat.ne_of_lt (blk_lt (g := gb215) (o := .cells #[.bool a0, .bool a1, .int .u32 x216002_12] 40 (0, 0)) (by (with_reducible repeat (first | refine blk_drewN ?_ _ | refine blk_drew ?_ | refine blk_alloc ?_ _)); exact BK215.out)) : gb215 ≠ gb223)); have n6_ := Aside0.mk ((by rw [hg]; exact Nat.ne_of_gt (blk_lt (g := gb215) (o := .cells #[.bool a0, .bool a1, .int .u32 x216002_12] 40 (0, 0)) (by (with_reducible repeat (first | refine blk_drewN ?_ _ | refine blk_drew ?_ | refine blk_alloc ?_ _)); exact BK215.out)) : gb223 ≠ gb215)); clear BK215; clear HB; have BK215 := n0_; have HB := n1_; have BK223 := n2_; have GW223 := n3_; have GE223 := n4_; have NB215_223 := n5_; have NB223_215 := n6_; clear n0_ n1_ n2_ n3_ n4_ n5_ n6_; clear hb hbox hg; have hnb34 := NB223_215.out; have hnc34 := NB215_223.out; have hcz35_0 : w33.cell? ⟨gb223, 0, none⟩ = some (.bool false) := (blk_cell BK223.out 0).trans rfl; have hcz35_1 : w33.cell? ⟨gb223, 1, none⟩ = some (.bool false) := (blk_cell BK223.out 1).trans rfl; have hcz35_2 : w33.cell? ⟨gb223, 2, none⟩ = some (.int .u32 0) := (blk_cell BK223.out 2).trans rfl; have hfz35_0 := blk_frozen BK223.out 0; have hfz35_1 := blk_frozen BK223.out 1; have hfz35_2 := blk_frozen BK223.out 2; have hcz36_0 : w33.cell? ⟨gb215, 0, none⟩ = some (.bool a0) := (blk_cell BK215.out 0).trans rfl; have hcz36_1 : w33.cell? ⟨gb215, 1, none⟩ = some (.bool a1) := (blk_cell BK215.out 1).trans rfl; have hcz36_2 : w33.cell? ⟨gb215, 2, none⟩ = some (.int .u32 x216002_12) := (blk_cell BK215.out 2).trans rfl; have hfz36_0 := blk_frozen BK215.out 0; have hfz36_1 := blk_frozen BK215.out 1; have hfz36_2 := blk_frozen BK215.out 2) | (go_at_call 33; (with_reducible refine (gre_Size.calls a0 a1 x216002_12 t224 _ A30.out).mono ?_); rintro e w37 ⟨rfl, hb⟩; have n0_ := Aside0.mk (blk_below (g := gb215) (o := .cells #[.bool a0, .bool a1, .int .u32 x216002_12] 40 (0, 0)) (by (with_reducible repeat (first | refine blk_drewN ?_ _ | refine blk_drew ?_ | refine blk_alloc ?_ _)); refine blk_far ?_ NB215_223.out _; (with_reducible repeat (first | refine blk_drewN ?_ _ | refine blk_drew ?_ | refine blk_alloc ?_ _)); refine blk_far ?_ NB215_223.out _; (with_reducible repeat (first | refine blk_drewN ?_ _ | refine blk_drew ?_ | refine blk_alloc ?_ _)); refine blk_far ?_ NB215_223.out _; (with_reducible repeat (first | refine blk_drewN ?_ _ | refine blk_drew ?_ | refine blk_alloc ?_ _)); exact BK215.out) hb); have n1_ := Aside0.mk (blk_below (g := gb223) (o := .cells #[.bool t218, .bool t219, .int .u32 t220] 40 (0, 0)) (by (with_reducible repeat (first | refine blk_drewN ?_ _ | refine blk_drew ?_ | refine blk_alloc ?_ _)); refine blk_put (cs := #[.bool t218, .bool t219, .int .u32 0]) ?_ 2 _ (by first | rfl | (simp [*]; done)); (with_reducible repeat (first | refine blk_drewN ?_ _ | refine blk_drew ?_ | refine blk_alloc ?_ _)); refine blk_put (cs := #[.bool t218, .bool false, .int .u32 0]) ?_ 1 _ (by first | rfl | (simp [*]; done)); (with_reducible repeat (first | refine blk_drewN ?_ _ | refine blk_drew ?_ | refine blk_alloc ?_ _)); refine blk_put (cs := #[.bool false, .bool false, .int .u32 0]) ?_ 0 _ (by first | rfl | (simp [*]; done)); (with_reducible repeat (first | refine blk_drewN ?_ _ | refine blk_drew ?_ | refine blk_alloc ?_ _)); exact BK223.out) hb); have n2_ := Aside0.mk (below_step (by repeat (first | (with_reducible first | exact HB.out | apply below_alloc | apply pw_below_drewN | apply below_drew1 | refine below_set ?_ GE215.out | refine below_set ?_ GE223.out) | exact HB.out)) hb); clear BK215; clear BK223; clear HB; have BK215 := n0_; have BK223 := n1_; have HB := n2_; clear n0_ n1_ n2_; (try clear hb); (try clear hb2); (try clear hk); (try clear hi)))
                          go_meet
                          case rel => exact ⟨_, H', ⟨by have := HJ7.out; have := HJ12.out; first | omega | exact Nat.le_refl _⟩, ⟨by (with_reducible repeat (first | refine blk_drewN ?_ _ | refine blk_drew ?_ | refine blk_alloc ?_ _)); exact BK215.out⟩, ⟨by repeat (first | (with_reducible first | exact HB.out | apply below_alloc | apply pw_below_drewN | apply below_drew1 | refine below_set ?_ GE215.out | refine below_set ?_ GE223.out) | exact HB.out)⟩⟩
                        · rw [if_neg c31] at H
                          exact absurd ((Option.some.inj H).trans hrt_.out) (by decide)
                      · rw [if_neg c29] at H
                        exact absurd ((Option.some.inj H).trans hrt_.out) (by decide)
                    · rw [if_neg c28] at H
                      exact absurd ((Option.some.inj H).trans hrt_.out) (by decide)
                · rw [if_neg c20] at H
                  have c20b0 : (t217 == 0) = false := beq_eq_false_iff_ne.mpr c20
                  have c20b1 : (t217 != 0) = true := bne_iff_ne.mpr c20
                  (first | rw [c20b0] | (simp only [i64_w, i32_w]; rw [c20b0]) | skip)
                  by_cases c54 : t216.toList = ([] : List UInt8)
                  · rw [if_pos c54] at H
                    have c54b0 : (t216.toList == ([] : List UInt8)) = true := beq_iff_eq.mpr c54
                    have c54b1 : (t216.toList != ([] : List UInt8)) = false := bne_eq_false_iff_eq.mpr c54
                    clear c54
                    have H' := Aside0.mk H
                    clear H
                    go_wp2
                    go_meet
                    case rel => exact ⟨_, H', ⟨by have := HJ7.out; have := HJ12.out; first | omega | exact Nat.le_refl _⟩, ⟨by (with_reducible repeat (first | refine blk_drewN ?_ _ | refine blk_drew ?_ | refine blk_alloc ?_ _)); exact BK215.out⟩, ⟨by repeat (first | (with_reducible first | exact HB.out | apply below_alloc | apply pw_below_drewN | apply below_drew1 | refine below_set ?_ GE215.out) | exact HB.out)⟩⟩
                  · rw [if_neg c54] at H
                    have c54b0 : (t216.toList == ([] : List UInt8)) = false := beq_eq_false_iff_ne.mpr c54
                    have c54b1 : (t216.toList != ([] : List UInt8)) = true := bne_iff_ne.mpr c54
                    obtain rfl := Option.some.inj H
                    go_wp2
                    go_ret
                    exact ⟨by first | rfl | (simp [errW_none, errW_some] <;> rfl) | (simp [*, errW_none, errW_some] <;> rfl), by repeat (first | (with_reducible first | exact HB.out | apply below_alloc | apply pw_below_drewN | apply below_drew1 | refine below_set ?_ GE215.out) | exact HB.out)⟩
              case rest =>
                clear HC19
                try clear c1
                try clear c2
                try clear p2
                try clear c3
                try clear c4
                try clear c5
                try clear p6
                try clear c7
                try clear c10
                try clear c10b0
                try clear c10b1
                try clear c11
                try clear c17
                try clear c20
                try clear c20b0
                try clear c20b1
                try clear c22
                try clear c22b0
                try clear c25
                try clear c28
                try clear c28b0
                try clear c28b1
                try clear c29
                try clear c29b0
                try clear c29b1
                try clear c31
                try clear c31b0
                try clear c31b1
                try clear c34
                try clear c40
                try clear c46
                try clear c51
                try clear c54
                try clear c54b0
                try clear c54b1
                try clear hcz15_0
                try clear hcz15_1
                try clear hcz15_2
                try clear hcz18_0
                try clear hcz18_1
                try clear hcz18_2
                try clear hcz26_0
                try clear hcz26_1
                try clear hcz26_2
                try clear hcz27_0
                try clear hcz27_1
                try clear hcz27_2
                try clear hcz35_0
                try clear hcz35_1
                try clear hcz35_2
                try clear hcz36_0
                try clear hcz36_1
                try clear hcz36_2
                try clear hcz41_0
                try clear hcz41_1
                try clear hcz41_2
                try clear hcz42_0
                try clear hcz42_1
                try clear hcz42_2
                try clear hcz47_0
                try clear hcz47_1
                try clear hcz47_2
                try clear hcz48_0
                try clear hcz48_1
                try clear hcz48_2
                try clear hcz52_0
                try clear hcz52_1
                try clear hcz52_2
                try clear hcz53_0
                try clear hcz53_1
                try clear hcz53_2
                try clear hfz15_0
                try clear hfz15_1
                try clear hfz15_2
                try clear hfz18_0
                try clear hfz18_1
                try clear hfz18_2
                try clear hfz26_0
                try clear hfz26_1
                try clear hfz26_2
                try clear hfz27_0
                try clear hfz27_1
                try clear hfz27_2
                try clear hfz35_0
                try clear hfz35_1
                try clear hfz35_2
                try clear hfz36_0
                try clear hfz36_1
                try clear hfz36_2
                try clear hfz41_0
                try clear hfz41_1
                try clear hfz41_2
                try clear hfz42_0
                try clear hfz42_1
                try clear hfz42_2
                try clear hfz47_0
                try clear hfz47_1
                try clear hfz47_2
                try clear hfz48_0
                try clear hfz48_1
                try clear hfz48_2
                try clear hfz52_0
                try clear hfz52_1
                try clear hfz52_2
                try clear hfz53_0
                try clear hfz53_1
                try clear hfz53_2
                try clear p2
                obtain ⟨kq, HA, HJ18, BK215, HB⟩ := hcut
                cases kq with
                | zero => exact absurd HA.out (by simp [palanquinlaw12_GreBack.j2])
                | succ kj18 =>
                  have H := HA.out
                  clear HA
                  simp only [palanquinlaw12_GreBack.j2] at H
                  replace H := Option.bind_eq_some_iff.mp H
                  obtain ⟨⟨t225, t226, t227, t228, t229⟩, A550, H⟩ := H
                  replace H : (if t229 = 0 then (if t225 = true then (if 4 < (a4.size : Int) then (if (bt a4 4) = 255 then (if 5 < (a4.size : Int) then (if (bt a4 5) = 255 then (some true) else ((gre_Put.f t225 t226 t227 t228).bind fun bt231 => (if bt231.2 = 0 then (some (bt231.1.toList == a4.toList)) else (some false)))) else (none)) else ((gre_Put.f t225 t226 t227 t228).bind fun bt233 => (if bt233.2 = 0 then (some (bt233.1.toList == a4.toList)) else (some false)))) else (none)) else ((gre_Put.f t225 t226 t227 t228).bind fun bt235 => (if bt235.2 = 0 then (some (bt235.1.toList == a4.toList)) else (some false)))) else (if (!t225 && (!t226 && (t227 == 0))) = true then (some (t228.toList == ([] : List UInt8))) else (some false))) = some r := H
                  have A55 := Aside0.mk A550
                  clear A550
                  by_cases c56 : t229 = 0
                  · rw [if_pos c56] at H
                    have c56b0 : (t229 == 0) = true := beq_iff_eq.mpr c56
                    have c56b1 : (t229 != 0) = false := bne_eq_false_iff_eq.mpr c56
                    clear c56
                    by_cases c57 : t225 = true
                    · subst c57
                      have H1 : (if 4 < (a4.size : Int) then (if (bt a4 4) = 255 then (if 5 < (a4.size : Int) then (if (bt a4 5) = 255 then (some true) else ((gre_Put.f true t226 t227 t228).bind fun bt231 => (if bt231.2 = 0 then (some (bt231.1.toList == a4.toList)) else (some false)))) else (none)) else ((gre_Put.f true t226 t227 t228).bind fun bt233 => (if bt233.2 = 0 then (some (bt233.1.toList == a4.toList)) else (some false)))) else (none)) = some r := by rw [if_pos rfl] at H; exact H
                      clear H
                      have H := H1
                      clear H1
                      by_cases c58 : 4 < (a4.size : Int)
                      · rw [if_pos c58] at H
                        have c58b0 : decide (4 < (a4.size : Int)) = true := decide_eq_true c58
                        have c58b1 : decide (4 < a4.size) = true := decide_eq_true (by omega)
                        clear c58
                        by_cases c60 : (bt a4 4) = 255
                        · rw [if_pos c60] at H
                          have c60b0 : ((bt a4 4) == 255) = true := beq_iff_eq.mpr c60
                          have c60b1 : ((bt a4 4) != 255) = false := bne_eq_false_iff_eq.mpr c60
                          clear c60
                          by_cases c61 : 5 < (a4.size : Int)
                          · rw [if_pos c61] at H
                            have c61b0 : decide (5 < (a4.size : Int)) = true := decide_eq_true c61
                            have c61b1 : decide (5 < a4.size) = true := decide_eq_true (by omega)
                            clear c61
                            by_cases c63 : (bt a4 5) = 255
                            · rw [if_pos c63] at H
                              have c63b0 : ((bt a4 5) == 255) = true := beq_iff_eq.mpr c63
                              have c63b1 : ((bt a4 5) != 255) = false := bne_eq_false_iff_eq.mpr c63
                              clear c63
                              obtain rfl := Option.some.inj H
                              go_wp2_with (first | ((with_reducible refine gate_callee (f := 31) rfl ?_); refine goesL_ (some 79) rfl rfl Tryd.func31 (by kernel_rfl) rfl #[.string a4] rfl (by (try simp only [List.map_toArray, List.map_cons, List.map_nil]); first | done | rfl | (simp only [List.length_drop, List.length_take]; rfl)) ?_; (with_reducible refine (gre_Get.calls a4 true t226 t227 t228 t229 _ A55.out (GV.below HgV_.out (by repeat (first | (with_reducible first | exact HB.out | apply below_alloc | apply pw_below_drewN | apply below_drew1 | refine below_set ?_ GE215.out | refine below_set ?_ GE223.out | refine below_set ?_ GE230.out) | exact HB.out)))).mono ?_); rintro e w64 ⟨rfl, hb⟩; refine ⟨_, rfl, ?_⟩; have n0_ := Aside0.mk (blk_below (g := gb215) (o := .cells #[.bool a0, .bool a1, .int .u32 x216002_12] 40 (0, 0)) (by (with_reducible repeat (first | refine blk_drewN ?_ _ | refine blk_drew ?_ | refine blk_alloc ?_ _)); exact BK215.out) hb); have n1_ := Aside0.mk (below_step (by repeat (first | (with_reducible first | exact HB.out | apply below_alloc | apply pw_below_drewN | apply below_drew1 | refine below_set ?_ GE215.out) | exact HB.out)) hb); clear BK215; clear HB; have BK215 := n0_; have HB := n1_; clear n0_ n1_; (try clear hb); (try clear hb2); (try clear hk); (try clear hi)) | ((with_reducible refine gate_dst (N := 17) rfl ?_); (try (refine gate_guard (by rfl) ?_; dsimp only)); refine box_event ?hg (N := 17) ?hd (cs := #[.bool false, .bool false, .int .u32 0]) (t := 40) ?hr ?_; (case hd => rfl); (case hg => rfl); (case hr => first | (go_simp; done) | (go_simp; rfl)); intro gb230 hg w65 hbox hb; have n0_ := Aside0.mk (blk_below (g := gb215) (o := .cells #[.bool a0, .bool a1, .int .u32 x216002_12] 40 (0, 0)) (by (with_reducible repeat (first | refine blk_drewN ?_ _ | refine blk_drew ?_ | refine blk_alloc ?_ _)); exact BK215.out) hb); have n1_ := Aside0.mk (below_step (by repeat (first | (with_reducible first | exact HB.out | apply below_alloc | apply pw_below_drewN | apply below_drew1 | refine below_set ?_ GE215.out) | exact HB.out)) hb); have n2_ := Aside0.mk (hbox); have n3_ := Aside0.mk ((by rw [hg]; exact (below_size (by repeat (first | (with_reducible first | exact HB.out | apply below_alloc | apply pw_below_drewN | apply below_drew1 | refine below_set ?_ GE215.out) | exact HB.out))) : w.heap.size ≤ gb230)); have n4_ := Aside0.mk ((by rw [hg]; exact (below_size (by repeat (first | (with_reducible first | exact HB.out | apply below_alloc | apply pw_below_drewN | apply below_drew1 | refine below_set ?_ GE215.out) | exact HB.out))) : w.heap.size ≤ gb230)); have n5_ := Aside0.mk ((by rw [hg]; exact Nat.ne_of_lt (blk_lt (g := gb215) (o := .cells #[.bool a0, .bool a1, .int .u32 x216002_12] 40 (0, 0)) (by (with_reducible repeat (first | refine blk_drewN ?_ _ | refine blk_drew ?_ | refine blk_alloc ?_ _)); exact BK215.out)) : gb215 ≠ gb230)); have n6_ := Aside0.mk ((by rw [hg]; exact Nat.ne_of_gt (blk_lt (g := gb215) (o := .cells #[.bool a0, .bool a1, .int .u32 x216002_12] 40 (0, 0)) (by (with_reducible repeat (first | refine blk_drewN ?_ _ | refine blk_drew ?_ | refine blk_alloc ?_ _)); exact BK215.out)) : gb230 ≠ gb215)); clear BK215; clear HB; have BK215 := n0_; have HB := n1_; have BK230 := n2_; have GW230 := n3_; have GE230 := n4_; have NB215_230 := n5_; have NB230_215 := n6_; clear n0_ n1_ n2_ n3_ n4_ n5_ n6_; clear hb hbox hg; have hnb66 := NB230_215.out; have hnc66 := NB215_230.out; have hcz67_0 : w65.cell? ⟨gb230, 0, none⟩ = some (.bool false) := (blk_cell BK230.out 0).trans rfl; have hcz67_1 : w65.cell? ⟨gb230, 1, none⟩ = some (.bool false) := (blk_cell BK230.out 1).trans rfl; have hcz67_2 : w65.cell? ⟨gb230, 2, none⟩ = some (.int .u32 0) := (blk_cell BK230.out 2).trans rfl; have hfz67_0 := blk_frozen BK230.out 0; have hfz67_1 := blk_frozen BK230.out 1; have hfz67_2 := blk_frozen BK230.out 2; have p59 : 0 ≤ (4 : Int) := (by omega); have q59 : 4 < a4.size := (by have : (4 : Int) < (a4.size : Int) := of_decide_eq_true (by first | (with_reducible assumption) | assumption); omega); have hx59 : ∀ h : 4 < a4.size, ((a4[4]'h).toNat : Int) = bt a4 4 := bt_at a4 4; clear p59; have qi59 : (4 < (a4.size : Int)) = True := eq_true (of_decide_eq_true (by first | (with_reducible assumption) | assumption)); replace q59 := eq_true q59; have p62 : 0 ≤ (5 : Int) := (by omega); have q62 : 5 < a4.size := (by have : (5 : Int) < (a4.size : Int) := of_decide_eq_true (by first | (with_reducible assumption) | assumption); omega); have hx62 : ∀ h : 5 < a4.size, ((a4[5]'h).toNat : Int) = bt a4 5 := bt_at a4 5; clear p62; have qi62 : (5 < (a4.size : Int)) = True := eq_true (of_decide_eq_true (by first | (with_reducible assumption) | assumption)); replace q62 := eq_true q62))
                              go_ret
                              exact ⟨by first | rfl | (simp [errW_none, errW_some] <;> rfl) | (simp [*, errW_none, errW_some] <;> rfl), by repeat (first | (with_reducible first | exact HB.out | apply below_alloc | apply pw_below_drewN | apply below_drew1 | refine below_set ?_ GE215.out | refine below_set ?_ GE230.out) | exact HB.out)⟩
                            · rw [if_neg c63] at H
                              have c63b0 : ((bt a4 5) == 255) = false := beq_eq_false_iff_ne.mpr c63
                              have c63b1 : ((bt a4 5) != 255) = true := bne_iff_ne.mpr c63
                              replace H := Option.bind_eq_some_iff.mp H
                              obtain ⟨⟨t231, t232⟩, A680, H⟩ := H
                              replace H : (if t232 = 0 then (some (t231.toList == a4.toList)) else (some false)) = some r := H
                              have A68 := Aside0.mk A680
                              clear A680
                              by_cases c69 : t232 = 0
                              · rw [if_pos c69] at H
                                have c69b0 : (t232 == 0) = true := beq_iff_eq.mpr c69
                                have c69b1 : (t232 != 0) = false := bne_eq_false_iff_eq.mpr c69
                                clear c69
                                obtain rfl := Option.some.inj H
                                go_wp2_with (first | ((with_reducible refine gate_callee (f := 31) rfl ?_); refine goesL_ (some 79) rfl rfl Tryd.func31 (by kernel_rfl) rfl #[.string a4] rfl (by (try simp only [List.map_toArray, List.map_cons, List.map_nil]); first | done | rfl | (simp only [List.length_drop, List.length_take]; rfl)) ?_; (with_reducible refine (gre_Get.calls a4 true t226 t227 t228 t229 _ A55.out (GV.below HgV_.out (by repeat (first | (with_reducible first | exact HB.out | apply below_alloc | apply pw_below_drewN | apply below_drew1 | refine below_set ?_ GE215.out | refine below_set ?_ GE223.out | refine below_set ?_ GE230.out) | exact HB.out)))).mono ?_); rintro e w70 ⟨rfl, hb⟩; refine ⟨_, rfl, ?_⟩; have n0_ := Aside0.mk (blk_below (g := gb215) (o := .cells #[.bool a0, .bool a1, .int .u32 x216002_12] 40 (0, 0)) (by (with_reducible repeat (first | refine blk_drewN ?_ _ | refine blk_drew ?_ | refine blk_alloc ?_ _)); exact BK215.out) hb); have n1_ := Aside0.mk (below_step (by repeat (first | (with_reducible first | exact HB.out | apply below_alloc | apply pw_below_drewN | apply below_drew1 | refine below_set ?_ GE215.out) | exact HB.out)) hb); clear BK215; clear HB; have BK215 := n0_; have HB := n1_; clear n0_ n1_; (try clear hb); (try clear hb2); (try clear hk); (try clear hi)) | ((with_reducible refine gate_dst (N := 17) rfl ?_); (try (refine gate_guard (by rfl) ?_; dsimp only)); refine box_event ?hg (N := 17) ?hd (cs := #[.bool false, .bool false, .int .u32 0]) (t := 40) ?hr ?_; (case hd => rfl); (case hg => rfl); (case hr => first | (go_simp; done) | (go_simp; rfl)); intro gb230 hg w71 hbox hb; have n0_ := Aside0.mk (blk_below (g := gb215) (o := .cells #[.bool a0, .bool a1, .int .u32 x216002_12] 40 (0, 0)) (by (with_reducible repeat (first | refine blk_drewN ?_ _ | refine blk_drew ?_ | refine blk_alloc ?_ _)); exact BK215.out) hb); have n1_ := Aside0.mk (below_step (by repeat (first | (with_reducible first | exact HB.out | apply below_alloc | apply pw_below_drewN | apply below_drew1 | refine below_set ?_ GE215.out) | exact HB.out)) hb); have n2_ := Aside0.mk (hbox); have n3_ := Aside0.mk ((by rw [hg]; exact (below_size (by repeat (first | (with_reducible first | exact HB.out | apply below_alloc | apply pw_below_drewN | apply below_drew1 | refine below_set ?_ GE215.out) | exact HB.out))) : w.heap.size ≤ gb230)); have n4_ := Aside0.mk ((by rw [hg]; exact (below_size (by repeat (first | (with_reducible first | exact HB.out | apply below_alloc | apply pw_below_drewN | apply below_drew1 | refine below_set ?_ GE215.out) | exact HB.out))) : w.heap.size ≤ gb230)); have n5_ := Aside0.mk ((by rw [hg]; exact Nat.ne_of_lt (blk_lt (g := gb215) (o := .cells #[.bool a0, .bool a1, .int .u32 x216002_12] 40 (0, 0)) (by (with_reducible repeat (first | refine blk_drewN ?_ _ | refine blk_drew ?_ | refine blk_alloc ?_ _)); exact BK215.out)) : gb215 ≠ gb230)); have n6_ := Aside0.mk ((by rw [hg]; exact Nat.ne_of_gt (blk_lt (g := gb215) (o := .cells #[.bool a0, .bool a1, .int .u32 x216002_12] 40 (0, 0)) (by (with_reducible repeat (first | refine blk_drewN ?_ _ | refine blk_drew ?_ | refine blk_alloc ?_ _)); exact BK215.out)) : gb230 ≠ gb215)); clear BK215; clear HB; have BK215 := n0_; have HB := n1_; have BK230 := n2_; have GW230 := n3_; have GE230 := n4_; have NB215_230 := n5_; have NB230_215 := n6_; clear n0_ n1_ n2_ n3_ n4_ n5_ n6_; clear hb hbox hg; have hnb72 := NB230_215.out; have hnc72 := NB215_230.out; have hcz73_0 : w71.cell? ⟨gb230, 0, none⟩ = some (.bool false) := (blk_cell BK230.out 0).trans rfl; have hcz73_1 : w71.cell? ⟨gb230, 1, none⟩ = some (.bool false) := (blk_cell BK230.out 1).trans rfl; have hcz73_2 : w71.cell? ⟨gb230, 2, none⟩ = some (.int .u32 0) := (blk_cell BK230.out 2).trans rfl; have hfz73_0 := blk_frozen BK230.out 0; have hfz73_1 := blk_frozen BK230.out 1; have hfz73_2 := blk_frozen BK230.out 2; have p59 : 0 ≤ (4 : Int) := (by omega); have q59 : 4 < a4.size := (by have : (4 : Int) < (a4.size : Int) := of_decide_eq_true (by first | (with_reducible assumption) | assumption); omega); have hx59 : ∀ h : 4 < a4.size, ((a4[4]'h).toNat : Int) = bt a4 4 := bt_at a4 4; clear p59; have qi59 : (4 < (a4.size : Int)) = True := eq_true (of_decide_eq_true (by first | (with_reducible assumption) | assumption)); replace q59 := eq_true q59; have p62 : 0 ≤ (5 : Int) := (by omega); have q62 : 5 < a4.size := (by have : (5 : Int) < (a4.size : Int) := of_decide_eq_true (by first | (with_reducible assumption) | assumption); omega); have hx62 : ∀ h : 5 < a4.size, ((a4[5]'h).toNat : Int) = bt a4 5 := bt_at a4 5; clear p62; have qi62 : (5 < (a4.size : Int)) = True := eq_true (of_decide_eq_true (by first | (with_reducible assumption) | assumption)); replace q62 := eq_true q62) | ((with_reducible refine gate_callee (f := 29) rfl ?_); refine goesL_ (some 107) rfl rfl Tryd.func29 (by kernel_rfl) rfl #[.agg #[.bool true, .bool t226, .int .u32 t227], .string t228] rfl (by (try simp only [List.map_toArray, List.map_cons, List.map_nil]); first | done | rfl | (simp only [List.length_drop, List.length_take]; rfl)) ?_; (with_reducible refine (gre_Put.calls true t226 t227 t228 t231 t232 _ A68.out (GV.below HgV_.out (by repeat (first | (with_reducible first | exact HB.out | apply below_alloc | apply pw_below_drewN | apply below_drew1 | refine below_set ?_ GE215.out | refine below_set ?_ GE223.out | refine below_set ?_ GE230.out) | exact HB.out)))).mono ?_); rintro e w74 ⟨rfl, hb⟩; refine ⟨_, rfl, ?_⟩; have n0_ := Aside0.mk (blk_below (g := gb215) (o := .cells #[.bool a0, .bool a1, .int .u32 x216002_12] 40 (0, 0)) (by (with_reducible repeat (first | refine blk_drewN ?_ _ | refine blk_drew ?_ | refine blk_alloc ?_ _)); refine blk_far ?_ NB215_230.out _; (with_reducible repeat (first | refine blk_drewN ?_ _ | refine blk_drew ?_ | refine blk_alloc ?_ _)); refine blk_far ?_ NB215_230.out _; (with_reducible repeat (first | refine blk_drewN ?_ _ | refine blk_drew ?_ | refine blk_alloc ?_ _)); refine blk_far ?_ NB215_230.out _; (with_reducible repeat (first | refine blk_drewN ?_ _ | refine blk_drew ?_ | refine blk_alloc ?_ _)); exact BK215.out) hb); have n1_ := Aside0.mk (blk_below (g := gb230) (o := .cells #[.bool true, .bool t226, .int .u32 t227] 40 (0, 0)) (by (with_reducible repeat (first | refine blk_drewN ?_ _ | refine blk_drew ?_ | refine blk_alloc ?_ _)); refine blk_put (cs := #[.bool true, .bool t226, .int .u32 0]) ?_ 2 _ (by first | rfl | (simp [*]; done)); (with_reducible repeat (first | refine blk_drewN ?_ _ | refine blk_drew ?_ | refine blk_alloc ?_ _)); refine blk_put (cs := #[.bool true, .bool false, .int .u32 0]) ?_ 1 _ (by first | rfl | (simp [*]; done)); (with_reducible repeat (first | refine blk_drewN ?_ _ | refine blk_drew ?_ | refine blk_alloc ?_ _)); refine blk_put (cs := #[.bool false, .bool false, .int .u32 0]) ?_ 0 _ (by first | rfl | (simp [*]; done)); (with_reducible repeat (first | refine blk_drewN ?_ _ | refine blk_drew ?_ | refine blk_alloc ?_ _)); exact BK230.out) hb); have n2_ := Aside0.mk (below_step (by repeat (first | (with_reducible first | exact HB.out | apply below_alloc | apply pw_below_drewN | apply below_drew1 | refine below_set ?_ GE215.out | refine below_set ?_ GE230.out) | exact HB.out)) hb); clear BK215; clear BK230; clear HB; have BK215 := n0_; have BK230 := n1_; have HB := n2_; clear n0_ n1_ n2_; (try clear hb); (try clear hb2); (try clear hk); (try clear hi)))
                                go_ret
                                exact ⟨by first | rfl | (simp [errW_none, errW_some] <;> rfl) | (simp [*, errW_none, errW_some] <;> rfl), by repeat (first | (with_reducible first | exact HB.out | apply below_alloc | apply pw_below_drewN | apply below_drew1 | refine below_set ?_ GE215.out | refine below_set ?_ GE230.out) | exact HB.out)⟩
                              · rw [if_neg c69] at H
                                exact absurd ((Option.some.inj H).trans hrt_.out) (by decide)
                          · rw [if_neg c61] at H
                            exact absurd H (by simp)
                        · rw [if_neg c60] at H
                          have c60b0 : ((bt a4 4) == 255) = false := beq_eq_false_iff_ne.mpr c60
                          have c60b1 : ((bt a4 4) != 255) = true := bne_iff_ne.mpr c60
                          replace H := Option.bind_eq_some_iff.mp H
                          obtain ⟨⟨t233, t234⟩, A800, H⟩ := H
                          replace H : (if t234 = 0 then (some (t233.toList == a4.toList)) else (some false)) = some r := H
                          have A80 := Aside0.mk A800
                          clear A800
                          by_cases c81 : t234 = 0
                          · rw [if_pos c81] at H
                            have c81b0 : (t234 == 0) = true := beq_iff_eq.mpr c81
                            have c81b1 : (t234 != 0) = false := bne_eq_false_iff_eq.mpr c81
                            clear c81
                            obtain rfl := Option.some.inj H
                            go_wp2_with (first | ((with_reducible refine gate_callee (f := 31) rfl ?_); refine goesL_ (some 79) rfl rfl Tryd.func31 (by kernel_rfl) rfl #[.string a4] rfl (by (try simp only [List.map_toArray, List.map_cons, List.map_nil]); first | done | rfl | (simp only [List.length_drop, List.length_take]; rfl)) ?_; (with_reducible refine (gre_Get.calls a4 true t226 t227 t228 t229 _ A55.out (GV.below HgV_.out (by repeat (first | (with_reducible first | exact HB.out | apply below_alloc | apply pw_below_drewN | apply below_drew1 | refine below_set ?_ GE215.out | refine below_set ?_ GE223.out | refine below_set ?_ GE230.out) | exact HB.out)))).mono ?_); rintro e w82 ⟨rfl, hb⟩; refine ⟨_, rfl, ?_⟩; have n0_ := Aside0.mk (blk_below (g := gb215) (o := .cells #[.bool a0, .bool a1, .int .u32 x216002_12] 40 (0, 0)) (by (with_reducible repeat (first | refine blk_drewN ?_ _ | refine blk_drew ?_ | refine blk_alloc ?_ _)); exact BK215.out) hb); have n1_ := Aside0.mk (below_step (by repeat (first | (with_reducible first | exact HB.out | apply below_alloc | apply pw_below_drewN | apply below_drew1 | refine below_set ?_ GE215.out) | exact HB.out)) hb); clear BK215; clear HB; have BK215 := n0_; have HB := n1_; clear n0_ n1_; (try clear hb); (try clear hb2); (try clear hk); (try clear hi)) | ((with_reducible refine gate_dst (N := 17) rfl ?_); (try (refine gate_guard (by rfl) ?_; dsimp only)); refine box_event ?hg (N := 17) ?hd (cs := #[.bool false, .bool false, .int .u32 0]) (t := 40) ?hr ?_; (case hd => rfl); (case hg => rfl); (case hr => first | (go_simp; done) | (go_simp; rfl)); intro gb230 hg w83 hbox hb; have n0_ := Aside0.mk (blk_below (g := gb215) (o := .cells #[.bool a0, .bool a1, .int .u32 x216002_12] 40 (0, 0)) (by (with_reducible repeat (first | refine blk_drewN ?_ _ | refine blk_drew ?_ | refine blk_alloc ?_ _)); exact BK215.out) hb); have n1_ := Aside0.mk (below_step (by repeat (first | (with_reducible first | exact HB.out | apply below_alloc | apply pw_below_drewN | apply below_drew1 | refine below_set ?_ GE215.out) | exact HB.out)) hb); have n2_ := Aside0.mk (hbox); have n3_ := Aside0.mk ((by rw [hg]; exact (below_size (by repeat (first | (with_reducible first | exact HB.out | apply below_alloc | apply pw_below_drewN | apply below_drew1 | refine below_set ?_ GE215.out) | exact HB.out))) : w.heap.size ≤ gb230)); have n4_ := Aside0.mk ((by rw [hg]; exact (below_size (by repeat (first | (with_reducible first | exact HB.out | apply below_alloc | apply pw_below_drewN | apply below_drew1 | refine below_set ?_ GE215.out) | exact HB.out))) : w.heap.size ≤ gb230)); have n5_ := Aside0.mk ((by rw [hg]; exact Nat.ne_of_lt (blk_lt (g := gb215) (o := .cells #[.bool a0, .bool a1, .int .u32 x216002_12] 40 (0, 0)) (by (with_reducible repeat (first | refine blk_drewN ?_ _ | refine blk_drew ?_ | refine blk_alloc ?_ _)); exact BK215.out)) : gb215 ≠ gb230)); have n6_ := Aside0.mk ((by rw [hg]; exact Nat.ne_of_gt (blk_lt (g := gb215) (o := .cells #[.bool a0, .bool a1, .int .u32 x216002_12] 40 (0, 0)) (by (with_reducible repeat (first | refine blk_drewN ?_ _ | refine blk_drew ?_ | refine blk_alloc ?_ _)); exact BK215.out)) : gb230 ≠ gb215)); clear BK215; clear HB; have BK215 := n0_; have HB := n1_; have BK230 := n2_; have GW230 := n3_; have GE230 := n4_; have NB215_230 := n5_; have NB230_215 := n6_; clear n0_ n1_ n2_ n3_ n4_ n5_ n6_; clear hb hbox hg; have hnb84 := NB230_215.out; have hnc84 := NB215_230.out; have hcz85_0 : w83.cell? ⟨gb230, 0, none⟩ = some (.bool false) := (blk_cell BK230.out 0).trans rfl; have hcz85_1 : w83.cell? ⟨gb230, 1, none⟩ = some (.bool false) := (blk_cell BK230.out 1).trans rfl; have hcz85_2 : w83.cell? ⟨gb230, 2, none⟩ = some (.int .u32 0) := (blk_cell BK230.out 2).trans rfl; have hfz85_0 := blk_frozen BK230.out 0; have hfz85_1 := blk_frozen BK230.out 1; have hfz85_2 := blk_frozen BK230.out 2; have p59 : 0 ≤ (4 : Int) := (by omega); have q59 : 4 < a4.size := (by have : (4 : Int) < (a4.size : Int) := of_decide_eq_true (by first | (with_reducible assumption) | assumption); omega); have hx59 : ∀ h : 4 < a4.size, ((a4[4]'h).toNat : Int) = bt a4 4 := bt_at a4 4; clear p59; have qi59 : (4 < (a4.size : Int)) = True := eq_true (of_decide_eq_true (by first | (with_reducible assumption) | assumption)); replace q59 := eq_true q59) | ((with_reducible refine gate_callee (f := 29) rfl ?_); refine goesL_ (some 107) rfl rfl Tryd.func29 (by kernel_rfl) rfl #[.agg #[.bool true, .bool t226, .int .u32 t227], .string t228] rfl (by (try simp only [List.map_toArray, List.map_cons, List.map_nil]); first | done | rfl | (simp only [List.length_drop, List.length_take]; rfl)) ?_; (with_reducible refine (gre_Put.calls true t226 t227 t228 t233 t234 _ A80.out (GV.below HgV_.out (by repeat (first | (with_reducible first | exact HB.out | apply below_alloc | apply pw_below_drewN | apply below_drew1 | refine below_set ?_ GE215.out | refine below_set ?_ GE223.out | refine below_set ?_ GE230.out) | exact HB.out)))).mono ?_); rintro e w86 ⟨rfl, hb⟩; refine ⟨_, rfl, ?_⟩; have n0_ := Aside0.mk (blk_below (g := gb215) (o := .cells #[.bool a0, .bool a1, .int .u32 x216002_12] 40 (0, 0)) (by (with_reducible repeat (first | refine blk_drewN ?_ _ | refine blk_drew ?_ | refine blk_alloc ?_ _)); refine blk_far ?_ NB215_230.out _; (with_reducible repeat (first | refine blk_drewN ?_ _ | refine blk_drew ?_ | refine blk_alloc ?_ _)); refine blk_far ?_ NB215_230.out _; (with_reducible repeat (first | refine blk_drewN ?_ _ | refine blk_drew ?_ | refine blk_alloc ?_ _)); refine blk_far ?_ NB215_230.out _; (with_reducible repeat (first | refine blk_drewN ?_ _ | refine blk_drew ?_ | refine blk_alloc ?_ _)); exact BK215.out) hb); have n1_ := Aside0.mk (blk_below (g := gb230) (o := .cells #[.bool true, .bool t226, .int .u32 t227] 40 (0, 0)) (by (with_reducible repeat (first | refine blk_drewN ?_ _ | refine blk_drew ?_ | refine blk_alloc ?_ _)); refine blk_put (cs := #[.bool true, .bool t226, .int .u32 0]) ?_ 2 _ (by first | rfl | (simp [*]; done)); (with_reducible repeat (first | refine blk_drewN ?_ _ | refine blk_drew ?_ | refine blk_alloc ?_ _)); refine blk_put (cs := #[.bool true, .bool false, .int .u32 0]) ?_ 1 _ (by first | rfl | (simp [*]; done)); (with_reducible repeat (first | refine blk_drewN ?_ _ | refine blk_drew ?_ | refine blk_alloc ?_ _)); refine blk_put (cs := #[.bool false, .bool false, .int .u32 0]) ?_ 0 _ (by first | rfl | (simp [*]; done)); (with_reducible repeat (first | refine blk_drewN ?_ _ | refine blk_drew ?_ | refine blk_alloc ?_ _)); exact BK230.out) hb); have n2_ := Aside0.mk (below_step (by repeat (first | (with_reducible first | exact HB.out | apply below_alloc | apply pw_below_drewN | apply below_drew1 | refine below_set ?_ GE215.out | refine below_set ?_ GE230.out) | exact HB.out)) hb); clear BK215; clear BK230; clear HB; have BK215 := n0_; have BK230 := n1_; have HB := n2_; clear n0_ n1_ n2_; (try clear hb); (try clear hb2); (try clear hk); (try clear hi)))
                            go_ret
                            exact ⟨by first | rfl | (simp [errW_none, errW_some] <;> rfl) | (simp [*, errW_none, errW_some] <;> rfl), by repeat (first | (with_reducible first | exact HB.out | apply below_alloc | apply pw_below_drewN | apply below_drew1 | refine below_set ?_ GE215.out | refine below_set ?_ GE230.out) | exact HB.out)⟩
                          · rw [if_neg c81] at H
                            exact absurd ((Option.some.inj H).trans hrt_.out) (by decide)
                      · rw [if_neg c58] at H
                        exact absurd H (by simp)
                    · replace c57 := Bool.eq_false_iff.mpr c57
                      subst c57
                      have H1 : ((gre_Put.f false t226 t227 t228).bind fun bt235 => (if bt235.2 = 0 then (some (bt235.1.toList == a4.toList)) else (some false))) = some r := by rw [if_neg (show ¬ (false = true) by decide)] at H; exact H
                      clear H
                      have H := H1
                      clear H1
                      replace H := Option.bind_eq_some_iff.mp H
                      obtain ⟨⟨t235, t236⟩, A920, H⟩ := H
                      replace H : (if t236 = 0 then (some (t235.toList == a4.toList)) else (some false)) = some r := H
                      have A92 := Aside0.mk A920
                      clear A920
                      by_cases c93 : t236 = 0
                      · rw [if_pos c93] at H
                        have c93b0 : (t236 == 0) = true := beq_iff_eq.mpr c93
                        have c93b1 : (t236 != 0) = false := bne_eq_false_iff_eq.mpr c93
                        clear c93
                        obtain rfl := Option.some.inj H
                        go_wp2_with (first | ((with_reducible refine gate_callee (f := 31) rfl ?_); refine goesL_ (some 79) rfl rfl Tryd.func31 (by kernel_rfl) rfl #[.string a4] rfl (by (try simp only [List.map_toArray, List.map_cons, List.map_nil]); first | done | rfl | (simp only [List.length_drop, List.length_take]; rfl)) ?_; (with_reducible refine (gre_Get.calls a4 false t226 t227 t228 t229 _ A55.out (GV.below HgV_.out (by repeat (first | (with_reducible first | exact HB.out | apply below_alloc | apply pw_below_drewN | apply below_drew1 | refine below_set ?_ GE215.out | refine below_set ?_ GE223.out | refine below_set ?_ GE230.out) | exact HB.out)))).mono ?_); rintro e w94 ⟨rfl, hb⟩; refine ⟨_, rfl, ?_⟩; have n0_ := Aside0.mk (blk_below (g := gb215) (o := .cells #[.bool a0, .bool a1, .int .u32 x216002_12] 40 (0, 0)) (by (with_reducible repeat (first | refine blk_drewN ?_ _ | refine blk_drew ?_ | refine blk_alloc ?_ _)); exact BK215.out) hb); have n1_ := Aside0.mk (below_step (by repeat (first | (with_reducible first | exact HB.out | apply below_alloc | apply pw_below_drewN | apply below_drew1 | refine below_set ?_ GE215.out) | exact HB.out)) hb); clear BK215; clear HB; have BK215 := n0_; have HB := n1_; clear n0_ n1_; (try clear hb); (try clear hb2); (try clear hk); (try clear hi)) | ((with_reducible refine gate_dst (N := 17) rfl ?_); (try (refine gate_guard (by rfl) ?_; dsimp only)); refine box_event ?hg (N := 17) ?hd (cs := #[.bool false, .bool false, .int .u32 0]) (t := 40) ?hr ?_; (case hd => rfl); (case hg => rfl); (case hr => first | (go_simp; done) | (go_simp; rfl)); intro gb230 hg w95 hbox hb; have n0_ := Aside0.mk (blk_below (g := gb215) (o := .cells #[.bool a0, .bool a1, .int .u32 x216002_12] 40 (0, 0)) (by (with_reducible repeat (first | refine blk_drewN ?_ _ | refine blk_drew ?_ | refine blk_alloc ?_ _)); exact BK215.out) hb); have n1_ := Aside0.mk (below_step (by repeat (first | (with_reducible first | exact HB.out | apply below_alloc | apply pw_below_drewN | apply below_drew1 | refine below_set ?_ GE215.out) | exact HB.out)) hb); have n2_ := Aside0.mk (hbox); have n3_ := Aside0.mk ((by rw [hg]; exact (below_size (by repeat (first | (with_reducible first | exact HB.out | apply below_alloc | apply pw_below_drewN | apply below_drew1 | refine below_set ?_ GE215.out) | exact HB.out))) : w.heap.size ≤ gb230)); have n4_ := Aside0.mk ((by rw [hg]; exact (below_size (by repeat (first | (with_reducible first | exact HB.out | apply below_alloc | apply pw_below_drewN | apply below_drew1 | refine below_set ?_ GE215.out) | exact HB.out))) : w.heap.size ≤ gb230)); have n5_ := Aside0.mk ((by rw [hg]; exact Nat.ne_of_lt (blk_lt (g := gb215) (o := .cells #[.bool a0, .bool a1, .int .u32 x216002_12] 40 (0, 0)) (by (with_reducible repeat (first | refine blk_drewN ?_ _ | refine blk_drew ?_ | refine blk_alloc ?_ _)); exact BK215.out)) : gb215 ≠ gb230)); have n6_ := Aside0.mk ((by rw [hg]; exact Nat.ne_of_gt (blk_lt (g := gb215) (o := .cells #[.bool a0, .bool a1, .int .u32 x216002_12] 40 (0, 0)) (by (with_reducible repeat (first | refine blk_drewN ?_ _ | refine blk_drew ?_ | refine blk_alloc ?_ _)); exact BK215.out)) : gb230 ≠ gb215)); clear BK215; clear HB; have BK215 := n0_; have HB := n1_; have BK230 := n2_; have GW230 := n3_; have GE230 := n4_; have NB215_230 := n5_; have NB230_215 := n6_; clear n0_ n1_ n2_ n3_ n4_ n5_ n6_; clear hb hbox hg; have hnb96 := NB230_215.out; have hnc96 := NB215_230.out; have hcz97_0 : w95.cell? ⟨gb230, 0, none⟩ = some (.bool false) := (blk_cell BK230.out 0).trans rfl; have hcz97_1 : w95.cell? ⟨gb230, 1, none⟩ = some (.bool false) := (blk_cell BK230.out 1).trans rfl; have hcz97_2 : w95.cell? ⟨gb230, 2, none⟩ = some (.int .u32 0) := (blk_cell BK230.out 2).trans rfl; have hfz97_0 := blk_frozen BK230.out 0; have hfz97_1 := blk_frozen BK230.out 1; have hfz97_2 := blk_frozen BK230.out 2) | ((with_reducible refine gate_callee (f := 29) rfl ?_); refine goesL_ (some 107) rfl rfl Tryd.func29 (by kernel_rfl) rfl #[.agg #[.bool false, .bool t226, .int .u32 t227], .string t228] rfl (by (try simp only [List.map_toArray, List.map_cons, List.map_nil]); first | done | rfl | (simp only [List.length_drop, List.length_take]; rfl)) ?_; (with_reducible refine (gre_Put.calls false t226 t227 t228 t235 t236 _ A92.out (GV.below HgV_.out (by repeat (first | (with_reducible first | exact HB.out | apply below_alloc | apply pw_below_drewN | apply below_drew1 | refine below_set ?_ GE215.out | refine below_set ?_ GE223.out | refine below_set ?_ GE230.out) | exact HB.out)))).mono ?_); rintro e w98 ⟨rfl, hb⟩; refine ⟨_, rfl, ?_⟩; have n0_ := Aside0.mk (blk_below (g := gb215) (o := .cells #[.bool a0, .bool a1, .int .u32 x216002_12] 40 (0, 0)) (by (with_reducible repeat (first | refine blk_drewN ?_ _ | refine blk_drew ?_ | refine blk_alloc ?_ _)); refine blk_far ?_ NB215_230.out _; (with_reducible repeat (first | refine blk_drewN ?_ _ | refine blk_drew ?_ | refine blk_alloc ?_ _)); refine blk_far ?_ NB215_230.out _; (with_reducible repeat (first | refine blk_drewN ?_ _ | refine blk_drew ?_ | refine blk_alloc ?_ _)); refine blk_far ?_ NB215_230.out _; (with_reducible repeat (first | refine blk_drewN ?_ _ | refine blk_drew ?_ | refine blk_alloc ?_ _)); exact BK215.out) hb); have n1_ := Aside0.mk (blk_below (g := gb230) (o := .cells #[.bool false, .bool t226, .int .u32 t227] 40 (0, 0)) (by (with_reducible repeat (first | refine blk_drewN ?_ _ | refine blk_drew ?_ | refine blk_alloc ?_ _)); refine blk_put (cs := #[.bool false, .bool t226, .int .u32 0]) ?_ 2 _ (by first | rfl | (simp [*]; done)); (with_reducible repeat (first | refine blk_drewN ?_ _ | refine blk_drew ?_ | refine blk_alloc ?_ _)); refine blk_put (cs := #[.bool false, .bool false, .int .u32 0]) ?_ 1 _ (by first | rfl | (simp [*]; done)); (with_reducible repeat (first | refine blk_drewN ?_ _ | refine blk_drew ?_ | refine blk_alloc ?_ _)); refine blk_put (cs := #[.bool false, .bool false, .int .u32 0]) ?_ 0 _ (by first | rfl | (simp [*]; done)); (with_reducible repeat (first | refine blk_drewN ?_ _ | refine blk_drew ?_ | refine blk_alloc ?_ _)); exact BK230.out) hb); have n2_ := Aside0.mk (below_step (by repeat (first | (with_reducible first | exact HB.out | apply below_alloc | apply pw_below_drewN | apply below_drew1 | refine below_set ?_ GE215.out | refine below_set ?_ GE230.out) | exact HB.out)) hb); clear BK215; clear BK230; clear HB; have BK215 := n0_; have BK230 := n1_; have HB := n2_; clear n0_ n1_ n2_; (try clear hb); (try clear hb2); (try clear hk); (try clear hi)))
                        go_ret
                        exact ⟨by first | rfl | (simp [errW_none, errW_some] <;> rfl) | (simp [*, errW_none, errW_some] <;> rfl), by repeat (first | (with_reducible first | exact HB.out | apply below_alloc | apply pw_below_drewN | apply below_drew1 | refine below_set ?_ GE215.out | refine below_set ?_ GE230.out) | exact HB.out)⟩
                      · rw [if_neg c93] at H
                        exact absurd ((Option.some.inj H).trans hrt_.out) (by decide)
                  · rw [if_neg c56] at H
                    have c56b0 : (t229 == 0) = false := beq_eq_false_iff_ne.mpr c56
                    have c56b1 : (t229 != 0) = true := bne_iff_ne.mpr c56
                    by_cases c104 : (!t225 && (!t226 && (t227 == 0))) = true
                    · rw [if_pos c104] at H
                      have c104b0 : (!t225 && (!t226 && (t227 == 0))) = true := c104
                      (try (have c104b1 : ((t225 = false ∧ (t226 = false ∧ (t227 = 0)))) = True := by simpa using c104))
                      clear c104
                      obtain rfl := Option.some.inj H
                      go_wp2_with (first | ((with_reducible refine gate_callee (f := 31) rfl ?_); refine goesL_ (some 79) rfl rfl Tryd.func31 (by kernel_rfl) rfl #[.string a4] rfl (by (try simp only [List.map_toArray, List.map_cons, List.map_nil]); first | done | rfl | (simp only [List.length_drop, List.length_take]; rfl)) ?_; (with_reducible refine (gre_Get.calls a4 t225 t226 t227 t228 t229 _ A55.out (GV.below HgV_.out (by repeat (first | (with_reducible first | exact HB.out | apply below_alloc | apply pw_below_drewN | apply below_drew1 | refine below_set ?_ GE215.out | refine below_set ?_ GE223.out | refine below_set ?_ GE230.out) | exact HB.out)))).mono ?_); rintro e w105 ⟨rfl, hb⟩; refine ⟨_, rfl, ?_⟩; have n0_ := Aside0.mk (blk_below (g := gb215) (o := .cells #[.bool a0, .bool a1, .int .u32 x216002_12] 40 (0, 0)) (by (with_reducible repeat (first | refine blk_drewN ?_ _ | refine blk_drew ?_ | refine blk_alloc ?_ _)); exact BK215.out) hb); have n1_ := Aside0.mk (below_step (by repeat (first | (with_reducible first | exact HB.out | apply below_alloc | apply pw_below_drewN | apply below_drew1 | refine below_set ?_ GE215.out) | exact HB.out)) hb); clear BK215; clear HB; have BK215 := n0_; have HB := n1_; clear n0_ n1_; (try clear hb); (try clear hb2); (try clear hk); (try clear hi)) | ((with_reducible refine gate_dst (N := 17) rfl ?_); (try (refine gate_guard (by rfl) ?_; dsimp only)); refine box_event ?hg (N := 17) ?hd (cs := #[.bool false, .bool false, .int .u32 0]) (t := 40) ?hr ?_; (case hd => rfl); (case hg => rfl); (case hr => first | (go_simp; done) | (go_simp; rfl)); intro gb230 hg w106 hbox hb; have n0_ := Aside0.mk (blk_below (g := gb215) (o := .cells #[.bool a0, .bool a1, .int .u32 x216002_12] 40 (0, 0)) (by (with_reducible repeat (first | refine blk_drewN ?_ _ | refine blk_drew ?_ | refine blk_alloc ?_ _)); exact BK215.out) hb); have n1_ := Aside0.mk (below_step (by repeat (first | (with_reducible first | exact HB.out | apply below_alloc | apply pw_below_drewN | apply below_drew1 | refine below_set ?_ GE215.out) | exact HB.out)) hb); have n2_ := Aside0.mk (hbox); have n3_ := Aside0.mk ((by rw [hg]; exact (below_size (by repeat (first | (with_reducible first | exact HB.out | apply below_alloc | apply pw_below_drewN | apply below_drew1 | refine below_set ?_ GE215.out) | exact HB.out))) : w.heap.size ≤ gb230)); have n4_ := Aside0.mk ((by rw [hg]; exact (below_size (by repeat (first | (with_reducible first | exact HB.out | apply below_alloc | apply pw_below_drewN | apply below_drew1 | refine below_set ?_ GE215.out) | exact HB.out))) : w.heap.size ≤ gb230)); have n5_ := Aside0.mk ((by rw [hg]; exact Nat.ne_of_lt (blk_lt (g := gb215) (o := .cells #[.bool a0, .bool a1, .int .u32 x216002_12] 40 (0, 0)) (by (with_reducible repeat (first | refine blk_drewN ?_ _ | refine blk_drew ?_ | refine blk_alloc ?_ _)); exact BK215.out)) : gb215 ≠ gb230)); have n6_ := Aside0.mk ((by rw [hg]; exact Nat.ne_of_gt (blk_lt (g := gb215) (o := .cells #[.bool a0, .bool a1, .int .u32 x216002_12] 40 (0, 0)) (by (with_reducible repeat (first | refine blk_drewN ?_ _ | refine blk_drew ?_ | refine blk_alloc ?_ _)); exact BK215.out)) : gb230 ≠ gb215)); clear BK215; clear HB; have BK215 := n0_; have HB := n1_; have BK230 := n2_; have GW230 := n3_; have GE230 := n4_; have NB215_230 := n5_; have NB230_215 := n6_; clear n0_ n1_ n2_ n3_ n4_ n5_ n6_; clear hb hbox hg; have hnb107 := NB230_215.out; have hnc107 := NB215_230.out; have hcz108_0 : w106.cell? ⟨gb230, 0, none⟩ = some (.bool false) := (blk_cell BK230.out 0).trans rfl; have hcz108_1 : w106.cell? ⟨gb230, 1, none⟩ = some (.bool false) := (blk_cell BK230.out 1).trans rfl; have hcz108_2 : w106.cell? ⟨gb230, 2, none⟩ = some (.int .u32 0) := (blk_cell BK230.out 2).trans rfl; have hfz108_0 := blk_frozen BK230.out 0; have hfz108_1 := blk_frozen BK230.out 1; have hfz108_2 := blk_frozen BK230.out 2))
                      go_ret
                      exact ⟨by first | rfl | (simp [errW_none, errW_some] <;> rfl) | (simp [*, errW_none, errW_some] <;> rfl), by repeat (first | (with_reducible first | exact HB.out | apply below_alloc | apply pw_below_drewN | apply below_drew1 | refine below_set ?_ GE215.out | refine below_set ?_ GE230.out) | exact HB.out)⟩
                    · rw [if_neg c104] at H
                      exact absurd ((Option.some.inj H).trans hrt_.out) (by decide)
  · replace c7 := Bool.eq_false_iff.mpr c7
    subst c7
    have H1 : (some false) = some r := by rw [if_neg (show ¬ (false = true) by decide)] at H; exact H
    exact absurd ((Option.some.inj H1).trans hrt_.out) (by decide)

end Go.Proofs.YtcmalglippmocaaDoor.G
end

section
/- The plain law of GreBack: what is put is got, what is got is put. -/
namespace Go.Proofs.YtcmalglippmocaaDoor.Pure
open Go.RowKit Go.Proofs.YtcmalglippmocaaDoorW.PrintWords Go.Proofs.YtcmalglippmocaaDoorW.PrintLast Go.Proofs.YtcmalglippmocaaDoor.G Go.Proofs.YtcmalglippmocaaDoor.Pal
set_option linter.unusedVariables false
/-- What is read without a stop stands as it is put, with some sum. -/
theorem got_form {b : ByteArray} (h0 : greErr b = 0) : ∃ (kd v c : Nat), bl b = nb 2 (greBits (gS b) (gK b)) ++ nb 2 kd ++ greTail (gS b) (gK b) v c ++ bl (gIn b) ∧ kd < 65536 ∧ v < 4294967296 ∧ c ≤ 65535 ∧ gVal b = (if gK b then (v : Int) else 0) ∧ (gS b = true → c = be (bl (b.extract 4 6)) ∧ csum (bl b) = 0) ∧ (verOf (gIn b)).2.2.2 = 0 ∧ (verOf (gIn b)).2.2.1 = (kd : Int) ∧ 4 ≤ b.size ∧ gAt b ≤ b.size := by
  unfold greErr at h0
  split at h0
  · exact absurd h0 (by decide)
  rename_i h4
  split at h0
  · exact absurd h0 (by decide)
  split at h0
  · exact absurd h0 (by decide)
  rename_i hA
  split at h0
  · exact absurd h0 (by decide)
  rename_i hM
  split at h0
  · exact absurd h0 (by decide)
  rename_i h9
  split at h0
  · exact absurd h0 (by decide)
  rename_i h5
  split at h0
  · exact absurd h0 (by decide)
  split at h0
  · rename_i he; exact absurd h0 he
  rename_i he
  split at h0
  · exact absurd h0 (by decide)
  rename_i hk
  have hA' := (andNot_zero (be (bl (b.extract 0 2))) (gx_lt b)).1 (by simpa [gx] using hA)
  have hx := (bits_cases _ hA').1
  have hx' : be (bl (b.extract 0 2)) = greBits (gS b) (gK b) := hx
  have l2 : ∀ i : Nat, i + 2 ≤ b.size → (bl (b.extract i (i + 2))).length = 2 := fun i hi => by rw [bl_length, ByteArray.size_extract]; omega
  have n2 : ∀ i : Nat, i + 2 ≤ b.size → bl (b.extract i (i + 2)) = nb 2 (be (bl (b.extract i (i + 2)))) := fun i hi => by
    have := nb_be (bl (b.extract i (i + 2))); rw [l2 i hi] at this; exact this.symm
  have n4 : ∀ i : Nat, i + 4 ≤ b.size → bl (b.extract i (i + 4)) = nb 4 (be (bl (b.extract i (i + 4)))) := fun i hi => by
    have := nb_be (bl (b.extract i (i + 4))); rw [show (bl (b.extract i (i + 4))).length = 4 by rw [bl_length, ByteArray.size_extract]; omega] at this; exact this.symm
  have cut : ∀ i j : Nat, i ≤ j → j ≤ b.size → (bl b).drop i = bl (b.extract i j) ++ (bl b).drop j := fun i j hij hj => by
    rw [cutG]
    have e1 := (List.take_append_drop (j - i) ((bl b).drop i)).symm
    rw [List.drop_drop, show i + (j - i) = j by omega, List.take_drop, show i + (j - i) = j by omega] at e1
    exact e1
  have last : (bl b).drop (gAt b) = bl (gIn b) := by unfold gIn; rw [cutG, List.take_of_length_le (by rw [bl_length]; omega)]
  have hat : gAt b = 4 + (if gS b then 4 else 0) + (if gK b then 4 else 0) := rfl
  obtain ⟨v, hv, hvv⟩ : ∃ v : Nat, v < 4294967296 ∧ (gK b = true → v = be (bl (b.extract (gAt b - 4) (gAt b)))) := by
    refine ⟨be (bl (b.extract (gAt b - 4) (gAt b))), ?_, fun _ => rfl⟩
    have := be_lt_of (bl (b.extract (gAt b - 4) (gAt b))) 4 (by rw [bl_length, ByteArray.size_extract]; omega)
    simpa using this
  obtain ⟨q2, hq2, hq2'⟩ : ∃ q, bl (b.extract 2 4) = nb 2 q ∧ be (bl (b.extract 2 4)) = q := ⟨_, n2 2 (by omega), rfl⟩
  obtain ⟨q0, hq0, hq0'⟩ : ∃ q, bl (b.extract 0 2) = nb 2 q ∧ be (bl (b.extract 0 2)) = q := ⟨_, n2 0 (by omega), rfl⟩
  have hq2l : q2 < 65536 := by rw [← hq2']; exact gkd_lt b
  obtain ⟨q4, hq4, hq4', hq4l⟩ : ∃ q, (6 ≤ b.size → bl (b.extract 4 6) = nb 2 q) ∧ be (bl (b.extract 4 6)) = q ∧ q ≤ 65535 := by
    refine ⟨be (bl (b.extract 4 6)), fun h => n2 4 (by omega), rfl, ?_⟩
    have := be_lt_of (bl (b.extract 4 6)) 2 (by rw [bl_length, ByteArray.size_extract]; omega)
    have e : (256 : Nat) ^ 2 = 65536 := by decide
    omega
  refine ⟨q2, v, q4, ?_, hq2l, hv, hq4l, ?_, ?_, by simpa using he, ?_, by omega, by omega⟩
  · rw [hq0'] at hx'
    have e0 : bl b = (bl b).drop 0 := by simp
    rw [e0, cut 0 2 (by omega) (by omega), cut 2 4 (by omega) (by omega), hq0, hq2, hx']
    unfold greTail
    cases hS : gS b <;> cases hK : gK b
    · have : gAt b = 4 := by rw [hat, hS, hK]; rfl
      rw [this] at last
      rw [last]; simp
    · have ha : gAt b = 8 := by rw [hat, hS, hK]; rfl
      rw [ha] at last hvv hM
      have := n4 4 (by omega)
      have hv4 := hvv hK
      rw [show (4 + 4 : Nat) = 8 from rfl] at this
      rw [show (8 - 4 : Nat) = 4 from rfl] at hv4
      rw [← hv4] at this
      rw [cut 4 8 (by omega) (by omega), last, this]; simp [List.append_assoc]
    · have ha : gAt b = 8 := by rw [hat, hS, hK]; rfl
      rw [ha] at last hM
      have h6 : be (bl (b.extract 6 8)) = 0 := Classical.not_not.1 fun h => h9 ⟨hS, h⟩
      have c := n2 6 (by omega)
      rw [show (6 + 2 : Nat) = 8 from rfl, h6] at c
      rw [cut 4 6 (by omega) (by omega), cut 6 8 (by omega) (by omega), last, c, hq4 (by omega)]
      simp [List.append_assoc]
    · have ha : gAt b = 12 := by rw [hat, hS, hK]; rfl
      rw [ha] at last hvv hM
      have h6 : be (bl (b.extract 6 8)) = 0 := Classical.not_not.1 fun h => h9 ⟨hS, h⟩
      have c := n2 6 (by omega)
      have d := n4 8 (by omega)
      have hv4 := hvv hK
      rw [show (6 + 2 : Nat) = 8 from rfl, h6] at c
      rw [show (8 + 4 : Nat) = 12 from rfl] at d
      rw [show (12 - 4 : Nat) = 8 from rfl] at hv4
      rw [← hv4] at d
      rw [cut 4 6 (by omega) (by omega), cut 6 8 (by omega) (by omega), cut 8 12 (by omega) (by omega), last, c, d, hq4 (by omega)]
      simp [List.append_assoc]
  · unfold gVal
    cases hK : gK b with
    | false => rfl
    | true => rw [if_pos rfl, if_pos rfl, hvv hK]
  · intro hS
    exact ⟨hq4'.symm, Classical.not_not.1 fun h => h5 ⟨hS, h⟩⟩
  · have := Classical.not_not.1 hk
    rw [this]; unfold gkd; rw [hq2']
theorem be2 (x y : UInt8) : be [x, y] = x.toNat * 256 + y.toNat := by
  rw [show [x, y] = [x] ++ [y] from rfl, be_snoc]
  simp [be]
theorem be_pair (s : ByteArray) (i : Nat) (h : i + 1 < s.size) : ((be (bl (s.extract i (i + 2))) : Nat) : Int) = bt s (i : Int) * 256 + bt s ((i + 1 : Nat) : Int) := by
  have hb := bl_length s
  have d0 := List.drop_eq_getElem_cons (l := bl s) (i := i) (by omega)
  have d1 := List.drop_eq_getElem_cons (l := bl s) (i := i + 1) (by omega)
  have e : bl (s.extract i (i + 2)) = [(bl s)[i]'(by omega), (bl s)[i + 1]'(by omega)] := by
    rw [cutG, List.drop_take, show i + 2 - i = 2 by omega, d0, d1]
    rfl
  rw [e, be2]
  have b0 : (((bl s)[i]'(by omega)).toNat : Int) = bt s (i : Int) := bt_at s (i : Int) (by simpa using (by omega : i < s.size))
  have b1 : (((bl s)[i + 1]'(by omega)).toNat : Int) = bt s ((i + 1 : Nat) : Int) := bt_at s ((i + 1 : Nat) : Int) (by simpa using h)
  rw [← b0, ← b1, Int.natCast_add, Int.natCast_mul]
  rfl
/-- What is got is put as it was, unless its sum is FFFF. -/
theorem put_back {b : ByteArray} (hs : b.size ≤ 1000000) (h0 : greErr b = 0) (hc : gS b = true → be (bl (b.extract 4 6)) ≠ 65535) : gre_Put.f (gS b) (gK b) (gVal b) (gIn b) = some (b, 0) := by
  obtain ⟨kd, v, c, hb, hk, hv, hc5, hval, hsum, he, hkd, h4, hat⟩ := got_form h0
  obtain ⟨w, hw, hwv, hwl⟩ : ∃ w : Nat, gVal b = (w : Int) ∧ greTail (gS b) (gK b) w = greTail (gS b) (gK b) v ∧ w < 4294967296 := by
    refine ⟨if gK b then v else 0, ?_, ?_, ?_⟩
    · rw [hval]; split <;> rfl
    · cases hK : gK b
      · funext x; unfold greTail; simp
      · rfl
    · split <;> omega
  obtain ⟨y, kd', c', h1, h2, h3, h5, h6, h7, h8⟩ := put_ok (S := gS b) (K := gK b) (v := w) (x := gIn b) hwl (by unfold gIn; rw [ByteArray.size_extract]; omega) he
  obtain rfl : kd' = kd := by omega
  rw [hw, h1]
  have hct : greTail (gS b) (gK b) w c' = greTail (gS b) (gK b) v c := by
    rw [hwv]
    by_cases hS : gS b = true
    · have hcs := hsum hS
      have hcc : c' = c := by
        rw [h7, hwv]
        have e2 : ∀ z : Nat, nb 2 (greBits (gS b) (gK b)) ++ nb 2 kd' ++ greTail (gS b) (gK b) v z ++ bl (gIn b) = nb 2 (greBits (gS b) (gK b)) ++ nb 2 kd' ++ nb 2 z ++ (nb 2 0 ++ (if gK b then nb 4 v else []) ++ bl (gIn b)) := fun z => by
          unfold greTail; rw [if_pos hS]; simp only [List.append_assoc]
        rw [e2]
        refine outSealed _ _ c (by simp [odd, nb_length]) ?_ ?_
        · have := hc hS; omega
        · rw [← e2, ← hb]; exact hcs.2
      rw [hcc]
    · unfold greTail; rw [if_neg hS, if_neg hS]
  have : y = b := blG_inj (by rw [h2, hct]; exact hb.symm)
  rw [this]
theorem back_j2 (a4 : ByteArray) (hs : a4.size ≤ 5000) (k : Nat) : palanquinlaw12_GreBack.j2 (k + 1) a4 = some true := by
  rw [palanquinlaw12_GreBack.j2]
  by_cases h0 : greErr a4 = 0
  · have hg : gre_Get.f a4 = some (gS a4, gK a4, gVal a4, gIn a4, 0) := by unfold gre_Get.f; rw [if_pos (by omega), if_pos h0]
    rw [hg, Option.bind_some]
    dsimp +instances only
    rw [if_pos rfl]
    have put : (gS a4 = true → be (bl (a4.extract 4 6)) ≠ 65535) → ((gre_Put.f (gS a4) (gK a4) (gVal a4) (gIn a4)).bind fun bt231 => (if bt231.2 = 0 then (some (bt231.1.toList == a4.toList)) else (some false))) = some true := fun h => by
      rw [put_back (by omega) h0 h, Option.bind_some]
      dsimp +instances only
      rw [if_pos rfl, beq_self_eq_true]
    by_cases hS : gS a4 = true
    · have hsz : 8 ≤ a4.size := by
        obtain ⟨kd, v, c, _, _, _, _, _, _, _, _, _, hat⟩ := got_form h0
        unfold gAt at hat; rw [hS, if_pos rfl] at hat; omega
      have hp := be_pair a4 4 (by omega)
      rw [show (4 + 2 : Nat) = 6 from rfl, show (4 + 1 : Nat) = 5 from rfl] at hp
      have r4 := bt_range a4 4
      have r5 := bt_range a4 5
      have hp' : ((be (bl (a4.extract 4 6)) : Nat) : Int) = bt a4 4 * 256 + bt a4 5 := hp
      rw [if_pos hS, if_pos (by omega)]
      split
      · rw [if_pos (by omega)]
        split
        · rfl
        · exact put fun _ => by omega
      · exact put fun _ => by omega
    · rw [if_neg hS]
      exact put fun h => absurd h hS
  · have hg : gre_Get.f a4 = some (false, false, 0, ⟨#[]⟩, greErr a4) := by unfold gre_Get.f; rw [if_pos (by omega), if_neg h0]
    rw [hg, Option.bind_some]
    dsimp +instances only
    rw [if_neg h0, if_pos (by decide), empty11]; rfl
theorem u32_nat {a : Int} (h : (Lit.int .u32 a).wf = true) : ∃ v : Nat, a = (v : Int) ∧ v < 4294967296 := by
  simp [Lit.wf, IntKind.min, IntKind.max, IntKind.signed, IntKind.bits] at h
  exact ⟨a.toNat, by omega, by omega⟩
theorem size_isG (S K : Bool) (v : Int) : gre_Size.f S K v = some (((4 + (if S then 4 else 0) + (if K then 4 else 0) : Nat) : Nat) : Int) := by
  unfold gre_Size.f; cases S <;> cases K <;> rfl
theorem GreBack (a0 a1 : Bool) (a2 : Int) (a3 a4 : ByteArray) (w2 : (Lit.int .u32 a2).wf = true) (w3 : a3.size ≤ 140737488351232) (w4 : a4.size ≤ 140737488351232) : ∃ k, palanquinlaw12_GreBack.f k a0 a1 a2 a3 a4 = some true := by
  refine ⟨4, ?_⟩
  unfold palanquinlaw12_GreBack.f
  rw [awake12, Option.bind_some, if_pos rfl]
  have end_ : ∀ k, palanquinlaw12_GreBack.j0 (k + 1) a0 a1 a2 a3 a4 true = some true := fun k => by rw [palanquinlaw12_GreBack.j0, if_pos rfl]
  split
  · exact end_ 3
  rename_i h3
  by_cases h4 : (a4.size : Int) > 5000
  · rw [decide_eq_true h4]; exact end_ 3
  have hj2 := back_j2 a4 (by omega) 1
  rw [decide_eq_false h4, palanquinlaw12_GreBack.j0, if_neg (by decide)]
  obtain ⟨v, rfl, hv⟩ := u32_nat w2
  by_cases he : (verOf a3).2.2.2 = 0
  · obtain ⟨y, kd, c, h1, h2, hk, h5, h6, h7, h8⟩ := put_ok (S := a0) (K := a1) hv (x := a3) (by omega) he
    obtain ⟨hsz, _⟩ := got_parts h2 h5 hv
    have h35 : a3.size ≤ 5000 := by omega
    have hy : y.size ≤ 1099511627776 := by rw [hsz]; split <;> split <;> omega
    have hws : (y.size : Int) = wrap64 ((((4 + (if a0 then 4 else 0) + (if a1 then 4 else 0) : Nat) : Nat) : Int) + (a3.size : Int)) := by
      rw [hsz]; unfold wrap64; split <;> split <;> omega
    have hg := got_ok h2 h5 hv hy h8 he hk
    have hfin : ∀ z : Int, z = (if a1 then (v : Int) else 0) → palanquinlaw12_GreBack.j1 3 a3 a4 y 0 a0 a1 z = some true := fun z hz => by
      rw [palanquinlaw12_GreBack.j1, if_pos rfl, hg, Option.bind_some]
      dsimp +instances only
      rw [if_neg (by rw [hz]; simp), if_pos rfl, if_pos rfl, size_isG, Option.bind_some, if_pos hws]
      exact hj2
    rw [h1, Option.bind_some]
    dsimp +instances only
    cases a1 with
    | true => rw [if_pos rfl]; exact hfin _ (by simp)
    | false => rw [if_neg (by decide)]; exact hfin _ (by simp)
  · have hfin : ∀ z : Int, palanquinlaw12_GreBack.j1 3 a3 a4 ⟨#[]⟩ (verOf a3).2.2.2 a0 a1 z = some true := fun z => by
      rw [palanquinlaw12_GreBack.j1, if_neg he, if_pos empty11]
      exact hj2
    rw [put_no he, Option.bind_some]
    dsimp +instances only
    cases a1 with
    | true => rw [if_pos rfl]; exact hfin _
    | false => rw [if_neg (by decide)]; exact hfin _
end Go.Proofs.YtcmalglippmocaaDoor.Pure
end

section
/- Plain facts for rows: arguments that are structs of one-cell fields, and slices of strings, laid open. No function of the program in it. -/
namespace Go.Proofs.YtcmalglippmocaaDoor.Pal
open Go.RowKit Go.ChangeShapes Go.WideShapes Go.Deep Go.Proofs.YtcmalglippmocaaDoorW.PrintWords
section
variable {H : Type} {enc : TypeId × Value → H} {P : Program} {w : World} {base : Nat} {spare : Nat → Bool} {held : Bool}
theorem open_fields {r : Reach} {b0 : Nat} {t : TypeId} {fs : Array Field} {v : Value} {d : DataW H} {p : List MemPlace} (hs : P.underlying t = some (.struct fs)) (hone : oneCellFields P fs = true)
    (hv : Value.okWide P w r b0 t v) (h : DataW.Trod enc P w base spare held t v d p) :
    ∃ (cs : Array Value), v = .agg cs ∧ cs.size = P.cellsOf t ∧ ∀ (j : Nat) (f : Field) (c : Value), fs[j]? = some f → cs[j]? = some c → ∃ (n : Nat) (y : DataW H × List MemPlace), DataW.trod enc P w base spare held n f.type [c] = some y := by
  obtain ⟨cs, rfl, hsz⟩ := okWide_struct hs hv
  obtain ⟨fuel, hf⟩ := h
  obtain ⟨xs, n, _, _, _, hlen, hF⟩ := DataW.trod_struct hs hf
  refine ⟨cs, rfl, hsz, fun j f c hj hc => ?_⟩
  obtain ⟨o0, k0⟩ := hone_of hone j f hj
  have hj' : j < xs.length := by rw [hlen]; exact (Array.getElem?_eq_some_iff.1 hj).1
  refine ⟨n, xs[j], ?_⟩
  have e := hF j f hj
  rw [o0, k0, List.getElem?_eq_getElem hj'] at e
  have hc' : (Value.cells (.agg cs)).toList.drop j = c :: (Value.cells (.agg cs)).toList.drop (j + 1) := by
    obtain ⟨hlt, rfl⟩ := Array.getElem?_eq_some_iff.1 hc
    show cs.toList.drop j = cs[j] :: cs.toList.drop (j + 1)
    rw [List.drop_eq_getElem_cons (by simpa using hlt), Array.getElem_toList]
  rw [hc'] at e
  simpa using e
theorem leaf_int {n : Nat} {t : TypeId} {k : IntKind} {c : Value} {y : DataW H × List MemPlace} (ht : P.underlying t = some (.int k)) (h : DataW.trod enc P w base spare held n t [c] = some y) : ∃ a, c = .int k a ∧ (Lit.int k a).wf = true := by
  obtain ⟨a, e1, _, h2⟩ := DataW.trod_int ht h
  exact ⟨a, by simpa using e1, h2⟩
theorem leaf_str {n : Nat} {t : TypeId} {c : Value} {y : DataW H × List MemPlace} (ht : P.underlying t = some .string) (h : DataW.trod enc P w base spare held n t [c] = some y) : ∃ a : ByteArray, c = .string a ∧ a.size ≤ maxLen := by
  obtain ⟨a, e1, _, h2⟩ := DataW.trod_string ht h
  exact ⟨a, by simpa using e1, h2⟩
theorem leaf_bool {n : Nat} {t : TypeId} {c : Value} {y : DataW H × List MemPlace} (ht : P.underlying t = some .bool) (h : DataW.trod enc P w base spare held n t [c] = some y) : ∃ a : Bool, c = .bool a := by
  obtain ⟨a, e1, _⟩ := DataW.trod_bool ht h
  exact ⟨a, by simpa using e1⟩
theorem mem_texts {H : Type} {P : Program} {e : TypeId} {s : ByteArray} : ∀ {l : List ByteArray}, s ∈ l → s.size ∈ DataW.weightsAll (H := H) P e (l.map fun s => .lit (.string s.data.toList))
  | x :: l, h => by
    rw [List.map_cons, DataW.weightsAll, List.mem_append]
    rcases List.mem_cons.1 h with rfl | h
    · left; simp [DataW.weights]
    · exact Or.inr (mem_texts h)
theorem open_texts {r : Reach} {b0 : Nat} {t e : TypeId} {v : Value} {d : DataW H} {p : List MemPlace} (ht : P.underlying t = some (.slice e)) (he : P.underlying e = some .string) (hc : P.cellsOf e = 1)
    (hv : Value.okWide P w r b0 t v) (h : DataW.Trod enc P w base spare held t v d p) :
    ∃ (A : Option Addr) (l : List ByteArray) (cap : Nat), v = .slice A l.length cap ∧ l.length ≤ cap ∧ Kd.C Kd.string w A l.length l ∧ (∀ s ∈ l, s.size ∈ DataW.weights P t d) := by
  obtain ⟨A, len, cap, rfl⟩ := okWide_slice ht hv
  obtain ⟨fuel, hf⟩ := h
  rcases open_strs ht he hc hf with ⟨hcs, _⟩ | ⟨a, ln, c, m, Sx, hcs, _, hl, hm, hmm, hdp, hcell⟩
  · simp [Value.cells] at hcs
    obtain ⟨rfl, rfl, rfl⟩ := hcs
    exact ⟨none, [], 0, rfl, Nat.le_refl _, ⟨rfl, by decide, fun h => absurd h (by decide)⟩, fun s hs => nomatch hs⟩
  · simp [Value.cells] at hcs
    obtain ⟨rfl, rfl, rfl⟩ := hcs
    have hlm : len ≤ m := by rw [hmm]; split <;> omega
    refine ⟨some a, (List.range len).map Sx, cap, by simp, by simpa using hl, ⟨by simp, by simp; exact Nat.le_trans hl (Nat.le_trans hm (by decide)), fun _ => ⟨a, rfl, fun j q hj => ?_⟩⟩, fun s hs => ?_⟩
    · rw [List.getElem?_map] at hj
      by_cases hjl : j < len
      · rw [List.getElem?_range hjl] at hj
        obtain rfl : Sx j = q := by simpa using hj
        refine ⟨[.string (Sx j)], rfl, rfl, fun i u hi => ?_⟩
        match i, hi with
        | 0, hi =>
          obtain rfl : Value.string (Sx j) = u := by simpa using hi
          simpa [Kd.string, Kd.scalar] using (hcell j (by omega)).1
        | i + 1, hi => simp at hi
      · rw [List.getElem?_eq_none (by simpa using hjl)] at hj
        simp at hj
    · have hd := congrArg Prod.fst hdp
      dsimp only at hd
      rw [hd, DataW.weights, ht]
      refine List.mem_cons_of_mem _ (List.mem_append.2 (Or.inl ?_))
      have e1 := mem_texts (H := H) (P := P) (e := e) hs
      rwa [List.map_map] at e1
end
end Go.Proofs.YtcmalglippmocaaDoor.Pal
end

section
/- What a row's condition on the program's package-level tables gives: their cells. -/
namespace Go.Proofs.YtcmalglippmocaaDoor.Pal
open Go.ChangeShapes Go.WideShapes Go.ChangeAt Go.WideElems Go.RowKit Go.Proofs.YtcmalglippmocaaDoor.G
set_option maxRecDepth 100000
section
variable {H : Type} {enc : TypeId × Value → H} {P : Program} {w : World} {base : Nat} {spare : Nat → Bool} {held : Bool}
/-- A row of two whole numbers. -/
theorem pair_cells {n : Nat} {t e : TypeId} {cs : List Value} {a b : Int} {p : List MemPlace} (ht : P.underlying t = some (.array 2 e)) (he : P.underlying e = some (.int .i64)) (hc : P.cellsOf e = 1) (hz : P.cellsOf t = 2)
    (h : DataW.trod enc P w base spare held n t cs = some (.agg [.lit (.int .i64 a), .lit (.int .i64 b)], p)) : cs = [.int .i64 a, .int .i64 b] := by
  obtain ⟨xs, m, _, hx, hl, hlen, hel⟩ := DataW.trod_array ht h
  have h0 := hel 0 (by decide)
  have h1 := hel 1 (by decide)
  rw [hc] at h0 h1
  rw [hz] at hl
  match cs, hl with
  | [c0, c1], _ =>
    match xs, hlen with
    | [y0, y1], _ =>
      obtain ⟨k0, e0, x0, _⟩ := DataW.trod_int he (x := y0) (by simpa using h0)
      obtain ⟨k1, e1, x1, _⟩ := DataW.trod_int he (x := y1) (by simpa using h1)
      simp only [Prod.mk.injEq, x0, x1, List.map_cons, List.map_nil, DataW.agg.injEq, List.cons.injEq, DataW.lit.injEq, Lit.int.injEq, true_and, and_true] at hx
      obtain ⟨⟨rfl, rfl⟩, _⟩ := hx
      simp at e0 e1
      rw [e0, e1]
end
section
variable {H : Type} {enc : TypeId × Value → H} {w : World} {base : Nat} {spare : Nat → Bool} {held : Bool}
theorem ver_fields : ∃ f0 f1 f2 : Field, Tryd.prog.underlying 107 = some (.struct #[f0, f1, f2]) ∧ (f0.offset = 0 ∧ f1.offset = 1 ∧ f2.offset = 2) ∧ (Tryd.prog.cellsOf f0.type = 1 ∧ Tryd.prog.cellsOf f1.type = 1 ∧ Tryd.prog.cellsOf f2.type = 1) ∧ Tryd.prog.underlying f0.type = some (.int .i64) ∧ Tryd.prog.underlying f1.type = some (.int .i64) ∧ Tryd.prog.underlying f2.type = some (.int .i64) :=
  ⟨_, _, _, Tryd.underlying107, ⟨rfl, rfl, rfl⟩, ⟨by kernel_rfl, by kernel_rfl, by kernel_rfl⟩, by kernel_rfl, by kernel_rfl, by kernel_rfl⟩
theorem ver_row {n : Nat} {cs : List Value} {a b c : Int} {p : List MemPlace} (h : DataW.trod enc Tryd.prog w base spare held n 107 cs = some (.agg [.lit (.int .i64 a), .lit (.int .i64 b), .lit (.int .i64 c)], p)) : cs = [.int .i64 a, .int .i64 b, .int .i64 c] := by
  obtain ⟨f0, f1, f2, hs, ⟨o0, o1, o2⟩, ⟨z0, z1, z2⟩, t0, t1, t2⟩ := ver_fields
  obtain ⟨xs, m, _, hx, hl, hlen, hF⟩ := DataW.trod_struct hs h
  rw [show Tryd.prog.cellsOf 107 = 3 by kernel_rfl] at hl
  have e0 := hF 0 f0 rfl
  have e1 := hF 1 f1 rfl
  have e2 := hF 2 f2 rfl
  rw [o0, z0] at e0
  rw [o1, z1] at e1
  rw [o2, z2] at e2
  match cs, hl with
  | [c0, c1, c2], _ =>
    match xs, hlen with
    | [y0, y1, y2], _ =>
      obtain ⟨k0, q0, x0, _⟩ := DataW.trod_int t0 (x := y0) (by simpa using e0)
      obtain ⟨k1, q1, x1, _⟩ := DataW.trod_int t1 (x := y1) (by simpa using e1)
      obtain ⟨k2, q2, x2, _⟩ := DataW.trod_int t2 (x := y2) (by simpa using e2)
      simp only [Prod.mk.injEq, x0, x1, x2, List.map_cons, List.map_nil, DataW.agg.injEq, List.cons.injEq, DataW.lit.injEq, Lit.int.injEq, true_and, and_true] at hx
      obtain ⟨⟨rfl, rfl, rfl⟩, _⟩ := hx
      simp at q0 q1 q2
      rw [q0, q1, q2]
theorem ver_rows {n : Nat} {cs : List Value} {p : List MemPlace} (h : DataW.trod enc Tryd.prog w base spare held n 110 cs = some (Rows.laid_palanquin_ipip_versions, p)) : cs = [.int .i64 4, .int .i64 4, .int .i64 2048, .int .i64 6, .int .i64 41, .int .i64 34525] := by
  obtain ⟨xs, m, _, hx, hl, hlen, hel⟩ := DataW.trod_array Tryd.underlying110 h
  have h0 := hel 0 (by decide)
  have h1 := hel 1 (by decide)
  rw [show Tryd.prog.cellsOf 107 = 3 by kernel_rfl] at h0 h1
  rw [show Tryd.prog.cellsOf 110 = 6 by kernel_rfl] at hl
  match cs, hl with
  | [c0, c1, c2, c3, c4, c5], _ =>
    match xs, hlen with
    | [(d0, p0), (d1, p1)], _ =>
      simp only [Rows.laid_palanquin_ipip_versions, Prod.mk.injEq, List.map_cons, List.map_nil, DataW.agg.injEq, List.cons.injEq, and_true] at hx
      obtain ⟨⟨rfl, rfl⟩, _⟩ := hx
      have e0 := ver_row (p := p0) (by simpa using h0)
      have e1 := ver_row (p := p1) (by simpa using h1)
      simp at e0 e1
      obtain ⟨rfl, rfl, rfl⟩ := e0
      obtain ⟨rfl, rfl, rfl⟩ := e1
      rfl
end
theorem tab_of {W : World} {n : String} {g : Nat} {cs : Array Value} {l : List Int} (hg : Tryd.prog.globalNamed n = some g) (hv : W.var? Tryd.prog n = some cs) (hcs : cs.toList = l.map (Value.int .i64)) : TabAt W g l := fun j x hj => by
  rw [World.var?_cell hg hv j, ← Array.getElem?_toList, hcs, List.getElem?_map, hj]
  rfl
theorem gv_of {W : World} {g t : Nat} {cs : Array Value} {f : Nat} {p : List MemPlace} (hg : Tryd.prog.globalNamed "palanquin/ipip.versions" = some g) (ht : (Tryd.prog.globals[g]?).map (·.type) = some t) (hv : W.var? Tryd.prog "palanquin/ipip.versions" = some cs)
    (hd : DataW.trod (fun _ => ()) Tryd.prog W 0 (fun _ => true) false f t cs.toList = some (Rows.laid_palanquin_ipip_versions, p)) : GV W := by
  obtain rfl := Option.some.inj ((show Tryd.prog.globalNamed "palanquin/ipip.versions" = some 0 by kernel_rfl).symm.trans hg)
  obtain rfl := Option.some.inj ((show (Tryd.prog.globals[0]?).map (·.type) = some 110 by kernel_rfl).symm.trans ht)
  exact tab_of hg hv (ver_rows hd)
theorem laid_gv {W : World} (h : laidMetH Tryd.prog [("palanquin/ipip.versions", Rows.laid_palanquin_ipip_versions)] W) : GV W := by
  rw [MakeChecks.laidMetH_plain _ _ _ (by kernel_rfl)] at h
  obtain ⟨ps, ⟨g0, t0, cs0, f0, p0, q0, hg0, ht0, hv0, hd0, _, _⟩, _, _⟩ := h
  exact gv_of hg0 ht0 hv0 hd0
theorem places_rows {H : Type} {enc : TypeId × Value → H} {w : World} {base : Nat} {spare : Nat → Bool} {held : Bool} {n : Nat} {cs : List Value} {p : List MemPlace} (h : DataW.trod enc Tryd.prog w base spare held n 135 cs = some (Rows.laid_palanquin_flow_places, p)) : cs = [.int .i64 6, .int .i64 16, .int .i64 17, .int .i64 6] := by
  obtain ⟨xs, m, _, hx, hl, hlen, hel⟩ := DataW.trod_array Tryd.underlying135 h
  have h0 := hel 0 (by decide)
  have h1 := hel 1 (by decide)
  rw [show Tryd.prog.cellsOf 134 = 2 by kernel_rfl] at h0 h1
  rw [show Tryd.prog.cellsOf 135 = 4 by kernel_rfl] at hl
  match cs, hl with
  | [c0, c1, c2, c3], _ =>
    match xs, hlen with
    | [(d0, p0), (d1, p1)], _ =>
      simp only [Rows.laid_palanquin_flow_places, Prod.mk.injEq, List.map_cons, List.map_nil, DataW.agg.injEq, List.cons.injEq, and_true] at hx
      obtain ⟨⟨rfl, rfl⟩, _⟩ := hx
      have e0 := pair_cells (p := p0) Tryd.underlying134 (by kernel_rfl) (by kernel_rfl) (by kernel_rfl) (by simpa using h0)
      have e1 := pair_cells (p := p1) Tryd.underlying134 (by kernel_rfl) (by kernel_rfl) (by kernel_rfl) (by simpa using h1)
      simp at e0 e1
      obtain ⟨rfl, rfl⟩ := e0
      obtain ⟨rfl, rfl⟩ := e1
      rfl
theorem laid_gp {W : World} (h : laidMetH Tryd.prog [("palanquin/ipip.versions", Rows.laid_palanquin_ipip_versions), ("palanquin/flow.places", Rows.laid_palanquin_flow_places), ("palanquin/flow.least", Rows.laid_palanquin_flow_least)] W) : GV W ∧ GP W := by
  rw [MakeChecks.laidMetH_plain _ _ _ (by kernel_rfl)] at h
  obtain ⟨ps, ⟨g0, t0, cs0, f0, p0, q0, hg0, ht0, hv0, hd0, ⟨g1, t1, cs1, f1, p1, q1, hg1, ht1, hv1, hd1, ⟨g2, t2, cs2, f2, p2, q2, hg2, ht2, hv2, hd2, _, _⟩, _⟩, _⟩, _, _⟩ := h
  refine ⟨gv_of hg0 ht0 hv0 hd0, ?_, ?_⟩
  · obtain rfl := Option.some.inj ((show Tryd.prog.globalNamed "palanquin/flow.places" = some 1 by kernel_rfl).symm.trans hg1)
    obtain rfl := Option.some.inj ((show (Tryd.prog.globals[1]?).map (·.type) = some 135 by kernel_rfl).symm.trans ht1)
    exact tab_of hg1 hv1 (places_rows hd1)
  · obtain rfl := Option.some.inj ((show Tryd.prog.globalNamed "palanquin/flow.least" = some 2 by kernel_rfl).symm.trans hg2)
    obtain rfl := Option.some.inj ((show (Tryd.prog.globals[2]?).map (·.type) = some 134 by kernel_rfl).symm.trans ht2)
    exact tab_of hg2 hv2 (pair_cells Tryd.underlying134 (by kernel_rfl) (by kernel_rfl) (by kernel_rfl) hd2)
end Go.Proofs.YtcmalglippmocaaDoor.Pal
end
