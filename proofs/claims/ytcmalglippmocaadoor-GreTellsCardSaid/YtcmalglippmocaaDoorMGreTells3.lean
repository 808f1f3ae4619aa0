/- Texts of this session, joined: each is a section. -/
import Derived.Test.YtcmalglippmocaaDoorMGrbg1
import Derived.Test.YtcmalglippmocaaDoorMGreTells1
import Derived.Test.YtcmalglippmocaaDoorMGrbg2
import Derived.Test.YtcmalglippmocaaDoorMGrbg3
import Derived.Test.YtcmalglippmocaaDoorMGreTells2
import Derived.Test.YtcmalglippmocaaDoorWWords
import Derived.Deep.Fields
import Derived.Deep.Strs
import Derived.WideShapes
import Derived.ChangeArms
import Derived.Test.YtcmalglippmocaaDoorTie
import Derived.ProofKit
import Derived.LaidMore
import Derived.OpenShut
set_option linter.unusedVariables false
set_option linter.unusedSimpArgs false
section
namespace Go.Proofs.YtcmalglippmocaaDoor.G
open Go.RowKit Go.Proofs.YtcmalglippmocaaDoorW.PrintWords Go.Proofs.YtcmalglippmocaaDoorW.PrintLast Go.Proofs.YtcmalglippmocaaDoorW.PrintMore
attribute [local go_sem] max2_int min2_int max_two min_two max_three min_three max_four min_four   -- for this text's walks alone
set_option linter.unusedVariables false
set_option linter.unusedSimpArgs false

attribute [local go_sem high] eqA40
/-! ### palanquinlaw12_GreTells: function 6 -/
def palanquinlaw12_GreTells.j0 : Nat → Bool → Bool → Int → ByteArray → ByteArray → Bool → Option (Bool)
  | 0, _, _, _, _, _, _ => none
  | k + 1, x0, x1, x2, x3, x4, x30 => if x30 = true then (some true) else ((gre_Put.f x0 x1 x2 x3).bind fun bt198 => ((palanquinref12_Put.f k x0 x1 x2 x3).bind fun bt200 => ((gre_Get.f x4).bind fun bt202 => ((palanquinref12_Get.f k x4).bind fun bt208 => (if bt198.1.toList = bt200.1.toList then (if bt198.2 = bt200.2 then (if (bt202.1 == bt208.1 && (bt202.2.1 == bt208.2.1 && (bt202.2.2.1 == bt208.2.2.1))) = true then (if bt202.2.2.2.1.toList = bt208.2.2.2.1.toList then (some (bt202.2.2.2.2 == bt208.2.2.2.2)) else (some false)) else (some false)) else (some false)) else (some false))))))
def palanquinlaw12_GreTells.f (k : Nat) (a0 : Bool) (a1 : Bool) (a2 : Int) (a3 : ByteArray) (a4 : ByteArray) : Option (Bool) := (palanquinlaw12_awake.f).bind fun t197 => (if t197 = true then (if (a3.size : Int) > 5000 then (palanquinlaw12_GreTells.j0 k a0 a1 a2 a3 a4 true) else (palanquinlaw12_GreTells.j0 k a0 a1 a2 a3 a4 (decide ((a4.size : Int) > 5000)))) else (some false))
theorem palanquinlaw12_GreTells.mono_l : ∀ k, (∀ y0 y1 y2 y3 y4 y5, LeO (palanquinlaw12_GreTells.j0 k y0 y1 y2 y3 y4 y5) (palanquinlaw12_GreTells.j0 (k + 1) y0 y1 y2 y3 y4 y5))
  | 0 => fun _ _ _ _ _ _ r h => by simp [palanquinlaw12_GreTells.j0] at h
  | k + 1 => by
    have ih0 := palanquinlaw12_GreTells.mono_l k
    · intro y0 y1 y2 y3 y4 y5
      unfold palanquinlaw12_GreTells.j0
      repeat' first
      | (with_reducible exact ih0 _ _ _ _ _ _)
      | (with_reducible exact palanquinref12_Get.mono _ _)
      | (with_reducible exact palanquinref12_Put.mono _ _ _ _ _)
      | (with_reducible exact LeO.refl _)
      | (with_reducible exact LeO.none _)
      | (with_reducible refine LeO.ite ?_ ?_)
      | (with_reducible refine LeO.bind ?_ (fun _ => ?_))
      | exact ih0 _ _ _ _ _ _
      | exact palanquinref12_Get.mono _ _
      | exact palanquinref12_Put.mono _ _ _ _ _
      | exact LeO.none _
      | refine LeO.ite ?_ ?_
      | refine LeO.bind ?_ (fun _ => ?_)
theorem palanquinlaw12_GreTells.mono : ∀ a0 a1 a2 a3 a4 k, LeO (palanquinlaw12_GreTells.f k a0 a1 a2 a3 a4) (palanquinlaw12_GreTells.f (k + 1) a0 a1 a2 a3 a4) := by
  intro a0 a1 a2 a3 a4 k
  have ih0 := palanquinlaw12_GreTells.mono_l k
  unfold palanquinlaw12_GreTells.f
  repeat' first
      | (with_reducible exact ih0 _ _ _ _ _ _)
      | (with_reducible exact palanquinref12_Get.mono _ _)
      | (with_reducible exact palanquinref12_Put.mono _ _ _ _ _)
      | (with_reducible exact LeO.refl _)
      | (with_reducible exact LeO.none _)
      | (with_reducible refine LeO.ite ?_ ?_)
      | (with_reducible refine LeO.bind ?_ (fun _ => ?_))
      | exact ih0 _ _ _ _ _ _
      | exact palanquinref12_Get.mono _ _
      | exact palanquinref12_Put.mono _ _ _ _ _
      | exact LeO.none _
      | refine LeO.ite ?_ ?_
      | refine LeO.bind ?_ (fun _ => ?_)
set_option maxHeartbeats 8000000 in
set_option maxRecDepth 100000 in
theorem palanquinlaw12_GreTells.calls (k : Nat) (a0 : Bool) (a1 : Bool) (a2 : Int) (a3 : ByteArray) (a4 : ByteArray) (r : Bool) (w : World) (h : palanquinlaw12_GreTells.f k a0 a1 a2 a3 a4 = some r) (hrt_ : Aside0 (r = true)) (hgV_ : GV w) :
    Calls Tryd.prog 6 #[.bool a0, .bool a1, .int .u32 a2, .string a3, .string a4] w fun e w' => e = .returned (.bool r) ∧ Below w.heap.size w w' := by
  have HgV_ := Aside0.mk hgV_
  clear hgV_
  have hu40 := Tryd.underlying40
  have hu42 := Tryd.underlying42
  have HB := Aside0.mk (Below.refl w.heap.size w)
  have H : ((palanquinlaw12_awake.f).bind fun t197 => (if t197 = true then (if (a3.size : Int) > 5000 then (palanquinlaw12_GreTells.j0 k a0 a1 a2 a3 a4 true) else (palanquinlaw12_GreTells.j0 k a0 a1 a2 a3 a4 (decide ((a4.size : Int) > 5000)))) else (some false))) = some r := h
  clear h
  replace H := Option.bind_eq_some_iff.mp H
  obtain ⟨t197, A60, H⟩ := H
  replace H : (if t197 = true then (if (a3.size : Int) > 5000 then (palanquinlaw12_GreTells.j0 k a0 a1 a2 a3 a4 true) else (palanquinlaw12_GreTells.j0 k a0 a1 a2 a3 a4 (decide ((a4.size : Int) > 5000)))) else (some false)) = some r := H
  have A6 := Aside0.mk A60
  clear A60
  by_cases c7 : t197 = true
  · subst c7
    have H1 : (if (a3.size : Int) > 5000 then (palanquinlaw12_GreTells.j0 k a0 a1 a2 a3 a4 true) else (palanquinlaw12_GreTells.j0 k a0 a1 a2 a3 a4 (decide ((a4.size : Int) > 5000)))) = some r := by rw [if_pos rfl] at H; exact H
    clear H
    have H := H1
    clear H1
    have HC8 := Aside0.mk H
    clear H
    go_enter Tryd.func6, Tryd.ntmps6
    go_upto_region 3 with (first | ((with_reducible refine gate_callee (f := 28) rfl ?_); refine goesL_ (some 21) rfl rfl Tryd.func28 (by kernel_rfl) rfl #[] rfl (by (try simp only [List.map_toArray, List.map_cons, List.map_nil]); first | done | rfl | (simp only [List.length_drop, List.length_take]; rfl)) ?_; (with_reducible refine (palanquinlaw12_awake.calls  true _ A6.out (GV.below HgV_.out (by repeat (first | (with_reducible first | exact HB.out | apply below_alloc | apply pw_below_drewN | apply below_drew1 | refine below_set ?_ GE207.out | refine below_set ?_ GE213.out) | exact HB.out)))).mono ?_); rintro e w9 ⟨rfl, hb⟩; refine ⟨_, rfl, ?_⟩; have n0_ := Aside0.mk (below_step (by repeat (first | (with_reducible first | exact HB.out | apply below_alloc | apply pw_below_drewN | apply below_drew1) | exact HB.out)) hb); clear HB; have HB := n0_; clear n0_; (try clear hb); (try clear hb2); (try clear hk); (try clear hi)))
    (try simp only [Act.put, List.setIfInBounds_toArray, List.set_cons_zero, List.set_cons_succ])
    go_cut [30] (fun v30 wc => ∃ (kq : Nat) (x30_7 : Bool), v30 = .bool x30_7 ∧ Aside0 (palanquinlaw12_GreTells.j0 kq a0 a1 a2 a3 a4 x30_7 = some r) ∧ Aside0 (kq ≤ k) ∧ Aside0 (Below w.heap.size w wc))
    case first =>
      have H := HC8.out
      clear HC8
      by_cases c10 : (a3.size : Int) > 5000
      · rw [if_pos c10] at H
        have c10b0 : decide (5000 < (a3.size : Int)) = true := decide_eq_true c10
        have c10b1 : decide (5000 < a3.size) = true := decide_eq_true (by omega)
        clear c10
        (first | rw [c10b0] | (simp only [i64_w, i32_w]; rw [c10b0]) | skip)
        have H' := Aside0.mk H
        clear H
        go_wp2
        go_meet
        case rel => exact ⟨_, (true), (by first | rfl | (simp; done) | (simp [*]; done)), H', ⟨by first | omega | exact Nat.le_refl _⟩, ⟨by repeat (first | (with_reducible first | exact HB.out | apply below_alloc | apply pw_below_drewN | apply below_drew1) | exact HB.out)⟩⟩
      · rw [if_neg c10] at H
        have c10b0 : decide (5000 < (a3.size : Int)) = false := decide_eq_false c10
        have c10b1 : decide (5000 < a3.size) = false := decide_eq_false (by omega)
        clear c10
        (first | rw [c10b0] | (simp only [i64_w, i32_w]; rw [c10b0]) | skip)
        have H' := Aside0.mk H
        clear H
        go_wp2
        go_meet
        case rel => exact ⟨_, (decide ((a4.size : Int) > 5000)), (by first | rfl | (simp; done) | (simp [*]; done)), H', ⟨by first | omega | exact Nat.le_refl _⟩, ⟨by repeat (first | (with_reducible first | exact HB.out | apply below_alloc | apply pw_below_drewN | apply below_drew1) | exact HB.out)⟩⟩
    case rest =>
      clear HC8
      try clear c1
      try clear c2
      try clear p2
      try clear c6
      try clear c7
      try clear c10
      try clear c10b0
      try clear c10b1
      obtain ⟨kq, x30_7, rfl, HA, HJ7, HB⟩ := hcut
      cases kq with
      | zero => exact absurd HA.out (by simp [palanquinlaw12_GreTells.j0])
      | succ kj7 =>
        have H := HA.out
        clear HA
        simp only [palanquinlaw12_GreTells.j0] at H
        by_cases c11 : x30_7 = true
        · subst c11
          have H1 : (some true) = some r := by rw [if_pos rfl] at H; exact H
          clear H
          have H := H1
          clear H1
          obtain rfl := Option.some.inj H
          go_wp2
          go_ret
          exact ⟨by first | rfl | (simp [errW_none, errW_some] <;> rfl) | (simp [*, errW_none, errW_some] <;> rfl), by repeat (first | (with_reducible first | exact HB.out | apply below_alloc | apply pw_below_drewN | apply below_drew1) | exact HB.out)⟩
        · replace c11 := Bool.eq_false_iff.mpr c11
          subst c11
          have H1 : ((gre_Put.f a0 a1 a2 a3).bind fun bt198 => ((palanquinref12_Put.f kj7 a0 a1 a2 a3).bind fun bt200 => ((gre_Get.f a4).bind fun bt202 => ((palanquinref12_Get.f kj7 a4).bind fun bt208 => (if bt198.1.toList = bt200.1.toList then (if bt198.2 = bt200.2 then (if (bt202.1 == bt208.1 && (bt202.2.1 == bt208.2.1 && (bt202.2.2.1 == bt208.2.2.1))) = true then (if bt202.2.2.2.1.toList = bt208.2.2.2.1.toList then (some (bt202.2.2.2.2 == bt208.2.2.2.2)) else (some false)) else (some false)) else (some false)) else (some false)))))) = some r := by rw [if_neg (show ¬ (false = true) by decide)] at H; exact H
          clear H
          have H := H1
          clear H1
          replace H := Option.bind_eq_some_iff.mp H
          obtain ⟨⟨t198, t199⟩, A120, H⟩ := H
          replace H : ((palanquinref12_Put.f kj7 a0 a1 a2 a3).bind fun bt200 => ((gre_Get.f a4).bind fun bt202 => ((palanquinref12_Get.f kj7 a4).bind fun bt208 => (if t198.toList = bt200.1.toList then (if t199 = bt200.2 then (if (bt202.1 == bt208.1 && (bt202.2.1 == bt208.2.1 && (bt202.2.2.1 == bt208.2.2.1))) = true then (if bt202.2.2.2.1.toList = bt208.2.2.2.1.toList then (some (bt202.2.2.2.2 == bt208.2.2.2.2)) else (some false)) else (some false)) else (some false)) else (some false))))) = some r := H
          have A12 := Aside0.mk A120
          clear A120
          replace H := Option.bind_eq_some_iff.mp H
          obtain ⟨⟨t200, t201⟩, A130, H⟩ := H
          replace H : ((gre_Get.f a4).bind fun bt202 => ((palanquinref12_Get.f kj7 a4).bind fun bt208 => (if t198.toList = t200.toList then (if t199 = t201 then (if (bt202.1 == bt208.1 && (bt202.2.1 == bt208.2.1 && (bt202.2.2.1 == bt208.2.2.1))) = true then (if bt202.2.2.2.1.toList = bt208.2.2.2.1.toList then (some (bt202.2.2.2.2 == bt208.2.2.2.2)) else (some false)) else (some false)) else (some false)) else (some false)))) = some r := H
          have A13 := Aside0.mk A130
          clear A130
          replace H := Option.bind_eq_some_iff.mp H
          obtain ⟨⟨t202, t203, t204, t205, t206⟩, A140, H⟩ := H
          replace H : ((palanquinref12_Get.f kj7 a4).bind fun bt208 => (if t198.toList = t200.toList then (if t199 = t201 then (if (t202 == bt208.1 && (t203 == bt208.2.1 && (t204 == bt208.2.2.1))) = true then (if t205.toList = bt208.2.2.2.1.toList then (some (t206 == bt208.2.2.2.2)) else (some false)) else (some false)) else (some false)) else (some false))) = some r := H
          have A14 := Aside0.mk A140
          clear A140
          replace H := Option.bind_eq_some_iff.mp H
          obtain ⟨⟨t208, t209, t210, t211, t212⟩, A150, H⟩ := H
          replace H : (if t198.toList = t200.toList then (if t199 = t201 then (if (t202 == t208 && (t203 == t209 && (t204 == t210))) = true then (if t205.toList = t211.toList then (some (t206 == t212)) else (some false)) else (some false)) else (some false)) else (some false)) = some r := H
          have A15 := Aside0.mk A150
          clear A150
          by_cases c16 : t198.toList = t200.toList
          · rw [if_pos c16] at H
            have c16b0 : (t198.toList == t200.toList) = true := beq_iff_eq.mpr c16
            have c16b1 : (t198.toList != t200.toList) = false := bne_eq_false_iff_eq.mpr c16
            clear c16
            by_cases c17 : t199 = t201
            · rw [if_pos c17] at H
              have c17b0 : (t199 == t201) = true := beq_iff_eq.mpr c17
              have c17b1 : (t199 != t201) = false := bne_eq_false_iff_eq.mpr c17
              clear c17
              by_cases c18 : (t202 == t208 && (t203 == t209 && (t204 == t210))) = true
              · rw [if_pos c18] at H
                have c18b0 : (t202 == t208 && (t203 == t209 && (t204 == t210))) = true := c18
                (try (have c18b1 : decide (t202 = t208 && (t203 == t209 && (t204 == t210))) = true := by simpa using c18))
                (try (have c18b2 : (t202 == t208 && (t203 == t209 && (t204 == t210))) = true := by simpa using c18))
                (try (have c18b3 : ((t202 = t208 ∧ (t203 = t209 ∧ (t204 = t210)))) = True := by simpa using c18))
                clear c18
                by_cases c19 : t205.toList = t211.toList
                · rw [if_pos c19] at H
                  have c19b0 : (t205.toList == t211.toList) = true := beq_iff_eq.mpr c19
                  have c19b1 : (t205.toList != t211.toList) = false := bne_eq_false_iff_eq.mpr c19
                  clear c19
                  obtain rfl := Option.some.inj H
                  go_wp2_with (first | ((with_reducible refine gate_callee (f := 29) rfl ?_); refine goesL_ (some 37) rfl rfl Tryd.func29 (by kernel_rfl) rfl #[.agg #[.bool a0, .bool a1, .int .u32 a2], .string a3] rfl (by (try simp only [List.map_toArray, List.map_cons, List.map_nil]); first | done | rfl | (simp only [List.length_drop, List.length_take]; rfl)) ?_; (with_reducible refine (gre_Put.calls a0 a1 a2 a3 t198 t199 _ A12.out (GV.below HgV_.out (by repeat (first | (with_reducible first | exact HB.out | apply below_alloc | apply pw_below_drewN | apply below_drew1 | refine below_set ?_ GE207.out | refine below_set ?_ GE213.out) | exact HB.out)))).mono ?_); rintro e w20 ⟨rfl, hb⟩; refine ⟨_, rfl, ?_⟩; have n0_ := Aside0.mk (below_step (by repeat (first | (with_reducible first | exact HB.out | apply below_alloc | apply pw_below_drewN | apply below_drew1) | exact HB.out)) hb); clear HB; have HB := n0_; clear n0_; (try clear hb); (try clear hb2); (try clear hk); (try clear hi)) | ((with_reducible refine gate_callee (f := 30) rfl ?_); refine goesL_ (some 46) rfl rfl Tryd.func30 (by kernel_rfl) rfl #[.agg #[.bool a0, .bool a1, .int .u32 a2], .string a3] rfl (by (try simp only [List.map_toArray, List.map_cons, List.map_nil]); first | done | rfl | (simp only [List.length_drop, List.length_take]; rfl)) ?_; (with_reducible refine (palanquinref12_Put.calls kj7 a0 a1 a2 a3 t200 t201 _ A13.out).mono ?_); rintro e w21 ⟨rfl, hb⟩; refine ⟨_, rfl, ?_⟩; have n0_ := Aside0.mk (below_step (by repeat (first | (with_reducible first | exact HB.out | apply below_alloc | apply pw_below_drewN | apply below_drew1) | exact HB.out)) hb); clear HB; have HB := n0_; clear n0_; (try clear hb); (try clear hb2); (try clear hk); (try clear hi)) | ((with_reducible refine gate_callee (f := 31) rfl ?_); refine goesL_ (some 51) rfl rfl Tryd.func31 (by kernel_rfl) rfl #[.string a4] rfl (by (try simp only [List.map_toArray, List.map_cons, List.map_nil]); first | done | rfl | (simp only [List.length_drop, List.length_take]; rfl)) ?_; (with_reducible refine (gre_Get.calls a4 t202 t203 t204 t205 t206 _ A14.out (GV.below HgV_.out (by repeat (first | (with_reducible first | exact HB.out | apply below_alloc | apply pw_below_drewN | apply below_drew1 | refine below_set ?_ GE207.out | refine below_set ?_ GE213.out) | exact HB.out)))).mono ?_); rintro e w22 ⟨rfl, hb⟩; refine ⟨_, rfl, ?_⟩; have n0_ := Aside0.mk (below_step (by repeat (first | (with_reducible first | exact HB.out | apply below_alloc | apply pw_below_drewN | apply below_drew1) | exact HB.out)) hb); clear HB; have HB := n0_; clear n0_; (try clear hb); (try clear hb2); (try clear hk); (try clear hi)) | ((with_reducible refine gate_dst (N := 15) rfl ?_); (try (refine gate_guard (by rfl) ?_; dsimp only)); refine box_event ?hg (N := 15) ?hd (cs := #[.bool false, .bool false, .int .u32 0]) (t := 40) ?hr ?_; (case hd => rfl); (case hg => rfl); (case hr => first | (go_simp; done) | (go_simp; rfl)); intro gb207 hg w23 hbox hb; have n0_ := Aside0.mk (below_step (by repeat (first | (with_reducible first | exact HB.out | apply below_alloc | apply pw_below_drewN | apply below_drew1) | exact HB.out)) hb); have n1_ := Aside0.mk (hbox); have n2_ := Aside0.mk ((by rw [hg]; exact (below_size (by repeat (first | (with_reducible first | exact HB.out | apply below_alloc | apply pw_below_drewN | apply below_drew1) | exact HB.out))) : w.heap.size ≤ gb207)); have n3_ := Aside0.mk ((by rw [hg]; exact (below_size (by repeat (first | (with_reducible first | exact HB.out | apply below_alloc | apply pw_below_drewN | apply below_drew1) | exact HB.out))) : w.heap.size ≤ gb207)); clear HB; have HB := n0_; have BK207 := n1_; have GW207 := n2_; have GE207 := n3_; clear n0_ n1_ n2_ n3_; clear hb hbox hg; have hcz24_0 : w23.cell? ⟨gb207, 0, none⟩ = some (.bool false) := (blk_cell BK207.out 0).trans rfl; have hcz24_1 : w23.cell? ⟨gb207, 1, none⟩ = some (.bool false) := (blk_cell BK207.out 1).trans rfl; have hcz24_2 : w23.cell? ⟨gb207, 2, none⟩ = some (.int .u32 0) := (blk_cell BK207.out 2).trans rfl; have hfz24_0 := blk_frozen BK207.out 0; have hfz24_1 := blk_frozen BK207.out 1; have hfz24_2 := blk_frozen BK207.out 2) | ((with_reducible refine gate_callee (f := 32) rfl ?_); refine goesL_ (some 57) rfl rfl Tryd.func32 (by kernel_rfl) rfl #[.string a4] rfl (by (try simp only [List.map_toArray, List.map_cons, List.map_nil]); first | done | rfl | (simp only [List.length_drop, List.length_take]; rfl)) ?_; (with_reducible refine (palanquinref12_Get.calls kj7 a4 t208 t209 t210 t211 t212 _ A15.out).mono ?_); rintro e w25 ⟨rfl, hb⟩; refine ⟨_, rfl, ?_⟩; have n0_ := Aside0.mk (blk_below (g := gb207) (o := .cells #[.bool t202, .bool t203, .int .u32 t204] 40 (0, 0)) (by (with_reducible repeat (first | refine blk_drewN ?_ _ | refine blk_drew ?_ | refine blk_alloc ?_ _)); refine blk_put (cs := #[.bool t202, .bool t203, .int .u32 0]) ?_ 2 _ (by first | rfl | (simp [*]; done)); (with_reducible repeat (first | refine blk_drewN ?_ _ | refine blk_drew ?_ | refine blk_alloc ?_ _)); refine blk_put (cs := #[.bool t202, .bool false, .int .u32 0]) ?_ 1 _ (by first | rfl | (simp [*]; done)); (with_reducible repeat (first | refine blk_drewN ?_ _ | refine blk_drew ?_ | refine blk_alloc ?_ _)); refine blk_put (cs := #[.bool false, .bool false, .int .u32 0]) ?_ 0 _ (by first | rfl | (simp [*]; done)); (with_reducible repeat (first | refine blk_drewN ?_ _ | refine blk_drew ?_ | refine blk_alloc ?_ _)); exact BK207.out) hb); have n1_ := Aside0.mk (below_step (by repeat (first | (with_reducible first | exact HB.out | apply below_alloc | apply pw_below_drewN | apply below_drew1 | refine below_set ?_ GE207.out) | exact HB.out)) hb); clear BK207; clear HB; have BK207 := n0_; have HB := n1_; clear n0_ n1_; (try clear hb); (try clear hb2); (try clear hk); (try clear hi)) | ((with_reducible refine gate_dst (N := 18) rfl ?_); (try (refine gate_guard (by rfl) ?_; dsimp only)); refine box_event ?hg (N := 18) ?hd (cs := #[.bool false, .bool false, .int .u32 0]) (t := 42) ?hr ?_; (case hd => rfl); (case hg => rfl); (case hr => first | (go_simp; done) | (go_simp; rfl)); intro gb213 hg w26 hbox hb; have n0_ := Aside0.mk (blk_below (g := gb207) (o := .cells #[.bool t202, .bool t203, .int .u32 t204] 40 (0, 0)) (by (with_reducible repeat (first | refine blk_drewN ?_ _ | refine blk_drew ?_ | refine blk_alloc ?_ _)); exact BK207.out) hb); have n1_ := Aside0.mk (below_step (by repeat (first | (with_reducible first | exact HB.out | apply below_alloc | apply pw_below_drewN | apply below_drew1 | refine below_set ?_ GE207.out) | exact HB.out)) hb); have n2_ := Aside0.mk (hbox); have n3_ := Aside0.mk ((by rw [hg]; exact (below_size (by repeat (first | (with_reducible first | exact HB.out | apply below_alloc | apply pw_below_drewN | apply below_drew1 | refine below_set ?_ GE207.out) | exact HB.out))) : w.heap.size ≤ gb213)); have n4_ := Aside0.mk ((by rw [hg]; exact (below_size (by repeat (first | (with_reducible first | exact HB.out | apply below_alloc | apply pw_below_drewN | apply below_drew1 | refine below_set ?_ GE207.out) | exact HB.out))) : w.heap.size ≤ gb213)); have n5_ := Aside0.mk ((by rw [hg]; exact Nat.ne_of_lt (blk_lt (g := gb207) (o := .cells #[.bool t202, .bool t203, .int .u32 t204] 40 (0, 0)) (by (with_reducible repeat (first | refine blk_drewN ?_ _ | refine blk_drew ?_ | refine blk_alloc ?_ _)); exact BK207.out)) : gb207 ≠ gb213)); have n6_ := Aside0.mk ((by rw [hg]; exact Nat.ne_of_gt (blk_lt (g := gb207) (o := .cells #[.bool t202, .bool t203, .int .u32 t204] 40 (0, 0)) (by (with_reducible repeat (first | refine blk_drewN ?_ _ | refine blk_drew ?_ | refine blk_alloc ?_ _)); exact BK207.out)) : gb213 ≠ gb207)); clear BK207; clear HB; have BK207 := n0_; have HB := n1_; have BK213 := n2_; have GW213 := n3_; have GE213 := n4_; have NB207_213 := n5_; have NB213_207 := n6_; clear n0_ n1_ n2_ n3_ n4_ n5_ n6_; clear hb hbox hg; have hnb27 := NB213_207.out; have hnc27 := NB207_213.out; have hcz28_0 : w26.cell? ⟨gb213, 0, none⟩ = some (.bool false) := (blk_cell BK213.out 0).trans rfl; have hcz28_1 : w26.cell? ⟨gb213, 1, none⟩ = some (.bool false) := (blk_cell BK213.out 1).trans rfl; have hcz28_2 : w26.cell? ⟨gb213, 2, none⟩ = some (.int .u32 0) := (blk_cell BK213.out 2).trans rfl; have hfz28_0 := blk_frozen BK213.out 0; have hfz28_1 := blk_frozen BK213.out 1; have hfz28_2 := blk_frozen BK213.out 2; have hcz29_0 : w26.cell? ⟨gb207, 0, none⟩ = some (.bool t202) := (blk_cell BK207.out 0).trans rfl; have hcz29_1 : w26.cell? ⟨gb207, 1, none⟩ = some (.bool t203) := (blk_cell BK207.out 1).trans rfl; have hcz29_2 : w26.cell? ⟨gb207, 2, none⟩ = some (.int .u32 t204) := (blk_cell BK207.out 2).trans rfl; have hfz29_0 := blk_frozen BK207.out 0; have hfz29_1 := blk_frozen BK207.out 1; have hfz29_2 := blk_frozen BK207.out 2))
                  go_ret
                  exact ⟨by first | rfl | (simp [errW_none, errW_some] <;> rfl) | (simp [*, errW_none, errW_some] <;> rfl), by repeat (first | (with_reducible first | exact HB.out | apply below_alloc | apply pw_below_drewN | apply below_drew1 | refine below_set ?_ GE207.out | refine below_set ?_ GE213.out) | exact HB.out)⟩
                · rw [if_neg c19] at H
                  exact absurd ((Option.some.inj H).trans hrt_.out) (by decide)
              · rw [if_neg c18] at H
                exact absurd ((Option.some.inj H).trans hrt_.out) (by decide)
            · rw [if_neg c17] at H
              exact absurd ((Option.some.inj H).trans hrt_.out) (by decide)
          · rw [if_neg c16] at H
            exact absurd ((Option.some.inj H).trans hrt_.out) (by decide)
  · replace c7 := Bool.eq_false_iff.mpr c7
    subst c7
    have H1 : (some false) = some r := by rw [if_neg (show ¬ (false = true) by decide)] at H; exact H
    exact absurd ((Option.some.inj H1).trans hrt_.out) (by decide)

end Go.Proofs.YtcmalglippmocaaDoor.G
end

section
/- Plain facts of palanquinref01: Value reads a big-endian number, Bytes writes one. -/
namespace Go.Proofs.YtcmalglippmocaaDoor.Pure
open Go.RowKit Go.Proofs.YtcmalglippmocaaDoorW.PrintWords Go.Proofs.YtcmalglippmocaaDoorW.PrintLast Go.Proofs.YtcmalglippmocaaDoor.G Go.Proofs.YtcmalglippmocaaDoor.Pal
theorem bt_bl (s : ByteArray) (i : Nat) (h : i < s.size) : bt s (i : Int) = (((bl s)[i]'(by rw [bl_length]; exact h)).toNat : Int) := by
  unfold bt
  rw [dif_pos (by simpa using h)]
  rfl
theorem value_loop (s : ByteArray) (hs : s.size ≤ 8) : ∀ (n i k : Nat), i + n = s.size → n < k → palanquinref01_Value.l0 k s ((be ((bl s).take i) : Nat) : Int) (i : Int) = some ((be (bl s) : Nat) : Int)
  | 0, i, k + 1, hi, _ => by
    rw [palanquinref01_Value.l0, if_neg (by omega), List.take_of_length_le (by rw [bl_length]; omega)]
  | n + 1, i, k + 1, hi, hk => by
    have hlt : i < s.size := by omega
    have hlen : i < (bl s).length := by rw [bl_length]; exact hlt
    rw [palanquinref01_Value.l0, if_pos (by omega), if_pos (by omega)]
    have hb : (bl s)[i].toNat < 256 := (bl s)[i].toNat_lt
    have h1 : be ((bl s).take (i + 1)) = be ((bl s).take i) * 256 + (bl s)[i].toNat := by
      rw [List.take_succ_eq_append_getElem hlen, be_snoc]
    have h2 : be ((bl s).take (i + 1)) < 256 ^ 8 := be_lt_of _ 8 (by rw [List.length_take]; omega)
    have h3 : (256 : Nat) ^ 8 = 18446744073709551616 := by decide
    rw [bt_bl s i hlt, show wrap64 ((i : Int) + 1) = ((i + 1 : Nat) : Int) by unfold wrap64; omega,
      show IntKind.u64.wrap ((IntKind.u64.wrap (((be ((bl s).take i) : Nat) : Int) * 256)) + (IntKind.u64.wrap ((bl s)[i].toNat : Int))) = ((be ((bl s).take (i + 1)) : Nat) : Int) by rw [IntKind.wrap_u64, IntKind.wrap_u64, IntKind.wrap_u64]; omega]
    exact value_loop s hs n (i + 1) k (by omega) (by omega)
theorem value_is (s : ByteArray) (hs : s.size ≤ 8) (k : Nat) (hk : s.size < k) : palanquinref01_Value.f k s = some ((be (bl s) : Nat) : Int) := by
  have := value_loop s hs s.size 0 k (by omega) hk
  exact this
theorem byte_is (x : Int) (h0 : 0 ≤ x) : strOfNums [Int.tmod x 256 % 256] = ⟨#[UInt8.ofNat x.toNat]⟩ := by
  obtain ⟨n, rfl⟩ := Int.eq_ofNat_of_zero_le h0
  have e : Int.tmod (n : Int) 256 % 256 = ((n % 256 : Nat) : Int) := by rw [Int.tmod_eq_emod_of_nonneg (by omega)]; omega
  rw [e]
  simp [strOfNums]
  apply UInt8.toNat.inj
  simp
  omega
theorem bytes_loop (n : Nat) (hn : n ≤ 8) : ∀ (m i k x : Nat) (t : ByteArray), i + m = n → m < k → x ≤ 18446744073709551615 → t.size = i →
    ∃ r, palanquinref01_Bytes.l0 k (x : Int) (n : Int) t (i : Int) = some r ∧ bl r = nb m x ++ bl t
  | 0, i, k + 1, x, t, hi, _, _, _ => by
    refine ⟨t, ?_, by simp [nb]⟩
    rw [palanquinref01_Bytes.l0, if_neg (by omega)]
  | m + 1, i, k + 1, x, t, hi, hk, hx, ht => by
    have hd : IntKind.u64.wrap (Int.tdiv (x : Int) 256) = ((x / 256 : Nat) : Int) := by rw [IntKind.wrap_u64, Int.tdiv_eq_ediv_of_nonneg (by omega)]; omega
    have hb := byte_is (x : Int) (by omega)
    rw [Int.toNat_natCast] at hb
    have h1 : (⟨#[UInt8.ofNat x]⟩ : ByteArray).size = 1 := rfl
    obtain ⟨r, hr, hr2⟩ := bytes_loop n hn m (i + 1) k (x / 256) (⟨#[UInt8.ofNat x]⟩ ++ t) (by omega) (by omega) (by omega) (by rw [ByteArray.size_append, h1]; omega)
    refine ⟨r, ?_, ?_⟩
    · rw [palanquinref01_Bytes.l0, if_pos (by omega), Option.bind_some, hb, if_pos (by rw [h1]; omega), hd, show wrap64 ((i : Int) + 1) = ((i + 1 : Nat) : Int) by unfold wrap64; omega]
      exact hr
    · rw [hr2, bl_append, nb, List.append_assoc]
      rfl
theorem bytes_is (n : Nat) (hn : n ≤ 8) (x : Nat) (hx : x ≤ 18446744073709551615) (k : Nat) (hk : n < k) : ∃ r, palanquinref01_Bytes.f k (x : Int) (n : Int) = some r ∧ bl r = nb n x := by
  obtain ⟨r, h1, h2⟩ := bytes_loop n hn n 0 k x ⟨#[]⟩ (by omega) hk hx rfl
  refine ⟨r, h1, ?_⟩
  rw [h2]
  simp [bl]
theorem bytes_u (n : Nat) (hn : n ≤ 8) (v : Int) (k : Nat) (hk : n < k) : ∃ r, palanquinref01_Bytes.f k (IntKind.u64.wrap v) (n : Int) = some r ∧ bl r = nb n (IntKind.u64.wrap v).toNat := by
  have h0 : 0 ≤ IntKind.u64.wrap v ∧ IntKind.u64.wrap v ≤ 18446744073709551615 := by rw [IntKind.wrap_u64]; omega
  generalize IntKind.u64.wrap v = x at h0 ⊢
  obtain ⟨x, rfl⟩ := Int.eq_ofNat_of_zero_le h0.1
  obtain ⟨r, h1, h2⟩ := bytes_is n hn x (by omega) k hk
  exact ⟨r, h1, by rw [h2, Int.toNat_natCast]⟩
theorem bytes_sized {n : Nat} {r : ByteArray} {x : Nat} (h : bl r = nb n x) : r.size = n := by rw [← bl_length, h, nb_length]
end Go.Proofs.YtcmalglippmocaaDoor.Pure
end

section
/- Plain facts of palanquinref02: its sum is the checksum. -/
namespace Go.Proofs.YtcmalglippmocaaDoor.Pure
open Go.RowKit Go.Proofs.YtcmalglippmocaaDoorW.PrintWords Go.Proofs.YtcmalglippmocaaDoorW.PrintLast Go.Proofs.YtcmalglippmocaaDoor.G Go.Proofs.YtcmalglippmocaaDoor.Pal
namespace R2
theorem down_is : ∀ (k n : Nat), n < k → n ≤ 1099511627776 → palanquinref02_down.f k (n : Int) = some ((fold16 n : Nat) : Int)
  | k + 1, n, hk, hn => by
    unfold palanquinref02_down.f
    rw [palanquinref02_down.l0]
    by_cases h : (n : Int) ≥ 65536
    · rw [if_pos h, show wrap64 (Int.tmod (n : Int) 65536 + wrap64 (Int.tdiv (n : Int) 65536)) = ((n % 65536 + n / 65536 : Nat) : Int) by
        rw [Int.tmod_eq_emod_of_nonneg (by omega), Int.tdiv_eq_ediv_of_nonneg (by omega)]; unfold wrap64; omega]
      have := down_is k (n % 65536 + n / 65536) (by omega) (by omega)
      unfold palanquinref02_down.f at this
      rw [this, fold16_step]
    · rw [if_neg h, fold16_id n (by omega)]
/-- fewer rounds: each takes at least 65535 away -/
theorem down_fast : ∀ (k n : Nat), n ≤ 4294967296 → 2 < k → palanquinref02_down.f k (n : Int) = some ((fold16 n : Nat) : Int) := by
  intro k n hn hk
  obtain ⟨k, rfl⟩ : ∃ j, k = j + 3 := ⟨k - 3, by omega⟩
  have step : ∀ m : Nat, m ≤ 4294967296 → (m : Int) ≥ 65536 → wrap64 (Int.tmod (m : Int) 65536 + wrap64 (Int.tdiv (m : Int) 65536)) = ((m % 65536 + m / 65536 : Nat) : Int) := fun m hm h => by
    rw [Int.tmod_eq_emod_of_nonneg (by omega), Int.tdiv_eq_ediv_of_nonneg (by omega)]; unfold wrap64; omega
  unfold palanquinref02_down.f
  rw [palanquinref02_down.l0]
  by_cases h : (n : Int) ≥ 65536
  · rw [if_pos h, step n hn h, palanquinref02_down.l0]
    by_cases h2 : ((n % 65536 + n / 65536 : Nat) : Int) ≥ 65536
    · rw [if_pos h2, step _ (by omega) h2, palanquinref02_down.l0, if_neg (by omega)]
      congr 2
      rw [← fold16_step n, ← fold16_step (n % 65536 + n / 65536), fold16_id _ (by omega)]
    · rw [if_neg h2]
      congr 2
      rw [← fold16_step n, fold16_id _ (by omega)]
  · rw [if_neg h, fold16_id n (by omega)]
theorem tot_two (l : List UInt8) (i : Nat) (h : i + 1 < l.length) : tot false (l.take (i + 2)) = tot false (l.take i) + tot (odd (l.take i)) [l[i], l[i + 1]] := by
  have e : l.take (i + 2) = l.take i ++ [l[i], l[i + 1]] := by
    rw [List.take_succ_eq_append_getElem (by omega), List.take_succ_eq_append_getElem (by omega), List.append_assoc]; rfl
  rw [e, tot_append]
  cases odd (l.take i) <;> rfl
theorem sum_end (s : ByteArray) (hs : s.size ≤ 6000) (k : Nat) (hk : 3 < k) : palanquinref02_Sum.l0 k s ((tot false (bl s) : Nat) : Int) (s.size : Int) = some ((65535 - fold16 (tot false (bl s)) : Nat) : Int) := by
  obtain ⟨k, rfl⟩ : ∃ j, k = j + 1 := ⟨k - 1, by omega⟩
  have hb := tot_le (bl s) false
  rw [bl_length] at hb
  rw [palanquinref02_Sum.l0, if_neg (by omega), down_fast k _ (by omega) (by omega), Option.bind_some]
  have := fold16_le (tot false (bl s))
  congr 1; unfold wrap64; omega
theorem sum_num (z x y : Nat) (hz : z ≤ 391680000) (hx : x < 2 ^ 8) (hy : y < 2 ^ 8) : wrap64 (wrap64 ((z : Int) + wrap64 (wrap64 (x : Int) * 256)) + wrap64 (y : Int)) = ((z + (x * 256 + y) : Nat) : Int) := by
  have e1 : wrap64 (x : Int) = x := by unfold wrap64; omega
  have e2 : wrap64 (y : Int) = y := by unfold wrap64; omega
  have e3 : wrap64 ((x : Int) * 256) = (x : Int) * 256 := by unfold wrap64; omega
  have e4 : wrap64 ((z : Int) + (x : Int) * 256) = (z : Int) + (x : Int) * 256 := by unfold wrap64; omega
  rw [e1, e2, e3, e4]
  unfold wrap64; omega
theorem sum_step (s : ByteArray) (hs : s.size ≤ 6000) (i k : Nat) (hi : i % 2 = 0) (h1 : i + 1 < s.size) :
    palanquinref02_Sum.l0 (k + 1) s ((tot false ((bl s).take i) : Nat) : Int) (i : Int) = palanquinref02_Sum.l0 k s ((tot false ((bl s).take (i + 2)) : Nat) : Int) ((i + 2 : Nat) : Int) := by
  have h0 : i < s.size := by omega
  have hl1 : i + 1 < (bl s).length := by rw [bl_length]; exact h1
  have hb := tot_le ((bl s).take i) false
  have hl : ((bl s).take i).length ≤ 6000 := by rw [List.length_take, bl_length]; omega
  have ho : odd ((bl s).take i) = false := by
    unfold odd; rw [List.length_take, bl_length, Nat.min_eq_left (by omega), hi]; rfl
  have ht := tot_two (bl s) i hl1
  rw [ho] at ht
  simp only [tot, Nat.add_zero] at ht
  have b0 := (bl s)[i].toNat_lt
  have b1 := (bl s)[i + 1].toNat_lt
  have w1 : wrap64 ((i : Int) + 1) = ((i + 1 : Nat) : Int) := by unfold wrap64; omega
  have w2 : wrap64 ((i : Int) + 2) = ((i + 2 : Nat) : Int) := by unfold wrap64; omega
  have g0 : bt s (i : Int) = (((bl s)[i].toNat : Nat) : Int) := bt_bl s i h0
  have g1 : bt s ((i + 1 : Nat) : Int) = (((bl s)[i + 1].toNat : Nat) : Int) := bt_bl s (i + 1) h1
  rw [ht]
  generalize (bl s)[i].toNat = x at b0 g0 ⊢
  generalize (bl s)[i + 1].toNat = y at b1 g1 ⊢
  have hz : tot false ((bl s).take i) ≤ 391680000 := by omega
  generalize tot false ((bl s).take i) = z at hz ⊢
  clear hb hl ho ht hl1 hs
  rw [palanquinref02_Sum.l0, if_pos (by omega), if_pos (by omega), w1, w2, if_pos (by omega), if_pos (by omega), g0, g1]
  rw [sum_num z x y hz b0 b1]
theorem sum_loop (s : ByteArray) (hs : s.size ≤ 6000) (he : s.size % 2 = 0) (n : Nat) : ∀ (i k : Nat), i + 2 * n = s.size → n + 3 < k →
    palanquinref02_Sum.l0 k s ((tot false ((bl s).take i) : Nat) : Int) (i : Int) = some ((65535 - fold16 (tot false (bl s)) : Nat) : Int) := by
  induction n with
  | zero =>
    intro i k hi hk
    have e := sum_end s hs k (by omega)
    rw [List.take_of_length_le (by rw [bl_length]; omega), show i = s.size by omega]
    exact e
  | succ n ih =>
    intro i k hi hk
    obtain ⟨k, rfl⟩ : ∃ j, k = j + 1 := ⟨k - 1, by omega⟩
    rw [sum_step s hs i k (by omega) (by omega)]
    exact ih (i + 2) k (by omega) (by omega)
theorem zero_is : strOfNums [0] = ⟨#[0]⟩ := by simp [strOfNums]
theorem ref_sum (s : ByteArray) (hs : s.size ≤ 5000) (k : Nat) (hk : 5000 < k) : palanquinref02_Sum.f k s = some ((csum (bl s) : Nat) : Int) := by
  unfold palanquinref02_Sum.f
  obtain ⟨k, rfl⟩ : ∃ j, k = j + 1 := ⟨k - 1, by omega⟩
  by_cases h : (s.size : Int) % 2 = 1
  · have h1 : (⟨#[0]⟩ : ByteArray).size = 1 := rfl
    rw [if_pos h, Option.bind_some, zero_is, if_pos (by rw [h1]; omega), palanquinref02_Sum.j0]
    have e := sum_loop (s ++ ⟨#[0]⟩) (by rw [ByteArray.size_append, h1]; omega) (by rw [ByteArray.size_append, h1]; omega) ((s.size + 1) / 2) 0 k (by rw [ByteArray.size_append, h1]; omega) (by omega)
    refine Eq.trans e ?_
    rw [bl_append, tot_append]
    unfold csum
    have : ∀ o, tot o (bl (⟨#[0]⟩ : ByteArray)) = 0 := fun o => by cases o <;> rfl
    rw [this]; rfl
  · rw [if_neg h, palanquinref02_Sum.j0]
    exact sum_loop s (by omega) (by omega) (s.size / 2) 0 k (by omega) (by omega)
end R2
end Go.Proofs.YtcmalglippmocaaDoor.Pure
end

section
/- The plain law of GreTells: what is put and got is the document's. -/
namespace Go.Proofs.YtcmalglippmocaaDoor.Pure
open R2
open Go.RowKit Go.Proofs.YtcmalglippmocaaDoorW.PrintWords Go.Proofs.YtcmalglippmocaaDoorW.PrintLast Go.Proofs.YtcmalglippmocaaDoor.G Go.Proofs.YtcmalglippmocaaDoor.Pal
set_option linter.unusedVariables false
theorem u32_natT {a : Int} (h : (Lit.int .u32 a).wf = true) : ∃ v : Nat, a = (v : Int) ∧ v < 4294967296 := by
  simp [Lit.wf, IntKind.min, IntKind.max, IntKind.signed, IntKind.bits] at h
  exact ⟨a.toNat, by omega, by omega⟩
theorem ref_sum6 (s : ByteArray) (hs : s.size ≤ 5900) (k : Nat) (hk : 5000 < k) : palanquinref02_Sum.f k s = some ((csum (bl s) : Nat) : Int) := by
  unfold palanquinref02_Sum.f
  obtain ⟨k, rfl⟩ : ∃ j, k = j + 1 := ⟨k - 1, by omega⟩
  by_cases h : (s.size : Int) % 2 = 1
  · have h1 : (⟨#[0]⟩ : ByteArray).size = 1 := rfl
    rw [if_pos h, Option.bind_some, zero_is, if_pos (by rw [h1]; omega), palanquinref02_Sum.j0]
    have e := sum_loop (s ++ ⟨#[0]⟩) (by rw [ByteArray.size_append, h1]; omega) (by rw [ByteArray.size_append, h1]; omega) ((s.size + 1) / 2) 0 k (by rw [ByteArray.size_append, h1]; omega) (by omega)
    refine Eq.trans e ?_
    rw [bl_append, tot_append]
    unfold csum
    have : ∀ o, tot o (bl (⟨#[0]⟩ : ByteArray)) = 0 := fun o => by cases o <;> rfl
    rw [this]; rfl
  · rw [if_neg h, palanquinref02_Sum.j0]
    exact sum_loop s (by omega) (by omega) (s.size / 2) 0 k (by omega) (by omega)
theorem bytes_nat (n v : Nat) (hn : n ≤ 8) (hv : v ≤ 4294967295) (k : Nat) (hk : n < k) : ∃ r, palanquinref01_Bytes.f k (IntKind.u64.wrap ((v : Nat) : Int)) (n : Int) = some r ∧ bl r = nb n v ∧ r.size = n := by
  rw [show IntKind.u64.wrap ((v : Nat) : Int) = (v : Int) by rw [IntKind.wrap_u64]; omega]
  obtain ⟨r, h1, h2⟩ := bytes_is n hn v (by omega) k hk
  exact ⟨r, h1, h2, bytes_sized h2⟩
theorem bits_bytes (S K : Bool) : nb 1 ((if S then 128 else 0) + (if K then 32 else 0)) ++ [0] = nb 2 (greBits S K) := by cases S <;> cases K <;> decide
theorem refPut_ok {S K : Bool} {v : Nat} {x : ByteArray} (hv : v < 4294967296) (hx : x.size ≤ 5000) (he : (verOf x).2.2.2 = 0) (k : Nat) (hk : 5000 < k) : palanquinref12_Put.f (k + 1) S K v x = gre_Put.f S K v x := by
  obtain ⟨y, kd, c, h1, h2, hkd, hkl, h6, h7, h8⟩ := put_ok (S := S) (K := K) hv (x := x) (by omega) he
  rw [h1]
  unfold palanquinref12_Put.f
  rw [refKind_is, Option.bind_some]
  dsimp +instances only
  rw [if_pos he, hkd]
  have HE := Aside0.mk he
  have HKD := Aside0.mk hkd
  clear he hkd
  have j : ∀ (bits : Nat) (key : ByteArray), bits = (if K then 32 else 0) → bl key = (if K then nb 4 v else []) → palanquinref12_Put.j0 (k + 1) x (kd : Int) (bits : Int) key S K (v : Int) = some (y, 0) := by
    intro bits key hb hkey
    have hks : key.size ≤ 4 := by rw [← bl_length, hkey]; split <;> simp [nb_length]
    rw [palanquinref12_Put.j0]
    obtain ⟨t2, e2, b2, z2⟩ := bytes_nat 2 kd (by decide) (by omega) k (by omega)
    have zz : (⟨#[0]⟩ : ByteArray).size = 1 := rfl
    have zz2 : (⟨#[0, 0]⟩ : ByteArray).size = 2 := rfl
    have bz : bl (⟨#[0]⟩ : ByteArray) = [0] := rfl
    have bzz : bl (⟨#[0, 0]⟩ : ByteArray) = nb 2 0 := rfl
    cases hS : S with
    | true =>
      rw [hS] at h2 h7
      rw [if_pos rfl, show wrap64 ((bits : Int) + 128) = ((bits + 128 : Nat) : Int) by rw [hb]; unfold wrap64; split <;> omega]
      obtain ⟨t1, e1, b1, z1⟩ := bytes_nat 1 (bits + 128) (by decide) (by rw [hb]; split <;> omega) k (by omega)
      rw [show ((1 : Nat) : Int) = 1 from rfl] at e1
      rw [show ((2 : Nat) : Int) = 2 from rfl] at e2
      have hA : bl ((t1 ++ ⟨#[0]⟩) ++ t2) = nb 2 (greBits true K) ++ nb 2 kd := by
        rw [bl_append, bl_append, b1, b2, bz, ← bits_bytes, hb]
        cases K <;> rfl
      have hB : bl ((⟨#[0, 0]⟩ ++ key) ++ x) = nb 2 0 ++ (if K then nb 4 v else []) ++ bl x := by rw [bl_append, bl_append, bzz, hkey]
      have hsum : csum (bl ((((t1 ++ ⟨#[0]⟩) ++ t2) ++ ⟨#[0, 0]⟩) ++ ((⟨#[0, 0]⟩ ++ key) ++ x))) = c := by
        rw [bl_append, bl_append ((t1 ++ ⟨#[0]⟩) ++ t2), hA, hB, bzz, h7]
        congr 1
      obtain ⟨t3, e3, b3, z3⟩ := bytes_nat 2 c (by decide) (by omega) k (by omega)
      rw [show ((2 : Nat) : Int) = 2 from rfl] at e3
      rw [e1, Option.bind_some, if_pos (by omega), e2, Option.bind_some, if_pos (by rw [ByteArray.size_append, zz]; omega), if_pos (by omega), if_pos (by rw [ByteArray.size_append, zz2]; omega), if_pos (by rw [ByteArray.size_append, ByteArray.size_append, zz]; omega),
        if_pos (by simp only [ByteArray.size_append, zz, zz2]; omega), ref_sum6 _ (by simp only [ByteArray.size_append, zz, zz2]; omega) k hk, hsum, Option.bind_some, e3, Option.bind_some, if_pos (by simp only [ByteArray.size_append, zz, zz2]; omega), if_pos (by simp only [ByteArray.size_append, zz, zz2]; omega)]
      refine congrArg (fun z => some (z, (0 : Int))) ?_
      apply blG_inj
      rw [bl_append, bl_append ((t1 ++ ⟨#[0]⟩) ++ t2), hA, hB, b3, h2]
      simp [greTail, List.append_assoc]
    | false =>
      rw [hS] at h2 h7
      rw [if_neg (by decide)]
      obtain ⟨t1, e1, b1, z1⟩ := bytes_nat 1 bits (by decide) (by rw [hb]; split <;> omega) k (by omega)
      rw [show ((1 : Nat) : Int) = 1 from rfl] at e1
      rw [show ((2 : Nat) : Int) = 2 from rfl] at e2
      have hA : bl ((t1 ++ ⟨#[0]⟩) ++ t2) = nb 2 (greBits false K) ++ nb 2 kd := by
        rw [bl_append, bl_append, b1, b2, bz, ← bits_bytes, hb]
        cases K <;> rfl
      rw [e1, Option.bind_some, if_pos (by omega), e2, Option.bind_some, if_pos (by rw [ByteArray.size_append, zz]; omega), if_pos (by simp only [ByteArray.size_append, zz]; omega), if_pos (by simp only [ByteArray.size_append, zz]; omega)]
      refine congrArg (fun z => some (z, (0 : Int))) ?_
      apply blG_inj
      rw [bl_append, bl_append ((t1 ++ ⟨#[0]⟩) ++ t2), hA, hkey, h2]
      simp [greTail, List.append_assoc]
  cases hK : K with
  | true =>
    rw [if_pos rfl]
    obtain ⟨t4, e4, b4, z4⟩ := bytes_nat 4 v (by decide) (by omega) (k + 1) (by omega)
    rw [show ((4 : Nat) : Int) = 4 from rfl] at e4
    rw [e4, Option.bind_some]
    have := j 32 t4 (by rw [hK]; rfl) (by rw [b4, hK]; rfl)
    rw [hK] at this
    exact this
  | false =>
    rw [if_neg (by decide)]
    have := j 0 ⟨#[]⟩ (by rw [hK]; rfl) (by rw [hK]; rfl)
    rw [hK] at this
    exact this
theorem refPut_is (S K : Bool) (v : Nat) (x : ByteArray) (hv : v < 4294967296) (hx : x.size ≤ 5000) (k : Nat) (hk : 5000 < k) : palanquinref12_Put.f (k + 1) S K v x = gre_Put.f S K v x := by
  by_cases he : (verOf x).2.2.2 = 0
  · exact refPut_ok hv hx he k hk
  · rw [put_no he]
    unfold palanquinref12_Put.f
    rw [refKind_is, Option.bind_some]
    dsimp +instances only
    rw [if_neg he]
theorem be_pairT (s : ByteArray) (i : Nat) (h : i + 1 < s.size) : ((be (bl (s.extract i (i + 2))) : Nat) : Int) = bt s (i : Int) * 256 + bt s ((i + 1 : Nat) : Int) := by
  have hb := bl_length s
  have d0 := List.drop_eq_getElem_cons (l := bl s) (i := i) (by omega)
  have d1 := List.drop_eq_getElem_cons (l := bl s) (i := i + 1) (by omega)
  have e : bl (s.extract i (i + 2)) = [(bl s)[i]'(by omega), (bl s)[i + 1]'(by omega)] := by
    rw [cutG, List.drop_take, show i + 2 - i = 2 by omega, d0, d1]
    rfl
  have e2 : ∀ x y : UInt8, be [x, y] = x.toNat * 256 + y.toNat := fun x y => by
    rw [show [x, y] = [x] ++ [y] from rfl, be_snoc]
    simp [be]
  rw [e, e2]
  have b0 : (((bl s)[i]'(by omega)).toNat : Int) = bt s (i : Int) := bt_at s (i : Int) (by simpa using (by omega : i < s.size))
  have b1 : (((bl s)[i + 1]'(by omega)).toNat : Int) = bt s ((i + 1 : Nat) : Int) := bt_at s ((i + 1 : Nat) : Int) (by simpa using h)
  rw [← b0, ← b1, Int.natCast_add, Int.natCast_mul]
  rfl
theorem gx_bt (b : ByteArray) (h : 2 ≤ b.size) : gx b = bt b 0 * 256 + bt b 1 := be_pairT b 0 (by omega)
theorem rgE {b : ByteArray} (hs : b.size ≤ 5000) (e : Int) (he : greErr b = e) (hn : e ≠ 0) : gre_Get.f b = some (false, false, 0, ⟨#[]⟩, e) := by
  unfold gre_Get.f; rw [if_pos (by omega), he, if_neg hn]
section
variable {b : ByteArray} {k : Nat} (hs : b.size ≤ 5000) (hk : 5000 < k) (h4 : ¬ b.size < 4) (h7 : ¬ Go.bits .and .i64 (gx b) 7 ≠ 0) (hA : ¬ Go.bits .andNot .i64 (gx b) 40960 ≠ 0)
include hs hk h4 h7 hA
theorem rg5 (hM : ¬ b.size < gAt b) (h9 : ¬ (gS b = true ∧ be (bl (b.extract 6 8)) ≠ 0)) (h5 : ¬ (gS b = true ∧ csum (bl b) ≠ 0)) :
    palanquinref12_Get.j5 (k + 2) b (gAt b : Nat) false false 0 (gS b) (gK b) (gVal b) = gre_Get.f b := by
  have hE : greErr b = if ¬ (gkd b == 2048 || gkd b == 34525) = true then 6 else if (verOf (gIn b)).2.2.2 ≠ 0 then (verOf (gIn b)).2.2.2 else if (verOf (gIn b)).2.2.1 ≠ gkd b then 3 else 0 := by
    unfold greErr; rw [if_neg h4, if_neg h7, if_neg hA, if_neg hM, if_neg h9, if_neg h5]
  have h1 := value_is (b.extract 2 4) (by rw [ByteArray.size_extract]; omega) (k + 1) (by rw [ByteArray.size_extract]; omega)
  have hl := gkd_lt b
  have h2 : wrap64 (((be (bl (b.extract 2 4)) : Nat) : Int)) = gkd b := by unfold gkd; unfold wrap64; omega
  have hin : b.extract ((gAt b : Nat) : Int).toNat b.size = gIn b := rfl
  have j6 : palanquinref12_Get.j6 (k + 1) b (gAt b : Nat) (gkd b) (!(gkd b == 2048 || gkd b == 34525)) false false 0 (gS b) (gK b) (gVal b) = gre_Get.f b := by
    rw [palanquinref12_Get.j6]
    have hf : gre_Get.f b = some (if greErr b = 0 then (gS b, gK b, gVal b, gIn b, 0) else (false, false, 0, ⟨#[]⟩, greErr b)) := by
      unfold gre_Get.f; rw [if_pos (by omega)]
    rw [hf, hE]
    clear hf
    by_cases c : (gkd b == 2048 || gkd b == 34525) = true
    · rw [c, if_neg (by decide), if_pos (by omega), if_pos (by omega), hin, refKind_is, Option.bind_some]
      dsimp +instances only
      generalize (verOf (gIn b)).2.2.2 = ee
      generalize (verOf (gIn b)).2.2.1 = e2
      by_cases e : ee = 0
      · by_cases e3 : e2 = gkd b
        · simp [e, e3]
        · simp [e, e3]
      · simp [e]
    · replace c := Bool.eq_false_iff.mpr c
      rw [c]
      simp
  rw [palanquinref12_Get.j5, if_pos (by decide), if_pos (by omega), h1, Option.bind_some, h2]
  split
  · rename_i e
    rw [e] at j6 ⊢
    exact j6
  · rename_i e
    rw [← j6]
    have : (gkd b == 2048) = false := beq_eq_false_iff_ne.mpr e
    rw [this, Bool.false_or]
    rfl
theorem rg4 (hM : ¬ b.size < gAt b) (h9 : ¬ (gS b = true ∧ be (bl (b.extract 6 8)) ≠ 0)) (h5 : ¬ (gS b = true ∧ csum (bl b) ≠ 0)) :
    palanquinref12_Get.j4 (k + 3) b (gAt b : Nat) false false 0 (gS b) (gK b) 0 = gre_Get.f b := by
  have h := rg5 hs hk h4 h7 hA hM h9 h5
  rw [palanquinref12_Get.j4]
  have hat : 4 ≤ gAt b := by unfold gAt; omega
  have hat2 : gAt b ≤ 12 := by unfold gAt; split <;> split <;> omega
  have w : wrap64 (((gAt b : Nat) : Int) - 4) = ((gAt b - 4 : Nat) : Int) := by unfold wrap64; omega
  by_cases hK : gK b = true
  · have hv := value_is (b.extract (gAt b - 4) (gAt b)) (by rw [ByteArray.size_extract]; omega) (k + 2) (by rw [ByteArray.size_extract]; omega)
    have hl := be_lt_of (bl (b.extract (gAt b - 4) (gAt b))) 4 (by rw [bl_length, ByteArray.size_extract]; omega)
    have e4 : (256 : Nat) ^ 4 = 4294967296 := by decide
    rw [if_pos hK, w, if_pos (by omega), if_pos (by omega), if_pos (by omega)]
    rw [show b.extract ((gAt b - 4 : Nat) : Int).toNat ((gAt b : Nat) : Int).toNat = b.extract (gAt b - 4) (gAt b) from rfl, hv, Option.bind_some]
    have hg : ((be (bl (b.extract (gAt b - 4) (gAt b))) : Nat) : Int) % 4294967296 = gVal b := by
      unfold gVal; rw [if_pos hK]; omega
    rw [hg]
    exact h
  · rw [if_neg hK]
    have hg : gVal b = 0 := by unfold gVal; rw [if_neg hK]
    rw [hg] at h
    exact h
theorem rg2 : palanquinref12_Get.j2 (k + 5) b (gAt b : Nat) false false 0 (gS b) (gK b) 0 = gre_Get.f b := by
  rw [palanquinref12_Get.j2]
  by_cases hM : b.size < gAt b
  · have he : greErr b = 2 := by unfold greErr; rw [if_neg h4, if_neg h7, if_neg hA, if_pos hM]
    rw [if_pos (by omega), rgE hs 2 he (by decide)]
  rw [if_neg (by omega)]
  by_cases hS : gS b = true
  · have hat : 8 ≤ gAt b := by unfold gAt; rw [if_pos hS]; omega
    have hp := be_pairT b 6 (by omega)
    have r6 := bt_range b 6
    have r7 := bt_range b 7
    have hp' : ((be (bl (b.extract 6 8)) : Nat) : Int) = bt b 6 * 256 + bt b 7 := hp
    have j3 : ∀ x : Bool, x = (be (bl (b.extract 6 8)) != 0) → palanquinref12_Get.j3 (k + 4) b (gAt b : Nat) x false false 0 true (gK b) 0 = gre_Get.f b := by
      intro x hx
      rw [palanquinref12_Get.j3]
      by_cases c : be (bl (b.extract 6 8)) = 0
      · rw [hx, c, if_neg (by decide), ref_sum b hs (k + 3) (by omega), Option.bind_some]
        have h9 : ¬ (gS b = true ∧ be (bl (b.extract 6 8)) ≠ 0) := fun h => h.2 c
        by_cases c5 : csum (bl b) = 0
        · rw [if_pos (by omega)]
          have := rg4 hs hk h4 h7 hA hM h9 (fun h => h.2 c5)
          rw [hS] at this
          exact this
        · have he : greErr b = 5 := by unfold greErr; rw [if_neg h4, if_neg h7, if_neg hA, if_neg hM, if_neg h9, if_pos ⟨hS, c5⟩]
          rw [if_neg (by omega), rgE hs 5 he (by decide)]
      · have he : greErr b = 9 := by unfold greErr; rw [if_neg h4, if_neg h7, if_neg hA, if_neg hM, if_pos ⟨hS, c⟩]
        rw [hx, if_pos (by simpa using c), rgE hs 9 he (by decide)]
    rw [hS, if_pos rfl, if_pos (by omega)]
    by_cases c : bt b 6 = 0
    · rw [if_pos c, if_pos (by omega)]
      refine j3 _ ?_
      by_cases c7 : bt b 7 = 0
      · rw [c7, show be (bl (b.extract 6 8)) = 0 by omega]; rfl
      · rw [bne_iff_ne.mpr c7, bne_iff_ne.mpr (show be (bl (b.extract 6 8)) ≠ 0 by omega)]
    · rw [if_neg c]
      exact j3 _ (bne_iff_ne.mpr (show be (bl (b.extract 6 8)) ≠ 0 by omega)).symm
  · have hS' := Bool.eq_false_iff.mpr hS
    have := rg4 hs (k := k + 1) (by omega) h4 h7 hA hM (fun h => hS h.1) (fun h => hS h.1)
    rw [hS'] at this ⊢
    rw [if_neg (by decide)]
    exact this
end
theorem bits_of (x : Nat) (h : x = 0 ∨ x = 8192 ∨ x = 32768 ∨ x = 40960) : (Go.bits .and .i64 (x : Int) 32768 != 0) = decide (32768 ≤ x) ∧ (Go.bits .and .i64 (x : Int) 8192 != 0) = decide (x % 16384 = 8192) := by
  rcases h with rfl | rfl | rfl | rfl <;> decide +kernel
theorem refGetG_is (b : ByteArray) (hs : b.size ≤ 5000) (k : Nat) (hk : 5000 < k) : palanquinref12_Get.f (k + 7) b = gre_Get.f b := by
  unfold palanquinref12_Get.f
  by_cases h4 : b.size < 4
  · have he : greErr b = 2 := by unfold greErr; rw [if_pos h4]
    rw [if_pos (by omega)]
    unfold gre_Get.f; rw [if_pos (by omega), he, if_neg (by decide)]
  have h4' := h4
  rw [if_neg (by omega), if_pos (by omega)]
  have hx := gx_bt b (by omega)
  have r0 := bt_range b 0
  have r1 := bt_range b 1
  have hm : Go.bits .and .i64 (gx b) 7 = bt b 1 % 8 := by
    have := i64_mask 3 (by decide) (gx b) (by omega) (by omega)
    rw [show (2 : Int) ^ 3 - 1 = 7 from rfl, show (2 : Int) ^ 3 = 8 from rfl] at this
    rw [this, hx]; omega
  rw [Int.tmod_eq_emod_of_nonneg (by omega), ← hm]
  by_cases h7 : Go.bits .and .i64 (gx b) 7 = 0
  · rw [if_pos h7]
    have h7' : ¬ Go.bits .and .i64 (gx b) 7 ≠ 0 := fun h => h h7
    have hl := gx_lt b
    have hxn : gx b = ((be (bl (b.extract 0 2)) : Nat) : Int) := rfl
    have hz := andNot_zero _ hl
    rw [← hxn] at hz
    have bad : ¬ (be (bl (b.extract 0 2)) = 0 ∨ be (bl (b.extract 0 2)) = 8192 ∨ be (bl (b.extract 0 2)) = 32768 ∨ be (bl (b.extract 0 2)) = 40960) → palanquinref12_Get.j0 (k + 7) b true false false 0 = gre_Get.f b := fun c => by
      have he : greErr b = 9 := by unfold greErr; rw [if_neg h4, if_neg h7', if_pos (fun h => c (hz.1 h))]
      rw [palanquinref12_Get.j0, if_pos rfl]
      unfold gre_Get.f; rw [if_pos (by omega), he, if_neg (by decide)]
    have good : (be (bl (b.extract 0 2)) = 0 ∨ be (bl (b.extract 0 2)) = 8192 ∨ be (bl (b.extract 0 2)) = 32768 ∨ be (bl (b.extract 0 2)) = 40960) → palanquinref12_Get.j0 (k + 7) b false false false 0 = gre_Get.f b := fun c => by
      have hA : ¬ Go.bits .andNot .i64 (gx b) 40960 ≠ 0 := fun h => h (hz.2 c)
      have hb := bits_of _ c
      rw [← hxn] at hb
      have h2 := rg2 hs hk h4 h7' hA
      have eS : gS b = decide (bt b 0 ≥ 128) := by
        unfold gS; rw [hb.1]; exact decide_eq_decide.mpr (by omega)
      have eK : gK b = (Int.tmod (bt b 0) 64 == 32) := by
        unfold gK; rw [hb.2, Int.tmod_eq_emod_of_nonneg (by omega)]
        by_cases q : bt b 0 % 64 = 32
        · rw [beq_iff_eq.mpr q]; exact decide_eq_true (by omega)
        · rw [beq_eq_false_iff_ne.mpr q]; exact decide_eq_false (by omega)
      rw [palanquinref12_Get.j0, if_neg (by decide), if_pos (by omega), ← eS, ← eK]
      have j1 : ∀ x : Int, x = 4 + (if gS b = true then 4 else 0) → palanquinref12_Get.j1 (k + 6) b x false false 0 (gS b) (gK b) 0 = gre_Get.f b := fun x hx => by
        rw [palanquinref12_Get.j1]
        by_cases hK : gK b = true
        · rw [if_pos hK, show wrap64 (x + 4) = ((gAt b : Nat) : Int) by rw [hx]; unfold gAt; rw [if_pos hK]; unfold wrap64; split <;> omega]
          exact h2
        · rw [if_neg hK, show x = ((gAt b : Nat) : Int) by rw [hx]; unfold gAt; rw [if_neg hK]; split <;> omega]
          exact h2
      by_cases q : bt b 0 ≥ 128
      · have e : gS b = true := by rw [eS]; exact decide_eq_true q
        rw [if_pos q]
        exact j1 _ (by rw [if_pos e])
      · have e : ¬ gS b = true := by rw [eS, decide_eq_false q]; decide
        rw [if_neg q]
        exact j1 _ (by rw [if_neg e]; rfl)
    by_cases c1 : bt b 1 = 0
    · rw [if_pos c1, if_pos (by omega)]
      split
      · exact good (by omega)
      split
      · exact good (by omega)
      split
      · exact good (by omega)
      by_cases c0 : bt b 0 = 160
      · rw [c0]; exact good (by omega)
      · rw [bne_iff_ne.mpr c0]; exact bad (by omega)
    · rw [if_neg c1]; exact bad (by omega)
  · rw [if_neg h7]
    have he : greErr b = 3 := by unfold greErr; rw [if_neg h4, if_pos h7]
    unfold gre_Get.f; rw [if_pos (by omega), he, if_neg (by decide)]
theorem GreTells (a0 a1 : Bool) (a2 : Int) (a3 a4 : ByteArray) (w2 : (Lit.int .u32 a2).wf = true) (w3 : a3.size ≤ 140737488351232) (w4 : a4.size ≤ 140737488351232) : ∃ k, palanquinlaw12_GreTells.f k a0 a1 a2 a3 a4 = some true := by
  refine ⟨5010, ?_⟩
  unfold palanquinlaw12_GreTells.f
  rw [awake12, Option.bind_some, if_pos rfl]
  have end_ : palanquinlaw12_GreTells.j0 5010 a0 a1 a2 a3 a4 true = some true := by rw [palanquinlaw12_GreTells.j0, if_pos rfl]
  split
  · exact end_
  rename_i h3
  by_cases h4 : (a4.size : Int) > 5000
  · rw [decide_eq_true h4]; exact end_
  rw [decide_eq_false h4, palanquinlaw12_GreTells.j0, if_neg (by decide)]
  obtain ⟨v, rfl, hv⟩ := u32_natT w2
  have eP : palanquinref12_Put.f 5009 a0 a1 (v : Int) a3 = gre_Put.f a0 a1 (v : Int) a3 := refPut_is a0 a1 v a3 hv (by omega) 5008 (by omega)
  have eG : palanquinref12_Get.f 5009 a4 = gre_Get.f a4 := refGetG_is a4 (by omega) 5002 (by omega)
  rw [eP, eG]
  obtain ⟨p, hp⟩ : ∃ p, gre_Put.f a0 a1 v a3 = some p := by
    by_cases he : (verOf a3).2.2.2 = 0
    · obtain ⟨y, kd, c, h1, _⟩ := put_ok (S := a0) (K := a1) hv (x := a3) (by omega) he
      exact ⟨_, h1⟩
    · exact ⟨_, put_no he⟩
  obtain ⟨g, hg⟩ : ∃ g, gre_Get.f a4 = some g := by unfold gre_Get.f; rw [if_pos (by omega)]; exact ⟨_, rfl⟩
  rw [hp, hg]
  simp only [Option.bind_some, if_true, beq_self_eq_true, Bool.and_self]
end Go.Proofs.YtcmalglippmocaaDoor.Pure
end

section
/- Plain facts for rows: arguments that are structs of one-cell fields, and slices of strings, laid open. No function of the program in it. -/
namespace Go.Proofs.YtcmalglippmocaaDoor.Pal
open Go.RowKit Go.ChangeShapes Go.WideShapes Go.Deep Go.Proofs.YtcmalglippmocaaDoorW.PrintWords
section
variable {H : Type} {enc : TypeId × Value → H} {P : Program} {w : World} {base : Nat} {spare : Nat → Bool} {held : Bool}
theorem open_fields {r : Reach} {b0 : Nat} {t : TypeId} {fs : Array Field} {v : Value} {d : DataW H} {p : List MemPlace} (hs : P.underlying t = some (.struct fs)) (hone : oneCellFields P fs = true)
    (hv : Value.okWide P w r b0 t v) (h : DataW.Trod enc P w base spare held t v d p) :
    ∃ (cs : Array Value), v = .agg cs ∧ cs.size = P.cellsOf t ∧ ∀ (j : Nat) (f : Field) (c : Value), fs[j]? = some f → cs[j]? = some c → ∃ (n : Nat) (y : DataW H × List MemPlace), DataW.trod enc P w base spare held n f.type [c] = some y := by
  obtain ⟨cs, rfl, hsz⟩ := okWide_struct hs hv
  obtain ⟨fuel, hf⟩ := h
  obtain ⟨xs, n, _, _, _, hlen, hF⟩ := DataW.trod_struct hs hf
  refine ⟨cs, rfl, hsz, fun j f c hj hc => ?_⟩
  obtain ⟨o0, k0⟩ := hone_of hone j f hj
  have hj' : j < xs.length := by rw [hlen]; exact (Array.getElem?_eq_some_iff.1 hj).1
  refine ⟨n, xs[j], ?_⟩
  have e := hF j f hj
  rw [o0, k0, List.getElem?_eq_getElem hj'] at e
  have hc' : (Value.cells (.agg cs)).toList.drop j = c :: (Value.cells (.agg cs)).toList.drop (j + 1) := by
    obtain ⟨hlt, rfl⟩ := Array.getElem?_eq_some_iff.1 hc
    show cs.toList.drop j = cs[j] :: cs.toList.drop (j + 1)
    rw [List.drop_eq_getElem_cons (by simpa using hlt), Array.getElem_toList]
  rw [hc'] at e
  simpa using e
theorem leaf_int {n : Nat} {t : TypeId} {k : IntKind} {c : Value} {y : DataW H × List MemPlace} (ht : P.underlying t = some (.int k)) (h : DataW.trod enc P w base spare held n t [c] = some y) : ∃ a, c = .int k a ∧ (Lit.int k a).wf = true := by
  obtain ⟨a, e1, _, h2⟩ := DataW.trod_int ht h
  exact ⟨a, by simpa using e1, h2⟩
theorem leaf_str {n : Nat} {t : TypeId} {c : Value} {y : DataW H × List MemPlace} (ht : P.underlying t = some .string) (h : DataW.trod enc P w base spare held n t [c] = some y) : ∃ a : ByteArray, c = .string a ∧ a.size ≤ maxLen := by
  obtain ⟨a, e1, _, h2⟩ := DataW.trod_string ht h
  exact ⟨a, by simpa using e1, h2⟩
theorem leaf_bool {n : Nat} {t : TypeId} {c : Value} {y : DataW H × List MemPlace} (ht : P.underlying t = some .bool) (h : DataW.trod enc P w base spare held n t [c] = some y) : ∃ a : Bool, c = .bool a := by
  obtain ⟨a, e1, _⟩ := DataW.trod_bool ht h
  exact ⟨a, by simpa using e1⟩
theorem mem_texts {H : Type} {P : Program} {e : TypeId} {s : ByteArray} : ∀ {l : List ByteArray}, s ∈ l → s.size ∈ DataW.weightsAll (H := H) P e (l.map fun s => .lit (.string s.data.toList))
  | x :: l, h => by
    rw [List.map_cons, DataW.weightsAll, List.mem_append]
    rcases List.mem_cons.1 h with rfl | h
    · left; simp [DataW.weights]
    · exact Or.inr (mem_texts h)
theorem open_texts {r : Reach} {b0 : Nat} {t e : TypeId} {v : Value} {d : DataW H} {p : List MemPlace} (ht : P.underlying t = some (.slice e)) (he : P.underlying e = some .string) (hc : P.cellsOf e = 1)
    (hv : Value.okWide P w r b0 t v) (h : DataW.Trod enc P w base spare held t v d p) :
    ∃ (A : Option Addr) (l : List ByteArray) (cap : Nat), v = .slice A l.length cap ∧ l.length ≤ cap ∧ Kd.C Kd.string w A l.length l ∧ (∀ s ∈ l, s.size ∈ DataW.weights P t d) := by
  obtain ⟨A, len, cap, rfl⟩ := okWide_slice ht hv
  obtain ⟨fuel, hf⟩ := h
  rcases open_strs ht he hc hf with ⟨hcs, _⟩ | ⟨a, ln, c, m, Sx, hcs, _, hl, hm, hmm, hdp, hcell⟩
  · simp [Value.cells] at hcs
    obtain ⟨rfl, rfl, rfl⟩ := hcs
    exact ⟨none, [], 0, rfl, Nat.le_refl _, ⟨rfl, by decide, fun h => absurd h (by decide)⟩, fun s hs => nomatch hs⟩
  · simp [Value.cells] at hcs
    obtain ⟨rfl, rfl, rfl⟩ := hcs
    have hlm : len ≤ m := by rw [hmm]; split <;> omega
    refine ⟨some a, (List.range len).map Sx, cap, by simp, by simpa using hl, ⟨by simp, by simp; exact Nat.le_trans hl (Nat.le_trans hm (by decide)), fun _ => ⟨a, rfl, fun j q hj => ?_⟩⟩, fun s hs => ?_⟩
    · rw [List.getElem?_map] at hj
      by_cases hjl : j < len
      · rw [List.getElem?_range hjl] at hj
        obtain rfl : Sx j = q := by simpa using hj
        refine ⟨[.string (Sx j)], rfl, rfl, fun i u hi => ?_⟩
        match i, hi with
        | 0, hi =>
          obtain rfl : Value.string (Sx j) = u := by simpa using hi
          simpa [Kd.string, Kd.scalar] using (hcell j (by omega)).1
        | i + 1, hi => simp at hi
      · rw [List.getElem?_eq_none (by simpa using hjl)] at hj
        simp at hj
    · have hd := congrArg Prod.fst hdp
      dsimp only at hd
      rw [hd, DataW.weights, ht]
      refine List.mem_cons_of_mem _ (List.mem_append.2 (Or.inl ?_))
      have e1 := mem_texts (H := H) (P := P) (e := e) hs
      rwa [List.map_map] at e1
end
end Go.Proofs.YtcmalglippmocaaDoor.Pal
end

section
/- What a row's condition on the program's package-level tables gives: their cells. -/
namespace Go.Proofs.YtcmalglippmocaaDoor.Pal
open Go.ChangeShapes Go.WideShapes Go.ChangeAt Go.WideElems Go.RowKit Go.Proofs.YtcmalglippmocaaDoor.G
set_option maxRecDepth 100000
section
variable {H : Type} {enc : TypeId × Value → H} {P : Program} {w : World} {base : Nat} {spare : Nat → Bool} {held : Bool}
/-- A row of two whole numbers. -/
theorem pair_cells {n : Nat} {t e : TypeId} {cs : List Value} {a b : Int} {p : List MemPlace} (ht : P.underlying t = some (.array 2 e)) (he : P.underlying e = some (.int .i64)) (hc : P.cellsOf e = 1) (hz : P.cellsOf t = 2)
    (h : DataW.trod enc P w base spare held n t cs = some (.agg [.lit (.int .i64 a), .lit (.int .i64 b)], p)) : cs = [.int .i64 a, .int .i64 b] := by
  obtain ⟨xs, m, _, hx, hl, hlen, hel⟩ := DataW.trod_array ht h
  have h0 := hel 0 (by decide)
  have h1 := hel 1 (by decide)
  rw [hc] at h0 h1
  rw [hz] at hl
  match cs, hl with
  | [c0, c1], _ =>
    match xs, hlen with
    | [y0, y1], _ =>
      obtain ⟨k0, e0, x0, _⟩ := DataW.trod_int he (x := y0) (by simpa using h0)
      obtain ⟨k1, e1, x1, _⟩ := DataW.trod_int he (x := y1) (by simpa using h1)
      simp only [Prod.mk.injEq, x0, x1, List.map_cons, List.map_nil, DataW.agg.injEq, List.cons.injEq, DataW.lit.injEq, Lit.int.injEq, true_and, and_true] at hx
      obtain ⟨⟨rfl, rfl⟩, _⟩ := hx
      simp at e0 e1
      rw [e0, e1]
end
section
variable {H : Type} {enc : TypeId × Value → H} {w : World} {base : Nat} {spare : Nat → Bool} {held : Bool}
theorem ver_fields : ∃ f0 f1 f2 : Field, Tryd.prog.underlying 107 = some (.struct #[f0, f1, f2]) ∧ (f0.offset = 0 ∧ f1.offset = 1 ∧ f2.offset = 2) ∧ (Tryd.prog.cellsOf f0.type = 1 ∧ Tryd.prog.cellsOf f1.type = 1 ∧ Tryd.prog.cellsOf f2.type = 1) ∧ Tryd.prog.underlying f0.type = some (.int .i64) ∧ Tryd.prog.underlying f1.type = some (.int .i64) ∧ Tryd.prog.underlying f2.type = some (.int .i64) :=
  ⟨_, _, _, Tryd.underlying107, ⟨rfl, rfl, rfl⟩, ⟨by kernel_rfl, by kernel_rfl, by kernel_rfl⟩, by kernel_rfl, by kernel_rfl, by kernel_rfl⟩
theorem ver_row {n : Nat} {cs : List Value} {a b c : Int} {p : List MemPlace} (h : DataW.trod enc Tryd.prog w base spare held n 107 cs = some (.agg [.lit (.int .i64 a), .lit (.int .i64 b), .lit (.int .i64 c)], p)) : cs = [.int .i64 a, .int .i64 b, .int .i64 c] := by
  obtain ⟨f0, f1, f2, hs, ⟨o0, o1, o2⟩, ⟨z0, z1, z2⟩, t0, t1, t2⟩ := ver_fields
  obtain ⟨xs, m, _, hx, hl, hlen, hF⟩ := DataW.trod_struct hs h
  rw [show Tryd.prog.cellsOf 107 = 3 by kernel_rfl] at hl
  have e0 := hF 0 f0 rfl
  have e1 := hF 1 f1 rfl
  have e2 := hF 2 f2 rfl
  rw [o0, z0] at e0
  rw [o1, z1] at e1
  rw [o2, z2] at e2
  match cs, hl with
  | [c0, c1, c2], _ =>
    match xs, hlen with
    | [y0, y1, y2], _ =>
      obtain ⟨k0, q0, x0, _⟩ := DataW.trod_int t0 (x := y0) (by simpa using e0)
      obtain ⟨k1, q1, x1, _⟩ := DataW.trod_int t1 (x := y1) (by simpa using e1)
      obtain ⟨k2, q2, x2, _⟩ := DataW.trod_int t2 (x := y2) (by simpa using e2)
      simp only [Prod.mk.injEq, x0, x1, x2, List.map_cons, List.map_nil, DataW.agg.injEq, List.cons.injEq, DataW.lit.injEq, Lit.int.injEq, true_and, and_true] at hx
      obtain ⟨⟨rfl, rfl, rfl⟩, _⟩ := hx
      simp at q0 q1 q2
      rw [q0, q1, q2]
theorem ver_rows {n : Nat} {cs : List Value} {p : List MemPlace} (h : DataW.trod enc Tryd.prog w base spare held n 110 cs = some (Rows.laid_palanquin_ipip_versions, p)) : cs = [.int .i64 4, .int .i64 4, .int .i64 2048, .int .i64 6, .int .i64 41, .int .i64 34525] := by
  obtain ⟨xs, m, _, hx, hl, hlen, hel⟩ := DataW.trod_array Tryd.underlying110 h
  have h0 := hel 0 (by decide)
  have h1 := hel 1 (by decide)
  rw [show Tryd.prog.cellsOf 107 = 3 by kernel_rfl] at h0 h1
  rw [show Tryd.prog.cellsOf 110 = 6 by kernel_rfl] at hl
  match cs, hl with
  | [c0, c1, c2, c3, c4, c5], _ =>
    match xs, hlen with
    | [(d0, p0), (d1, p1)], _ =>
      simp only [Rows.laid_palanquin_ipip_versions, Prod.mk.injEq, List.map_cons, List.map_nil, DataW.agg.injEq, List.cons.injEq, and_true] at hx
      obtain ⟨⟨rfl, rfl⟩, _⟩ := hx
      have e0 := ver_row (p := p0) (by simpa using h0)
      have e1 := ver_row (p := p1) (by simpa using h1)
      simp at e0 e1
      obtain ⟨rfl, rfl, rfl⟩ := e0
      obtain ⟨rfl, rfl, rfl⟩ := e1
      rfl
end
theorem tab_of {W : World} {n : String} {g : Nat} {cs : Array Value} {l : List Int} (hg : Tryd.prog.globalNamed n = some g) (hv : W.var? Tryd.prog n = some cs) (hcs : cs.toList = l.map (Value.int .i64)) : TabAt W g l := fun j x hj => by
  rw [World.var?_cell hg hv j, ← Array.getElem?_toList, hcs, List.getElem?_map, hj]
  rfl
theorem gv_of {W : World} {g t : Nat} {cs : Array Value} {f : Nat} {p : List MemPlace} (hg : Tryd.prog.globalNamed "palanquin/ipip.versions" = some g) (ht : (Tryd.prog.globals[g]?).map (·.type) = some t) (hv : W.var? Tryd.prog "palanquin/ipip.versions" = some cs)
    (hd : DataW.trod (fun _ => ()) Tryd.prog W 0 (fun _ => true) false f t cs.toList = some (Rows.laid_palanquin_ipip_versions, p)) : GV W := by
  obtain rfl := Option.some.inj ((show Tryd.prog.globalNamed "palanquin/ipip.versions" = some 0 by kernel_rfl).symm.trans hg)
  obtain rfl := Option.some.inj ((show (Tryd.prog.globals[0]?).map (·.type) = some 110 by kernel_rfl).symm.trans ht)
  exact tab_of hg hv (ver_rows hd)
theorem laid_gv {W : World} (h : laidMetH Tryd.prog [("palanquin/ipip.versions", Rows.laid_palanquin_ipip_versions)] W) : GV W := by
  rw [MakeChecks.laidMetH_plain _ _ _ (by kernel_rfl)] at h
  obtain ⟨ps, ⟨g0, t0, cs0, f0, p0, q0, hg0, ht0, hv0, hd0, _, _⟩, _, _⟩ := h
  exact gv_of hg0 ht0 hv0 hd0
theorem places_rows {H : Type} {enc : TypeId × Value → H} {w : World} {base : Nat} {spare : Nat → Bool} {held : Bool} {n : Nat} {cs : List Value} {p : List MemPlace} (h : DataW.trod enc Tryd.prog w base spare held n 135 cs = some (Rows.laid_palanquin_flow_places, p)) : cs = [.int .i64 6, .int .i64 16, .int .i64 17, .int .i64 6] := by
  obtain ⟨xs, m, _, hx, hl, hlen, hel⟩ := DataW.trod_array Tryd.underlying135 h
  have h0 := hel 0 (by decide)
  have h1 := hel 1 (by decide)
  rw [show Tryd.prog.cellsOf 134 = 2 by kernel_rfl] at h0 h1
  rw [show Tryd.prog.cellsOf 135 = 4 by kernel_rfl] at hl
  match cs, hl with
  | [c0, c1, c2, c3], _ =>
    match xs, hlen with
    | [(d0, p0), (d1, p1)], _ =>
      simp only [Rows.laid_palanquin_flow_places, Prod.mk.injEq, List.map_cons, List.map_nil, DataW.agg.injEq, List.cons.injEq, and_true] at hx
      obtain ⟨⟨rfl, rfl⟩, _⟩ := hx
      have e0 := pair_cells (p := p0) Tryd.underlying134 (by kernel_rfl) (by kernel_rfl) (by kernel_rfl) (by simpa using h0)
      have e1 := pair_cells (p := p1) Tryd.underlying134 (by kernel_rfl) (by kernel_rfl) (by kernel_rfl) (by simpa using h1)
      simp at e0 e1
      obtain ⟨rfl, rfl⟩ := e0
      obtain ⟨rfl, rfl⟩ := e1
      rfl
theorem laid_gp {W : World} (h : laidMetH Tryd.prog [("palanquin/ipip.versions", Rows.laid_palanquin_ipip_versions), ("palanquin/flow.places", Rows.laid_palanquin_flow_places), ("palanquin/flow.least", Rows.laid_palanquin_flow_least)] W) : GV W ∧ GP W := by
  rw [MakeChecks.laidMetH_plain _ _ _ (by kernel_rfl)] at h
  obtain ⟨ps, ⟨g0, t0, cs0, f0, p0, q0, hg0, ht0, hv0, hd0, ⟨g1, t1, cs1, f1, p1, q1, hg1, ht1, hv1, hd1, ⟨g2, t2, cs2, f2, p2, q2, hg2, ht2, hv2, hd2, _, _⟩, _⟩, _⟩, _, _⟩ := h
  refine ⟨gv_of hg0 ht0 hv0 hd0, ?_, ?_⟩
  · obtain rfl := Option.some.inj ((show Tryd.prog.globalNamed "palanquin/flow.places" = some 1 by kernel_rfl).symm.trans hg1)
    obtain rfl := Option.some.inj ((show (Tryd.prog.globals[1]?).map (·.type) = some 135 by kernel_rfl).symm.trans ht1)
    exact tab_of hg1 hv1 (places_rows hd1)
  · obtain rfl := Option.some.inj ((show Tryd.prog.globalNamed "palanquin/flow.least" = some 2 by kernel_rfl).symm.trans hg2)
    obtain rfl := Option.some.inj ((show (Tryd.prog.globals[2]?).map (·.type) = some 134 by kernel_rfl).symm.trans ht2)
    exact tab_of hg2 hv2 (pair_cells Tryd.underlying134 (by kernel_rfl) (by kernel_rfl) (by kernel_rfl) hd2)
end Go.Proofs.YtcmalglippmocaaDoor.Pal
end
