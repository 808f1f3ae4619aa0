-- Laid by a program of this session (wip/gen/gprint.py) over the translation's print. Lean checks it.
import Derived.Test.YtejmipoolbodgaaG0
import Derived.Test.YtejmipoolbodgaaGEq2
import Derived.Test.YtejmipoolbodgaaGip4
import Derived.Test.YtejmipoolbodgaaGlaw05
import Derived.Test.YtejmipoolbodgaaHIp4R
namespace Go.Proofs.Ytejmipoolbodgaa.G
open Go.RowKit Go.Proofs.YtejmipoolbodgaaW.PrintWords Go.Proofs.YtejmipoolbodgaaW.PrintLast Go.Proofs.YtejmipoolbodgaaW.PrintMore
attribute [local go_sem] max2_int min2_int max_two min_two max_three min_three max_four min_four   -- for this text's walks alone
set_option linter.unusedVariables false
set_option linter.unusedSimpArgs false

attribute [local go_sem high] eqA93
/-! ### palanquinlaw05_Ip4Back: function 29 -/
mutual
def palanquinlaw05_Ip4Back.j0 : Nat → ByteArray → ByteArray → Bool → Int → Int → Int → Int → Int → Bool → Bool → ByteArray → ByteArray → ByteArray → Option (Bool)
  | 0, _, _, _, _, _, _, _, _, _, _, _, _, _ => none
  | k + 1, x1, x2, x31, x782000, x782001, x782002, x782003, x782004, x782005, x782006, x782007, x782008, x782009 => if x31 = true then (some true) else ((ip4_Put.f x782000 x782001 x782002 x782003 x782004 x782005 x782006 x782007 x782008 x782009 x1).bind fun bt784 => (if bt784.2 = 0 then ((ip4_Get.f bt784.1).bind fun bt786 => (if (!(bt786.1 == x782000) || (!(bt786.2.1 == x782001) || (!(bt786.2.2.1 == x782002) || (!(bt786.2.2.2.1 == x782003) || (!(bt786.2.2.2.2.1 == x782004) || (!(bt786.2.2.2.2.2.1 == x782005) || (!(bt786.2.2.2.2.2.2.1 == x782006) || (!(bt786.2.2.2.2.2.2.2.1.toList == x782007.toList) || (!(bt786.2.2.2.2.2.2.2.2.1.toList == x782008.toList) || (!(bt786.2.2.2.2.2.2.2.2.2.1.toList == x782009.toList))))))))))) = true then (some false) else (if bt786.2.2.2.2.2.2.2.2.2.2.1.toList = x1.toList then (if bt786.2.2.2.2.2.2.2.2.2.2.2 = 0 then (palanquinlaw05_Ip4Back.j1 k x2) else (some false)) else (some false)))) else (if bt784.1.toList = ([] : List UInt8) then (palanquinlaw05_Ip4Back.j1 k x2) else (some false))))
def palanquinlaw05_Ip4Back.j1 : Nat → ByteArray → Option (Bool)
  | 0, _ => none
  | k + 1, x2 => (ip4_Get.f x2).bind fun bt799 => (if bt799.2.2.2.2.2.2.2.2.2.2.2 = 0 then (if 10 < (x2.size : Int) then (if (bt x2 10) = 255 then (if 11 < (x2.size : Int) then (if (bt x2 11) = 255 then (some true) else ((ip4_Put.f bt799.1 bt799.2.1 bt799.2.2.1 bt799.2.2.2.1 bt799.2.2.2.2.1 bt799.2.2.2.2.2.1 bt799.2.2.2.2.2.2.1 bt799.2.2.2.2.2.2.2.1 bt799.2.2.2.2.2.2.2.2.1 bt799.2.2.2.2.2.2.2.2.2.1 bt799.2.2.2.2.2.2.2.2.2.2.1).bind fun bt812 => (if bt812.2 = 0 then (some (bt812.1.toList == x2.toList)) else (some false)))) else (none)) else ((ip4_Put.f bt799.1 bt799.2.1 bt799.2.2.1 bt799.2.2.2.1 bt799.2.2.2.2.1 bt799.2.2.2.2.2.1 bt799.2.2.2.2.2.2.1 bt799.2.2.2.2.2.2.2.1 bt799.2.2.2.2.2.2.2.2.1 bt799.2.2.2.2.2.2.2.2.2.1 bt799.2.2.2.2.2.2.2.2.2.2.1).bind fun bt814 => (if bt814.2 = 0 then (some (bt814.1.toList == x2.toList)) else (some false)))) else (none)) else (if (bt799.1 == 0 && (bt799.2.1 == 0 && (bt799.2.2.1 == 0 && (bt799.2.2.2.1 == 0 && (bt799.2.2.2.2.1 == 0 && (!bt799.2.2.2.2.2.1 && (!bt799.2.2.2.2.2.2.1 && (bt799.2.2.2.2.2.2.2.1.toList == ([] : List UInt8) && (bt799.2.2.2.2.2.2.2.2.1.toList == ([] : List UInt8) && (bt799.2.2.2.2.2.2.2.2.2.1.toList == ([] : List UInt8))))))))))) = true then (some (bt799.2.2.2.2.2.2.2.2.2.2.1.toList == ([] : List UInt8))) else (some false)))
end
def palanquinlaw05_Ip4Back.f (k : Nat) (a0_0 : Int) (a0_1 : Int) (a0_2 : Int) (a0_3 : Int) (a0_4 : Int) (a0_5 : Bool) (a0_6 : Bool) (a0_7 : ByteArray) (a0_8 : ByteArray) (a0_9 : ByteArray) (a1 : ByteArray) (a2 : ByteArray) : Option (Bool) := (palanquinlaw05_awake.f).bind fun t782 => (if t782 = true then ((palanquinlaw05_few.f a0_0 a0_1 a0_2 a0_3 a0_4 a0_5 a0_6 a0_7 a0_8 a0_9).bind fun t783 => (if t783 = true then (if (a1.size : Int) > 70000 then (palanquinlaw05_Ip4Back.j0 k a1 a2 true a0_0 a0_1 a0_2 a0_3 a0_4 a0_5 a0_6 a0_7 a0_8 a0_9) else (palanquinlaw05_Ip4Back.j0 k a1 a2 (decide ((a2.size : Int) > 70000)) a0_0 a0_1 a0_2 a0_3 a0_4 a0_5 a0_6 a0_7 a0_8 a0_9)) else (palanquinlaw05_Ip4Back.j0 k a1 a2 true a0_0 a0_1 a0_2 a0_3 a0_4 a0_5 a0_6 a0_7 a0_8 a0_9))) else (some false))
theorem palanquinlaw05_Ip4Back.mono_l : ∀ k, (∀ y0 y1 y2 y3 y4 y5 y6 y7 y8 y9 y10 y11 y12, LeO (palanquinlaw05_Ip4Back.j0 k y0 y1 y2 y3 y4 y5 y6 y7 y8 y9 y10 y11 y12) (palanquinlaw05_Ip4Back.j0 (k + 1) y0 y1 y2 y3 y4 y5 y6 y7 y8 y9 y10 y11 y12)) ∧ (∀ y0, LeO (palanquinlaw05_Ip4Back.j1 k y0) (palanquinlaw05_Ip4Back.j1 (k + 1) y0))
  | 0 => ⟨fun _ _ _ _ _ _ _ _ _ _ _ _ _ r h => by simp [palanquinlaw05_Ip4Back.j0] at h, fun _ r h => by simp [palanquinlaw05_Ip4Back.j1] at h⟩
  | k + 1 => by
    obtain ⟨ih0, ih1⟩ := palanquinlaw05_Ip4Back.mono_l k
    refine ⟨?_, ?_⟩
    · intro y0 y1 y2 y3 y4 y5 y6 y7 y8 y9 y10 y11 y12
      unfold palanquinlaw05_Ip4Back.j0
      repeat' first
      | (with_reducible exact ih0 _ _ _ _ _ _ _ _ _ _ _ _ _)
      | (with_reducible exact ih1 _)
      | (with_reducible exact LeO.refl _)
      | (with_reducible exact LeO.none _)
      | (with_reducible refine LeO.ite ?_ ?_)
      | (with_reducible refine LeO.bind ?_ (fun _ => ?_))
      | exact ih0 _ _ _ _ _ _ _ _ _ _ _ _ _
      | exact ih1 _
      | exact LeO.none _
      | refine LeO.ite ?_ ?_
      | refine LeO.bind ?_ (fun _ => ?_)
    · intro y0
      unfold palanquinlaw05_Ip4Back.j1
      repeat' first
      | (with_reducible exact ih0 _ _ _ _ _ _ _ _ _ _ _ _ _)
      | (with_reducible exact ih1 _)
      | (with_reducible exact LeO.refl _)
      | (with_reducible exact LeO.none _)
      | (with_reducible refine LeO.ite ?_ ?_)
      | (with_reducible refine LeO.bind ?_ (fun _ => ?_))
      | exact ih0 _ _ _ _ _ _ _ _ _ _ _ _ _
      | exact ih1 _
      | exact LeO.none _
      | refine LeO.ite ?_ ?_
      | refine LeO.bind ?_ (fun _ => ?_)
theorem palanquinlaw05_Ip4Back.mono : ∀ a0 a1 a2 a3 a4 a5 a6 a7 a8 a9 a10 a11 k, LeO (palanquinlaw05_Ip4Back.f k a0 a1 a2 a3 a4 a5 a6 a7 a8 a9 a10 a11) (palanquinlaw05_Ip4Back.f (k + 1) a0 a1 a2 a3 a4 a5 a6 a7 a8 a9 a10 a11) := by
  intro a0 a1 a2 a3 a4 a5 a6 a7 a8 a9 a10 a11 k
  obtain ⟨ih0, ih1⟩ := palanquinlaw05_Ip4Back.mono_l k
  unfold palanquinlaw05_Ip4Back.f
  repeat' first
      | (with_reducible exact ih0 _ _ _ _ _ _ _ _ _ _ _ _ _)
      | (with_reducible exact ih1 _)
      | (with_reducible exact LeO.refl _)
      | (with_reducible exact LeO.none _)
      | (with_reducible refine LeO.ite ?_ ?_)
      | (with_reducible refine LeO.bind ?_ (fun _ => ?_))
      | exact ih0 _ _ _ _ _ _ _ _ _ _ _ _ _
      | exact ih1 _
      | exact LeO.none _
      | refine LeO.ite ?_ ?_
      | refine LeO.bind ?_ (fun _ => ?_)
set_option maxHeartbeats 8000000 in
set_option maxRecDepth 100000 in
theorem palanquinlaw05_Ip4Back.calls (k : Nat) (a0_0 : Int) (a0_1 : Int) (a0_2 : Int) (a0_3 : Int) (a0_4 : Int) (a0_5 : Bool) (a0_6 : Bool) (a0_7 : ByteArray) (a0_8 : ByteArray) (a0_9 : ByteArray) (a1 : ByteArray) (a2 : ByteArray) (r : Bool) (w : World) (h : palanquinlaw05_Ip4Back.f k a0_0 a0_1 a0_2 a0_3 a0_4 a0_5 a0_6 a0_7 a0_8 a0_9 a1 a2 = some r) (hrt_ : Aside0 (r = true)) :
    Calls Try.prog 29 #[.agg #[.int .i64 a0_0, .int .i64 a0_1, .int .i64 a0_2, .int .i64 a0_3, .int .i64 a0_4, .bool a0_5, .bool a0_6, .string a0_7, .string a0_8, .string a0_9], .string a1, .string a2] w fun e w' => e = .returned (.bool r) ∧ Below w.heap.size w w' := by
  have hu93 := Try.underlying93
  have HB := Aside0.mk (Below.refl w.heap.size w)
  have H : ((palanquinlaw05_awake.f).bind fun t782 => (if t782 = true then ((palanquinlaw05_few.f a0_0 a0_1 a0_2 a0_3 a0_4 a0_5 a0_6 a0_7 a0_8 a0_9).bind fun t783 => (if t783 = true then (if (a1.size : Int) > 70000 then (palanquinlaw05_Ip4Back.j0 k a1 a2 true a0_0 a0_1 a0_2 a0_3 a0_4 a0_5 a0_6 a0_7 a0_8 a0_9) else (palanquinlaw05_Ip4Back.j0 k a1 a2 (decide ((a2.size : Int) > 70000)) a0_0 a0_1 a0_2 a0_3 a0_4 a0_5 a0_6 a0_7 a0_8 a0_9)) else (palanquinlaw05_Ip4Back.j0 k a1 a2 true a0_0 a0_1 a0_2 a0_3 a0_4 a0_5 a0_6 a0_7 a0_8 a0_9))) else (some false))) = some r := h
  clear h
  replace H := Option.bind_eq_some_iff.mp H
  obtain ⟨t782, A40, H⟩ := H
  replace H : (if t782 = true then ((palanquinlaw05_few.f a0_0 a0_1 a0_2 a0_3 a0_4 a0_5 a0_6 a0_7 a0_8 a0_9).bind fun t783 => (if t783 = true then (if (a1.size : Int) > 70000 then (palanquinlaw05_Ip4Back.j0 k a1 a2 true a0_0 a0_1 a0_2 a0_3 a0_4 a0_5 a0_6 a0_7 a0_8 a0_9) else (palanquinlaw05_Ip4Back.j0 k a1 a2 (decide ((a2.size : Int) > 70000)) a0_0 a0_1 a0_2 a0_3 a0_4 a0_5 a0_6 a0_7 a0_8 a0_9)) else (palanquinlaw05_Ip4Back.j0 k a1 a2 true a0_0 a0_1 a0_2 a0_3 a0_4 a0_5 a0_6 a0_7 a0_8 a0_9))) else (some false)) = some r := H
  have A4 := Aside0.mk A40
  clear A40
  by_cases c5 : t782 = true
  · subst c5
    have H1 : ((palanquinlaw05_few.f a0_0 a0_1 a0_2 a0_3 a0_4 a0_5 a0_6 a0_7 a0_8 a0_9).bind fun t783 => (if t783 = true then (if (a1.size : Int) > 70000 then (palanquinlaw05_Ip4Back.j0 k a1 a2 true a0_0 a0_1 a0_2 a0_3 a0_4 a0_5 a0_6 a0_7 a0_8 a0_9) else (palanquinlaw05_Ip4Back.j0 k a1 a2 (decide ((a2.size : Int) > 70000)) a0_0 a0_1 a0_2 a0_3 a0_4 a0_5 a0_6 a0_7 a0_8 a0_9)) else (palanquinlaw05_Ip4Back.j0 k a1 a2 true a0_0 a0_1 a0_2 a0_3 a0_4 a0_5 a0_6 a0_7 a0_8 a0_9))) = some r := by rw [if_pos rfl] at H; exact H
    clear H
    have H := H1
    clear H1
    have HC6 := Aside0.mk H
    clear H
    go_enter Try.func29, Try.ntmps29
    go_upto_region 3 with (first | ((with_reducible refine gate_dst (N := 3) rfl ?_); (try (refine gate_guard (by rfl) ?_; dsimp only)); refine box_event ?hg (N := 3) ?hd (cs := #[.int .i64 a0_0, .int .i64 a0_1, .int .i64 a0_2, .int .i64 a0_3, .int .i64 a0_4, .bool a0_5, .bool a0_6, .string a0_7, .string a0_8, .string a0_9]) (t := 93) ?hr ?_; (case hd => rfl); (case hg => rfl); (case hr => first | (go_simp; done) | (go_simp; rfl)); intro gb781 hg w7 hbox hb; have n0_ := Aside0.mk (below_step (by repeat (first | (with_reducible first | exact HB.out | apply below_alloc | apply pw_below_drewN | apply below_drew1) | exact HB.out)) hb); have n1_ := Aside0.mk (hbox); have n2_ := Aside0.mk ((by rw [hg]; exact (below_size (by repeat (first | (with_reducible first | exact HB.out | apply below_alloc | apply pw_below_drewN | apply below_drew1) | exact HB.out))) : w.heap.size ≤ gb781)); have n3_ := Aside0.mk ((by rw [hg]; exact (below_size (by repeat (first | (with_reducible first | exact HB.out | apply below_alloc | apply pw_below_drewN | apply below_drew1) | exact HB.out))) : w.heap.size ≤ gb781)); clear HB; have HB := n0_; have BK781 := n1_; have GW781 := n2_; have GE781 := n3_; clear n0_ n1_ n2_ n3_; clear hb hbox hg) | ((with_reducible refine gate_callee (f := 83) rfl ?_); refine goesL_ (some 17) rfl rfl Try.func83 (by kernel_rfl) rfl #[] rfl (by (try simp only [List.map_toArray, List.map_cons, List.map_nil]); first | done | rfl | (simp only [List.length_drop, List.length_take]; rfl)) ?_; (with_reducible refine (palanquinlaw05_awake.calls  true _ A4.out).mono ?_); rintro e w8 ⟨rfl, hb⟩; refine ⟨_, rfl, ?_⟩; have n0_ := Aside0.mk (blk_below (g := gb781) (o := .cells #[.int .i64 a0_0, .int .i64 a0_1, .int .i64 a0_2, .int .i64 a0_3, .int .i64 a0_4, .bool a0_5, .bool a0_6, .string a0_7, .string a0_8, .string a0_9] 93 (0, 0)) (by (with_reducible repeat (first | refine blk_drewN ?_ _ | refine blk_drew ?_ | refine blk_alloc ?_ _)); exact BK781.out) hb); have n1_ := Aside0.mk (below_step (by repeat (first | (with_reducible first | exact HB.out | apply below_alloc | apply pw_below_drewN | apply below_drew1 | refine below_set ?_ GE781.out) | exact HB.out)) hb); clear BK781; clear HB; have BK781 := n0_; have HB := n1_; clear n0_ n1_; (try clear hb); (try clear hb2); (try clear hk); (try clear hi)))
    (try simp only [Act.put, List.setIfInBounds_toArray, List.set_cons_zero, List.set_cons_succ])
    go_cut [31] (fun v31 wc => ∃ (kq : Nat) (x31_5 : Bool), v31 = .bool x31_5 ∧ Aside0 (palanquinlaw05_Ip4Back.j0 kq a1 a2 x31_5 a0_0 a0_1 a0_2 a0_3 a0_4 a0_5 a0_6 a0_7 a0_8 a0_9 = some r) ∧ Aside0 (kq ≤ k) ∧ Aside0 (wc.heap[gb781]? = some (.cells #[.int .i64 a0_0, .int .i64 a0_1, .int .i64 a0_2, .int .i64 a0_3, .int .i64 a0_4, .bool a0_5, .bool a0_6, .string a0_7, .string a0_8, .string a0_9] 93 (0, 0))) ∧ Aside0 (Below w.heap.size w wc))
    case first =>
      have H := HC6.out
      clear HC6
      replace H := Option.bind_eq_some_iff.mp H
      obtain ⟨t783, A90, H⟩ := H
      replace H : (if t783 = true then (if (a1.size : Int) > 70000 then (palanquinlaw05_Ip4Back.j0 k a1 a2 true a0_0 a0_1 a0_2 a0_3 a0_4 a0_5 a0_6 a0_7 a0_8 a0_9) else (palanquinlaw05_Ip4Back.j0 k a1 a2 (decide ((a2.size : Int) > 70000)) a0_0 a0_1 a0_2 a0_3 a0_4 a0_5 a0_6 a0_7 a0_8 a0_9)) else (palanquinlaw05_Ip4Back.j0 k a1 a2 true a0_0 a0_1 a0_2 a0_3 a0_4 a0_5 a0_6 a0_7 a0_8 a0_9)) = some r := H
      have A9 := Aside0.mk A90
      clear A90
      by_cases c10 : t783 = true
      · subst c10
        have H1 : (if (a1.size : Int) > 70000 then (palanquinlaw05_Ip4Back.j0 k a1 a2 true a0_0 a0_1 a0_2 a0_3 a0_4 a0_5 a0_6 a0_7 a0_8 a0_9) else (palanquinlaw05_Ip4Back.j0 k a1 a2 (decide ((a2.size : Int) > 70000)) a0_0 a0_1 a0_2 a0_3 a0_4 a0_5 a0_6 a0_7 a0_8 a0_9)) = some r := by rw [if_pos rfl] at H; exact H
        clear H
        have H := H1
        clear H1
        by_cases c11 : (a1.size : Int) > 70000
        · rw [if_pos c11] at H
          have c11b0 : decide (70000 < (a1.size : Int)) = true := decide_eq_true c11
          have c11b1 : decide (70000 < a1.size) = true := decide_eq_true (by omega)
          clear c11
          (first | rw [c11b0] | (simp only [i64_w, i32_w]; rw [c11b0]) | skip)
          have H' := Aside0.mk H
          clear H
          have hcz12_0 : w8.cell? ⟨gb781, 0, none⟩ = some (.int .i64 a0_0) := (blk_cell BK781.out 0).trans rfl
          have hcz12_1 : w8.cell? ⟨gb781, 1, none⟩ = some (.int .i64 a0_1) := (blk_cell BK781.out 1).trans rfl
          have hcz12_2 : w8.cell? ⟨gb781, 2, none⟩ = some (.int .i64 a0_2) := (blk_cell BK781.out 2).trans rfl
          have hcz12_3 : w8.cell? ⟨gb781, 3, none⟩ = some (.int .i64 a0_3) := (blk_cell BK781.out 3).trans rfl
          have hcz12_4 : w8.cell? ⟨gb781, 4, none⟩ = some (.int .i64 a0_4) := (blk_cell BK781.out 4).trans rfl
          have hcz12_5 : w8.cell? ⟨gb781, 5, none⟩ = some (.bool a0_5) := (blk_cell BK781.out 5).trans rfl
          have hcz12_6 : w8.cell? ⟨gb781, 6, none⟩ = some (.bool a0_6) := (blk_cell BK781.out 6).trans rfl
          have hcz12_7 : w8.cell? ⟨gb781, 7, none⟩ = some (.string a0_7) := (blk_cell BK781.out 7).trans rfl
          have hcz12_8 : w8.cell? ⟨gb781, 8, none⟩ = some (.string a0_8) := (blk_cell BK781.out 8).trans rfl
          have hcz12_9 : w8.cell? ⟨gb781, 9, none⟩ = some (.string a0_9) := (blk_cell BK781.out 9).trans rfl
          have hfz12_0 := blk_frozen BK781.out 0
          have hfz12_1 := blk_frozen BK781.out 1
          have hfz12_2 := blk_frozen BK781.out 2
          have hfz12_3 := blk_frozen BK781.out 3
          have hfz12_4 := blk_frozen BK781.out 4
          have hfz12_5 := blk_frozen BK781.out 5
          have hfz12_6 := blk_frozen BK781.out 6
          have hfz12_7 := blk_frozen BK781.out 7
          have hfz12_8 := blk_frozen BK781.out 8
          have hfz12_9 := blk_frozen BK781.out 9
          go_wp2_with (first | ((with_reducible refine gate_callee (f := 84) rfl ?_); refine goesL_ (some 20) rfl rfl Try.func84 (by kernel_rfl) rfl #[.agg #[.int .i64 a0_0, .int .i64 a0_1, .int .i64 a0_2, .int .i64 a0_3, .int .i64 a0_4, .bool a0_5, .bool a0_6, .string a0_7, .string a0_8, .string a0_9]] rfl (by (try simp only [List.map_toArray, List.map_cons, List.map_nil]); first | done | rfl | (simp only [List.length_drop, List.length_take]; rfl)) ?_; (with_reducible refine (palanquinlaw05_few.calls a0_0 a0_1 a0_2 a0_3 a0_4 a0_5 a0_6 a0_7 a0_8 a0_9 true _ A9.out).mono ?_); rintro e w13 ⟨rfl, hb⟩; refine ⟨_, rfl, ?_⟩; have n0_ := Aside0.mk (blk_below (g := gb781) (o := .cells #[.int .i64 a0_0, .int .i64 a0_1, .int .i64 a0_2, .int .i64 a0_3, .int .i64 a0_4, .bool a0_5, .bool a0_6, .string a0_7, .string a0_8, .string a0_9] 93 (0, 0)) (by (with_reducible repeat (first | refine blk_drewN ?_ _ | refine blk_drew ?_ | refine blk_alloc ?_ _)); exact BK781.out) hb); have n1_ := Aside0.mk (below_step (by repeat (first | (with_reducible first | exact HB.out | apply below_alloc | apply pw_below_drewN | apply below_drew1 | refine below_set ?_ GE781.out) | exact HB.out)) hb); clear BK781; clear HB; have BK781 := n0_; have HB := n1_; clear n0_ n1_; (try clear hb); (try clear hb2); (try clear hk); (try clear hi)))
          go_meet
          case rel => exact ⟨_, (true), (by first | rfl | (simp; done) | (simp [*]; done)), H', ⟨by first | omega | exact Nat.le_refl _⟩, ⟨by (with_reducible repeat (first | refine blk_drewN ?_ _ | refine blk_drew ?_ | refine blk_alloc ?_ _)); exact BK781.out⟩, ⟨by repeat (first | (with_reducible first | exact HB.out | apply below_alloc | apply pw_below_drewN | apply below_drew1 | refine below_set ?_ GE781.out) | exact HB.out)⟩⟩
        · rw [if_neg c11] at H
          have c11b0 : decide (70000 < (a1.size : Int)) = false := decide_eq_false c11
          have c11b1 : decide (70000 < a1.size) = false := decide_eq_false (by omega)
          clear c11
          (first | rw [c11b0] | (simp only [i64_w, i32_w]; rw [c11b0]) | skip)
          have H' := Aside0.mk H
          clear H
          have hcz14_0 : w8.cell? ⟨gb781, 0, none⟩ = some (.int .i64 a0_0) := (blk_cell BK781.out 0).trans rfl
          have hcz14_1 : w8.cell? ⟨gb781, 1, none⟩ = some (.int .i64 a0_1) := (blk_cell BK781.out 1).trans rfl
          have hcz14_2 : w8.cell? ⟨gb781, 2, none⟩ = some (.int .i64 a0_2) := (blk_cell BK781.out 2).trans rfl
          have hcz14_3 : w8.cell? ⟨gb781, 3, none⟩ = some (.int .i64 a0_3) := (blk_cell BK781.out 3).trans rfl
          have hcz14_4 : w8.cell? ⟨gb781, 4, none⟩ = some (.int .i64 a0_4) := (blk_cell BK781.out 4).trans rfl
          have hcz14_5 : w8.cell? ⟨gb781, 5, none⟩ = some (.bool a0_5) := (blk_cell BK781.out 5).trans rfl
          have hcz14_6 : w8.cell? ⟨gb781, 6, none⟩ = some (.bool a0_6) := (blk_cell BK781.out 6).trans rfl
          have hcz14_7 : w8.cell? ⟨gb781, 7, none⟩ = some (.string a0_7) := (blk_cell BK781.out 7).trans rfl
          have hcz14_8 : w8.cell? ⟨gb781, 8, none⟩ = some (.string a0_8) := (blk_cell BK781.out 8).trans rfl
          have hcz14_9 : w8.cell? ⟨gb781, 9, none⟩ = some (.string a0_9) := (blk_cell BK781.out 9).trans rfl
          have hfz14_0 := blk_frozen BK781.out 0
          have hfz14_1 := blk_frozen BK781.out 1
          have hfz14_2 := blk_frozen BK781.out 2
          have hfz14_3 := blk_frozen BK781.out 3
          have hfz14_4 := blk_frozen BK781.out 4
          have hfz14_5 := blk_frozen BK781.out 5
          have hfz14_6 := blk_frozen BK781.out 6
          have hfz14_7 := blk_frozen BK781.out 7
          have hfz14_8 := blk_frozen BK781.out 8
          have hfz14_9 := blk_frozen BK781.out 9
          go_wp2_with (first | ((with_reducible refine gate_callee (f := 84) rfl ?_); refine goesL_ (some 20) rfl rfl Try.func84 (by kernel_rfl) rfl #[.agg #[.int .i64 a0_0, .int .i64 a0_1, .int .i64 a0_2, .int .i64 a0_3, .int .i64 a0_4, .bool a0_5, .bool a0_6, .string a0_7, .string a0_8, .string a0_9]] rfl (by (try simp only [List.map_toArray, List.map_cons, List.map_nil]); first | done | rfl | (simp only [List.length_drop, List.length_take]; rfl)) ?_; (with_reducible refine (palanquinlaw05_few.calls a0_0 a0_1 a0_2 a0_3 a0_4 a0_5 a0_6 a0_7 a0_8 a0_9 true _ A9.out).mono ?_); rintro e w15 ⟨rfl, hb⟩; refine ⟨_, rfl, ?_⟩; have n0_ := Aside0.mk (blk_below (g := gb781) (o := .cells #[.int .i64 a0_0, .int .i64 a0_1, .int .i64 a0_2, .int .i64 a0_3, .int .i64 a0_4, .bool a0_5, .bool a0_6, .string a0_7, .string a0_8, .string a0_9] 93 (0, 0)) (by (with_reducible repeat (first | refine blk_drewN ?_ _ | refine blk_drew ?_ | refine blk_alloc ?_ _)); exact BK781.out) hb); have n1_ := Aside0.mk (below_step (by repeat (first | (with_reducible first | exact HB.out | apply below_alloc | apply pw_below_drewN | apply below_drew1 | refine below_set ?_ GE781.out) | exact HB.out)) hb); clear BK781; clear HB; have BK781 := n0_; have HB := n1_; clear n0_ n1_; (try clear hb); (try clear hb2); (try clear hk); (try clear hi)))
          go_meet
          case rel => exact ⟨_, (decide ((a2.size : Int) > 70000)), (by first | rfl | (simp; done) | (simp [*]; done)), H', ⟨by first | omega | exact Nat.le_refl _⟩, ⟨by (with_reducible repeat (first | refine blk_drewN ?_ _ | refine blk_drew ?_ | refine blk_alloc ?_ _)); exact BK781.out⟩, ⟨by repeat (first | (with_reducible first | exact HB.out | apply below_alloc | apply pw_below_drewN | apply below_drew1 | refine below_set ?_ GE781.out) | exact HB.out)⟩⟩
      · replace c10 := Bool.eq_false_iff.mpr c10
        subst c10
        have H1 : (palanquinlaw05_Ip4Back.j0 k a1 a2 true a0_0 a0_1 a0_2 a0_3 a0_4 a0_5 a0_6 a0_7 a0_8 a0_9) = some r := by rw [if_neg (show ¬ (false = true) by decide)] at H; exact H
        clear H
        have H := H1
        clear H1
        have H' := Aside0.mk H
        clear H
        have hcz16_0 : w8.cell? ⟨gb781, 0, none⟩ = some (.int .i64 a0_0) := (blk_cell BK781.out 0).trans rfl
        have hcz16_1 : w8.cell? ⟨gb781, 1, none⟩ = some (.int .i64 a0_1) := (blk_cell BK781.out 1).trans rfl
        have hcz16_2 : w8.cell? ⟨gb781, 2, none⟩ = some (.int .i64 a0_2) := (blk_cell BK781.out 2).trans rfl
        have hcz16_3 : w8.cell? ⟨gb781, 3, none⟩ = some (.int .i64 a0_3) := (blk_cell BK781.out 3).trans rfl
        have hcz16_4 : w8.cell? ⟨gb781, 4, none⟩ = some (.int .i64 a0_4) := (blk_cell BK781.out 4).trans rfl
        have hcz16_5 : w8.cell? ⟨gb781, 5, none⟩ = some (.bool a0_5) := (blk_cell BK781.out 5).trans rfl
        have hcz16_6 : w8.cell? ⟨gb781, 6, none⟩ = some (.bool a0_6) := (blk_cell BK781.out 6).trans rfl
        have hcz16_7 : w8.cell? ⟨gb781, 7, none⟩ = some (.string a0_7) := (blk_cell BK781.out 7).trans rfl
        have hcz16_8 : w8.cell? ⟨gb781, 8, none⟩ = some (.string a0_8) := (blk_cell BK781.out 8).trans rfl
        have hcz16_9 : w8.cell? ⟨gb781, 9, none⟩ = some (.string a0_9) := (blk_cell BK781.out 9).trans rfl
        have hfz16_0 := blk_frozen BK781.out 0
        have hfz16_1 := blk_frozen BK781.out 1
        have hfz16_2 := blk_frozen BK781.out 2
        have hfz16_3 := blk_frozen BK781.out 3
        have hfz16_4 := blk_frozen BK781.out 4
        have hfz16_5 := blk_frozen BK781.out 5
        have hfz16_6 := blk_frozen BK781.out 6
        have hfz16_7 := blk_frozen BK781.out 7
        have hfz16_8 := blk_frozen BK781.out 8
        have hfz16_9 := blk_frozen BK781.out 9
        go_wp2_with (first | ((with_reducible refine gate_callee (f := 84) rfl ?_); refine goesL_ (some 20) rfl rfl Try.func84 (by kernel_rfl) rfl #[.agg #[.int .i64 a0_0, .int .i64 a0_1, .int .i64 a0_2, .int .i64 a0_3, .int .i64 a0_4, .bool a0_5, .bool a0_6, .string a0_7, .string a0_8, .string a0_9]] rfl (by (try simp only [List.map_toArray, List.map_cons, List.map_nil]); first | done | rfl | (simp only [List.length_drop, List.length_take]; rfl)) ?_; (with_reducible refine (palanquinlaw05_few.calls a0_0 a0_1 a0_2 a0_3 a0_4 a0_5 a0_6 a0_7 a0_8 a0_9 false _ A9.out).mono ?_); rintro e w17 ⟨rfl, hb⟩; refine ⟨_, rfl, ?_⟩; have n0_ := Aside0.mk (blk_below (g := gb781) (o := .cells #[.int .i64 a0_0, .int .i64 a0_1, .int .i64 a0_2, .int .i64 a0_3, .int .i64 a0_4, .bool a0_5, .bool a0_6, .string a0_7, .string a0_8, .string a0_9] 93 (0, 0)) (by (with_reducible repeat (first | refine blk_drewN ?_ _ | refine blk_drew ?_ | refine blk_alloc ?_ _)); exact BK781.out) hb); have n1_ := Aside0.mk (below_step (by repeat (first | (with_reducible first | exact HB.out | apply below_alloc | apply pw_below_drewN | apply below_drew1 | refine below_set ?_ GE781.out) | exact HB.out)) hb); clear BK781; clear HB; have BK781 := n0_; have HB := n1_; clear n0_ n1_; (try clear hb); (try clear hb2); (try clear hk); (try clear hi)))
        go_meet
        case rel => exact ⟨_, (true), (by first | rfl | (simp; done) | (simp [*]; done)), H', ⟨by first | omega | exact Nat.le_refl _⟩, ⟨by (with_reducible repeat (first | refine blk_drewN ?_ _ | refine blk_drew ?_ | refine blk_alloc ?_ _)); exact BK781.out⟩, ⟨by repeat (first | (with_reducible first | exact HB.out | apply below_alloc | apply pw_below_drewN | apply below_drew1 | refine below_set ?_ GE781.out) | exact HB.out)⟩⟩
    case rest =>
      clear HC6
      try clear c1
      try clear c2
      try clear p2
      try clear p4
      try clear c5
      try clear c8
      try clear c10
      try clear c11
      try clear c11b0
      try clear c11b1
      try clear hcz12_0
      try clear hcz12_1
      try clear hcz12_2
      try clear hcz12_3
      try clear hcz12_4
      try clear hcz12_5
      try clear hcz12_6
      try clear hcz12_7
      try clear hcz12_8
      try clear hcz12_9
      try clear hcz14_0
      try clear hcz14_1
      try clear hcz14_2
      try clear hcz14_3
      try clear hcz14_4
      try clear hcz14_5
      try clear hcz14_6
      try clear hcz14_7
      try clear hcz14_8
      try clear hcz14_9
      try clear hcz16_0
      try clear hcz16_1
      try clear hcz16_2
      try clear hcz16_3
      try clear hcz16_4
      try clear hcz16_5
      try clear hcz16_6
      try clear hcz16_7
      try clear hcz16_8
      try clear hcz16_9
      try clear hfz12_0
      try clear hfz12_1
      try clear hfz12_2
      try clear hfz12_3
      try clear hfz12_4
      try clear hfz12_5
      try clear hfz12_6
      try clear hfz12_7
      try clear hfz12_8
      try clear hfz12_9
      try clear hfz14_0
      try clear hfz14_1
      try clear hfz14_2
      try clear hfz14_3
      try clear hfz14_4
      try clear hfz14_5
      try clear hfz14_6
      try clear hfz14_7
      try clear hfz14_8
      try clear hfz14_9
      try clear hfz16_0
      try clear hfz16_1
      try clear hfz16_2
      try clear hfz16_3
      try clear hfz16_4
      try clear hfz16_5
      try clear hfz16_6
      try clear hfz16_7
      try clear hfz16_8
      try clear hfz16_9
      obtain ⟨kq, x31_5, rfl, HA, HJ5, BK781, HB⟩ := hcut
      cases kq with
      | zero => exact absurd HA.out (by simp [palanquinlaw05_Ip4Back.j0])
      | succ kj5 =>
        have H := HA.out
        clear HA
        simp only [palanquinlaw05_Ip4Back.j0] at H
        by_cases c18 : x31_5 = true
        · subst c18
          have H1 : (some true) = some r := by rw [if_pos rfl] at H; exact H
          clear H
          have H := H1
          clear H1
          obtain rfl := Option.some.inj H
          go_wp2
          go_ret
          exact ⟨by first | rfl | (simp [errW_none, errW_some] <;> rfl) | (simp [*, errW_none, errW_some] <;> rfl), by repeat (first | (with_reducible first | exact HB.out | apply below_alloc | apply pw_below_drewN | apply below_drew1 | refine below_set ?_ GE781.out) | exact HB.out)⟩
        · replace c18 := Bool.eq_false_iff.mpr c18
          subst c18
          have H1 : ((ip4_Put.f a0_0 a0_1 a0_2 a0_3 a0_4 a0_5 a0_6 a0_7 a0_8 a0_9 a1).bind fun bt784 => (if bt784.2 = 0 then ((ip4_Get.f bt784.1).bind fun bt786 => (if (!(bt786.1 == a0_0) || (!(bt786.2.1 == a0_1) || (!(bt786.2.2.1 == a0_2) || (!(bt786.2.2.2.1 == a0_3) || (!(bt786.2.2.2.2.1 == a0_4) || (!(bt786.2.2.2.2.2.1 == a0_5) || (!(bt786.2.2.2.2.2.2.1 == a0_6) || (!(bt786.2.2.2.2.2.2.2.1.toList == a0_7.toList) || (!(bt786.2.2.2.2.2.2.2.2.1.toList == a0_8.toList) || (!(bt786.2.2.2.2.2.2.2.2.2.1.toList == a0_9.toList))))))))))) = true then (some false) else (if bt786.2.2.2.2.2.2.2.2.2.2.1.toList = a1.toList then (if bt786.2.2.2.2.2.2.2.2.2.2.2 = 0 then (palanquinlaw05_Ip4Back.j1 kj5 a2) else (some false)) else (some false)))) else (if bt784.1.toList = ([] : List UInt8) then (palanquinlaw05_Ip4Back.j1 kj5 a2) else (some false)))) = some r := by rw [if_neg (show ¬ (false = true) by decide)] at H; exact H
          clear H
          have H := H1
          clear H1
          replace H := Option.bind_eq_some_iff.mp H
          obtain ⟨⟨t784, t785⟩, A190, H⟩ := H
          replace H : (if t785 = 0 then ((ip4_Get.f t784).bind fun bt786 => (if (!(bt786.1 == a0_0) || (!(bt786.2.1 == a0_1) || (!(bt786.2.2.1 == a0_2) || (!(bt786.2.2.2.1 == a0_3) || (!(bt786.2.2.2.2.1 == a0_4) || (!(bt786.2.2.2.2.2.1 == a0_5) || (!(bt786.2.2.2.2.2.2.1 == a0_6) || (!(bt786.2.2.2.2.2.2.2.1.toList == a0_7.toList) || (!(bt786.2.2.2.2.2.2.2.2.1.toList == a0_8.toList) || (!(bt786.2.2.2.2.2.2.2.2.2.1.toList == a0_9.toList))))))))))) = true then (some false) else (if bt786.2.2.2.2.2.2.2.2.2.2.1.toList = a1.toList then (if bt786.2.2.2.2.2.2.2.2.2.2.2 = 0 then (palanquinlaw05_Ip4Back.j1 kj5 a2) else (some false)) else (some false)))) else (if t784.toList = ([] : List UInt8) then (palanquinlaw05_Ip4Back.j1 kj5 a2) else (some false))) = some r := H
          have A19 := Aside0.mk A190
          clear A190
          have HC20 := Aside0.mk H
          clear H
          have hcz21_0 : wc.cell? ⟨gb781, 0, none⟩ = some (.int .i64 a0_0) := (blk_cell BK781.out 0).trans rfl
          have hcz21_1 : wc.cell? ⟨gb781, 1, none⟩ = some (.int .i64 a0_1) := (blk_cell BK781.out 1).trans rfl
          have hcz21_2 : wc.cell? ⟨gb781, 2, none⟩ = some (.int .i64 a0_2) := (blk_cell BK781.out 2).trans rfl
          have hcz21_3 : wc.cell? ⟨gb781, 3, none⟩ = some (.int .i64 a0_3) := (blk_cell BK781.out 3).trans rfl
          have hcz21_4 : wc.cell? ⟨gb781, 4, none⟩ = some (.int .i64 a0_4) := (blk_cell BK781.out 4).trans rfl
          have hcz21_5 : wc.cell? ⟨gb781, 5, none⟩ = some (.bool a0_5) := (blk_cell BK781.out 5).trans rfl
          have hcz21_6 : wc.cell? ⟨gb781, 6, none⟩ = some (.bool a0_6) := (blk_cell BK781.out 6).trans rfl
          have hcz21_7 : wc.cell? ⟨gb781, 7, none⟩ = some (.string a0_7) := (blk_cell BK781.out 7).trans rfl
          have hcz21_8 : wc.cell? ⟨gb781, 8, none⟩ = some (.string a0_8) := (blk_cell BK781.out 8).trans rfl
          have hcz21_9 : wc.cell? ⟨gb781, 9, none⟩ = some (.string a0_9) := (blk_cell BK781.out 9).trans rfl
          have hfz21_0 := blk_frozen BK781.out 0
          have hfz21_1 := blk_frozen BK781.out 1
          have hfz21_2 := blk_frozen BK781.out 2
          have hfz21_3 := blk_frozen BK781.out 3
          have hfz21_4 := blk_frozen BK781.out 4
          have hfz21_5 := blk_frozen BK781.out 5
          have hfz21_6 := blk_frozen BK781.out 6
          have hfz21_7 := blk_frozen BK781.out 7
          have hfz21_8 := blk_frozen BK781.out 8
          have hfz21_9 := blk_frozen BK781.out 9
          go_upto_if 39 with (first | ((with_reducible refine gate_callee (f := 85) rfl ?_); refine goesL_ (some 35) rfl rfl Try.func85 (by kernel_rfl) rfl #[.agg #[.int .i64 a0_0, .int .i64 a0_1, .int .i64 a0_2, .int .i64 a0_3, .int .i64 a0_4, .bool a0_5, .bool a0_6, .string a0_7, .string a0_8, .string a0_9], .string a1] rfl (by (try simp only [List.map_toArray, List.map_cons, List.map_nil]); first | done | rfl | (simp only [List.length_drop, List.length_take]; rfl)) ?_; (with_reducible refine (ip4_Put.calls a0_0 a0_1 a0_2 a0_3 a0_4 a0_5 a0_6 a0_7 a0_8 a0_9 a1 t784 t785 _ A19.out).mono ?_); rintro e w22 ⟨rfl, hb⟩; refine ⟨_, rfl, ?_⟩; have n0_ := Aside0.mk (blk_below (g := gb781) (o := .cells #[.int .i64 a0_0, .int .i64 a0_1, .int .i64 a0_2, .int .i64 a0_3, .int .i64 a0_4, .bool a0_5, .bool a0_6, .string a0_7, .string a0_8, .string a0_9] 93 (0, 0)) (by (with_reducible repeat (first | refine blk_drewN ?_ _ | refine blk_drew ?_ | refine blk_alloc ?_ _)); exact BK781.out) hb); have n1_ := Aside0.mk (below_step (by repeat (first | (with_reducible first | exact HB.out | apply below_alloc | apply pw_below_drewN | apply below_drew1 | refine below_set ?_ GE781.out) | exact HB.out)) hb); clear BK781; clear HB; have BK781 := n0_; have HB := n1_; clear n0_ n1_; (try clear hb); (try clear hb2); (try clear hk); (try clear hi)))
          (try simp only [Act.put, List.setIfInBounds_toArray, List.set_cons_zero, List.set_cons_succ])
          go_cut [] (fun wc => ∃ (kq : Nat), Aside0 (palanquinlaw05_Ip4Back.j1 kq a2 = some r) ∧ Aside0 (kq ≤ kj5) ∧ Aside0 (wc.heap[gb781]? = some (.cells #[.int .i64 a0_0, .int .i64 a0_1, .int .i64 a0_2, .int .i64 a0_3, .int .i64 a0_4, .bool a0_5, .bool a0_6, .string a0_7, .string a0_8, .string a0_9] 93 (0, 0))) ∧ Aside0 (Below w.heap.size w wc))
          case first =>
            have H := HC20.out
            clear HC20
            by_cases c23 : t785 = 0
            · rw [if_pos c23] at H
              have c23b0 : (t785 == 0) = true := beq_iff_eq.mpr c23
              have c23b1 : (t785 != 0) = false := bne_eq_false_iff_eq.mpr c23
              clear c23
              (first | rw [c23b0] | (simp only [i64_w, i32_w]; rw [c23b0]) | skip)
              replace H := Option.bind_eq_some_iff.mp H
              obtain ⟨⟨t786, t787, t788, t789, t790, t791, t792, t793, t794, t795, t796, t797⟩, A240, H⟩ := H
              replace H : (if (!(t786 == a0_0) || (!(t787 == a0_1) || (!(t788 == a0_2) || (!(t789 == a0_3) || (!(t790 == a0_4) || (!(t791 == a0_5) || (!(t792 == a0_6) || (!(t793.toList == a0_7.toList) || (!(t794.toList == a0_8.toList) || (!(t795.toList == a0_9.toList))))))))))) = true then (some false) else (if t796.toList = a1.toList then (if t797 = 0 then (palanquinlaw05_Ip4Back.j1 kj5 a2) else (some false)) else (some false))) = some r := H
              have A24 := Aside0.mk A240
              clear A240
              by_cases c25 : (!(t786 == a0_0) || (!(t787 == a0_1) || (!(t788 == a0_2) || (!(t789 == a0_3) || (!(t790 == a0_4) || (!(t791 == a0_5) || (!(t792 == a0_6) || (!(t793.toList == a0_7.toList) || (!(t794.toList == a0_8.toList) || (!(t795.toList == a0_9.toList))))))))))) = true
              · rw [if_pos c25] at H
                exact absurd ((Option.some.inj H).trans hrt_.out) (by decide)
              · rw [if_neg c25] at H
                have c25b0 : (!(t786 == a0_0) || (!(t787 == a0_1) || (!(t788 == a0_2) || (!(t789 == a0_3) || (!(t790 == a0_4) || (!(t791 == a0_5) || (!(t792 == a0_6) || (!(t793.toList == a0_7.toList) || (!(t794.toList == a0_8.toList) || (!(t795.toList == a0_9.toList))))))))))) = false := by simpa using c25
                clear c25
                by_cases c31 : t796.toList = a1.toList
                · rw [if_pos c31] at H
                  have c31b0 : (t796.toList == a1.toList) = true := beq_iff_eq.mpr c31
                  have c31b1 : (t796.toList != a1.toList) = false := bne_eq_false_iff_eq.mpr c31
                  clear c31
                  by_cases c32 : t797 = 0
                  · rw [if_pos c32] at H
                    have c32b0 : (t797 == 0) = true := beq_iff_eq.mpr c32
                    have c32b1 : (t797 != 0) = false := bne_eq_false_iff_eq.mpr c32
                    clear c32
                    have H' := Aside0.mk H
                    clear H
                    go_wp2_with (first | ((with_reducible refine gate_callee (f := 111) rfl ?_); refine goesL_ (some 42) rfl rfl Try.func111 (by kernel_rfl) rfl #[.string t784] rfl (by (try simp only [List.map_toArray, List.map_cons, List.map_nil]); first | done | rfl | (simp only [List.length_drop, List.length_take]; rfl)) ?_; (with_reducible refine (ip4_Get.calls t784 t786 t787 t788 t789 t790 t791 t792 t793 t794 t795 t796 t797 _ A24.out).mono ?_); rintro e w33 ⟨rfl, hb⟩; refine ⟨_, rfl, ?_⟩; have n0_ := Aside0.mk (blk_below (g := gb781) (o := .cells #[.int .i64 a0_0, .int .i64 a0_1, .int .i64 a0_2, .int .i64 a0_3, .int .i64 a0_4, .bool a0_5, .bool a0_6, .string a0_7, .string a0_8, .string a0_9] 93 (0, 0)) (by (with_reducible repeat (first | refine blk_drewN ?_ _ | refine blk_drew ?_ | refine blk_alloc ?_ _)); exact BK781.out) hb); have n1_ := Aside0.mk (below_step (by repeat (first | (with_reducible first | exact HB.out | apply below_alloc | apply pw_below_drewN | apply below_drew1 | refine below_set ?_ GE781.out) | exact HB.out)) hb); clear BK781; clear HB; have BK781 := n0_; have HB := n1_; clear n0_ n1_; (try clear hb); (try clear hb2); (try clear hk); (try clear hi)) | ((with_reducible refine gate_dst (N := 9) rfl ?_); (try (refine gate_guard (by rfl) ?_; dsimp only)); refine box_event ?hg (N := 9) ?hd (cs := #[.int .i64 0, .int .i64 0, .int .i64 0, .int .i64 0, .int .i64 0, .bool false, .bool false, .string (⟨#[]⟩ : ByteArray), .string (⟨#[]⟩ : ByteArray), .string (⟨#[]⟩ : ByteArray)]) (t := 93) ?hr ?_; (case hd => rfl); (case hg => rfl); (case hr => first | (go_simp; done) | (go_simp; rfl)); intro gb798 hg w34 hbox hb; have n0_ := Aside0.mk (blk_below (g := gb781) (o := .cells #[.int .i64 a0_0, .int .i64 a0_1, .int .i64 a0_2, .int .i64 a0_3, .int .i64 a0_4, .bool a0_5, .bool a0_6, .string a0_7, .string a0_8, .string a0_9] 93 (0, 0)) (by (with_reducible repeat (first | refine blk_drewN ?_ _ | refine blk_drew ?_ | refine blk_alloc ?_ _)); exact BK781.out) hb); have n1_ := Aside0.mk (below_step (by repeat (first | (with_reducible first | exact HB.out | apply below_alloc | apply pw_below_drewN | apply below_drew1 | refine below_set ?_ GE781.out) | exact HB.out)) hb); have n2_ := Aside0.mk (hbox); have n3_ := Aside0.mk ((by rw [hg]; exact (below_size (by repeat (first | (with_reducible first | exact HB.out | apply below_alloc | apply pw_below_drewN | apply below_drew1 | refine below_set ?_ GE781.out) | exact HB.out))) : w.heap.size ≤ gb798)); have n4_ := Aside0.mk ((by rw [hg]; exact (below_size (by repeat (first | (with_reducible first | exact HB.out | apply below_alloc | apply pw_below_drewN | apply below_drew1 | refine below_set ?_ GE781.out) | exact HB.out))) : w.heap.size ≤ gb798)); have n5_ := Aside0.mk ((by rw [hg]; exact Nat.ne_of_lt (blk_lt (g := gb781) (o := .cells #[.int .i64 a0_0, .int .i64 a0_1, .int .i64 a0_2, .int .i64 a0_3, .int .i64 a0_4, .bool a0_5, .bool a0_6, .string a0_7, .string a0_8, .string a0_9] 93 (0, 0)) (by (with_reducible repeat (first | refine blk_drewN ?_ _ | refine blk_drew ?_ | refine blk_alloc ?_ _)); exact BK781.out)) : gb781 ≠ gb798)); have n6_ := Aside0.mk ((by rw [hg]; exact Nat.ne_of_gt (blk_lt (g := gb781) (o := .cells #[.int .i64 a0_0, .int .i64 a0_1, .int .i64 a0_2, .int .i64 a0_3, .int .i64 a0_4, .bool a0_5, .bool a0_6, .string a0_7, .string a0_8, .string a0_9] 93 (0, 0)) (by (with_reducible repeat (first | refine blk_drewN ?_ _ | refine blk_drew ?_ | refine blk_alloc ?_ _)); exact BK781.out)) : gb798 ≠ gb781)); clear BK781; clear HB; have BK781 := n0_; have HB := n1_; have BK798 := n2_; have GW798 := n3_; have GE798 := n4_; have NB781_798 := n5_; have NB798_781 := n6_; clear n0_ n1_ n2_ n3_ n4_ n5_ n6_; clear hb hbox hg; have hnb35 := NB798_781.out; have hnc35 := NB781_798.out; have hcz36_0 : w34.cell? ⟨gb798, 0, none⟩ = some (.int .i64 0) := (blk_cell BK798.out 0).trans rfl; have hcz36_1 : w34.cell? ⟨gb798, 1, none⟩ = some (.int .i64 0) := (blk_cell BK798.out 1).trans rfl; have hcz36_2 : w34.cell? ⟨gb798, 2, none⟩ = some (.int .i64 0) := (blk_cell BK798.out 2).trans rfl; have hcz36_3 : w34.cell? ⟨gb798, 3, none⟩ = some (.int .i64 0) := (blk_cell BK798.out 3).trans rfl; have hcz36_4 : w34.cell? ⟨gb798, 4, none⟩ = some (.int .i64 0) := (blk_cell BK798.out 4).trans rfl; have hcz36_5 : w34.cell? ⟨gb798, 5, none⟩ = some (.bool false) := (blk_cell BK798.out 5).trans rfl; have hcz36_6 : w34.cell? ⟨gb798, 6, none⟩ = some (.bool false) := (blk_cell BK798.out 6).trans rfl; have hcz36_7 : w34.cell? ⟨gb798, 7, none⟩ = some (.string (⟨#[]⟩ : ByteArray)) := (blk_cell BK798.out 7).trans rfl; have hcz36_8 : w34.cell? ⟨gb798, 8, none⟩ = some (.string (⟨#[]⟩ : ByteArray)) := (blk_cell BK798.out 8).trans rfl; have hcz36_9 : w34.cell? ⟨gb798, 9, none⟩ = some (.string (⟨#[]⟩ : ByteArray)) := (blk_cell BK798.out 9).trans rfl; have hfz36_0 := blk_frozen BK798.out 0; have hfz36_1 := blk_frozen BK798.out 1; have hfz36_2 := blk_frozen BK798.out 2; have hfz36_3 := blk_frozen BK798.out 3; have hfz36_4 := blk_frozen BK798.out 4; have hfz36_5 := blk_frozen BK798.out 5; have hfz36_6 := blk_frozen BK798.out 6; have hfz36_7 := blk_frozen BK798.out 7; have hfz36_8 := blk_frozen BK798.out 8; have hfz36_9 := blk_frozen BK798.out 9; have hcz37_0 : w34.cell? ⟨gb781, 0, none⟩ = some (.int .i64 a0_0) := (blk_cell BK781.out 0).trans rfl; have hcz37_1 : w34.cell? ⟨gb781, 1, none⟩ = some (.int .i64 a0_1) := (blk_cell BK781.out 1).trans rfl; have hcz37_2 : w34.cell? ⟨gb781, 2, none⟩ = some (.int .i64 a0_2) := (blk_cell BK781.out 2).trans rfl; have hcz37_3 : w34.cell? ⟨gb781, 3, none⟩ = some (.int .i64 a0_3) := (blk_cell BK781.out 3).trans rfl; have hcz37_4 : w34.cell? ⟨gb781, 4, none⟩ = some (.int .i64 a0_4) := (blk_cell BK781.out 4).trans rfl; have hcz37_5 : w34.cell? ⟨gb781, 5, none⟩ = some (.bool a0_5) := (blk_cell BK781.out 5).trans rfl; have hcz37_6 : w34.cell? ⟨gb781, 6, none⟩ = some (.bool a0_6) := (blk_cell BK781.out 6).trans rfl; have hcz37_7 : w34.cell? ⟨gb781, 7, none⟩ = some (.string a0_7) := (blk_cell BK781.out 7).trans rfl; have hcz37_8 : w34.cell? ⟨gb781, 8, none⟩ = some (.string a0_8) := (blk_cell BK781.out 8).trans rfl; have hcz37_9 : w34.cell? ⟨gb781, 9, none⟩ = some (.string a0_9) := (blk_cell BK781.out 9).trans rfl; have hfz37_0 := blk_frozen BK781.out 0; have hfz37_1 := blk_frozen BK781.out 1; have hfz37_2 := blk_frozen BK781.out 2; have hfz37_3 := blk_frozen BK781.out 3; have hfz37_4 := blk_frozen BK781.out 4; have hfz37_5 := blk_frozen BK781.out 5; have hfz37_6 := blk_frozen BK781.out 6; have hfz37_7 := blk_frozen BK781.out 7; have hfz37_8 := blk_frozen BK781.out 8; have hfz37_9 := blk_frozen BK781.out 9))
                    go_meet
                    case rel => exact ⟨_, H', ⟨by have := HJ5.out; first | omega | exact Nat.le_refl _⟩, ⟨by (with_reducible repeat (first | refine blk_drewN ?_ _ | refine blk_drew ?_ | refine blk_alloc ?_ _)); refine blk_far ?_ NB781_798.out _; (with_reducible repeat (first | refine blk_drewN ?_ _ | refine blk_drew ?_ | refine blk_alloc ?_ _)); refine blk_far ?_ NB781_798.out _; (with_reducible repeat (first | refine blk_drewN ?_ _ | refine blk_drew ?_ | refine blk_alloc ?_ _)); refine blk_far ?_ NB781_798.out _; (with_reducible repeat (first | refine blk_drewN ?_ _ | refine blk_drew ?_ | refine blk_alloc ?_ _)); refine blk_far ?_ NB781_798.out _; (with_reducible repeat (first | refine blk_drewN ?_ _ | refine blk_drew ?_ | refine blk_alloc ?_ _)); refine blk_far ?_ NB781_798.out _; (with_reducible repeat (first | refine blk_drewN ?_ _ | refine blk_drew ?_ | refine blk_alloc ?_ _)); refine blk_far ?_ NB781_798.out _; (with_reducible repeat (first | refine blk_drewN ?_ _ | refine blk_drew ?_ | refine blk_alloc ?_ _)); refine blk_far ?_ NB781_798.out _; (with_reducible repeat (first | refine blk_drewN ?_ _ | refine blk_drew ?_ | refine blk_alloc ?_ _)); refine blk_far ?_ NB781_798.out _; (with_reducible repeat (first | refine blk_drewN ?_ _ | refine blk_drew ?_ | refine blk_alloc ?_ _)); refine blk_far ?_ NB781_798.out _; (with_reducible repeat (first | refine blk_drewN ?_ _ | refine blk_drew ?_ | refine blk_alloc ?_ _)); refine blk_far ?_ NB781_798.out _; (with_reducible repeat (first | refine blk_drewN ?_ _ | refine blk_drew ?_ | refine blk_alloc ?_ _)); exact BK781.out⟩, ⟨by repeat (first | (with_reducible first | exact HB.out | apply below_alloc | apply pw_below_drewN | apply below_drew1 | refine below_set ?_ GE781.out | refine below_set ?_ GE798.out) | exact HB.out)⟩⟩
                  · rw [if_neg c32] at H
                    exact absurd ((Option.some.inj H).trans hrt_.out) (by decide)
                · rw [if_neg c31] at H
                  exact absurd ((Option.some.inj H).trans hrt_.out) (by decide)
            · rw [if_neg c23] at H
              have c23b0 : (t785 == 0) = false := beq_eq_false_iff_ne.mpr c23
              have c23b1 : (t785 != 0) = true := bne_iff_ne.mpr c23
              (first | rw [c23b0] | (simp only [i64_w, i32_w]; rw [c23b0]) | skip)
              by_cases c48 : t784.toList = ([] : List UInt8)
              · rw [if_pos c48] at H
                have c48b0 : (t784.toList == ([] : List UInt8)) = true := beq_iff_eq.mpr c48
                have c48b1 : (t784.toList != ([] : List UInt8)) = false := bne_eq_false_iff_eq.mpr c48
                clear c48
                have H' := Aside0.mk H
                clear H
                go_wp2
                go_meet
                case rel => exact ⟨_, H', ⟨by have := HJ5.out; first | omega | exact Nat.le_refl _⟩, ⟨by (with_reducible repeat (first | refine blk_drewN ?_ _ | refine blk_drew ?_ | refine blk_alloc ?_ _)); exact BK781.out⟩, ⟨by repeat (first | (with_reducible first | exact HB.out | apply below_alloc | apply pw_below_drewN | apply below_drew1 | refine below_set ?_ GE781.out) | exact HB.out)⟩⟩
              · rw [if_neg c48] at H
                exact absurd ((Option.some.inj H).trans hrt_.out) (by decide)
          case rest =>
            clear HC20
            try clear c1
            try clear c2
            try clear p2
            try clear c3
            try clear c4
            try clear p4
            try clear c5
            try clear c8
            try clear c10
            try clear c11
            try clear c11b0
            try clear c11b1
            try clear c18
            try clear c23
            try clear c23b0
            try clear c23b1
            try clear c25
            try clear c25b0
            try clear c28
            try clear c29
            try clear c31
            try clear c31b0
            try clear c31b1
            try clear c32
            try clear c32b0
            try clear c32b1
            try clear c35
            try clear c40
            try clear c45
            try clear c48
            try clear c48b0
            try clear c48b1
            try clear hcz12_0
            try clear hcz12_1
            try clear hcz12_2
            try clear hcz12_3
            try clear hcz12_4
            try clear hcz12_5
            try clear hcz12_6
            try clear hcz12_7
            try clear hcz12_8
            try clear hcz12_9
            try clear hcz14_0
            try clear hcz14_1
            try clear hcz14_2
            try clear hcz14_3
            try clear hcz14_4
            try clear hcz14_5
            try clear hcz14_6
            try clear hcz14_7
            try clear hcz14_8
            try clear hcz14_9
            try clear hcz16_0
            try clear hcz16_1
            try clear hcz16_2
            try clear hcz16_3
            try clear hcz16_4
            try clear hcz16_5
            try clear hcz16_6
            try clear hcz16_7
            try clear hcz16_8
            try clear hcz16_9
            try clear hcz21_0
            try clear hcz21_1
            try clear hcz21_2
            try clear hcz21_3
            try clear hcz21_4
            try clear hcz21_5
            try clear hcz21_6
            try clear hcz21_7
            try clear hcz21_8
            try clear hcz21_9
            try clear hcz29_0
            try clear hcz29_1
            try clear hcz29_2
            try clear hcz29_3
            try clear hcz29_4
            try clear hcz29_5
            try clear hcz29_6
            try clear hcz29_7
            try clear hcz29_8
            try clear hcz29_9
            try clear hcz30_0
            try clear hcz30_1
            try clear hcz30_2
            try clear hcz30_3
            try clear hcz30_4
            try clear hcz30_5
            try clear hcz30_6
            try clear hcz30_7
            try clear hcz30_8
            try clear hcz30_9
            try clear hcz36_0
            try clear hcz36_1
            try clear hcz36_2
            try clear hcz36_3
            try clear hcz36_4
            try clear hcz36_5
            try clear hcz36_6
            try clear hcz36_7
            try clear hcz36_8
            try clear hcz36_9
            try clear hcz37_0
            try clear hcz37_1
            try clear hcz37_2
            try clear hcz37_3
            try clear hcz37_4
            try clear hcz37_5
            try clear hcz37_6
            try clear hcz37_7
            try clear hcz37_8
            try clear hcz37_9
            try clear hcz41_0
            try clear hcz41_1
            try clear hcz41_2
            try clear hcz41_3
            try clear hcz41_4
            try clear hcz41_5
            try clear hcz41_6
            try clear hcz41_7
            try clear hcz41_8
            try clear hcz41_9
            try clear hcz42_0
            try clear hcz42_1
            try clear hcz42_2
            try clear hcz42_3
            try clear hcz42_4
            try clear hcz42_5
            try clear hcz42_6
            try clear hcz42_7
            try clear hcz42_8
            try clear hcz42_9
            try clear hcz46_0
            try clear hcz46_1
            try clear hcz46_2
            try clear hcz46_3
            try clear hcz46_4
            try clear hcz46_5
            try clear hcz46_6
            try clear hcz46_7
            try clear hcz46_8
            try clear hcz46_9
            try clear hcz47_0
            try clear hcz47_1
            try clear hcz47_2
            try clear hcz47_3
            try clear hcz47_4
            try clear hcz47_5
            try clear hcz47_6
            try clear hcz47_7
            try clear hcz47_8
            try clear hcz47_9
            try clear hfz12_0
            try clear hfz12_1
            try clear hfz12_2
            try clear hfz12_3
            try clear hfz12_4
            try clear hfz12_5
            try clear hfz12_6
            try clear hfz12_7
            try clear hfz12_8
            try clear hfz12_9
            try clear hfz14_0
            try clear hfz14_1
            try clear hfz14_2
            try clear hfz14_3
            try clear hfz14_4
            try clear hfz14_5
            try clear hfz14_6
            try clear hfz14_7
            try clear hfz14_8
            try clear hfz14_9
            try clear hfz16_0
            try clear hfz16_1
            try clear hfz16_2
            try clear hfz16_3
            try clear hfz16_4
            try clear hfz16_5
            try clear hfz16_6
            try clear hfz16_7
            try clear hfz16_8
            try clear hfz16_9
            try clear hfz21_0
            try clear hfz21_1
            try clear hfz21_2
            try clear hfz21_3
            try clear hfz21_4
            try clear hfz21_5
            try clear hfz21_6
            try clear hfz21_7
            try clear hfz21_8
            try clear hfz21_9
            try clear hfz29_0
            try clear hfz29_1
            try clear hfz29_2
            try clear hfz29_3
            try clear hfz29_4
            try clear hfz29_5
            try clear hfz29_6
            try clear hfz29_7
            try clear hfz29_8
            try clear hfz29_9
            try clear hfz30_0
            try clear hfz30_1
            try clear hfz30_2
            try clear hfz30_3
            try clear hfz30_4
            try clear hfz30_5
            try clear hfz30_6
            try clear hfz30_7
            try clear hfz30_8
            try clear hfz30_9
            try clear hfz36_0
            try clear hfz36_1
            try clear hfz36_2
            try clear hfz36_3
            try clear hfz36_4
            try clear hfz36_5
            try clear hfz36_6
            try clear hfz36_7
            try clear hfz36_8
            try clear hfz36_9
            try clear hfz37_0
            try clear hfz37_1
            try clear hfz37_2
            try clear hfz37_3
            try clear hfz37_4
            try clear hfz37_5
            try clear hfz37_6
            try clear hfz37_7
            try clear hfz37_8
            try clear hfz37_9
            try clear hfz41_0
            try clear hfz41_1
            try clear hfz41_2
            try clear hfz41_3
            try clear hfz41_4
            try clear hfz41_5
            try clear hfz41_6
            try clear hfz41_7
            try clear hfz41_8
            try clear hfz41_9
            try clear hfz42_0
            try clear hfz42_1
            try clear hfz42_2
            try clear hfz42_3
            try clear hfz42_4
            try clear hfz42_5
            try clear hfz42_6
            try clear hfz42_7
            try clear hfz42_8
            try clear hfz42_9
            try clear hfz46_0
            try clear hfz46_1
            try clear hfz46_2
            try clear hfz46_3
            try clear hfz46_4
            try clear hfz46_5
            try clear hfz46_6
            try clear hfz46_7
            try clear hfz46_8
            try clear hfz46_9
            try clear hfz47_0
            try clear hfz47_1
            try clear hfz47_2
            try clear hfz47_3
            try clear hfz47_4
            try clear hfz47_5
            try clear hfz47_6
            try clear hfz47_7
            try clear hfz47_8
            try clear hfz47_9
            try clear p2
            try clear p4
            obtain ⟨kq, HA, HJ19, BK781, HB⟩ := hcut
            cases kq with
            | zero => exact absurd HA.out (by simp [palanquinlaw05_Ip4Back.j1])
            | succ kj19 =>
              have H := HA.out
              clear HA
              simp only [palanquinlaw05_Ip4Back.j1] at H
              replace H := Option.bind_eq_some_iff.mp H
              obtain ⟨⟨t799, t800, t801, t802, t803, t804, t805, t806, t807, t808, t809, t810⟩, A490, H⟩ := H
              replace H : (if t810 = 0 then (if 10 < (a2.size : Int) then (if (bt a2 10) = 255 then (if 11 < (a2.size : Int) then (if (bt a2 11) = 255 then (some true) else ((ip4_Put.f t799 t800 t801 t802 t803 t804 t805 t806 t807 t808 t809).bind fun bt812 => (if bt812.2 = 0 then (some (bt812.1.toList == a2.toList)) else (some false)))) else (none)) else ((ip4_Put.f t799 t800 t801 t802 t803 t804 t805 t806 t807 t808 t809).bind fun bt814 => (if bt814.2 = 0 then (some (bt814.1.toList == a2.toList)) else (some false)))) else (none)) else (if (t799 == 0 && (t800 == 0 && (t801 == 0 && (t802 == 0 && (t803 == 0 && (!t804 && (!t805 && (t806.toList == ([] : List UInt8) && (t807.toList == ([] : List UInt8) && (t808.toList == ([] : List UInt8))))))))))) = true then (some (t809.toList == ([] : List UInt8))) else (some false))) = some r := H
              have A49 := Aside0.mk A490
              clear A490
              by_cases c50 : t810 = 0
              · rw [if_pos c50] at H
                have c50b0 : (t810 == 0) = true := beq_iff_eq.mpr c50
                have c50b1 : (t810 != 0) = false := bne_eq_false_iff_eq.mpr c50
                clear c50
                by_cases c51 : 10 < (a2.size : Int)
                · rw [if_pos c51] at H
                  have c51b0 : decide (10 < (a2.size : Int)) = true := decide_eq_true c51
                  have c51b1 : decide (10 < a2.size) = true := decide_eq_true (by omega)
                  clear c51
                  by_cases c53 : (bt a2 10) = 255
                  · rw [if_pos c53] at H
                    have c53b0 : ((bt a2 10) == 255) = true := beq_iff_eq.mpr c53
                    have c53b1 : ((bt a2 10) != 255) = false := bne_eq_false_iff_eq.mpr c53
                    clear c53
                    by_cases c54 : 11 < (a2.size : Int)
                    · rw [if_pos c54] at H
                      have c54b0 : decide (11 < (a2.size : Int)) = true := decide_eq_true c54
                      have c54b1 : decide (11 < a2.size) = true := decide_eq_true (by omega)
                      clear c54
                      by_cases c56 : (bt a2 11) = 255
                      · rw [if_pos c56] at H
                        have c56b0 : ((bt a2 11) == 255) = true := beq_iff_eq.mpr c56
                        have c56b1 : ((bt a2 11) != 255) = false := bne_eq_false_iff_eq.mpr c56
                        clear c56
                        obtain rfl := Option.some.inj H
                        go_wp2_with (first | ((with_reducible refine gate_callee (f := 111) rfl ?_); refine goesL_ (some 62) rfl rfl Try.func111 (by kernel_rfl) rfl #[.string a2] rfl (by (try simp only [List.map_toArray, List.map_cons, List.map_nil]); first | done | rfl | (simp only [List.length_drop, List.length_take]; rfl)) ?_; (with_reducible refine (ip4_Get.calls a2 t799 t800 t801 t802 t803 t804 t805 t806 t807 t808 t809 t810 _ A49.out).mono ?_); rintro e w57 ⟨rfl, hb⟩; refine ⟨_, rfl, ?_⟩; have n0_ := Aside0.mk (blk_below (g := gb781) (o := .cells #[.int .i64 a0_0, .int .i64 a0_1, .int .i64 a0_2, .int .i64 a0_3, .int .i64 a0_4, .bool a0_5, .bool a0_6, .string a0_7, .string a0_8, .string a0_9] 93 (0, 0)) (by (with_reducible repeat (first | refine blk_drewN ?_ _ | refine blk_drew ?_ | refine blk_alloc ?_ _)); exact BK781.out) hb); have n1_ := Aside0.mk (below_step (by repeat (first | (with_reducible first | exact HB.out | apply below_alloc | apply pw_below_drewN | apply below_drew1 | refine below_set ?_ GE781.out) | exact HB.out)) hb); clear BK781; clear HB; have BK781 := n0_; have HB := n1_; clear n0_ n1_; (try clear hb); (try clear hb2); (try clear hk); (try clear hi)) | ((with_reducible refine gate_dst (N := 12) rfl ?_); (try (refine gate_guard (by rfl) ?_; dsimp only)); refine box_event ?hg (N := 12) ?hd (cs := #[.int .i64 0, .int .i64 0, .int .i64 0, .int .i64 0, .int .i64 0, .bool false, .bool false, .string (⟨#[]⟩ : ByteArray), .string (⟨#[]⟩ : ByteArray), .string (⟨#[]⟩ : ByteArray)]) (t := 93) ?hr ?_; (case hd => rfl); (case hg => rfl); (case hr => first | (go_simp; done) | (go_simp; rfl)); intro gb811 hg w58 hbox hb; have n0_ := Aside0.mk (blk_below (g := gb781) (o := .cells #[.int .i64 a0_0, .int .i64 a0_1, .int .i64 a0_2, .int .i64 a0_3, .int .i64 a0_4, .bool a0_5, .bool a0_6, .string a0_7, .string a0_8, .string a0_9] 93 (0, 0)) (by (with_reducible repeat (first | refine blk_drewN ?_ _ | refine blk_drew ?_ | refine blk_alloc ?_ _)); exact BK781.out) hb); have n1_ := Aside0.mk (below_step (by repeat (first | (with_reducible first | exact HB.out | apply below_alloc | apply pw_below_drewN | apply below_drew1 | refine below_set ?_ GE781.out) | exact HB.out)) hb); have n2_ := Aside0.mk (hbox); have n3_ := Aside0.mk ((by rw [hg]; exact (below_size (by repeat (first | (with_reducible first | exact HB.out | apply below_alloc | apply pw_below_drewN | apply below_drew1 | refine below_set ?_ GE781.out) | exact HB.out))) : w.heap.size ≤ gb811)); have n4_ := Aside0.mk ((by rw [hg]; exact (below_size (by repeat (first | (with_reducible first | exact HB.out | apply below_alloc | apply pw_below_drewN | apply below_drew1 | refine below_set ?_ GE781.out) | exact HB.out))) : w.heap.size ≤ gb811)); have n5_ := Aside0.mk ((by rw [hg]; exact Nat.ne_of_lt (blk_lt (g := gb781) (o := .cells #[.int .i64 a0_0, .int .i64 a0_1, .int .i64 a0_2, .int .i64 a0_3, .int .i64 a0_4, .bool a0_5, .bool a0_6, .string a0_7, .string a0_8, .string a0_9] 93 (0, 0)) (by (with_reducible repeat (first | refine blk_drewN ?_ _ | refine blk_drew ?_ | refine blk_alloc ?_ _)); exact BK781.out)) : gb781 ≠ gb811)); have n6_ := Aside0.mk ((by rw [hg]; exact Nat.ne_of_gt (blk_lt (g := gb781) (o := .cells #[.int .i64 a0_0, .int .i64 a0_1, .int .i64 a0_2, .int .i64 a0_3, .int .i64 a0_4, .bool a0_5, .bool a0_6, .string a0_7, .string a0_8, .string a0_9] 93 (0, 0)) (by (with_reducible repeat (first | refine blk_drewN ?_ _ | refine blk_drew ?_ | refine blk_alloc ?_ _)); exact BK781.out)) : gb811 ≠ gb781)); clear BK781; clear HB; have BK781 := n0_; have HB := n1_; have BK811 := n2_; have GW811 := n3_; have GE811 := n4_; have NB781_811 := n5_; have NB811_781 := n6_; clear n0_ n1_ n2_ n3_ n4_ n5_ n6_; clear hb hbox hg; have hnb59 := NB811_781.out; have hnc59 := NB781_811.out; have hcz60_0 : w58.cell? ⟨gb811, 0, none⟩ = some (.int .i64 0) := (blk_cell BK811.out 0).trans rfl; have hcz60_1 : w58.cell? ⟨gb811, 1, none⟩ = some (.int .i64 0) := (blk_cell BK811.out 1).trans rfl; have hcz60_2 : w58.cell? ⟨gb811, 2, none⟩ = some (.int .i64 0) := (blk_cell BK811.out 2).trans rfl; have hcz60_3 : w58.cell? ⟨gb811, 3, none⟩ = some (.int .i64 0) := (blk_cell BK811.out 3).trans rfl; have hcz60_4 : w58.cell? ⟨gb811, 4, none⟩ = some (.int .i64 0) := (blk_cell BK811.out 4).trans rfl; have hcz60_5 : w58.cell? ⟨gb811, 5, none⟩ = some (.bool false) := (blk_cell BK811.out 5).trans rfl; have hcz60_6 : w58.cell? ⟨gb811, 6, none⟩ = some (.bool false) := (blk_cell BK811.out 6).trans rfl; have hcz60_7 : w58.cell? ⟨gb811, 7, none⟩ = some (.string (⟨#[]⟩ : ByteArray)) := (blk_cell BK811.out 7).trans rfl; have hcz60_8 : w58.cell? ⟨gb811, 8, none⟩ = some (.string (⟨#[]⟩ : ByteArray)) := (blk_cell BK811.out 8).trans rfl; have hcz60_9 : w58.cell? ⟨gb811, 9, none⟩ = some (.string (⟨#[]⟩ : ByteArray)) := (blk_cell BK811.out 9).trans rfl; have hfz60_0 := blk_frozen BK811.out 0; have hfz60_1 := blk_frozen BK811.out 1; have hfz60_2 := blk_frozen BK811.out 2; have hfz60_3 := blk_frozen BK811.out 3; have hfz60_4 := blk_frozen BK811.out 4; have hfz60_5 := blk_frozen BK811.out 5; have hfz60_6 := blk_frozen BK811.out 6; have hfz60_7 := blk_frozen BK811.out 7; have hfz60_8 := blk_frozen BK811.out 8; have hfz60_9 := blk_frozen BK811.out 9; have p52 : 0 ≤ (10 : Int) := (by omega); have q52 : 10 < a2.size := (by have : (10 : Int) < (a2.size : Int) := of_decide_eq_true (by first | (with_reducible assumption) | assumption); omega); have hx52 : ∀ h : 10 < a2.size, ((a2[10]'h).toNat : Int) = bt a2 10 := bt_at a2 10; clear p52; have qi52 : (10 < (a2.size : Int)) = True := eq_true (of_decide_eq_true (by first | (with_reducible assumption) | assumption)); replace q52 := eq_true q52; have p55 : 0 ≤ (11 : Int) := (by omega); have q55 : 11 < a2.size := (by have : (11 : Int) < (a2.size : Int) := of_decide_eq_true (by first | (with_reducible assumption) | assumption); omega); have hx55 : ∀ h : 11 < a2.size, ((a2[11]'h).toNat : Int) = bt a2 11 := bt_at a2 11; clear p55; have qi55 : (11 < (a2.size : Int)) = True := eq_true (of_decide_eq_true (by first | (with_reducible assumption) | assumption)); replace q55 := eq_true q55))
                        go_ret
                        exact ⟨by first | rfl | (simp [errW_none, errW_some] <;> rfl) | (simp [*, errW_none, errW_some] <;> rfl), by repeat (first | (with_reducible first | exact HB.out | apply below_alloc | apply pw_below_drewN | apply below_drew1 | refine below_set ?_ GE781.out | refine below_set ?_ GE811.out) | exact HB.out)⟩
                      · rw [if_neg c56] at H
                        have c56b0 : ((bt a2 11) == 255) = false := beq_eq_false_iff_ne.mpr c56
                        have c56b1 : ((bt a2 11) != 255) = true := bne_iff_ne.mpr c56
                        replace H := Option.bind_eq_some_iff.mp H
                        obtain ⟨⟨t812, t813⟩, A610, H⟩ := H
                        replace H : (if t813 = 0 then (some (t812.toList == a2.toList)) else (some false)) = some r := H
                        have A61 := Aside0.mk A610
                        clear A610
                        by_cases c62 : t813 = 0
                        · rw [if_pos c62] at H
                          have c62b0 : (t813 == 0) = true := beq_iff_eq.mpr c62
                          have c62b1 : (t813 != 0) = false := bne_eq_false_iff_eq.mpr c62
                          clear c62
                          obtain rfl := Option.some.inj H
                          go_wp2_with (first | ((with_reducible refine gate_callee (f := 111) rfl ?_); refine goesL_ (some 62) rfl rfl Try.func111 (by kernel_rfl) rfl #[.string a2] rfl (by (try simp only [List.map_toArray, List.map_cons, List.map_nil]); first | done | rfl | (simp only [List.length_drop, List.length_take]; rfl)) ?_; (with_reducible refine (ip4_Get.calls a2 t799 t800 t801 t802 t803 t804 t805 t806 t807 t808 t809 t810 _ A49.out).mono ?_); rintro e w63 ⟨rfl, hb⟩; refine ⟨_, rfl, ?_⟩; have n0_ := Aside0.mk (blk_below (g := gb781) (o := .cells #[.int .i64 a0_0, .int .i64 a0_1, .int .i64 a0_2, .int .i64 a0_3, .int .i64 a0_4, .bool a0_5, .bool a0_6, .string a0_7, .string a0_8, .string a0_9] 93 (0, 0)) (by (with_reducible repeat (first | refine blk_drewN ?_ _ | refine blk_drew ?_ | refine blk_alloc ?_ _)); exact BK781.out) hb); have n1_ := Aside0.mk (below_step (by repeat (first | (with_reducible first | exact HB.out | apply below_alloc | apply pw_below_drewN | apply below_drew1 | refine below_set ?_ GE781.out) | exact HB.out)) hb); clear BK781; clear HB; have BK781 := n0_; have HB := n1_; clear n0_ n1_; (try clear hb); (try clear hb2); (try clear hk); (try clear hi)) | ((with_reducible refine gate_dst (N := 12) rfl ?_); (try (refine gate_guard (by rfl) ?_; dsimp only)); refine box_event ?hg (N := 12) ?hd (cs := #[.int .i64 0, .int .i64 0, .int .i64 0, .int .i64 0, .int .i64 0, .bool false, .bool false, .string (⟨#[]⟩ : ByteArray), .string (⟨#[]⟩ : ByteArray), .string (⟨#[]⟩ : ByteArray)]) (t := 93) ?hr ?_; (case hd => rfl); (case hg => rfl); (case hr => first | (go_simp; done) | (go_simp; rfl)); intro gb811 hg w64 hbox hb; have n0_ := Aside0.mk (blk_below (g := gb781) (o := .cells #[.int .i64 a0_0, .int .i64 a0_1, .int .i64 a0_2, .int .i64 a0_3, .int .i64 a0_4, .bool a0_5, .bool a0_6, .string a0_7, .string a0_8, .string a0_9] 93 (0, 0)) (by (with_reducible repeat (first | refine blk_drewN ?_ _ | refine blk_drew ?_ | refine blk_alloc ?_ _)); exact BK781.out) hb); have n1_ := Aside0.mk (below_step (by repeat (first | (with_reducible first | exact HB.out | apply below_alloc | apply pw_below_drewN | apply below_drew1 | refine below_set ?_ GE781.out) | exact HB.out)) hb); have n2_ := Aside0.mk (hbox); have n3_ := Aside0.mk ((by rw [hg]; exact (below_size (by repeat (first | (with_reducible first | exact HB.out | apply below_alloc | apply pw_below_drewN | apply below_drew1 | refine below_set ?_ GE781.out) | exact HB.out))) : w.heap.size ≤ gb811)); have n4_ := Aside0.mk ((by rw [hg]; exact (below_size (by repeat (first | (with_reducible first | exact HB.out | apply below_alloc | apply pw_below_drewN | apply below_drew1 | refine below_set ?_ GE781.out) | exact HB.out))) : w.heap.size ≤ gb811)); have n5_ := Aside0.mk ((by rw [hg]; exact Nat.ne_of_lt (blk_lt (g := gb781) (o := .cells #[.int .i64 a0_0, .int .i64 a0_1, .int .i64 a0_2, .int .i64 a0_3, .int .i64 a0_4, .bool a0_5, .bool a0_6, .string a0_7, .string a0_8, .string a0_9] 93 (0, 0)) (by (with_reducible repeat (first | refine blk_drewN ?_ _ | refine blk_drew ?_ | refine blk_alloc ?_ _)); exact BK781.out)) : gb781 ≠ gb811)); have n6_ := Aside0.mk ((by rw [hg]; exact Nat.ne_of_gt (blk_lt (g := gb781) (o := .cells #[.int .i64 a0_0, .int .i64 a0_1, .int .i64 a0_2, .int .i64 a0_3, .int .i64 a0_4, .bool a0_5, .bool a0_6, .string a0_7, .string a0_8, .string a0_9] 93 (0, 0)) (by (with_reducible repeat (first | refine blk_drewN ?_ _ | refine blk_drew ?_ | refine blk_alloc ?_ _)); exact BK781.out)) : gb811 ≠ gb781)); clear BK781; clear HB; have BK781 := n0_; have HB := n1_; have BK811 := n2_; have GW811 := n3_; have GE811 := n4_; have NB781_811 := n5_; have NB811_781 := n6_; clear n0_ n1_ n2_ n3_ n4_ n5_ n6_; clear hb hbox hg; have hnb65 := NB811_781.out; have hnc65 := NB781_811.out; have hcz66_0 : w64.cell? ⟨gb811, 0, none⟩ = some (.int .i64 0) := (blk_cell BK811.out 0).trans rfl; have hcz66_1 : w64.cell? ⟨gb811, 1, none⟩ = some (.int .i64 0) := (blk_cell BK811.out 1).trans rfl; have hcz66_2 : w64.cell? ⟨gb811, 2, none⟩ = some (.int .i64 0) := (blk_cell BK811.out 2).trans rfl; have hcz66_3 : w64.cell? ⟨gb811, 3, none⟩ = some (.int .i64 0) := (blk_cell BK811.out 3).trans rfl; have hcz66_4 : w64.cell? ⟨gb811, 4, none⟩ = some (.int .i64 0) := (blk_cell BK811.out 4).trans rfl; have hcz66_5 : w64.cell? ⟨gb811, 5, none⟩ = some (.bool false) := (blk_cell BK811.out 5).trans rfl; have hcz66_6 : w64.cell? ⟨gb811, 6, none⟩ = some (.bool false) := (blk_cell BK811.out 6).trans rfl; have hcz66_7 : w64.cell? ⟨gb811, 7, none⟩ = some (.string (⟨#[]⟩ : ByteArray)) := (blk_cell BK811.out 7).trans rfl; have hcz66_8 : w64.cell? ⟨gb811, 8, none⟩ = some (.string (⟨#[]⟩ : ByteArray)) := (blk_cell BK811.out 8).trans rfl; have hcz66_9 : w64.cell? ⟨gb811, 9, none⟩ = some (.string (⟨#[]⟩ : ByteArray)) := (blk_cell BK811.out 9).trans rfl; have hfz66_0 := blk_frozen BK811.out 0; have hfz66_1 := blk_frozen BK811.out 1; have hfz66_2 := blk_frozen BK811.out 2; have hfz66_3 := blk_frozen BK811.out 3; have hfz66_4 := blk_frozen BK811.out 4; have hfz66_5 := blk_frozen BK811.out 5; have hfz66_6 := blk_frozen BK811.out 6; have hfz66_7 := blk_frozen BK811.out 7; have hfz66_8 := blk_frozen BK811.out 8; have hfz66_9 := blk_frozen BK811.out 9; have p52 : 0 ≤ (10 : Int) := (by omega); have q52 : 10 < a2.size := (by have : (10 : Int) < (a2.size : Int) := of_decide_eq_true (by first | (with_reducible assumption) | assumption); omega); have hx52 : ∀ h : 10 < a2.size, ((a2[10]'h).toNat : Int) = bt a2 10 := bt_at a2 10; clear p52; have qi52 : (10 < (a2.size : Int)) = True := eq_true (of_decide_eq_true (by first | (with_reducible assumption) | assumption)); replace q52 := eq_true q52; have p55 : 0 ≤ (11 : Int) := (by omega); have q55 : 11 < a2.size := (by have : (11 : Int) < (a2.size : Int) := of_decide_eq_true (by first | (with_reducible assumption) | assumption); omega); have hx55 : ∀ h : 11 < a2.size, ((a2[11]'h).toNat : Int) = bt a2 11 := bt_at a2 11; clear p55; have qi55 : (11 < (a2.size : Int)) = True := eq_true (of_decide_eq_true (by first | (with_reducible assumption) | assumption)); replace q55 := eq_true q55) | ((with_reducible refine gate_callee (f := 85) rfl ?_); refine goesL_ (some 86) rfl rfl Try.func85 (by kernel_rfl) rfl #[.agg #[.int .i64 t799, .int .i64 t800, .int .i64 t801, .int .i64 t802, .int .i64 t803, .bool t804, .bool t805, .string t806, .string t807, .string t808], .string t809] rfl (by (try simp only [List.map_toArray, List.map_cons, List.map_nil]); first | done | rfl | (simp only [List.length_drop, List.length_take]; rfl)) ?_; (with_reducible refine (ip4_Put.calls t799 t800 t801 t802 t803 t804 t805 t806 t807 t808 t809 t812 t813 _ A61.out).mono ?_); rintro e w67 ⟨rfl, hb⟩; refine ⟨_, rfl, ?_⟩; have n0_ := Aside0.mk (blk_below (g := gb781) (o := .cells #[.int .i64 a0_0, .int .i64 a0_1, .int .i64 a0_2, .int .i64 a0_3, .int .i64 a0_4, .bool a0_5, .bool a0_6, .string a0_7, .string a0_8, .string a0_9] 93 (0, 0)) (by (with_reducible repeat (first | refine blk_drewN ?_ _ | refine blk_drew ?_ | refine blk_alloc ?_ _)); refine blk_far ?_ NB781_811.out _; (with_reducible repeat (first | refine blk_drewN ?_ _ | refine blk_drew ?_ | refine blk_alloc ?_ _)); refine blk_far ?_ NB781_811.out _; (with_reducible repeat (first | refine blk_drewN ?_ _ | refine blk_drew ?_ | refine blk_alloc ?_ _)); refine blk_far ?_ NB781_811.out _; (with_reducible repeat (first | refine blk_drewN ?_ _ | refine blk_drew ?_ | refine blk_alloc ?_ _)); refine blk_far ?_ NB781_811.out _; (with_reducible repeat (first | refine blk_drewN ?_ _ | refine blk_drew ?_ | refine blk_alloc ?_ _)); refine blk_far ?_ NB781_811.out _; (with_reducible repeat (first | refine blk_drewN ?_ _ | refine blk_drew ?_ | refine blk_alloc ?_ _)); refine blk_far ?_ NB781_811.out _; (with_reducible repeat (first | refine blk_drewN ?_ _ | refine blk_drew ?_ | refine blk_alloc ?_ _)); refine blk_far ?_ NB781_811.out _; (with_reducible repeat (first | refine blk_drewN ?_ _ | refine blk_drew ?_ | refine blk_alloc ?_ _)); refine blk_far ?_ NB781_811.out _; (with_reducible repeat (first | refine blk_drewN ?_ _ | refine blk_drew ?_ | refine blk_alloc ?_ _)); refine blk_far ?_ NB781_811.out _; (with_reducible repeat (first | refine blk_drewN ?_ _ | refine blk_drew ?_ | refine blk_alloc ?_ _)); refine blk_far ?_ NB781_811.out _; (with_reducible repeat (first | refine blk_drewN ?_ _ | refine blk_drew ?_ | refine blk_alloc ?_ _)); exact BK781.out) hb); have n1_ := Aside0.mk (blk_below (g := gb811) (o := .cells #[.int .i64 t799, .int .i64 t800, .int .i64 t801, .int .i64 t802, .int .i64 t803, .bool t804, .bool t805, .string t806, .string t807, .string t808] 93 (0, 0)) (by (with_reducible repeat (first | refine blk_drewN ?_ _ | refine blk_drew ?_ | refine blk_alloc ?_ _)); refine blk_put (cs := #[.int .i64 t799, .int .i64 t800, .int .i64 t801, .int .i64 t802, .int .i64 t803, .bool t804, .bool t805, .string t806, .string t807, .string (⟨#[]⟩ : ByteArray)]) ?_ 9 _ rfl; (with_reducible repeat (first | refine blk_drewN ?_ _ | refine blk_drew ?_ | refine blk_alloc ?_ _)); refine blk_put (cs := #[.int .i64 t799, .int .i64 t800, .int .i64 t801, .int .i64 t802, .int .i64 t803, .bool t804, .bool t805, .string t806, .string (⟨#[]⟩ : ByteArray), .string (⟨#[]⟩ : ByteArray)]) ?_ 8 _ rfl; (with_reducible repeat (first | refine blk_drewN ?_ _ | refine blk_drew ?_ | refine blk_alloc ?_ _)); refine blk_put (cs := #[.int .i64 t799, .int .i64 t800, .int .i64 t801, .int .i64 t802, .int .i64 t803, .bool t804, .bool t805, .string (⟨#[]⟩ : ByteArray), .string (⟨#[]⟩ : ByteArray), .string (⟨#[]⟩ : ByteArray)]) ?_ 7 _ rfl; (with_reducible repeat (first | refine blk_drewN ?_ _ | refine blk_drew ?_ | refine blk_alloc ?_ _)); refine blk_put (cs := #[.int .i64 t799, .int .i64 t800, .int .i64 t801, .int .i64 t802, .int .i64 t803, .bool t804, .bool false, .string (⟨#[]⟩ : ByteArray), .string (⟨#[]⟩ : ByteArray), .string (⟨#[]⟩ : ByteArray)]) ?_ 6 _ rfl; (with_reducible repeat (first | refine blk_drewN ?_ _ | refine blk_drew ?_ | refine blk_alloc ?_ _)); refine blk_put (cs := #[.int .i64 t799, .int .i64 t800, .int .i64 t801, .int .i64 t802, .int .i64 t803, .bool false, .bool false, .string (⟨#[]⟩ : ByteArray), .string (⟨#[]⟩ : ByteArray), .string (⟨#[]⟩ : ByteArray)]) ?_ 5 _ rfl; (with_reducible repeat (first | refine blk_drewN ?_ _ | refine blk_drew ?_ | refine blk_alloc ?_ _)); refine blk_put (cs := #[.int .i64 t799, .int .i64 t800, .int .i64 t801, .int .i64 t802, .int .i64 0, .bool false, .bool false, .string (⟨#[]⟩ : ByteArray), .string (⟨#[]⟩ : ByteArray), .string (⟨#[]⟩ : ByteArray)]) ?_ 4 _ rfl; (with_reducible repeat (first | refine blk_drewN ?_ _ | refine blk_drew ?_ | refine blk_alloc ?_ _)); refine blk_put (cs := #[.int .i64 t799, .int .i64 t800, .int .i64 t801, .int .i64 0, .int .i64 0, .bool false, .bool false, .string (⟨#[]⟩ : ByteArray), .string (⟨#[]⟩ : ByteArray), .string (⟨#[]⟩ : ByteArray)]) ?_ 3 _ rfl; (with_reducible repeat (first | refine blk_drewN ?_ _ | refine blk_drew ?_ | refine blk_alloc ?_ _)); refine blk_put (cs := #[.int .i64 t799, .int .i64 t800, .int .i64 0, .int .i64 0, .int .i64 0, .bool false, .bool false, .string (⟨#[]⟩ : ByteArray), .string (⟨#[]⟩ : ByteArray), .string (⟨#[]⟩ : ByteArray)]) ?_ 2 _ rfl; (with_reducible repeat (first | refine blk_drewN ?_ _ | refine blk_drew ?_ | refine blk_alloc ?_ _)); refine blk_put (cs := #[.int .i64 t799, .int .i64 0, .int .i64 0, .int .i64 0, .int .i64 0, .bool false, .bool false, .string (⟨#[]⟩ : ByteArray), .string (⟨#[]⟩ : ByteArray), .string (⟨#[]⟩ : ByteArray)]) ?_ 1 _ rfl; (with_reducible repeat (first | refine blk_drewN ?_ _ | refine blk_drew ?_ | refine blk_alloc ?_ _)); refine blk_put (cs := #[.int .i64 0, .int .i64 0, .int .i64 0, .int .i64 0, .int .i64 0, .bool false, .bool false, .string (⟨#[]⟩ : ByteArray), .string (⟨#[]⟩ : ByteArray), .string (⟨#[]⟩ : ByteArray)]) ?_ 0 _ rfl; (with_reducible repeat (first | refine blk_drewN ?_ _ | refine blk_drew ?_ | refine blk_alloc ?_ _)); exact BK811.out) hb); have n2_ := Aside0.mk (below_step (by repeat (first | (with_reducible first | exact HB.out | apply below_alloc | apply pw_below_drewN | apply below_drew1 | refine below_set ?_ GE781.out | refine below_set ?_ GE811.out) | exact HB.out)) hb); clear BK781; clear BK811; clear HB; have BK781 := n0_; have BK811 := n1_; have HB := n2_; clear n0_ n1_ n2_; (try clear hb); (try clear hb2); (try clear hk); (try clear hi)))
                          go_ret
                          exact ⟨by first | rfl | (simp [errW_none, errW_some] <;> rfl) | (simp [*, errW_none, errW_some] <;> rfl), by repeat (first | (with_reducible first | exact HB.out | apply below_alloc | apply pw_below_drewN | apply below_drew1 | refine below_set ?_ GE781.out | refine below_set ?_ GE811.out) | exact HB.out)⟩
                        · rw [if_neg c62] at H
                          exact absurd ((Option.some.inj H).trans hrt_.out) (by decide)
                    · rw [if_neg c54] at H
                      exact absurd H (by simp)
                  · rw [if_neg c53] at H
                    have c53b0 : ((bt a2 10) == 255) = false := beq_eq_false_iff_ne.mpr c53
                    have c53b1 : ((bt a2 10) != 255) = true := bne_iff_ne.mpr c53
                    replace H := Option.bind_eq_some_iff.mp H
                    obtain ⟨⟨t814, t815⟩, A730, H⟩ := H
                    replace H : (if t815 = 0 then (some (t814.toList == a2.toList)) else (some false)) = some r := H
                    have A73 := Aside0.mk A730
                    clear A730
                    by_cases c74 : t815 = 0
                    · rw [if_pos c74] at H
                      have c74b0 : (t815 == 0) = true := beq_iff_eq.mpr c74
                      have c74b1 : (t815 != 0) = false := bne_eq_false_iff_eq.mpr c74
                      clear c74
                      obtain rfl := Option.some.inj H
                      go_wp2_with (first | ((with_reducible refine gate_callee (f := 111) rfl ?_); refine goesL_ (some 62) rfl rfl Try.func111 (by kernel_rfl) rfl #[.string a2] rfl (by (try simp only [List.map_toArray, List.map_cons, List.map_nil]); first | done | rfl | (simp only [List.length_drop, List.length_take]; rfl)) ?_; (with_reducible refine (ip4_Get.calls a2 t799 t800 t801 t802 t803 t804 t805 t806 t807 t808 t809 t810 _ A49.out).mono ?_); rintro e w75 ⟨rfl, hb⟩; refine ⟨_, rfl, ?_⟩; have n0_ := Aside0.mk (blk_below (g := gb781) (o := .cells #[.int .i64 a0_0, .int .i64 a0_1, .int .i64 a0_2, .int .i64 a0_3, .int .i64 a0_4, .bool a0_5, .bool a0_6, .string a0_7, .string a0_8, .string a0_9] 93 (0, 0)) (by (with_reducible repeat (first | refine blk_drewN ?_ _ | refine blk_drew ?_ | refine blk_alloc ?_ _)); exact BK781.out) hb); have n1_ := Aside0.mk (below_step (by repeat (first | (with_reducible first | exact HB.out | apply below_alloc | apply pw_below_drewN | apply below_drew1 | refine below_set ?_ GE781.out) | exact HB.out)) hb); clear BK781; clear HB; have BK781 := n0_; have HB := n1_; clear n0_ n1_; (try clear hb); (try clear hb2); (try clear hk); (try clear hi)) | ((with_reducible refine gate_dst (N := 12) rfl ?_); (try (refine gate_guard (by rfl) ?_; dsimp only)); refine box_event ?hg (N := 12) ?hd (cs := #[.int .i64 0, .int .i64 0, .int .i64 0, .int .i64 0, .int .i64 0, .bool false, .bool false, .string (⟨#[]⟩ : ByteArray), .string (⟨#[]⟩ : ByteArray), .string (⟨#[]⟩ : ByteArray)]) (t := 93) ?hr ?_; (case hd => rfl); (case hg => rfl); (case hr => first | (go_simp; done) | (go_simp; rfl)); intro gb811 hg w76 hbox hb; have n0_ := Aside0.mk (blk_below (g := gb781) (o := .cells #[.int .i64 a0_0, .int .i64 a0_1, .int .i64 a0_2, .int .i64 a0_3, .int .i64 a0_4, .bool a0_5, .bool a0_6, .string a0_7, .string a0_8, .string a0_9] 93 (0, 0)) (by (with_reducible repeat (first | refine blk_drewN ?_ _ | refine blk_drew ?_ | refine blk_alloc ?_ _)); exact BK781.out) hb); have n1_ := Aside0.mk (below_step (by repeat (first | (with_reducible first | exact HB.out | apply below_alloc | apply pw_below_drewN | apply below_drew1 | refine below_set ?_ GE781.out) | exact HB.out)) hb); have n2_ := Aside0.mk (hbox); have n3_ := Aside0.mk ((by rw [hg]; exact (below_size (by repeat (first | (with_reducible first | exact HB.out | apply below_alloc | apply pw_below_drewN | apply below_drew1 | refine below_set ?_ GE781.out) | exact HB.out))) : w.heap.size ≤ gb811)); have n4_ := Aside0.mk ((by rw [hg]; exact (below_size (by repeat (first | (with_reducible first | exact HB.out | apply below_alloc | apply pw_below_drewN | apply below_drew1 | refine below_set ?_ GE781.out) | exact HB.out))) : w.heap.size ≤ gb811)); have n5_ := Aside0.mk ((by rw [hg]; exact Nat.ne_of_lt (blk_lt (g := gb781) (o := .cells #[.int .i64 a0_0, .int .i64 a0_1, .int .i64 a0_2, .int .i64 a0_3, .int .i64 a0_4, .bool a0_5, .bool a0_6, .string a0_7, .string a0_8, .string a0_9] 93 (0, 0)) (by (with_reducible repeat (first | refine blk_drewN ?_ _ | refine blk_drew ?_ | refine blk_alloc ?_ _)); exact BK781.out)) : gb781 ≠ gb811)); have n6_ := Aside0.mk ((by rw [hg]; exact Nat.ne_of_gt (blk_lt (g := gb781) (o := .cells #[.int .i64 a0_0, .int .i64 a0_1, .int .i64 a0_2, .int .i64 a0_3, .int .i64 a0_4, .bool a0_5, .bool a0_6, .string a0_7, .string a0_8, .string a0_9] 93 (0, 0)) (by (with_reducible repeat (first | refine blk_drewN ?_ _ | refine blk_drew ?_ | refine blk_alloc ?_ _)); exact BK781.out)) : gb811 ≠ gb781)); clear BK781; clear HB; have BK781 := n0_; have HB := n1_; have BK811 := n2_; have GW811 := n3_; have GE811 := n4_; have NB781_811 := n5_; have NB811_781 := n6_; clear n0_ n1_ n2_ n3_ n4_ n5_ n6_; clear hb hbox hg; have hnb77 := NB811_781.out; have hnc77 := NB781_811.out; have hcz78_0 : w76.cell? ⟨gb811, 0, none⟩ = some (.int .i64 0) := (blk_cell BK811.out 0).trans rfl; have hcz78_1 : w76.cell? ⟨gb811, 1, none⟩ = some (.int .i64 0) := (blk_cell BK811.out 1).trans rfl; have hcz78_2 : w76.cell? ⟨gb811, 2, none⟩ = some (.int .i64 0) := (blk_cell BK811.out 2).trans rfl; have hcz78_3 : w76.cell? ⟨gb811, 3, none⟩ = some (.int .i64 0) := (blk_cell BK811.out 3).trans rfl; have hcz78_4 : w76.cell? ⟨gb811, 4, none⟩ = some (.int .i64 0) := (blk_cell BK811.out 4).trans rfl; have hcz78_5 : w76.cell? ⟨gb811, 5, none⟩ = some (.bool false) := (blk_cell BK811.out 5).trans rfl; have hcz78_6 : w76.cell? ⟨gb811, 6, none⟩ = some (.bool false) := (blk_cell BK811.out 6).trans rfl; have hcz78_7 : w76.cell? ⟨gb811, 7, none⟩ = some (.string (⟨#[]⟩ : ByteArray)) := (blk_cell BK811.out 7).trans rfl; have hcz78_8 : w76.cell? ⟨gb811, 8, none⟩ = some (.string (⟨#[]⟩ : ByteArray)) := (blk_cell BK811.out 8).trans rfl; have hcz78_9 : w76.cell? ⟨gb811, 9, none⟩ = some (.string (⟨#[]⟩ : ByteArray)) := (blk_cell BK811.out 9).trans rfl; have hfz78_0 := blk_frozen BK811.out 0; have hfz78_1 := blk_frozen BK811.out 1; have hfz78_2 := blk_frozen BK811.out 2; have hfz78_3 := blk_frozen BK811.out 3; have hfz78_4 := blk_frozen BK811.out 4; have hfz78_5 := blk_frozen BK811.out 5; have hfz78_6 := blk_frozen BK811.out 6; have hfz78_7 := blk_frozen BK811.out 7; have hfz78_8 := blk_frozen BK811.out 8; have hfz78_9 := blk_frozen BK811.out 9; have p52 : 0 ≤ (10 : Int) := (by omega); have q52 : 10 < a2.size := (by have : (10 : Int) < (a2.size : Int) := of_decide_eq_true (by first | (with_reducible assumption) | assumption); omega); have hx52 : ∀ h : 10 < a2.size, ((a2[10]'h).toNat : Int) = bt a2 10 := bt_at a2 10; clear p52; have qi52 : (10 < (a2.size : Int)) = True := eq_true (of_decide_eq_true (by first | (with_reducible assumption) | assumption)); replace q52 := eq_true q52) | ((with_reducible refine gate_callee (f := 85) rfl ?_); refine goesL_ (some 86) rfl rfl Try.func85 (by kernel_rfl) rfl #[.agg #[.int .i64 t799, .int .i64 t800, .int .i64 t801, .int .i64 t802, .int .i64 t803, .bool t804, .bool t805, .string t806, .string t807, .string t808], .string t809] rfl (by (try simp only [List.map_toArray, List.map_cons, List.map_nil]); first | done | rfl | (simp only [List.length_drop, List.length_take]; rfl)) ?_; (with_reducible refine (ip4_Put.calls t799 t800 t801 t802 t803 t804 t805 t806 t807 t808 t809 t814 t815 _ A73.out).mono ?_); rintro e w79 ⟨rfl, hb⟩; refine ⟨_, rfl, ?_⟩; have n0_ := Aside0.mk (blk_below (g := gb781) (o := .cells #[.int .i64 a0_0, .int .i64 a0_1, .int .i64 a0_2, .int .i64 a0_3, .int .i64 a0_4, .bool a0_5, .bool a0_6, .string a0_7, .string a0_8, .string a0_9] 93 (0, 0)) (by (with_reducible repeat (first | refine blk_drewN ?_ _ | refine blk_drew ?_ | refine blk_alloc ?_ _)); refine blk_far ?_ NB781_811.out _; (with_reducible repeat (first | refine blk_drewN ?_ _ | refine blk_drew ?_ | refine blk_alloc ?_ _)); refine blk_far ?_ NB781_811.out _; (with_reducible repeat (first | refine blk_drewN ?_ _ | refine blk_drew ?_ | refine blk_alloc ?_ _)); refine blk_far ?_ NB781_811.out _; (with_reducible repeat (first | refine blk_drewN ?_ _ | refine blk_drew ?_ | refine blk_alloc ?_ _)); refine blk_far ?_ NB781_811.out _; (with_reducible repeat (first | refine blk_drewN ?_ _ | refine blk_drew ?_ | refine blk_alloc ?_ _)); refine blk_far ?_ NB781_811.out _; (with_reducible repeat (first | refine blk_drewN ?_ _ | refine blk_drew ?_ | refine blk_alloc ?_ _)); refine blk_far ?_ NB781_811.out _; (with_reducible repeat (first | refine blk_drewN ?_ _ | refine blk_drew ?_ | refine blk_alloc ?_ _)); refine blk_far ?_ NB781_811.out _; (with_reducible repeat (first | refine blk_drewN ?_ _ | refine blk_drew ?_ | refine blk_alloc ?_ _)); refine blk_far ?_ NB781_811.out _; (with_reducible repeat (first | refine blk_drewN ?_ _ | refine blk_drew ?_ | refine blk_alloc ?_ _)); refine blk_far ?_ NB781_811.out _; (with_reducible repeat (first | refine blk_drewN ?_ _ | refine blk_drew ?_ | refine blk_alloc ?_ _)); refine blk_far ?_ NB781_811.out _; (with_reducible repeat (first | refine blk_drewN ?_ _ | refine blk_drew ?_ | refine blk_alloc ?_ _)); exact BK781.out) hb); have n1_ := Aside0.mk (blk_below (g := gb811) (o := .cells #[.int .i64 t799, .int .i64 t800, .int .i64 t801, .int .i64 t802, .int .i64 t803, .bool t804, .bool t805, .string t806, .string t807, .string t808] 93 (0, 0)) (by (with_reducible repeat (first | refine blk_drewN ?_ _ | refine blk_drew ?_ | refine blk_alloc ?_ _)); refine blk_put (cs := #[.int .i64 t799, .int .i64 t800, .int .i64 t801, .int .i64 t802, .int .i64 t803, .bool t804, .bool t805, .string t806, .string t807, .string (⟨#[]⟩ : ByteArray)]) ?_ 9 _ rfl; (with_reducible repeat (first | refine blk_drewN ?_ _ | refine blk_drew ?_ | refine blk_alloc ?_ _)); refine blk_put (cs := #[.int .i64 t799, .int .i64 t800, .int .i64 t801, .int .i64 t802, .int .i64 t803, .bool t804, .bool t805, .string t806, .string (⟨#[]⟩ : ByteArray), .string (⟨#[]⟩ : ByteArray)]) ?_ 8 _ rfl; (with_reducible repeat (first | refine blk_drewN ?_ _ | refine blk_drew ?_ | refine blk_alloc ?_ _)); refine blk_put (cs := #[.int .i64 t799, .int .i64 t800, .int .i64 t801, .int .i64 t802, .int .i64 t803, .bool t804, .bool t805, .string (⟨#[]⟩ : ByteArray), .string (⟨#[]⟩ : ByteArray), .string (⟨#[]⟩ : ByteArray)]) ?_ 7 _ rfl; (with_reducible repeat (first | refine blk_drewN ?_ _ | refine blk_drew ?_ | refine blk_alloc ?_ _)); refine blk_put (cs := #[.int .i64 t799, .int .i64 t800, .int .i64 t801, .int .i64 t802, .int .i64 t803, .bool t804, .bool false, .string (⟨#[]⟩ : ByteArray), .string (⟨#[]⟩ : ByteArray), .string (⟨#[]⟩ : ByteArray)]) ?_ 6 _ rfl; (with_reducible repeat (first | refine blk_drewN ?_ _ | refine blk_drew ?_ | refine blk_alloc ?_ _)); refine blk_put (cs := #[.int .i64 t799, .int .i64 t800, .int .i64 t801, .int .i64 t802, .int .i64 t803, .bool false, .bool false, .string (⟨#[]⟩ : ByteArray), .string (⟨#[]⟩ : ByteArray), .string (⟨#[]⟩ : ByteArray)]) ?_ 5 _ rfl; (with_reducible repeat (first | refine blk_drewN ?_ _ | refine blk_drew ?_ | refine blk_alloc ?_ _)); refine blk_put (cs := #[.int .i64 t799, .int .i64 t800, .int .i64 t801, .int .i64 t802, .int .i64 0, .bool false, .bool false, .string (⟨#[]⟩ : ByteArray), .string (⟨#[]⟩ : ByteArray), .string (⟨#[]⟩ : ByteArray)]) ?_ 4 _ rfl; (with_reducible repeat (first | refine blk_drewN ?_ _ | refine blk_drew ?_ | refine blk_alloc ?_ _)); refine blk_put (cs := #[.int .i64 t799, .int .i64 t800, .int .i64 t801, .int .i64 0, .int .i64 0, .bool false, .bool false, .string (⟨#[]⟩ : ByteArray), .string (⟨#[]⟩ : ByteArray), .string (⟨#[]⟩ : ByteArray)]) ?_ 3 _ rfl; (with_reducible repeat (first | refine blk_drewN ?_ _ | refine blk_drew ?_ | refine blk_alloc ?_ _)); refine blk_put (cs := #[.int .i64 t799, .int .i64 t800, .int .i64 0, .int .i64 0, .int .i64 0, .bool false, .bool false, .string (⟨#[]⟩ : ByteArray), .string (⟨#[]⟩ : ByteArray), .string (⟨#[]⟩ : ByteArray)]) ?_ 2 _ rfl; (with_reducible repeat (first | refine blk_drewN ?_ _ | refine blk_drew ?_ | refine blk_alloc ?_ _)); refine blk_put (cs := #[.int .i64 t799, .int .i64 0, .int .i64 0, .int .i64 0, .int .i64 0, .bool false, .bool false, .string (⟨#[]⟩ : ByteArray), .string (⟨#[]⟩ : ByteArray), .string (⟨#[]⟩ : ByteArray)]) ?_ 1 _ rfl; (with_reducible repeat (first | refine blk_drewN ?_ _ | refine blk_drew ?_ | refine blk_alloc ?_ _)); refine blk_put (cs := #[.int .i64 0, .int .i64 0, .int .i64 0, .int .i64 0, .int .i64 0, .bool false, .bool false, .string (⟨#[]⟩ : ByteArray), .string (⟨#[]⟩ : ByteArray), .string (⟨#[]⟩ : ByteArray)]) ?_ 0 _ rfl; (with_reducible repeat (first | refine blk_drewN ?_ _ | refine blk_drew ?_ | refine blk_alloc ?_ _)); exact BK811.out) hb); have n2_ := Aside0.mk (below_step (by repeat (first | (with_reducible first | exact HB.out | apply below_alloc | apply pw_below_drewN | apply below_drew1 | refine below_set ?_ GE781.out | refine below_set ?_ GE811.out) | exact HB.out)) hb); clear BK781; clear BK811; clear HB; have BK781 := n0_; have BK811 := n1_; have HB := n2_; clear n0_ n1_ n2_; (try clear hb); (try clear hb2); (try clear hk); (try clear hi)))
                      go_ret
                      exact ⟨by first | rfl | (simp [errW_none, errW_some] <;> rfl) | (simp [*, errW_none, errW_some] <;> rfl), by repeat (first | (with_reducible first | exact HB.out | apply below_alloc | apply pw_below_drewN | apply below_drew1 | refine below_set ?_ GE781.out | refine below_set ?_ GE811.out) | exact HB.out)⟩
                    · rw [if_neg c74] at H
                      exact absurd ((Option.some.inj H).trans hrt_.out) (by decide)
                · rw [if_neg c51] at H
                  exact absurd H (by simp)
              · rw [if_neg c50] at H
                have c50b0 : (t810 == 0) = false := beq_eq_false_iff_ne.mpr c50
                have c50b1 : (t810 != 0) = true := bne_iff_ne.mpr c50
                by_cases c85 : (t799 == 0 && (t800 == 0 && (t801 == 0 && (t802 == 0 && (t803 == 0 && (!t804 && (!t805 && (t806.toList == ([] : List UInt8) && (t807.toList == ([] : List UInt8) && (t808.toList == ([] : List UInt8))))))))))) = true
                · rw [if_pos c85] at H
                  have c85b0 : (t799 == 0 && (t800 == 0 && (t801 == 0 && (t802 == 0 && (t803 == 0 && (!t804 && (!t805 && (t806.toList == ([] : List UInt8) && (t807.toList == ([] : List UInt8) && (t808.toList == ([] : List UInt8))))))))))) = true := c85
                  (try (have c85b1 : decide (t799 = 0 && (t800 == 0 && (t801 == 0 && (t802 == 0 && (t803 == 0 && (!t804 && (!t805 && (t806.toList == ([] : List UInt8) && (t807.toList == ([] : List UInt8) && (t808.toList == ([] : List UInt8))))))))))) = true := by simpa using c85))
                  (try (have c85b2 : (t799 == 0 && (t800 == 0 && (t801 == 0 && (t802 == 0 && (t803 == 0 && (!t804 && (!t805 && (t806.toList == ([] : List UInt8) && (t807.toList == ([] : List UInt8) && (t808.toList == ([] : List UInt8))))))))))) = true := by simpa using c85))
                  (try (have c85b3 : ((t799 = 0 ∧ (t800 = 0 ∧ (t801 = 0 ∧ (t802 = 0 ∧ (t803 = 0 ∧ (t804 = false ∧ (t805 = false ∧ (t806.toList = ([] : List UInt8) ∧ (t807.toList = ([] : List UInt8) ∧ (t808.toList = ([] : List UInt8)))))))))))) = True := by simpa using c85))
                  clear c85
                  obtain rfl := Option.some.inj H
                  go_wp2_with (first | ((with_reducible refine gate_callee (f := 111) rfl ?_); refine goesL_ (some 62) rfl rfl Try.func111 (by kernel_rfl) rfl #[.string a2] rfl (by (try simp only [List.map_toArray, List.map_cons, List.map_nil]); first | done | rfl | (simp only [List.length_drop, List.length_take]; rfl)) ?_; (with_reducible refine (ip4_Get.calls a2 t799 t800 t801 t802 t803 t804 t805 t806 t807 t808 t809 t810 _ A49.out).mono ?_); rintro e w86 ⟨rfl, hb⟩; refine ⟨_, rfl, ?_⟩; have n0_ := Aside0.mk (blk_below (g := gb781) (o := .cells #[.int .i64 a0_0, .int .i64 a0_1, .int .i64 a0_2, .int .i64 a0_3, .int .i64 a0_4, .bool a0_5, .bool a0_6, .string a0_7, .string a0_8, .string a0_9] 93 (0, 0)) (by (with_reducible repeat (first | refine blk_drewN ?_ _ | refine blk_drew ?_ | refine blk_alloc ?_ _)); exact BK781.out) hb); have n1_ := Aside0.mk (below_step (by repeat (first | (with_reducible first | exact HB.out | apply below_alloc | apply pw_below_drewN | apply below_drew1 | refine below_set ?_ GE781.out) | exact HB.out)) hb); clear BK781; clear HB; have BK781 := n0_; have HB := n1_; clear n0_ n1_; (try clear hb); (try clear hb2); (try clear hk); (try clear hi)) | ((with_reducible refine gate_dst (N := 12) rfl ?_); (try (refine gate_guard (by rfl) ?_; dsimp only)); refine box_event ?hg (N := 12) ?hd (cs := #[.int .i64 0, .int .i64 0, .int .i64 0, .int .i64 0, .int .i64 0, .bool false, .bool false, .string (⟨#[]⟩ : ByteArray), .string (⟨#[]⟩ : ByteArray), .string (⟨#[]⟩ : ByteArray)]) (t := 93) ?hr ?_; (case hd => rfl); (case hg => rfl); (case hr => first | (go_simp; done) | (go_simp; rfl)); intro gb811 hg w87 hbox hb; have n0_ := Aside0.mk (blk_below (g := gb781) (o := .cells #[.int .i64 a0_0, .int .i64 a0_1, .int .i64 a0_2, .int .i64 a0_3, .int .i64 a0_4, .bool a0_5, .bool a0_6, .string a0_7, .string a0_8, .string a0_9] 93 (0, 0)) (by (with_reducible repeat (first | refine blk_drewN ?_ _ | refine blk_drew ?_ | refine blk_alloc ?_ _)); exact BK781.out) hb); have n1_ := Aside0.mk (below_step (by repeat (first | (with_reducible first | exact HB.out | apply below_alloc | apply pw_below_drewN | apply below_drew1 | refine below_set ?_ GE781.out) | exact HB.out)) hb); have n2_ := Aside0.mk (hbox); have n3_ := Aside0.mk ((by rw [hg]; exact (below_size (by repeat (first | (with_reducible first | exact HB.out | apply below_alloc | apply pw_below_drewN | apply below_drew1 | refine below_set ?_ GE781.out) | exact HB.out))) : w.heap.size ≤ gb811)); have n4_ := Aside0.mk ((by rw [hg]; exact (below_size (by repeat (first | (with_reducible first | exact HB.out | apply below_alloc | apply pw_below_drewN | apply below_drew1 | refine below_set ?_ GE781.out) | exact HB.out))) : w.heap.size ≤ gb811)); have n5_ := Aside0.mk ((by rw [hg]; exact Nat.ne_of_lt (blk_lt (g := gb781) (o := .cells #[.int .i64 a0_0, .int .i64 a0_1, .int .i64 a0_2, .int .i64 a0_3, .int .i64 a0_4, .bool a0_5, .bool a0_6, .string a0_7, .string a0_8, .string a0_9] 93 (0, 0)) (by (with_reducible repeat (first | refine blk_drewN ?_ _ | refine blk_drew ?_ | refine blk_alloc ?_ _)); exact BK781.out)) : gb781 ≠ gb811)); have n6_ := Aside0.mk ((by rw [hg]; exact Nat.ne_of_gt (blk_lt (g := gb781) (o := .cells #[.int .i64 a0_0, .int .i64 a0_1, .int .i64 a0_2, .int .i64 a0_3, .int .i64 a0_4, .bool a0_5, .bool a0_6, .string a0_7, .string a0_8, .string a0_9] 93 (0, 0)) (by (with_reducible repeat (first | refine blk_drewN ?_ _ | refine blk_drew ?_ | refine blk_alloc ?_ _)); exact BK781.out)) : gb811 ≠ gb781)); clear BK781; clear HB; have BK781 := n0_; have HB := n1_; have BK811 := n2_; have GW811 := n3_; have GE811 := n4_; have NB781_811 := n5_; have NB811_781 := n6_; clear n0_ n1_ n2_ n3_ n4_ n5_ n6_; clear hb hbox hg; have hnb88 := NB811_781.out; have hnc88 := NB781_811.out; have hcz89_0 : w87.cell? ⟨gb811, 0, none⟩ = some (.int .i64 0) := (blk_cell BK811.out 0).trans rfl; have hcz89_1 : w87.cell? ⟨gb811, 1, none⟩ = some (.int .i64 0) := (blk_cell BK811.out 1).trans rfl; have hcz89_2 : w87.cell? ⟨gb811, 2, none⟩ = some (.int .i64 0) := (blk_cell BK811.out 2).trans rfl; have hcz89_3 : w87.cell? ⟨gb811, 3, none⟩ = some (.int .i64 0) := (blk_cell BK811.out 3).trans rfl; have hcz89_4 : w87.cell? ⟨gb811, 4, none⟩ = some (.int .i64 0) := (blk_cell BK811.out 4).trans rfl; have hcz89_5 : w87.cell? ⟨gb811, 5, none⟩ = some (.bool false) := (blk_cell BK811.out 5).trans rfl; have hcz89_6 : w87.cell? ⟨gb811, 6, none⟩ = some (.bool false) := (blk_cell BK811.out 6).trans rfl; have hcz89_7 : w87.cell? ⟨gb811, 7, none⟩ = some (.string (⟨#[]⟩ : ByteArray)) := (blk_cell BK811.out 7).trans rfl; have hcz89_8 : w87.cell? ⟨gb811, 8, none⟩ = some (.string (⟨#[]⟩ : ByteArray)) := (blk_cell BK811.out 8).trans rfl; have hcz89_9 : w87.cell? ⟨gb811, 9, none⟩ = some (.string (⟨#[]⟩ : ByteArray)) := (blk_cell BK811.out 9).trans rfl; have hfz89_0 := blk_frozen BK811.out 0; have hfz89_1 := blk_frozen BK811.out 1; have hfz89_2 := blk_frozen BK811.out 2; have hfz89_3 := blk_frozen BK811.out 3; have hfz89_4 := blk_frozen BK811.out 4; have hfz89_5 := blk_frozen BK811.out 5; have hfz89_6 := blk_frozen BK811.out 6; have hfz89_7 := blk_frozen BK811.out 7; have hfz89_8 := blk_frozen BK811.out 8; have hfz89_9 := blk_frozen BK811.out 9))
                  go_ret
                  exact ⟨by first | rfl | (simp [errW_none, errW_some] <;> rfl) | (simp [*, errW_none, errW_some] <;> rfl), by repeat (first | (with_reducible first | exact HB.out | apply below_alloc | apply pw_below_drewN | apply below_drew1 | refine below_set ?_ GE781.out | refine below_set ?_ GE811.out) | exact HB.out)⟩
                · rw [if_neg c85] at H
                  exact absurd ((Option.some.inj H).trans hrt_.out) (by decide)
  · replace c5 := Bool.eq_false_iff.mpr c5
    subst c5
    have H1 : (some false) = some r := by rw [if_neg (show ¬ (false = true) by decide)] at H; exact H
    exact absurd ((Option.some.inj H1).trans hrt_.out) (by decide)
end Go.Proofs.Ytejmipoolbodgaa.G
