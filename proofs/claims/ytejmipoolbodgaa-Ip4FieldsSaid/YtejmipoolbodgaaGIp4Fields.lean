-- Laid by a program of this session (wip/gen/gprint.py) over the translation's print. Lean checks it.
import Derived.Test.YtejmipoolbodgaaG0
import Derived.Test.YtejmipoolbodgaaGEq2
import Derived.Test.YtejmipoolbodgaaGip4
import Derived.Test.YtejmipoolbodgaaGlaw05
import Derived.Test.YtejmipoolbodgaaHIp4R
namespace Go.Proofs.Ytejmipoolbodgaa.G
open Go.RowKit Go.Proofs.YtejmipoolbodgaaW.PrintWords Go.Proofs.YtejmipoolbodgaaW.PrintLast Go.Proofs.YtejmipoolbodgaaW.PrintMore
attribute [local go_sem] max2_int min2_int max_two min_two max_three min_three max_four min_four   -- for this text's walks alone
set_option linter.unusedVariables false
set_option linter.unusedSimpArgs false

attribute [local go_sem high] eqA93
/-! ### palanquinlaw05_Ip4Fields: function 31 -/
mutual
def palanquinlaw05_Ip4Fields.j0 : Nat → ByteArray → ByteArray → Int → Int → Int → Bool → Int → Int → Int → Int → Int → Bool → Bool → ByteArray → ByteArray → ByteArray → Option (Bool)
  | 0, _, _, _, _, _, _, _, _, _, _, _, _, _, _, _, _ => none
  | k + 1, x1, x2, x3, x4, x5, x39, x817000, x817001, x817002, x817003, x817004, x817005, x817006, x817007, x817008, x817009 => if x39 = true then (some true) else ((ip4_Put.f x817000 x817001 x817002 x817003 x817004 x817005 x817006 x817007 x817008 x817009 x1).bind fun bt819 => ((ip4_Put.f x817000 x817001 x817002 x817003 x817004 x817005 x817006 x817007 x817008 x817009 x2).bind fun bt821 => (if bt819.2 = bt821.2 then (if bt819.2 = 0 then (if 0 ≤ (wrap64 ((bt819.1.size : Int) - (x1.size : Int))) then (if (wrap64 ((bt819.1.size : Int) - (x1.size : Int))) ≤ (bt819.1.size : Int) then (if (wrap64 ((bt819.1.size : Int) - (x1.size : Int))) ≤ (bt821.1.size : Int) then (if (bt819.1.extract 0 ((wrap64 ((bt819.1.size : Int) - (x1.size : Int))) : Int).toNat).toList = (bt821.1.extract 0 ((wrap64 ((bt819.1.size : Int) - (x1.size : Int))) : Int).toNat).toList then (if (bt819.1.extract ((wrap64 ((bt819.1.size : Int) - (x1.size : Int))) : Int).toNat bt819.1.size).toList = x1.toList then (palanquinlaw05_Ip4Fields.j1 k x1 x3 x4 x5 bt819.1 ((bt821.1.extract ((wrap64 ((bt819.1.size : Int) - (x1.size : Int))) : Int).toNat bt821.1.size).toList != x2.toList) x817000 x817001 x817002 x817003 x817004 x817005 x817006 x817007 x817008 x817009) else (palanquinlaw05_Ip4Fields.j1 k x1 x3 x4 x5 bt819.1 true x817000 x817001 x817002 x817003 x817004 x817005 x817006 x817007 x817008 x817009)) else (palanquinlaw05_Ip4Fields.j1 k x1 x3 x4 x5 bt819.1 true x817000 x817001 x817002 x817003 x817004 x817005 x817006 x817007 x817008 x817009)) else (none)) else (none)) else (none)) else (if bt819.1.toList = ([] : List UInt8) then (some (bt821.1.toList == ([] : List UInt8))) else (some false))) else (some false))))
def palanquinlaw05_Ip4Fields.j1 : Nat → ByteArray → Int → Int → Int → ByteArray → Bool → Int → Int → Int → Int → Int → Bool → Bool → ByteArray → ByteArray → ByteArray → Option (Bool)
  | 0, _, _, _, _, _, _, _, _, _, _, _, _, _, _, _, _ => none
  | k + 1, x1, x3, x4, x5, x13, x88, x817000, x817001, x817002, x817003, x817004, x817005, x817006, x817007, x817008, x817009 => if x88 = true then (some false) else ((ip4_Put.f (wrap64 (x4)) (wrap64 (x5)) x817002 (wrap64 (x3)) x817004 x817005 x817006 x817007 x817008 x817009 x1).bind fun bt823 => ((ip4_Get.f bt823.1).bind fun bt825 => (if bt823.2 = 0 then (if bt825.2.2.2.2.2.2.2.2.2.2.2 = 0 then (if (bt825.1 == (wrap64 (x4)) && (bt825.2.1 == (wrap64 (x5)) && (bt825.2.2.1 == x817002 && (bt825.2.2.2.1 == (wrap64 (x3)) && (bt825.2.2.2.2.1 == x817004 && (bt825.2.2.2.2.2.1 == x817005 && (bt825.2.2.2.2.2.2.1 == x817006 && (bt825.2.2.2.2.2.2.2.1.toList == x817007.toList && (bt825.2.2.2.2.2.2.2.2.1.toList == x817008.toList && (bt825.2.2.2.2.2.2.2.2.2.1.toList == x817009.toList)))))))))) = true then (if bt825.2.2.2.2.2.2.2.2.2.2.1.toList = x1.toList then (if 0 ≤ 1 then (if 1 ≤ (bt823.1.size : Int) then (if 1 ≤ (x13.size : Int) then (if (bt823.1.extract 0 1).toList = (x13.extract 0 1).toList then (if 2 ≤ 4 then (if 4 ≤ (bt823.1.size : Int) then (if 4 ≤ (x13.size : Int) then (if (bt823.1.extract 2 4).toList = (x13.extract 2 4).toList then (if 9 ≤ 10 then (if 10 ≤ (bt823.1.size : Int) then (if 10 ≤ (x13.size : Int) then (if (bt823.1.extract 9 10).toList = (x13.extract 9 10).toList then (if 12 ≤ (bt823.1.size : Int) then (if 12 ≤ (x13.size : Int) then (some ((bt823.1.extract 12 bt823.1.size).toList == (x13.extract 12 x13.size).toList)) else (none)) else (none)) else (some false)) else (none)) else (none)) else (none)) else (some false)) else (none)) else (none)) else (none)) else (some false)) else (none)) else (none)) else (none)) else (some false)) else (some false)) else (some false)) else (some false))))
end
def palanquinlaw05_Ip4Fields.f (k : Nat) (a0_0 : Int) (a0_1 : Int) (a0_2 : Int) (a0_3 : Int) (a0_4 : Int) (a0_5 : Bool) (a0_6 : Bool) (a0_7 : ByteArray) (a0_8 : ByteArray) (a0_9 : ByteArray) (a1 : ByteArray) (a2 : ByteArray) (a3 : Int) (a4 : Int) (a5 : Int) : Option (Bool) := (palanquinlaw05_awake.f).bind fun t817 => (if t817 = true then ((palanquinlaw05_few.f a0_0 a0_1 a0_2 a0_3 a0_4 a0_5 a0_6 a0_7 a0_8 a0_9).bind fun t818 => (if t818 = true then (if (a1.size : Int) = (a2.size : Int) then (palanquinlaw05_Ip4Fields.j0 k a1 a2 a3 a4 a5 (decide ((a1.size : Int) > 2000)) a0_0 a0_1 a0_2 a0_3 a0_4 a0_5 a0_6 a0_7 a0_8 a0_9) else (palanquinlaw05_Ip4Fields.j0 k a1 a2 a3 a4 a5 true a0_0 a0_1 a0_2 a0_3 a0_4 a0_5 a0_6 a0_7 a0_8 a0_9)) else (palanquinlaw05_Ip4Fields.j0 k a1 a2 a3 a4 a5 true a0_0 a0_1 a0_2 a0_3 a0_4 a0_5 a0_6 a0_7 a0_8 a0_9))) else (some false))
theorem palanquinlaw05_Ip4Fields.mono_l : ∀ k, (∀ y0 y1 y2 y3 y4 y5 y6 y7 y8 y9 y10 y11 y12 y13 y14 y15, LeO (palanquinlaw05_Ip4Fields.j0 k y0 y1 y2 y3 y4 y5 y6 y7 y8 y9 y10 y11 y12 y13 y14 y15) (palanquinlaw05_Ip4Fields.j0 (k + 1) y0 y1 y2 y3 y4 y5 y6 y7 y8 y9 y10 y11 y12 y13 y14 y15)) ∧ (∀ y0 y1 y2 y3 y4 y5 y6 y7 y8 y9 y10 y11 y12 y13 y14 y15, LeO (palanquinlaw05_Ip4Fields.j1 k y0 y1 y2 y3 y4 y5 y6 y7 y8 y9 y10 y11 y12 y13 y14 y15) (palanquinlaw05_Ip4Fields.j1 (k + 1) y0 y1 y2 y3 y4 y5 y6 y7 y8 y9 y10 y11 y12 y13 y14 y15))
  | 0 => ⟨fun _ _ _ _ _ _ _ _ _ _ _ _ _ _ _ _ r h => by simp [palanquinlaw05_Ip4Fields.j0] at h, fun _ _ _ _ _ _ _ _ _ _ _ _ _ _ _ _ r h => by simp [palanquinlaw05_Ip4Fields.j1] at h⟩
  | k + 1 => by
    obtain ⟨ih0, ih1⟩ := palanquinlaw05_Ip4Fields.mono_l k
    refine ⟨?_, ?_⟩
    · intro y0 y1 y2 y3 y4 y5 y6 y7 y8 y9 y10 y11 y12 y13 y14 y15
      unfold palanquinlaw05_Ip4Fields.j0
      repeat' first
      | (with_reducible exact ih0 _ _ _ _ _ _ _ _ _ _ _ _ _ _ _ _)
      | (with_reducible exact ih1 _ _ _ _ _ _ _ _ _ _ _ _ _ _ _ _)
      | (with_reducible exact LeO.refl _)
      | (with_reducible exact LeO.none _)
      | (with_reducible refine LeO.ite ?_ ?_)
      | (with_reducible refine LeO.bind ?_ (fun _ => ?_))
      | exact ih0 _ _ _ _ _ _ _ _ _ _ _ _ _ _ _ _
      | exact ih1 _ _ _ _ _ _ _ _ _ _ _ _ _ _ _ _
      | exact LeO.none _
      | refine LeO.ite ?_ ?_
      | refine LeO.bind ?_ (fun _ => ?_)
    · intro y0 y1 y2 y3 y4 y5 y6 y7 y8 y9 y10 y11 y12 y13 y14 y15
      unfold palanquinlaw05_Ip4Fields.j1
      repeat' first
      | (with_reducible exact ih0 _ _ _ _ _ _ _ _ _ _ _ _ _ _ _ _)
      | (with_reducible exact ih1 _ _ _ _ _ _ _ _ _ _ _ _ _ _ _ _)
      | (with_reducible exact LeO.refl _)
      | (with_reducible exact LeO.none _)
      | (with_reducible refine LeO.ite ?_ ?_)
      | (with_reducible refine LeO.bind ?_ (fun _ => ?_))
      | exact ih0 _ _ _ _ _ _ _ _ _ _ _ _ _ _ _ _
      | exact ih1 _ _ _ _ _ _ _ _ _ _ _ _ _ _ _ _
      | exact LeO.none _
      | refine LeO.ite ?_ ?_
      | refine LeO.bind ?_ (fun _ => ?_)
theorem palanquinlaw05_Ip4Fields.mono : ∀ a0 a1 a2 a3 a4 a5 a6 a7 a8 a9 a10 a11 a12 a13 a14 k, LeO (palanquinlaw05_Ip4Fields.f k a0 a1 a2 a3 a4 a5 a6 a7 a8 a9 a10 a11 a12 a13 a14) (palanquinlaw05_Ip4Fields.f (k + 1) a0 a1 a2 a3 a4 a5 a6 a7 a8 a9 a10 a11 a12 a13 a14) := by
  intro a0 a1 a2 a3 a4 a5 a6 a7 a8 a9 a10 a11 a12 a13 a14 k
  obtain ⟨ih0, ih1⟩ := palanquinlaw05_Ip4Fields.mono_l k
  unfold palanquinlaw05_Ip4Fields.f
  repeat' first
      | (with_reducible exact ih0 _ _ _ _ _ _ _ _ _ _ _ _ _ _ _ _)
      | (with_reducible exact ih1 _ _ _ _ _ _ _ _ _ _ _ _ _ _ _ _)
      | (with_reducible exact LeO.refl _)
      | (with_reducible exact LeO.none _)
      | (with_reducible refine LeO.ite ?_ ?_)
      | (with_reducible refine LeO.bind ?_ (fun _ => ?_))
      | exact ih0 _ _ _ _ _ _ _ _ _ _ _ _ _ _ _ _
      | exact ih1 _ _ _ _ _ _ _ _ _ _ _ _ _ _ _ _
      | exact LeO.none _
      | refine LeO.ite ?_ ?_
      | refine LeO.bind ?_ (fun _ => ?_)
set_option maxHeartbeats 8000000 in
set_option maxRecDepth 100000 in
theorem palanquinlaw05_Ip4Fields.calls (k : Nat) (a0_0 : Int) (a0_1 : Int) (a0_2 : Int) (a0_3 : Int) (a0_4 : Int) (a0_5 : Bool) (a0_6 : Bool) (a0_7 : ByteArray) (a0_8 : ByteArray) (a0_9 : ByteArray) (a1 : ByteArray) (a2 : ByteArray) (a3 : Int) (a4 : Int) (a5 : Int) (r : Bool) (w : World) (h : palanquinlaw05_Ip4Fields.f k a0_0 a0_1 a0_2 a0_3 a0_4 a0_5 a0_6 a0_7 a0_8 a0_9 a1 a2 a3 a4 a5 = some r) (hrt_ : Aside0 (r = true)) :
    Calls Try.prog 31 #[.agg #[.int .i64 a0_0, .int .i64 a0_1, .int .i64 a0_2, .int .i64 a0_3, .int .i64 a0_4, .bool a0_5, .bool a0_6, .string a0_7, .string a0_8, .string a0_9], .string a1, .string a2, .int .u8 a3, .int .u8 a4, .int .u16 a5] w fun e w' => e = .returned (.bool r) ∧ Below w.heap.size w w' := by
  have hu93 := Try.underlying93
  have HB := Aside0.mk (Below.refl w.heap.size w)
  have H : ((palanquinlaw05_awake.f).bind fun t817 => (if t817 = true then ((palanquinlaw05_few.f a0_0 a0_1 a0_2 a0_3 a0_4 a0_5 a0_6 a0_7 a0_8 a0_9).bind fun t818 => (if t818 = true then (if (a1.size : Int) = (a2.size : Int) then (palanquinlaw05_Ip4Fields.j0 k a1 a2 a3 a4 a5 (decide ((a1.size : Int) > 2000)) a0_0 a0_1 a0_2 a0_3 a0_4 a0_5 a0_6 a0_7 a0_8 a0_9) else (palanquinlaw05_Ip4Fields.j0 k a1 a2 a3 a4 a5 true a0_0 a0_1 a0_2 a0_3 a0_4 a0_5 a0_6 a0_7 a0_8 a0_9)) else (palanquinlaw05_Ip4Fields.j0 k a1 a2 a3 a4 a5 true a0_0 a0_1 a0_2 a0_3 a0_4 a0_5 a0_6 a0_7 a0_8 a0_9))) else (some false))) = some r := h
  clear h
  replace H := Option.bind_eq_some_iff.mp H
  obtain ⟨t817, A70, H⟩ := H
  replace H : (if t817 = true then ((palanquinlaw05_few.f a0_0 a0_1 a0_2 a0_3 a0_4 a0_5 a0_6 a0_7 a0_8 a0_9).bind fun t818 => (if t818 = true then (if (a1.size : Int) = (a2.size : Int) then (palanquinlaw05_Ip4Fields.j0 k a1 a2 a3 a4 a5 (decide ((a1.size : Int) > 2000)) a0_0 a0_1 a0_2 a0_3 a0_4 a0_5 a0_6 a0_7 a0_8 a0_9) else (palanquinlaw05_Ip4Fields.j0 k a1 a2 a3 a4 a5 true a0_0 a0_1 a0_2 a0_3 a0_4 a0_5 a0_6 a0_7 a0_8 a0_9)) else (palanquinlaw05_Ip4Fields.j0 k a1 a2 a3 a4 a5 true a0_0 a0_1 a0_2 a0_3 a0_4 a0_5 a0_6 a0_7 a0_8 a0_9))) else (some false)) = some r := H
  have A7 := Aside0.mk A70
  clear A70
  by_cases c8 : t817 = true
  · subst c8
    have H1 : ((palanquinlaw05_few.f a0_0 a0_1 a0_2 a0_3 a0_4 a0_5 a0_6 a0_7 a0_8 a0_9).bind fun t818 => (if t818 = true then (if (a1.size : Int) = (a2.size : Int) then (palanquinlaw05_Ip4Fields.j0 k a1 a2 a3 a4 a5 (decide ((a1.size : Int) > 2000)) a0_0 a0_1 a0_2 a0_3 a0_4 a0_5 a0_6 a0_7 a0_8 a0_9) else (palanquinlaw05_Ip4Fields.j0 k a1 a2 a3 a4 a5 true a0_0 a0_1 a0_2 a0_3 a0_4 a0_5 a0_6 a0_7 a0_8 a0_9)) else (palanquinlaw05_Ip4Fields.j0 k a1 a2 a3 a4 a5 true a0_0 a0_1 a0_2 a0_3 a0_4 a0_5 a0_6 a0_7 a0_8 a0_9))) = some r := by rw [if_pos rfl] at H; exact H
    clear H
    have H := H1
    clear H1
    have HC9 := Aside0.mk H
    clear H
    go_enter Try.func31, Try.ntmps31
    go_upto_region 3 with (first | ((with_reducible refine gate_dst (N := 6) rfl ?_); (try (refine gate_guard (by rfl) ?_; dsimp only)); refine box_event ?hg (N := 6) ?hd (cs := #[.int .i64 a0_0, .int .i64 a0_1, .int .i64 a0_2, .int .i64 a0_3, .int .i64 a0_4, .bool a0_5, .bool a0_6, .string a0_7, .string a0_8, .string a0_9]) (t := 93) ?hr ?_; (case hd => rfl); (case hg => rfl); (case hr => first | (go_simp; done) | (go_simp; rfl)); intro gb816 hg w10 hbox hb; have n0_ := Aside0.mk (below_step (by repeat (first | (with_reducible first | exact HB.out | apply below_alloc | apply pw_below_drewN | apply below_drew1) | exact HB.out)) hb); have n1_ := Aside0.mk (hbox); have n2_ := Aside0.mk ((by rw [hg]; exact (below_size (by repeat (first | (with_reducible first | exact HB.out | apply below_alloc | apply pw_below_drewN | apply below_drew1) | exact HB.out))) : w.heap.size ≤ gb816)); have n3_ := Aside0.mk ((by rw [hg]; exact (below_size (by repeat (first | (with_reducible first | exact HB.out | apply below_alloc | apply pw_below_drewN | apply below_drew1) | exact HB.out))) : w.heap.size ≤ gb816)); clear HB; have HB := n0_; have BK816 := n1_; have GW816 := n2_; have GE816 := n3_; clear n0_ n1_ n2_ n3_; clear hb hbox hg) | (go_at_call 83; (with_reducible refine (palanquinlaw05_awake.calls  true _ A7.out).mono ?_); rintro e w11 ⟨rfl, hb⟩; have n0_ := Aside0.mk (blk_below (g := gb816) (o := .cells #[.int .i64 a0_0, .int .i64 a0_1, .int .i64 a0_2, .int .i64 a0_3, .int .i64 a0_4, .bool a0_5, .bool a0_6, .string a0_7, .string a0_8, .string a0_9] 93 (0, 0)) (by (with_reducible repeat (first | refine blk_drewN ?_ _ | refine blk_drew ?_ | refine blk_alloc ?_ _)); exact BK816.out) hb); have n1_ := Aside0.mk (below_step (by repeat (first | (with_reducible first | exact HB.out | apply below_alloc | apply pw_below_drewN | apply below_drew1 | refine below_set ?_ GE816.out) | exact HB.out)) hb); clear BK816; clear HB; have BK816 := n0_; have HB := n1_; clear n0_ n1_; (try clear hb); (try clear hb2); (try clear hk); (try clear hi)))
    repeat (go_quiet (first | ((with_reducible refine gate_dst (N := 6) rfl ?_); (try (refine gate_guard (by rfl) ?_; dsimp only)); refine box_event ?hg (N := 6) ?hd (cs := #[.int .i64 a0_0, .int .i64 a0_1, .int .i64 a0_2, .int .i64 a0_3, .int .i64 a0_4, .bool a0_5, .bool a0_6, .string a0_7, .string a0_8, .string a0_9]) (t := 93) ?hr ?_; (case hd => rfl); (case hg => rfl); (case hr => first | (go_simp; done) | (go_simp; rfl)); intro gb816 hg w10 hbox hb; have n0_ := Aside0.mk (below_step (by repeat (first | (with_reducible first | exact HB.out | apply below_alloc | apply pw_below_drewN | apply below_drew1) | exact HB.out)) hb); have n1_ := Aside0.mk (hbox); have n2_ := Aside0.mk ((by rw [hg]; exact (below_size (by repeat (first | (with_reducible first | exact HB.out | apply below_alloc | apply pw_below_drewN | apply below_drew1) | exact HB.out))) : w.heap.size ≤ gb816)); have n3_ := Aside0.mk ((by rw [hg]; exact (below_size (by repeat (first | (with_reducible first | exact HB.out | apply below_alloc | apply pw_below_drewN | apply below_drew1) | exact HB.out))) : w.heap.size ≤ gb816)); clear HB; have HB := n0_; have BK816 := n1_; have GW816 := n2_; have GE816 := n3_; clear n0_ n1_ n2_ n3_; clear hb hbox hg) | (go_at_call 83; (with_reducible refine (palanquinlaw05_awake.calls  true _ A7.out).mono ?_); rintro e w11 ⟨rfl, hb⟩; have n0_ := Aside0.mk (blk_below (g := gb816) (o := .cells #[.int .i64 a0_0, .int .i64 a0_1, .int .i64 a0_2, .int .i64 a0_3, .int .i64 a0_4, .bool a0_5, .bool a0_6, .string a0_7, .string a0_8, .string a0_9] 93 (0, 0)) (by (with_reducible repeat (first | refine blk_drewN ?_ _ | refine blk_drew ?_ | refine blk_alloc ?_ _)); exact BK816.out) hb); have n1_ := Aside0.mk (below_step (by repeat (first | (with_reducible first | exact HB.out | apply below_alloc | apply pw_below_drewN | apply below_drew1 | refine below_set ?_ GE816.out) | exact HB.out)) hb); clear BK816; clear HB; have BK816 := n0_; have HB := n1_; clear n0_ n1_; (try clear hb); (try clear hb2); (try clear hk); (try clear hi))); go_upto_region 3 with (first | ((with_reducible refine gate_dst (N := 6) rfl ?_); (try (refine gate_guard (by rfl) ?_; dsimp only)); refine box_event ?hg (N := 6) ?hd (cs := #[.int .i64 a0_0, .int .i64 a0_1, .int .i64 a0_2, .int .i64 a0_3, .int .i64 a0_4, .bool a0_5, .bool a0_6, .string a0_7, .string a0_8, .string a0_9]) (t := 93) ?hr ?_; (case hd => rfl); (case hg => rfl); (case hr => first | (go_simp; done) | (go_simp; rfl)); intro gb816 hg w10 hbox hb; have n0_ := Aside0.mk (below_step (by repeat (first | (with_reducible first | exact HB.out | apply below_alloc | apply pw_below_drewN | apply below_drew1) | exact HB.out)) hb); have n1_ := Aside0.mk (hbox); have n2_ := Aside0.mk ((by rw [hg]; exact (below_size (by repeat (first | (with_reducible first | exact HB.out | apply below_alloc | apply pw_below_drewN | apply below_drew1) | exact HB.out))) : w.heap.size ≤ gb816)); have n3_ := Aside0.mk ((by rw [hg]; exact (below_size (by repeat (first | (with_reducible first | exact HB.out | apply below_alloc | apply pw_below_drewN | apply below_drew1) | exact HB.out))) : w.heap.size ≤ gb816)); clear HB; have HB := n0_; have BK816 := n1_; have GW816 := n2_; have GE816 := n3_; clear n0_ n1_ n2_ n3_; clear hb hbox hg) | (go_at_call 83; (with_reducible refine (palanquinlaw05_awake.calls  true _ A7.out).mono ?_); rintro e w11 ⟨rfl, hb⟩; have n0_ := Aside0.mk (blk_below (g := gb816) (o := .cells #[.int .i64 a0_0, .int .i64 a0_1, .int .i64 a0_2, .int .i64 a0_3, .int .i64 a0_4, .bool a0_5, .bool a0_6, .string a0_7, .string a0_8, .string a0_9] 93 (0, 0)) (by (with_reducible repeat (first | refine blk_drewN ?_ _ | refine blk_drew ?_ | refine blk_alloc ?_ _)); exact BK816.out) hb); have n1_ := Aside0.mk (below_step (by repeat (first | (with_reducible first | exact HB.out | apply below_alloc | apply pw_below_drewN | apply below_drew1 | refine below_set ?_ GE816.out) | exact HB.out)) hb); clear BK816; clear HB; have BK816 := n0_; have HB := n1_; clear n0_ n1_; (try clear hb); (try clear hb2); (try clear hk); (try clear hi))))
    (try simp only [Act.put, List.setIfInBounds_toArray, List.set_cons_zero, List.set_cons_succ])
    go_cut [39] (fun v39 wc => ∃ (kq : Nat) (x39_8 : Bool), v39 = .bool x39_8 ∧ Aside0 (palanquinlaw05_Ip4Fields.j0 kq a1 a2 a3 a4 a5 x39_8 a0_0 a0_1 a0_2 a0_3 a0_4 a0_5 a0_6 a0_7 a0_8 a0_9 = some r) ∧ Aside0 (kq ≤ k) ∧ Aside0 (wc.heap[gb816]? = some (.cells #[.int .i64 a0_0, .int .i64 a0_1, .int .i64 a0_2, .int .i64 a0_3, .int .i64 a0_4, .bool a0_5, .bool a0_6, .string a0_7, .string a0_8, .string a0_9] 93 (0, 0))) ∧ Aside0 (Below w.heap.size w wc))
    case first =>
      have H := HC9.out
      clear HC9
      replace H := Option.bind_eq_some_iff.mp H
      obtain ⟨t818, A120, H⟩ := H
      replace H : (if t818 = true then (if (a1.size : Int) = (a2.size : Int) then (palanquinlaw05_Ip4Fields.j0 k a1 a2 a3 a4 a5 (decide ((a1.size : Int) > 2000)) a0_0 a0_1 a0_2 a0_3 a0_4 a0_5 a0_6 a0_7 a0_8 a0_9) else (palanquinlaw05_Ip4Fields.j0 k a1 a2 a3 a4 a5 true a0_0 a0_1 a0_2 a0_3 a0_4 a0_5 a0_6 a0_7 a0_8 a0_9)) else (palanquinlaw05_Ip4Fields.j0 k a1 a2 a3 a4 a5 true a0_0 a0_1 a0_2 a0_3 a0_4 a0_5 a0_6 a0_7 a0_8 a0_9)) = some r := H
      have A12 := Aside0.mk A120
      clear A120
      by_cases c13 : t818 = true
      · subst c13
        have H1 : (if (a1.size : Int) = (a2.size : Int) then (palanquinlaw05_Ip4Fields.j0 k a1 a2 a3 a4 a5 (decide ((a1.size : Int) > 2000)) a0_0 a0_1 a0_2 a0_3 a0_4 a0_5 a0_6 a0_7 a0_8 a0_9) else (palanquinlaw05_Ip4Fields.j0 k a1 a2 a3 a4 a5 true a0_0 a0_1 a0_2 a0_3 a0_4 a0_5 a0_6 a0_7 a0_8 a0_9)) = some r := by rw [if_pos rfl] at H; exact H
        clear H
        have H := H1
        clear H1
        by_cases c14 : (a1.size : Int) = (a2.size : Int)
        · rw [if_pos c14] at H
          have c14b0 : ((a1.size : Int) == (a2.size : Int)) = true := beq_iff_eq.mpr c14
          have c14b1 : ((a1.size : Int) != (a2.size : Int)) = false := bne_eq_false_iff_eq.mpr c14
          have c14b2 : (a1.size == a2.size) = true := by first | simpa using c14 | (simp at c14 ⊢; omega)
          clear c14
          (first | rw [c14b0] | (simp only [i64_w, i32_w]; rw [c14b0]) | skip)
          have H' := Aside0.mk H
          clear H
          have hcz15_0 : w11.cell? ⟨gb816, 0, none⟩ = some (.int .i64 a0_0) := (blk_cell BK816.out 0).trans rfl
          have hcz15_1 : w11.cell? ⟨gb816, 1, none⟩ = some (.int .i64 a0_1) := (blk_cell BK816.out 1).trans rfl
          have hcz15_2 : w11.cell? ⟨gb816, 2, none⟩ = some (.int .i64 a0_2) := (blk_cell BK816.out 2).trans rfl
          have hcz15_3 : w11.cell? ⟨gb816, 3, none⟩ = some (.int .i64 a0_3) := (blk_cell BK816.out 3).trans rfl
          have hcz15_4 : w11.cell? ⟨gb816, 4, none⟩ = some (.int .i64 a0_4) := (blk_cell BK816.out 4).trans rfl
          have hcz15_5 : w11.cell? ⟨gb816, 5, none⟩ = some (.bool a0_5) := (blk_cell BK816.out 5).trans rfl
          have hcz15_6 : w11.cell? ⟨gb816, 6, none⟩ = some (.bool a0_6) := (blk_cell BK816.out 6).trans rfl
          have hcz15_7 : w11.cell? ⟨gb816, 7, none⟩ = some (.string a0_7) := (blk_cell BK816.out 7).trans rfl
          have hcz15_8 : w11.cell? ⟨gb816, 8, none⟩ = some (.string a0_8) := (blk_cell BK816.out 8).trans rfl
          have hcz15_9 : w11.cell? ⟨gb816, 9, none⟩ = some (.string a0_9) := (blk_cell BK816.out 9).trans rfl
          have hfz15_0 := blk_frozen BK816.out 0
          have hfz15_1 := blk_frozen BK816.out 1
          have hfz15_2 := blk_frozen BK816.out 2
          have hfz15_3 := blk_frozen BK816.out 3
          have hfz15_4 := blk_frozen BK816.out 4
          have hfz15_5 := blk_frozen BK816.out 5
          have hfz15_6 := blk_frozen BK816.out 6
          have hfz15_7 := blk_frozen BK816.out 7
          have hfz15_8 := blk_frozen BK816.out 8
          have hfz15_9 := blk_frozen BK816.out 9
          go_wp2_with (first | (go_at_call 84; (with_reducible refine (palanquinlaw05_few.calls a0_0 a0_1 a0_2 a0_3 a0_4 a0_5 a0_6 a0_7 a0_8 a0_9 true _ A12.out).mono ?_); rintro e w16 ⟨rfl, hb⟩; have n0_ := Aside0.mk (blk_below (g := gb816) (o := .cells #[.int .i64 a0_0, .int .i64 a0_1, .int .i64 a0_2, .int .i64 a0_3, .int .i64 a0_4, .bool a0_5, .bool a0_6, .string a0_7, .string a0_8, .string a0_9] 93 (0, 0)) (by (with_reducible repeat (first | refine blk_drewN ?_ _ | refine blk_drew ?_ | refine blk_alloc ?_ _)); exact BK816.out) hb); have n1_ := Aside0.mk (below_step (by repeat (first | (with_reducible first | exact HB.out | apply below_alloc | apply pw_below_drewN | apply below_drew1 | refine below_set ?_ GE816.out) | exact HB.out)) hb); clear BK816; clear HB; have BK816 := n0_; have HB := n1_; clear n0_ n1_; (try clear hb); (try clear hb2); (try clear hk); (try clear hi)))
          repeat (go_quiet (first | (go_at_call 84; (with_reducible refine (palanquinlaw05_few.calls a0_0 a0_1 a0_2 a0_3 a0_4 a0_5 a0_6 a0_7 a0_8 a0_9 true _ A12.out).mono ?_); rintro e w16 ⟨rfl, hb⟩; have n0_ := Aside0.mk (blk_below (g := gb816) (o := .cells #[.int .i64 a0_0, .int .i64 a0_1, .int .i64 a0_2, .int .i64 a0_3, .int .i64 a0_4, .bool a0_5, .bool a0_6, .string a0_7, .string a0_8, .string a0_9] 93 (0, 0)) (by (with_reducible repeat (first | refine blk_drewN ?_ _ | refine blk_drew ?_ | refine blk_alloc ?_ _)); exact BK816.out) hb); have n1_ := Aside0.mk (below_step (by repeat (first | (with_reducible first | exact HB.out | apply below_alloc | apply pw_below_drewN | apply below_drew1 | refine below_set ?_ GE816.out) | exact HB.out)) hb); clear BK816; clear HB; have BK816 := n0_; have HB := n1_; clear n0_ n1_; (try clear hb); (try clear hb2); (try clear hk); (try clear hi))); try go_wp2_with (first | (go_at_call 84; (with_reducible refine (palanquinlaw05_few.calls a0_0 a0_1 a0_2 a0_3 a0_4 a0_5 a0_6 a0_7 a0_8 a0_9 true _ A12.out).mono ?_); rintro e w16 ⟨rfl, hb⟩; have n0_ := Aside0.mk (blk_below (g := gb816) (o := .cells #[.int .i64 a0_0, .int .i64 a0_1, .int .i64 a0_2, .int .i64 a0_3, .int .i64 a0_4, .bool a0_5, .bool a0_6, .string a0_7, .string a0_8, .string a0_9] 93 (0, 0)) (by (with_reducible repeat (first | refine blk_drewN ?_ _ | refine blk_drew ?_ | refine blk_alloc ?_ _)); exact BK816.out) hb); have n1_ := Aside0.mk (below_step (by repeat (first | (with_reducible first | exact HB.out | apply below_alloc | apply pw_below_drewN | apply below_drew1 | refine below_set ?_ GE816.out) | exact HB.out)) hb); clear BK816; clear HB; have BK816 := n0_; have HB := n1_; clear n0_ n1_; (try clear hb); (try clear hb2); (try clear hk); (try clear hi))))
          go_meet
          case rel => exact ⟨_, (decide ((a1.size : Int) > 2000)), (by first | rfl | (simp; done) | (simp [*]; done)), H', ⟨by first | omega | exact Nat.le_refl _⟩, ⟨by (with_reducible repeat (first | refine blk_drewN ?_ _ | refine blk_drew ?_ | refine blk_alloc ?_ _)); exact BK816.out⟩, ⟨by repeat (first | (with_reducible first | exact HB.out | apply below_alloc | apply pw_below_drewN | apply below_drew1 | refine below_set ?_ GE816.out) | exact HB.out)⟩⟩
        · rw [if_neg c14] at H
          have c14b0 : ((a1.size : Int) == (a2.size : Int)) = false := beq_eq_false_iff_ne.mpr c14
          have c14b1 : ((a1.size : Int) != (a2.size : Int)) = true := bne_iff_ne.mpr c14
          have c14b2 : (a1.size == a2.size) = false := by first | simpa using c14 | (simp at c14 ⊢; omega)
          (first | rw [c14b0] | (simp only [i64_w, i32_w]; rw [c14b0]) | skip)
          have H' := Aside0.mk H
          clear H
          have hcz17_0 : w11.cell? ⟨gb816, 0, none⟩ = some (.int .i64 a0_0) := (blk_cell BK816.out 0).trans rfl
          have hcz17_1 : w11.cell? ⟨gb816, 1, none⟩ = some (.int .i64 a0_1) := (blk_cell BK816.out 1).trans rfl
          have hcz17_2 : w11.cell? ⟨gb816, 2, none⟩ = some (.int .i64 a0_2) := (blk_cell BK816.out 2).trans rfl
          have hcz17_3 : w11.cell? ⟨gb816, 3, none⟩ = some (.int .i64 a0_3) := (blk_cell BK816.out 3).trans rfl
          have hcz17_4 : w11.cell? ⟨gb816, 4, none⟩ = some (.int .i64 a0_4) := (blk_cell BK816.out 4).trans rfl
          have hcz17_5 : w11.cell? ⟨gb816, 5, none⟩ = some (.bool a0_5) := (blk_cell BK816.out 5).trans rfl
          have hcz17_6 : w11.cell? ⟨gb816, 6, none⟩ = some (.bool a0_6) := (blk_cell BK816.out 6).trans rfl
          have hcz17_7 : w11.cell? ⟨gb816, 7, none⟩ = some (.string a0_7) := (blk_cell BK816.out 7).trans rfl
          have hcz17_8 : w11.cell? ⟨gb816, 8, none⟩ = some (.string a0_8) := (blk_cell BK816.out 8).trans rfl
          have hcz17_9 : w11.cell? ⟨gb816, 9, none⟩ = some (.string a0_9) := (blk_cell BK816.out 9).trans rfl
          have hfz17_0 := blk_frozen BK816.out 0
          have hfz17_1 := blk_frozen BK816.out 1
          have hfz17_2 := blk_frozen BK816.out 2
          have hfz17_3 := blk_frozen BK816.out 3
          have hfz17_4 := blk_frozen BK816.out 4
          have hfz17_5 := blk_frozen BK816.out 5
          have hfz17_6 := blk_frozen BK816.out 6
          have hfz17_7 := blk_frozen BK816.out 7
          have hfz17_8 := blk_frozen BK816.out 8
          have hfz17_9 := blk_frozen BK816.out 9
          go_wp2_with (first | (go_at_call 84; (with_reducible refine (palanquinlaw05_few.calls a0_0 a0_1 a0_2 a0_3 a0_4 a0_5 a0_6 a0_7 a0_8 a0_9 true _ A12.out).mono ?_); rintro e w18 ⟨rfl, hb⟩; have n0_ := Aside0.mk (blk_below (g := gb816) (o := .cells #[.int .i64 a0_0, .int .i64 a0_1, .int .i64 a0_2, .int .i64 a0_3, .int .i64 a0_4, .bool a0_5, .bool a0_6, .string a0_7, .string a0_8, .string a0_9] 93 (0, 0)) (by (with_reducible repeat (first | refine blk_drewN ?_ _ | refine blk_drew ?_ | refine blk_alloc ?_ _)); exact BK816.out) hb); have n1_ := Aside0.mk (below_step (by repeat (first | (with_reducible first | exact HB.out | apply below_alloc | apply pw_below_drewN | apply below_drew1 | refine below_set ?_ GE816.out) | exact HB.out)) hb); clear BK816; clear HB; have BK816 := n0_; have HB := n1_; clear n0_ n1_; (try clear hb); (try clear hb2); (try clear hk); (try clear hi)))
          repeat (go_quiet (first | (go_at_call 84; (with_reducible refine (palanquinlaw05_few.calls a0_0 a0_1 a0_2 a0_3 a0_4 a0_5 a0_6 a0_7 a0_8 a0_9 true _ A12.out).mono ?_); rintro e w18 ⟨rfl, hb⟩; have n0_ := Aside0.mk (blk_below (g := gb816) (o := .cells #[.int .i64 a0_0, .int .i64 a0_1, .int .i64 a0_2, .int .i64 a0_3, .int .i64 a0_4, .bool a0_5, .bool a0_6, .string a0_7, .string a0_8, .string a0_9] 93 (0, 0)) (by (with_reducible repeat (first | refine blk_drewN ?_ _ | refine blk_drew ?_ | refine blk_alloc ?_ _)); exact BK816.out) hb); have n1_ := Aside0.mk (below_step (by repeat (first | (with_reducible first | exact HB.out | apply below_alloc | apply pw_below_drewN | apply below_drew1 | refine below_set ?_ GE816.out) | exact HB.out)) hb); clear BK816; clear HB; have BK816 := n0_; have HB := n1_; clear n0_ n1_; (try clear hb); (try clear hb2); (try clear hk); (try clear hi))); try go_wp2_with (first | (go_at_call 84; (with_reducible refine (palanquinlaw05_few.calls a0_0 a0_1 a0_2 a0_3 a0_4 a0_5 a0_6 a0_7 a0_8 a0_9 true _ A12.out).mono ?_); rintro e w18 ⟨rfl, hb⟩; have n0_ := Aside0.mk (blk_below (g := gb816) (o := .cells #[.int .i64 a0_0, .int .i64 a0_1, .int .i64 a0_2, .int .i64 a0_3, .int .i64 a0_4, .bool a0_5, .bool a0_6, .string a0_7, .string a0_8, .string a0_9] 93 (0, 0)) (by (with_reducible repeat (first | refine blk_drewN ?_ _ | refine blk_drew ?_ | refine blk_alloc ?_ _)); exact BK816.out) hb); have n1_ := Aside0.mk (below_step (by repeat (first | (with_reducible first | exact HB.out | apply below_alloc | apply pw_below_drewN | apply below_drew1 | refine below_set ?_ GE816.out) | exact HB.out)) hb); clear BK816; clear HB; have BK816 := n0_; have HB := n1_; clear n0_ n1_; (try clear hb); (try clear hb2); (try clear hk); (try clear hi))))
          go_meet
          case rel => exact ⟨_, (true), (by first | rfl | (simp; done) | (simp [*]; done)), H', ⟨by first | omega | exact Nat.le_refl _⟩, ⟨by (with_reducible repeat (first | refine blk_drewN ?_ _ | refine blk_drew ?_ | refine blk_alloc ?_ _)); exact BK816.out⟩, ⟨by repeat (first | (with_reducible first | exact HB.out | apply below_alloc | apply pw_below_drewN | apply below_drew1 | refine below_set ?_ GE816.out) | exact HB.out)⟩⟩
      · replace c13 := Bool.eq_false_iff.mpr c13
        subst c13
        have H1 : (palanquinlaw05_Ip4Fields.j0 k a1 a2 a3 a4 a5 true a0_0 a0_1 a0_2 a0_3 a0_4 a0_5 a0_6 a0_7 a0_8 a0_9) = some r := by rw [if_neg (show ¬ (false = true) by decide)] at H; exact H
        clear H
        have H := H1
        clear H1
        have H' := Aside0.mk H
        clear H
        have hcz19_0 : w11.cell? ⟨gb816, 0, none⟩ = some (.int .i64 a0_0) := (blk_cell BK816.out 0).trans rfl
        have hcz19_1 : w11.cell? ⟨gb816, 1, none⟩ = some (.int .i64 a0_1) := (blk_cell BK816.out 1).trans rfl
        have hcz19_2 : w11.cell? ⟨gb816, 2, none⟩ = some (.int .i64 a0_2) := (blk_cell BK816.out 2).trans rfl
        have hcz19_3 : w11.cell? ⟨gb816, 3, none⟩ = some (.int .i64 a0_3) := (blk_cell BK816.out 3).trans rfl
        have hcz19_4 : w11.cell? ⟨gb816, 4, none⟩ = some (.int .i64 a0_4) := (blk_cell BK816.out 4).trans rfl
        have hcz19_5 : w11.cell? ⟨gb816, 5, none⟩ = some (.bool a0_5) := (blk_cell BK816.out 5).trans rfl
        have hcz19_6 : w11.cell? ⟨gb816, 6, none⟩ = some (.bool a0_6) := (blk_cell BK816.out 6).trans rfl
        have hcz19_7 : w11.cell? ⟨gb816, 7, none⟩ = some (.string a0_7) := (blk_cell BK816.out 7).trans rfl
        have hcz19_8 : w11.cell? ⟨gb816, 8, none⟩ = some (.string a0_8) := (blk_cell BK816.out 8).trans rfl
        have hcz19_9 : w11.cell? ⟨gb816, 9, none⟩ = some (.string a0_9) := (blk_cell BK816.out 9).trans rfl
        have hfz19_0 := blk_frozen BK816.out 0
        have hfz19_1 := blk_frozen BK816.out 1
        have hfz19_2 := blk_frozen BK816.out 2
        have hfz19_3 := blk_frozen BK816.out 3
        have hfz19_4 := blk_frozen BK816.out 4
        have hfz19_5 := blk_frozen BK816.out 5
        have hfz19_6 := blk_frozen BK816.out 6
        have hfz19_7 := blk_frozen BK816.out 7
        have hfz19_8 := blk_frozen BK816.out 8
        have hfz19_9 := blk_frozen BK816.out 9
        go_wp2_with (first | (go_at_call 84; (with_reducible refine (palanquinlaw05_few.calls a0_0 a0_1 a0_2 a0_3 a0_4 a0_5 a0_6 a0_7 a0_8 a0_9 false _ A12.out).mono ?_); rintro e w20 ⟨rfl, hb⟩; have n0_ := Aside0.mk (blk_below (g := gb816) (o := .cells #[.int .i64 a0_0, .int .i64 a0_1, .int .i64 a0_2, .int .i64 a0_3, .int .i64 a0_4, .bool a0_5, .bool a0_6, .string a0_7, .string a0_8, .string a0_9] 93 (0, 0)) (by (with_reducible repeat (first | refine blk_drewN ?_ _ | refine blk_drew ?_ | refine blk_alloc ?_ _)); exact BK816.out) hb); have n1_ := Aside0.mk (below_step (by repeat (first | (with_reducible first | exact HB.out | apply below_alloc | apply pw_below_drewN | apply below_drew1 | refine below_set ?_ GE816.out) | exact HB.out)) hb); clear BK816; clear HB; have BK816 := n0_; have HB := n1_; clear n0_ n1_; (try clear hb); (try clear hb2); (try clear hk); (try clear hi)))
        repeat (go_quiet (first | (go_at_call 84; (with_reducible refine (palanquinlaw05_few.calls a0_0 a0_1 a0_2 a0_3 a0_4 a0_5 a0_6 a0_7 a0_8 a0_9 false _ A12.out).mono ?_); rintro e w20 ⟨rfl, hb⟩; have n0_ := Aside0.mk (blk_below (g := gb816) (o := .cells #[.int .i64 a0_0, .int .i64 a0_1, .int .i64 a0_2, .int .i64 a0_3, .int .i64 a0_4, .bool a0_5, .bool a0_6, .string a0_7, .string a0_8, .string a0_9] 93 (0, 0)) (by (with_reducible repeat (first | refine blk_drewN ?_ _ | refine blk_drew ?_ | refine blk_alloc ?_ _)); exact BK816.out) hb); have n1_ := Aside0.mk (below_step (by repeat (first | (with_reducible first | exact HB.out | apply below_alloc | apply pw_below_drewN | apply below_drew1 | refine below_set ?_ GE816.out) | exact HB.out)) hb); clear BK816; clear HB; have BK816 := n0_; have HB := n1_; clear n0_ n1_; (try clear hb); (try clear hb2); (try clear hk); (try clear hi))); try go_wp2_with (first | (go_at_call 84; (with_reducible refine (palanquinlaw05_few.calls a0_0 a0_1 a0_2 a0_3 a0_4 a0_5 a0_6 a0_7 a0_8 a0_9 false _ A12.out).mono ?_); rintro e w20 ⟨rfl, hb⟩; have n0_ := Aside0.mk (blk_below (g := gb816) (o := .cells #[.int .i64 a0_0, .int .i64 a0_1, .int .i64 a0_2, .int .i64 a0_3, .int .i64 a0_4, .bool a0_5, .bool a0_6, .string a0_7, .string a0_8, .string a0_9] 93 (0, 0)) (by (with_reducible repeat (first | refine blk_drewN ?_ _ | refine blk_drew ?_ | refine blk_alloc ?_ _)); exact BK816.out) hb); have n1_ := Aside0.mk (below_step (by repeat (first | (with_reducible first | exact HB.out | apply below_alloc | apply pw_below_drewN | apply below_drew1 | refine below_set ?_ GE816.out) | exact HB.out)) hb); clear BK816; clear HB; have BK816 := n0_; have HB := n1_; clear n0_ n1_; (try clear hb); (try clear hb2); (try clear hk); (try clear hi))))
        go_meet
        case rel => exact ⟨_, (true), (by first | rfl | (simp; done) | (simp [*]; done)), H', ⟨by first | omega | exact Nat.le_refl _⟩, ⟨by (with_reducible repeat (first | refine blk_drewN ?_ _ | refine blk_drew ?_ | refine blk_alloc ?_ _)); exact BK816.out⟩, ⟨by repeat (first | (with_reducible first | exact HB.out | apply below_alloc | apply pw_below_drewN | apply below_drew1 | refine below_set ?_ GE816.out) | exact HB.out)⟩⟩
    case rest =>
      clear HC9
      try clear c1
      try clear p2
      try clear c3
      try clear p4
      try clear c8
      try clear c13
      try clear c14
      try clear c14b0
      try clear c14b1
      try clear c14b2
      try clear hcz15_0
      try clear hcz15_1
      try clear hcz15_2
      try clear hcz15_3
      try clear hcz15_4
      try clear hcz15_5
      try clear hcz15_6
      try clear hcz15_7
      try clear hcz15_8
      try clear hcz15_9
      try clear hcz17_0
      try clear hcz17_1
      try clear hcz17_2
      try clear hcz17_3
      try clear hcz17_4
      try clear hcz17_5
      try clear hcz17_6
      try clear hcz17_7
      try clear hcz17_8
      try clear hcz17_9
      try clear hcz19_0
      try clear hcz19_1
      try clear hcz19_2
      try clear hcz19_3
      try clear hcz19_4
      try clear hcz19_5
      try clear hcz19_6
      try clear hcz19_7
      try clear hcz19_8
      try clear hcz19_9
      try clear hfz15_0
      try clear hfz15_1
      try clear hfz15_2
      try clear hfz15_3
      try clear hfz15_4
      try clear hfz15_5
      try clear hfz15_6
      try clear hfz15_7
      try clear hfz15_8
      try clear hfz15_9
      try clear hfz17_0
      try clear hfz17_1
      try clear hfz17_2
      try clear hfz17_3
      try clear hfz17_4
      try clear hfz17_5
      try clear hfz17_6
      try clear hfz17_7
      try clear hfz17_8
      try clear hfz17_9
      try clear hfz19_0
      try clear hfz19_1
      try clear hfz19_2
      try clear hfz19_3
      try clear hfz19_4
      try clear hfz19_5
      try clear hfz19_6
      try clear hfz19_7
      try clear hfz19_8
      try clear hfz19_9
      obtain ⟨kq, x39_8, rfl, HA, HJ8, BK816, HB⟩ := hcut
      cases kq with
      | zero => exact absurd HA.out (by simp [palanquinlaw05_Ip4Fields.j0])
      | succ kj8 =>
        have H := HA.out
        clear HA
        simp only [palanquinlaw05_Ip4Fields.j0] at H
        by_cases c21 : x39_8 = true
        · subst c21
          have H1 : (some true) = some r := by rw [if_pos rfl] at H; exact H
          clear H
          have H := H1
          clear H1
          obtain rfl := Option.some.inj H
          go_wp2
          repeat (go_quiet (fail); try go_wp2)
          go_ret
          exact ⟨by first | rfl | (simp [errW_none, errW_some] <;> rfl) | (simp [*, errW_none, errW_some] <;> rfl), by repeat (first | (with_reducible first | exact HB.out | apply below_alloc | apply pw_below_drewN | apply below_drew1 | refine below_set ?_ GE816.out) | exact HB.out)⟩
        · replace c21 := Bool.eq_false_iff.mpr c21
          subst c21
          have H1 : ((ip4_Put.f a0_0 a0_1 a0_2 a0_3 a0_4 a0_5 a0_6 a0_7 a0_8 a0_9 a1).bind fun bt819 => ((ip4_Put.f a0_0 a0_1 a0_2 a0_3 a0_4 a0_5 a0_6 a0_7 a0_8 a0_9 a2).bind fun bt821 => (if bt819.2 = bt821.2 then (if bt819.2 = 0 then (if 0 ≤ (wrap64 ((bt819.1.size : Int) - (a1.size : Int))) then (if (wrap64 ((bt819.1.size : Int) - (a1.size : Int))) ≤ (bt819.1.size : Int) then (if (wrap64 ((bt819.1.size : Int) - (a1.size : Int))) ≤ (bt821.1.size : Int) then (if (bt819.1.extract 0 ((wrap64 ((bt819.1.size : Int) - (a1.size : Int))) : Int).toNat).toList = (bt821.1.extract 0 ((wrap64 ((bt819.1.size : Int) - (a1.size : Int))) : Int).toNat).toList then (if (bt819.1.extract ((wrap64 ((bt819.1.size : Int) - (a1.size : Int))) : Int).toNat bt819.1.size).toList = a1.toList then (palanquinlaw05_Ip4Fields.j1 kj8 a1 a3 a4 a5 bt819.1 ((bt821.1.extract ((wrap64 ((bt819.1.size : Int) - (a1.size : Int))) : Int).toNat bt821.1.size).toList != a2.toList) a0_0 a0_1 a0_2 a0_3 a0_4 a0_5 a0_6 a0_7 a0_8 a0_9) else (palanquinlaw05_Ip4Fields.j1 kj8 a1 a3 a4 a5 bt819.1 true a0_0 a0_1 a0_2 a0_3 a0_4 a0_5 a0_6 a0_7 a0_8 a0_9)) else (palanquinlaw05_Ip4Fields.j1 kj8 a1 a3 a4 a5 bt819.1 true a0_0 a0_1 a0_2 a0_3 a0_4 a0_5 a0_6 a0_7 a0_8 a0_9)) else (none)) else (none)) else (none)) else (if bt819.1.toList = ([] : List UInt8) then (some (bt821.1.toList == ([] : List UInt8))) else (some false))) else (some false)))) = some r := by rw [if_neg (show ¬ (false = true) by decide)] at H; exact H
          clear H
          have H := H1
          clear H1
          replace H := Option.bind_eq_some_iff.mp H
          obtain ⟨⟨t819, t820⟩, A220, H⟩ := H
          replace H : ((ip4_Put.f a0_0 a0_1 a0_2 a0_3 a0_4 a0_5 a0_6 a0_7 a0_8 a0_9 a2).bind fun bt821 => (if t820 = bt821.2 then (if t820 = 0 then (if 0 ≤ (wrap64 ((t819.size : Int) - (a1.size : Int))) then (if (wrap64 ((t819.size : Int) - (a1.size : Int))) ≤ (t819.size : Int) then (if (wrap64 ((t819.size : Int) - (a1.size : Int))) ≤ (bt821.1.size : Int) then (if (t819.extract 0 ((wrap64 ((t819.size : Int) - (a1.size : Int))) : Int).toNat).toList = (bt821.1.extract 0 ((wrap64 ((t819.size : Int) - (a1.size : Int))) : Int).toNat).toList then (if (t819.extract ((wrap64 ((t819.size : Int) - (a1.size : Int))) : Int).toNat t819.size).toList = a1.toList then (palanquinlaw05_Ip4Fields.j1 kj8 a1 a3 a4 a5 t819 ((bt821.1.extract ((wrap64 ((t819.size : Int) - (a1.size : Int))) : Int).toNat bt821.1.size).toList != a2.toList) a0_0 a0_1 a0_2 a0_3 a0_4 a0_5 a0_6 a0_7 a0_8 a0_9) else (palanquinlaw05_Ip4Fields.j1 kj8 a1 a3 a4 a5 t819 true a0_0 a0_1 a0_2 a0_3 a0_4 a0_5 a0_6 a0_7 a0_8 a0_9)) else (palanquinlaw05_Ip4Fields.j1 kj8 a1 a3 a4 a5 t819 true a0_0 a0_1 a0_2 a0_3 a0_4 a0_5 a0_6 a0_7 a0_8 a0_9)) else (none)) else (none)) else (none)) else (if t819.toList = ([] : List UInt8) then (some (bt821.1.toList == ([] : List UInt8))) else (some false))) else (some false))) = some r := H
          have A22 := Aside0.mk A220
          clear A220
          replace H := Option.bind_eq_some_iff.mp H
          obtain ⟨⟨t821, t822⟩, A230, H⟩ := H
          replace H : (if t820 = t822 then (if t820 = 0 then (if 0 ≤ (wrap64 ((t819.size : Int) - (a1.size : Int))) then (if (wrap64 ((t819.size : Int) - (a1.size : Int))) ≤ (t819.size : Int) then (if (wrap64 ((t819.size : Int) - (a1.size : Int))) ≤ (t821.size : Int) then (if (t819.extract 0 ((wrap64 ((t819.size : Int) - (a1.size : Int))) : Int).toNat).toList = (t821.extract 0 ((wrap64 ((t819.size : Int) - (a1.size : Int))) : Int).toNat).toList then (if (t819.extract ((wrap64 ((t819.size : Int) - (a1.size : Int))) : Int).toNat t819.size).toList = a1.toList then (palanquinlaw05_Ip4Fields.j1 kj8 a1 a3 a4 a5 t819 ((t821.extract ((wrap64 ((t819.size : Int) - (a1.size : Int))) : Int).toNat t821.size).toList != a2.toList) a0_0 a0_1 a0_2 a0_3 a0_4 a0_5 a0_6 a0_7 a0_8 a0_9) else (palanquinlaw05_Ip4Fields.j1 kj8 a1 a3 a4 a5 t819 true a0_0 a0_1 a0_2 a0_3 a0_4 a0_5 a0_6 a0_7 a0_8 a0_9)) else (palanquinlaw05_Ip4Fields.j1 kj8 a1 a3 a4 a5 t819 true a0_0 a0_1 a0_2 a0_3 a0_4 a0_5 a0_6 a0_7 a0_8 a0_9)) else (none)) else (none)) else (none)) else (if t819.toList = ([] : List UInt8) then (some (t821.toList == ([] : List UInt8))) else (some false))) else (some false)) = some r := H
          have A23 := Aside0.mk A230
          clear A230
          by_cases c24 : t820 = t822
          · rw [if_pos c24] at H
            have c24b0 : (t820 == t822) = true := beq_iff_eq.mpr c24
            have c24b1 : (t820 != t822) = false := bne_eq_false_iff_eq.mpr c24
            clear c24
            by_cases c25 : t820 = 0
            · rw [if_pos c25] at H
              have c25b0 : (t820 == 0) = true := beq_iff_eq.mpr c25
              have c25b1 : (t820 != 0) = false := bne_eq_false_iff_eq.mpr c25
              clear c25
              have HC26 := Aside0.mk H
              clear H
              have hcz27_0 : wc.cell? ⟨gb816, 0, none⟩ = some (.int .i64 a0_0) := (blk_cell BK816.out 0).trans rfl
              have hcz27_1 : wc.cell? ⟨gb816, 1, none⟩ = some (.int .i64 a0_1) := (blk_cell BK816.out 1).trans rfl
              have hcz27_2 : wc.cell? ⟨gb816, 2, none⟩ = some (.int .i64 a0_2) := (blk_cell BK816.out 2).trans rfl
              have hcz27_3 : wc.cell? ⟨gb816, 3, none⟩ = some (.int .i64 a0_3) := (blk_cell BK816.out 3).trans rfl
              have hcz27_4 : wc.cell? ⟨gb816, 4, none⟩ = some (.int .i64 a0_4) := (blk_cell BK816.out 4).trans rfl
              have hcz27_5 : wc.cell? ⟨gb816, 5, none⟩ = some (.bool a0_5) := (blk_cell BK816.out 5).trans rfl
              have hcz27_6 : wc.cell? ⟨gb816, 6, none⟩ = some (.bool a0_6) := (blk_cell BK816.out 6).trans rfl
              have hcz27_7 : wc.cell? ⟨gb816, 7, none⟩ = some (.string a0_7) := (blk_cell BK816.out 7).trans rfl
              have hcz27_8 : wc.cell? ⟨gb816, 8, none⟩ = some (.string a0_8) := (blk_cell BK816.out 8).trans rfl
              have hcz27_9 : wc.cell? ⟨gb816, 9, none⟩ = some (.string a0_9) := (blk_cell BK816.out 9).trans rfl
              have hfz27_0 := blk_frozen BK816.out 0
              have hfz27_1 := blk_frozen BK816.out 1
              have hfz27_2 := blk_frozen BK816.out 2
              have hfz27_3 := blk_frozen BK816.out 3
              have hfz27_4 := blk_frozen BK816.out 4
              have hfz27_5 := blk_frozen BK816.out 5
              have hfz27_6 := blk_frozen BK816.out 6
              have hfz27_7 := blk_frozen BK816.out 7
              have hfz27_8 := blk_frozen BK816.out 8
              have hfz27_9 := blk_frozen BK816.out 9
              go_upto_region 12 with (first | (go_at_call 85; (with_reducible refine (ip4_Put.calls a0_0 a0_1 a0_2 a0_3 a0_4 a0_5 a0_6 a0_7 a0_8 a0_9 a1 t819 t820 _ A22.out).mono ?_); rintro e w28 ⟨rfl, hb⟩; have n0_ := Aside0.mk (blk_below (g := gb816) (o := .cells #[.int .i64 a0_0, .int .i64 a0_1, .int .i64 a0_2, .int .i64 a0_3, .int .i64 a0_4, .bool a0_5, .bool a0_6, .string a0_7, .string a0_8, .string a0_9] 93 (0, 0)) (by (with_reducible repeat (first | refine blk_drewN ?_ _ | refine blk_drew ?_ | refine blk_alloc ?_ _)); exact BK816.out) hb); have n1_ := Aside0.mk (below_step (by repeat (first | (with_reducible first | exact HB.out | apply below_alloc | apply pw_below_drewN | apply below_drew1 | refine below_set ?_ GE816.out) | exact HB.out)) hb); clear BK816; clear HB; have BK816 := n0_; have HB := n1_; clear n0_ n1_; (try clear hb); (try clear hb2); (try clear hk); (try clear hi); have hcz29_0 : w28.cell? ⟨gb816, 0, none⟩ = some (.int .i64 a0_0) := (blk_cell BK816.out 0).trans rfl; have hcz29_1 : w28.cell? ⟨gb816, 1, none⟩ = some (.int .i64 a0_1) := (blk_cell BK816.out 1).trans rfl; have hcz29_2 : w28.cell? ⟨gb816, 2, none⟩ = some (.int .i64 a0_2) := (blk_cell BK816.out 2).trans rfl; have hcz29_3 : w28.cell? ⟨gb816, 3, none⟩ = some (.int .i64 a0_3) := (blk_cell BK816.out 3).trans rfl; have hcz29_4 : w28.cell? ⟨gb816, 4, none⟩ = some (.int .i64 a0_4) := (blk_cell BK816.out 4).trans rfl; have hcz29_5 : w28.cell? ⟨gb816, 5, none⟩ = some (.bool a0_5) := (blk_cell BK816.out 5).trans rfl; have hcz29_6 : w28.cell? ⟨gb816, 6, none⟩ = some (.bool a0_6) := (blk_cell BK816.out 6).trans rfl; have hcz29_7 : w28.cell? ⟨gb816, 7, none⟩ = some (.string a0_7) := (blk_cell BK816.out 7).trans rfl; have hcz29_8 : w28.cell? ⟨gb816, 8, none⟩ = some (.string a0_8) := (blk_cell BK816.out 8).trans rfl; have hcz29_9 : w28.cell? ⟨gb816, 9, none⟩ = some (.string a0_9) := (blk_cell BK816.out 9).trans rfl; have hfz29_0 := blk_frozen BK816.out 0; have hfz29_1 := blk_frozen BK816.out 1; have hfz29_2 := blk_frozen BK816.out 2; have hfz29_3 := blk_frozen BK816.out 3; have hfz29_4 := blk_frozen BK816.out 4; have hfz29_5 := blk_frozen BK816.out 5; have hfz29_6 := blk_frozen BK816.out 6; have hfz29_7 := blk_frozen BK816.out 7; have hfz29_8 := blk_frozen BK816.out 8; have hfz29_9 := blk_frozen BK816.out 9) | (go_at_call 85; (with_reducible refine (ip4_Put.calls a0_0 a0_1 a0_2 a0_3 a0_4 a0_5 a0_6 a0_7 a0_8 a0_9 a2 t821 t822 _ A23.out).mono ?_); rintro e w30 ⟨rfl, hb⟩; have n0_ := Aside0.mk (blk_below (g := gb816) (o := .cells #[.int .i64 a0_0, .int .i64 a0_1, .int .i64 a0_2, .int .i64 a0_3, .int .i64 a0_4, .bool a0_5, .bool a0_6, .string a0_7, .string a0_8, .string a0_9] 93 (0, 0)) (by (with_reducible repeat (first | refine blk_drewN ?_ _ | refine blk_drew ?_ | refine blk_alloc ?_ _)); exact BK816.out) hb); have n1_ := Aside0.mk (below_step (by repeat (first | (with_reducible first | exact HB.out | apply below_alloc | apply pw_below_drewN | apply below_drew1 | refine below_set ?_ GE816.out) | exact HB.out)) hb); clear BK816; clear HB; have BK816 := n0_; have HB := n1_; clear n0_ n1_; (try clear hb); (try clear hb2); (try clear hk); (try clear hi)))
              repeat (go_quiet (first | (go_at_call 85; (with_reducible refine (ip4_Put.calls a0_0 a0_1 a0_2 a0_3 a0_4 a0_5 a0_6 a0_7 a0_8 a0_9 a1 t819 t820 _ A22.out).mono ?_); rintro e w28 ⟨rfl, hb⟩; have n0_ := Aside0.mk (blk_below (g := gb816) (o := .cells #[.int .i64 a0_0, .int .i64 a0_1, .int .i64 a0_2, .int .i64 a0_3, .int .i64 a0_4, .bool a0_5, .bool a0_6, .string a0_7, .string a0_8, .string a0_9] 93 (0, 0)) (by (with_reducible repeat (first | refine blk_drewN ?_ _ | refine blk_drew ?_ | refine blk_alloc ?_ _)); exact BK816.out) hb); have n1_ := Aside0.mk (below_step (by repeat (first | (with_reducible first | exact HB.out | apply below_alloc | apply pw_below_drewN | apply below_drew1 | refine below_set ?_ GE816.out) | exact HB.out)) hb); clear BK816; clear HB; have BK816 := n0_; have HB := n1_; clear n0_ n1_; (try clear hb); (try clear hb2); (try clear hk); (try clear hi); have hcz29_0 : w28.cell? ⟨gb816, 0, none⟩ = some (.int .i64 a0_0) := (blk_cell BK816.out 0).trans rfl; have hcz29_1 : w28.cell? ⟨gb816, 1, none⟩ = some (.int .i64 a0_1) := (blk_cell BK816.out 1).trans rfl; have hcz29_2 : w28.cell? ⟨gb816, 2, none⟩ = some (.int .i64 a0_2) := (blk_cell BK816.out 2).trans rfl; have hcz29_3 : w28.cell? ⟨gb816, 3, none⟩ = some (.int .i64 a0_3) := (blk_cell BK816.out 3).trans rfl; have hcz29_4 : w28.cell? ⟨gb816, 4, none⟩ = some (.int .i64 a0_4) := (blk_cell BK816.out 4).trans rfl; have hcz29_5 : w28.cell? ⟨gb816, 5, none⟩ = some (.bool a0_5) := (blk_cell BK816.out 5).trans rfl; have hcz29_6 : w28.cell? ⟨gb816, 6, none⟩ = some (.bool a0_6) := (blk_cell BK816.out 6).trans rfl; have hcz29_7 : w28.cell? ⟨gb816, 7, none⟩ = some (.string a0_7) := (blk_cell BK816.out 7).trans rfl; have hcz29_8 : w28.cell? ⟨gb816, 8, none⟩ = some (.string a0_8) := (blk_cell BK816.out 8).trans rfl; have hcz29_9 : w28.cell? ⟨gb816, 9, none⟩ = some (.string a0_9) := (blk_cell BK816.out 9).trans rfl; have hfz29_0 := blk_frozen BK816.out 0; have hfz29_1 := blk_frozen BK816.out 1; have hfz29_2 := blk_frozen BK816.out 2; have hfz29_3 := blk_frozen BK816.out 3; have hfz29_4 := blk_frozen BK816.out 4; have hfz29_5 := blk_frozen BK816.out 5; have hfz29_6 := blk_frozen BK816.out 6; have hfz29_7 := blk_frozen BK816.out 7; have hfz29_8 := blk_frozen BK816.out 8; have hfz29_9 := blk_frozen BK816.out 9) | (go_at_call 85; (with_reducible refine (ip4_Put.calls a0_0 a0_1 a0_2 a0_3 a0_4 a0_5 a0_6 a0_7 a0_8 a0_9 a2 t821 t822 _ A23.out).mono ?_); rintro e w30 ⟨rfl, hb⟩; have n0_ := Aside0.mk (blk_below (g := gb816) (o := .cells #[.int .i64 a0_0, .int .i64 a0_1, .int .i64 a0_2, .int .i64 a0_3, .int .i64 a0_4, .bool a0_5, .bool a0_6, .string a0_7, .string a0_8, .string a0_9] 93 (0, 0)) (by (with_reducible repeat (first | refine blk_drewN ?_ _ | refine blk_drew ?_ | refine blk_alloc ?_ _)); exact BK816.out) hb); have n1_ := Aside0.mk (below_step (by repeat (first | (with_reducible first | exact HB.out | apply below_alloc | apply pw_below_drewN | apply below_drew1 | refine below_set ?_ GE816.out) | exact HB.out)) hb); clear BK816; clear HB; have BK816 := n0_; have HB := n1_; clear n0_ n1_; (try clear hb); (try clear hb2); (try clear hk); (try clear hi))); go_upto_region 12 with (first | (go_at_call 85; (with_reducible refine (ip4_Put.calls a0_0 a0_1 a0_2 a0_3 a0_4 a0_5 a0_6 a0_7 a0_8 a0_9 a1 t819 t820 _ A22.out).mono ?_); rintro e w28 ⟨rfl, hb⟩; have n0_ := Aside0.mk (blk_below (g := gb816) (o := .cells #[.int .i64 a0_0, .int .i64 a0_1, .int .i64 a0_2, .int .i64 a0_3, .int .i64 a0_4, .bool a0_5, .bool a0_6, .string a0_7, .string a0_8, .string a0_9] 93 (0, 0)) (by (with_reducible repeat (first | refine blk_drewN ?_ _ | refine blk_drew ?_ | refine blk_alloc ?_ _)); exact BK816.out) hb); have n1_ := Aside0.mk (below_step (by repeat (first | (with_reducible first | exact HB.out | apply below_alloc | apply pw_below_drewN | apply below_drew1 | refine below_set ?_ GE816.out) | exact HB.out)) hb); clear BK816; clear HB; have BK816 := n0_; have HB := n1_; clear n0_ n1_; (try clear hb); (try clear hb2); (try clear hk); (try clear hi); have hcz29_0 : w28.cell? ⟨gb816, 0, none⟩ = some (.int .i64 a0_0) := (blk_cell BK816.out 0).trans rfl; have hcz29_1 : w28.cell? ⟨gb816, 1, none⟩ = some (.int .i64 a0_1) := (blk_cell BK816.out 1).trans rfl; have hcz29_2 : w28.cell? ⟨gb816, 2, none⟩ = some (.int .i64 a0_2) := (blk_cell BK816.out 2).trans rfl; have hcz29_3 : w28.cell? ⟨gb816, 3, none⟩ = some (.int .i64 a0_3) := (blk_cell BK816.out 3).trans rfl; have hcz29_4 : w28.cell? ⟨gb816, 4, none⟩ = some (.int .i64 a0_4) := (blk_cell BK816.out 4).trans rfl; have hcz29_5 : w28.cell? ⟨gb816, 5, none⟩ = some (.bool a0_5) := (blk_cell BK816.out 5).trans rfl; have hcz29_6 : w28.cell? ⟨gb816, 6, none⟩ = some (.bool a0_6) := (blk_cell BK816.out 6).trans rfl; have hcz29_7 : w28.cell? ⟨gb816, 7, none⟩ = some (.string a0_7) := (blk_cell BK816.out 7).trans rfl; have hcz29_8 : w28.cell? ⟨gb816, 8, none⟩ = some (.string a0_8) := (blk_cell BK816.out 8).trans rfl; have hcz29_9 : w28.cell? ⟨gb816, 9, none⟩ = some (.string a0_9) := (blk_cell BK816.out 9).trans rfl; have hfz29_0 := blk_frozen BK816.out 0; have hfz29_1 := blk_frozen BK816.out 1; have hfz29_2 := blk_frozen BK816.out 2; have hfz29_3 := blk_frozen BK816.out 3; have hfz29_4 := blk_frozen BK816.out 4; have hfz29_5 := blk_frozen BK816.out 5; have hfz29_6 := blk_frozen BK816.out 6; have hfz29_7 := blk_frozen BK816.out 7; have hfz29_8 := blk_frozen BK816.out 8; have hfz29_9 := blk_frozen BK816.out 9) | (go_at_call 85; (with_reducible refine (ip4_Put.calls a0_0 a0_1 a0_2 a0_3 a0_4 a0_5 a0_6 a0_7 a0_8 a0_9 a2 t821 t822 _ A23.out).mono ?_); rintro e w30 ⟨rfl, hb⟩; have n0_ := Aside0.mk (blk_below (g := gb816) (o := .cells #[.int .i64 a0_0, .int .i64 a0_1, .int .i64 a0_2, .int .i64 a0_3, .int .i64 a0_4, .bool a0_5, .bool a0_6, .string a0_7, .string a0_8, .string a0_9] 93 (0, 0)) (by (with_reducible repeat (first | refine blk_drewN ?_ _ | refine blk_drew ?_ | refine blk_alloc ?_ _)); exact BK816.out) hb); have n1_ := Aside0.mk (below_step (by repeat (first | (with_reducible first | exact HB.out | apply below_alloc | apply pw_below_drewN | apply below_drew1 | refine below_set ?_ GE816.out) | exact HB.out)) hb); clear BK816; clear HB; have BK816 := n0_; have HB := n1_; clear n0_ n1_; (try clear hb); (try clear hb2); (try clear hk); (try clear hi))))
              (try simp only [Act.put, List.setIfInBounds_toArray, List.set_cons_zero, List.set_cons_succ])
              go_cut [88] (fun v88 wc => ∃ (kq : Nat) (x88_25 : Bool), v88 = .bool x88_25 ∧ Aside0 (palanquinlaw05_Ip4Fields.j1 kq a1 a3 a4 a5 t819 x88_25 a0_0 a0_1 a0_2 a0_3 a0_4 a0_5 a0_6 a0_7 a0_8 a0_9 = some r) ∧ Aside0 (kq ≤ kj8) ∧ Aside0 (wc.heap[gb816]? = some (.cells #[.int .i64 a0_0, .int .i64 a0_1, .int .i64 a0_2, .int .i64 a0_3, .int .i64 a0_4, .bool a0_5, .bool a0_6, .string a0_7, .string a0_8, .string a0_9] 93 (0, 0))) ∧ Aside0 (Below w.heap.size w wc))
              case first =>
                have H := HC26.out
                clear HC26
                obtain ⟨ji31, hji31⟩ : ∃ j_ : Int, (wrap64 ((t819.size : Int) - (a1.size : Int))) = j_ := ⟨_, rfl⟩
                replace H : (if 0 ≤ (ji31) then (if (ji31) ≤ (t819.size : Int) then (if (ji31) ≤ (t821.size : Int) then (if (t819.extract 0 ((ji31) : Int).toNat).toList = (t821.extract 0 ((ji31) : Int).toNat).toList then (if (t819.extract ((ji31) : Int).toNat t819.size).toList = a1.toList then (palanquinlaw05_Ip4Fields.j1 kj8 a1 a3 a4 a5 t819 ((t821.extract ((ji31) : Int).toNat t821.size).toList != a2.toList) a0_0 a0_1 a0_2 a0_3 a0_4 a0_5 a0_6 a0_7 a0_8 a0_9) else (palanquinlaw05_Ip4Fields.j1 kj8 a1 a3 a4 a5 t819 true a0_0 a0_1 a0_2 a0_3 a0_4 a0_5 a0_6 a0_7 a0_8 a0_9)) else (palanquinlaw05_Ip4Fields.j1 kj8 a1 a3 a4 a5 t819 true a0_0 a0_1 a0_2 a0_3 a0_4 a0_5 a0_6 a0_7 a0_8 a0_9)) else (none)) else (none)) else (none)) = some r := by first | (rw [hji31] at H; exact H) | (simp only [hji31] at H ⊢; exact H)
                have hji31w : (IntKind.i64.wrap ((t819.size : Int) - (a1.size : Int))) = ji31 := (i64_w _).trans hji31
                by_cases c32 : 0 ≤ (ji31)
                · rw [if_pos c32] at H
                  have c32b0 := eq_true c32
                  have c32b1 : decide (0 ≤ (ji31)) = true := decide_eq_true c32
                  clear c32
                  by_cases c33 : (ji31) ≤ (t819.size : Int)
                  · rw [if_pos c33] at H
                    have c33b0 := eq_true c33
                    have c33b1 : decide ((ji31) ≤ (t819.size : Int)) = true := decide_eq_true c33
                    clear c33
                    have c34b0 := eq_true (of_decide_eq_true (by first | (with_reducible assumption) | assumption) : 0 ≤ (ji31))
                    by_cases c35 : (ji31) ≤ (t821.size : Int)
                    · rw [if_pos c35] at H
                      have c35b0 := eq_true c35
                      have c35b1 : decide ((ji31) ≤ (t821.size : Int)) = true := decide_eq_true c35
                      clear c35
                      by_cases c36 : (t819.extract 0 ((ji31) : Int).toNat).toList = (t821.extract 0 ((ji31) : Int).toNat).toList
                      · rw [if_pos c36] at H
                        have c36b0 : ((t819.extract 0 ((ji31) : Int).toNat).toList == (t821.extract 0 ((ji31) : Int).toNat).toList) = true := beq_iff_eq.mpr c36
                        have c36b1 : ((t819.extract 0 ((ji31) : Int).toNat).toList != (t821.extract 0 ((ji31) : Int).toNat).toList) = false := bne_eq_false_iff_eq.mpr c36
                        clear c36
                        (first | rw [c36b0] | (simp only [i64_w, i32_w]; rw [c36b0]) | skip)
                        have c37b0 := eq_true (of_decide_eq_true (by first | (with_reducible assumption) | assumption) : 0 ≤ (ji31))
                        have c38b0 := eq_true (of_decide_eq_true (by first | (with_reducible assumption) | assumption) : (ji31) ≤ (t819.size : Int))
                        by_cases c39 : (t819.extract ((ji31) : Int).toNat t819.size).toList = a1.toList
                        · rw [if_pos c39] at H
                          have c39b0 : ((t819.extract ((ji31) : Int).toNat t819.size).toList == a1.toList) = true := beq_iff_eq.mpr c39
                          have c39b1 : ((t819.extract ((ji31) : Int).toNat t819.size).toList != a1.toList) = false := bne_eq_false_iff_eq.mpr c39
                          clear c39
                          have c40b0 := eq_true (of_decide_eq_true (by first | (with_reducible assumption) | assumption) : 0 ≤ (ji31))
                          have c41b0 := eq_true (of_decide_eq_true (by first | (with_reducible assumption) | assumption) : (ji31) ≤ (t821.size : Int))
                          have H' := Aside0.mk H
                          clear H
                          go_wp2
                          repeat (go_quiet (fail); try go_wp2)
                          go_meet
                          case rel => exact ⟨_, (((t821.extract ((ji31) : Int).toNat t821.size).toList != a2.toList)), (by first | rfl | (simp; done) | (simp only [← hji31] <;> (first | rfl | simp)) | (simp [*]; done)), H', ⟨by have := HJ8.out; first | omega | exact Nat.le_refl _⟩, ⟨by (with_reducible repeat (first | refine blk_drewN ?_ _ | refine blk_drew ?_ | refine blk_alloc ?_ _)); exact BK816.out⟩, ⟨by repeat (first | (with_reducible first | exact HB.out | apply below_alloc | apply pw_below_drewN | apply below_drew1 | refine below_set ?_ GE816.out) | exact HB.out)⟩⟩
                        · rw [if_neg c39] at H
                          have c39b0 : ((t819.extract ((ji31) : Int).toNat t819.size).toList == a1.toList) = false := beq_eq_false_iff_ne.mpr c39
                          have c39b1 : ((t819.extract ((ji31) : Int).toNat t819.size).toList != a1.toList) = true := bne_iff_ne.mpr c39
                          have H' := Aside0.mk H
                          clear H
                          go_wp2
                          repeat (go_quiet (fail); try go_wp2)
                          go_meet
                          case rel => exact ⟨_, (true), (by first | rfl | (simp; done) | (simp [*]; done)), H', ⟨by have := HJ8.out; first | omega | exact Nat.le_refl _⟩, ⟨by (with_reducible repeat (first | refine blk_drewN ?_ _ | refine blk_drew ?_ | refine blk_alloc ?_ _)); exact BK816.out⟩, ⟨by repeat (first | (with_reducible first | exact HB.out | apply below_alloc | apply pw_below_drewN | apply below_drew1 | refine below_set ?_ GE816.out) | exact HB.out)⟩⟩
                      · rw [if_neg c36] at H
                        have c36b0 : ((t819.extract 0 ((ji31) : Int).toNat).toList == (t821.extract 0 ((ji31) : Int).toNat).toList) = false := beq_eq_false_iff_ne.mpr c36
                        have c36b1 : ((t819.extract 0 ((ji31) : Int).toNat).toList != (t821.extract 0 ((ji31) : Int).toNat).toList) = true := bne_iff_ne.mpr c36
                        (first | rw [c36b0] | (simp only [i64_w, i32_w]; rw [c36b0]) | skip)
                        have H' := Aside0.mk H
                        clear H
                        go_wp2
                        repeat (go_quiet (fail); try go_wp2)
                        go_meet
                        case rel => exact ⟨_, (true), (by first | rfl | (simp; done) | (simp [*]; done)), H', ⟨by have := HJ8.out; first | omega | exact Nat.le_refl _⟩, ⟨by (with_reducible repeat (first | refine blk_drewN ?_ _ | refine blk_drew ?_ | refine blk_alloc ?_ _)); exact BK816.out⟩, ⟨by repeat (first | (with_reducible first | exact HB.out | apply below_alloc | apply pw_below_drewN | apply below_drew1 | refine below_set ?_ GE816.out) | exact HB.out)⟩⟩
                    · rw [if_neg c35] at H
                      exact absurd H (by simp)
                  · rw [if_neg c33] at H
                    exact absurd H (by simp)
                · rw [if_neg c32] at H
                  exact absurd H (by simp)
              case rest =>
                clear HC26
                try clear c1
                try clear c2
                try clear p2
                try clear c3
                try clear c4
                try clear p4
                try clear p6
                try clear c8
                try clear c13
                try clear c14
                try clear c14b0
                try clear c14b1
                try clear c14b2
                try clear c21
                try clear c24
                try clear c24b0
                try clear c24b1
                try clear c25
                try clear c25b0
                try clear c25b1
                try clear c31
                try clear c32
                try clear c32b0
                try clear c32b1
                try clear c33
                try clear c33b0
                try clear c33b1
                try clear c34
                try clear c34b0
                try clear c35
                try clear c35b0
                try clear c35b1
                try clear c36
                try clear c36b0
                try clear c36b1
                try clear c37
                try clear c37b0
                try clear c38
                try clear c38b0
                try clear c39
                try clear c39b0
                try clear c39b1
                try clear c40
                try clear c40b0
                try clear c41
                try clear c41b0
                try clear hcz15_0
                try clear hcz15_1
                try clear hcz15_2
                try clear hcz15_3
                try clear hcz15_4
                try clear hcz15_5
                try clear hcz15_6
                try clear hcz15_7
                try clear hcz15_8
                try clear hcz15_9
                try clear hcz17_0
                try clear hcz17_1
                try clear hcz17_2
                try clear hcz17_3
                try clear hcz17_4
                try clear hcz17_5
                try clear hcz17_6
                try clear hcz17_7
                try clear hcz17_8
                try clear hcz17_9
                try clear hcz19_0
                try clear hcz19_1
                try clear hcz19_2
                try clear hcz19_3
                try clear hcz19_4
                try clear hcz19_5
                try clear hcz19_6
                try clear hcz19_7
                try clear hcz19_8
                try clear hcz19_9
                try clear hcz27_0
                try clear hcz27_1
                try clear hcz27_2
                try clear hcz27_3
                try clear hcz27_4
                try clear hcz27_5
                try clear hcz27_6
                try clear hcz27_7
                try clear hcz27_8
                try clear hcz27_9
                try clear hcz29_0
                try clear hcz29_1
                try clear hcz29_2
                try clear hcz29_3
                try clear hcz29_4
                try clear hcz29_5
                try clear hcz29_6
                try clear hcz29_7
                try clear hcz29_8
                try clear hcz29_9
                try clear hfz15_0
                try clear hfz15_1
                try clear hfz15_2
                try clear hfz15_3
                try clear hfz15_4
                try clear hfz15_5
                try clear hfz15_6
                try clear hfz15_7
                try clear hfz15_8
                try clear hfz15_9
                try clear hfz17_0
                try clear hfz17_1
                try clear hfz17_2
                try clear hfz17_3
                try clear hfz17_4
                try clear hfz17_5
                try clear hfz17_6
                try clear hfz17_7
                try clear hfz17_8
                try clear hfz17_9
                try clear hfz19_0
                try clear hfz19_1
                try clear hfz19_2
                try clear hfz19_3
                try clear hfz19_4
                try clear hfz19_5
                try clear hfz19_6
                try clear hfz19_7
                try clear hfz19_8
                try clear hfz19_9
                try clear hfz27_0
                try clear hfz27_1
                try clear hfz27_2
                try clear hfz27_3
                try clear hfz27_4
                try clear hfz27_5
                try clear hfz27_6
                try clear hfz27_7
                try clear hfz27_8
                try clear hfz27_9
                try clear hfz29_0
                try clear hfz29_1
                try clear hfz29_2
                try clear hfz29_3
                try clear hfz29_4
                try clear hfz29_5
                try clear hfz29_6
                try clear hfz29_7
                try clear hfz29_8
                try clear hfz29_9
                try clear p2
                try clear p4
                obtain ⟨kq, x88_25, rfl, HA, HJ25, BK816, HB⟩ := hcut
                cases kq with
                | zero => exact absurd HA.out (by simp [palanquinlaw05_Ip4Fields.j1])
                | succ kj25 =>
                  have H := HA.out
                  clear HA
                  simp only [palanquinlaw05_Ip4Fields.j1] at H
                  by_cases c42 : x88_25 = true
                  · subst c42
                    have H1 : (some false) = some r := by rw [if_pos rfl] at H; exact H
                    exact absurd ((Option.some.inj H1).trans hrt_.out) (by decide)
                  · replace c42 := Bool.eq_false_iff.mpr c42
                    subst c42
                    have H1 : ((ip4_Put.f (wrap64 (a4)) (wrap64 (a5)) a0_2 (wrap64 (a3)) a0_4 a0_5 a0_6 a0_7 a0_8 a0_9 a1).bind fun bt823 => ((ip4_Get.f bt823.1).bind fun bt825 => (if bt823.2 = 0 then (if bt825.2.2.2.2.2.2.2.2.2.2.2 = 0 then (if (bt825.1 == (wrap64 (a4)) && (bt825.2.1 == (wrap64 (a5)) && (bt825.2.2.1 == a0_2 && (bt825.2.2.2.1 == (wrap64 (a3)) && (bt825.2.2.2.2.1 == a0_4 && (bt825.2.2.2.2.2.1 == a0_5 && (bt825.2.2.2.2.2.2.1 == a0_6 && (bt825.2.2.2.2.2.2.2.1.toList == a0_7.toList && (bt825.2.2.2.2.2.2.2.2.1.toList == a0_8.toList && (bt825.2.2.2.2.2.2.2.2.2.1.toList == a0_9.toList)))))))))) = true then (if bt825.2.2.2.2.2.2.2.2.2.2.1.toList = a1.toList then (if 0 ≤ 1 then (if 1 ≤ (bt823.1.size : Int) then (if 1 ≤ (t819.size : Int) then (if (bt823.1.extract 0 1).toList = (t819.extract 0 1).toList then (if 2 ≤ 4 then (if 4 ≤ (bt823.1.size : Int) then (if 4 ≤ (t819.size : Int) then (if (bt823.1.extract 2 4).toList = (t819.extract 2 4).toList then (if 9 ≤ 10 then (if 10 ≤ (bt823.1.size : Int) then (if 10 ≤ (t819.size : Int) then (if (bt823.1.extract 9 10).toList = (t819.extract 9 10).toList then (if 12 ≤ (bt823.1.size : Int) then (if 12 ≤ (t819.size : Int) then (some ((bt823.1.extract 12 bt823.1.size).toList == (t819.extract 12 t819.size).toList)) else (none)) else (none)) else (some false)) else (none)) else (none)) else (none)) else (some false)) else (none)) else (none)) else (none)) else (some false)) else (none)) else (none)) else (none)) else (some false)) else (some false)) else (some false)) else (some false)))) = some r := by rw [if_neg (show ¬ (false = true) by decide)] at H; exact H
                    clear H
                    have H := H1
                    clear H1
                    replace H := Option.bind_eq_some_iff.mp H
                    obtain ⟨⟨t823, t824⟩, A430, H⟩ := H
                    replace H : ((ip4_Get.f t823).bind fun bt825 => (if t824 = 0 then (if bt825.2.2.2.2.2.2.2.2.2.2.2 = 0 then (if (bt825.1 == (wrap64 (a4)) && (bt825.2.1 == (wrap64 (a5)) && (bt825.2.2.1 == a0_2 && (bt825.2.2.2.1 == (wrap64 (a3)) && (bt825.2.2.2.2.1 == a0_4 && (bt825.2.2.2.2.2.1 == a0_5 && (bt825.2.2.2.2.2.2.1 == a0_6 && (bt825.2.2.2.2.2.2.2.1.toList == a0_7.toList && (bt825.2.2.2.2.2.2.2.2.1.toList == a0_8.toList && (bt825.2.2.2.2.2.2.2.2.2.1.toList == a0_9.toList)))))))))) = true then (if bt825.2.2.2.2.2.2.2.2.2.2.1.toList = a1.toList then (if 0 ≤ 1 then (if 1 ≤ (t823.size : Int) then (if 1 ≤ (t819.size : Int) then (if (t823.extract 0 1).toList = (t819.extract 0 1).toList then (if 2 ≤ 4 then (if 4 ≤ (t823.size : Int) then (if 4 ≤ (t819.size : Int) then (if (t823.extract 2 4).toList = (t819.extract 2 4).toList then (if 9 ≤ 10 then (if 10 ≤ (t823.size : Int) then (if 10 ≤ (t819.size : Int) then (if (t823.extract 9 10).toList = (t819.extract 9 10).toList then (if 12 ≤ (t823.size : Int) then (if 12 ≤ (t819.size : Int) then (some ((t823.extract 12 t823.size).toList == (t819.extract 12 t819.size).toList)) else (none)) else (none)) else (some false)) else (none)) else (none)) else (none)) else (some false)) else (none)) else (none)) else (none)) else (some false)) else (none)) else (none)) else (none)) else (some false)) else (some false)) else (some false)) else (some false))) = some r := H
                    have A43 := Aside0.mk A430
                    clear A430
                    replace H := Option.bind_eq_some_iff.mp H
                    obtain ⟨⟨t825, t826, t827, t828, t829, t830, t831, t832, t833, t834, t835, t836⟩, A440, H⟩ := H
                    replace H : (if t824 = 0 then (if t836 = 0 then (if (t825 == (wrap64 (a4)) && (t826 == (wrap64 (a5)) && (t827 == a0_2 && (t828 == (wrap64 (a3)) && (t829 == a0_4 && (t830 == a0_5 && (t831 == a0_6 && (t832.toList == a0_7.toList && (t833.toList == a0_8.toList && (t834.toList == a0_9.toList)))))))))) = true then (if t835.toList = a1.toList then (if 0 ≤ 1 then (if 1 ≤ (t823.size : Int) then (if 1 ≤ (t819.size : Int) then (if (t823.extract 0 1).toList = (t819.extract 0 1).toList then (if 2 ≤ 4 then (if 4 ≤ (t823.size : Int) then (if 4 ≤ (t819.size : Int) then (if (t823.extract 2 4).toList = (t819.extract 2 4).toList then (if 9 ≤ 10 then (if 10 ≤ (t823.size : Int) then (if 10 ≤ (t819.size : Int) then (if (t823.extract 9 10).toList = (t819.extract 9 10).toList then (if 12 ≤ (t823.size : Int) then (if 12 ≤ (t819.size : Int) then (some ((t823.extract 12 t823.size).toList == (t819.extract 12 t819.size).toList)) else (none)) else (none)) else (some false)) else (none)) else (none)) else (none)) else (some false)) else (none)) else (none)) else (none)) else (some false)) else (none)) else (none)) else (none)) else (some false)) else (some false)) else (some false)) else (some false)) = some r := H
                    have A44 := Aside0.mk A440
                    clear A440
                    by_cases c45 : t824 = 0
                    · rw [if_pos c45] at H
                      have c45b0 : (t824 == 0) = true := beq_iff_eq.mpr c45
                      have c45b1 : (t824 != 0) = false := bne_eq_false_iff_eq.mpr c45
                      clear c45
                      by_cases c46 : t836 = 0
                      · rw [if_pos c46] at H
                        have c46b0 : (t836 == 0) = true := beq_iff_eq.mpr c46
                        have c46b1 : (t836 != 0) = false := bne_eq_false_iff_eq.mpr c46
                        clear c46
                        by_cases c47 : (t825 == (wrap64 (a4)) && (t826 == (wrap64 (a5)) && (t827 == a0_2 && (t828 == (wrap64 (a3)) && (t829 == a0_4 && (t830 == a0_5 && (t831 == a0_6 && (t832.toList == a0_7.toList && (t833.toList == a0_8.toList && (t834.toList == a0_9.toList)))))))))) = true
                        · rw [if_pos c47] at H
                          have c47b0 : (t825 == (wrap64 (a4)) && (t826 == (wrap64 (a5)) && (t827 == a0_2 && (t828 == (wrap64 (a3)) && (t829 == a0_4 && (t830 == a0_5 && (t831 == a0_6 && (t832.toList == a0_7.toList && (t833.toList == a0_8.toList && (t834.toList == a0_9.toList)))))))))) = true := c47
                          (try (have c47b1 : decide (t825 = (wrap64 (a4)) && (t826 == (wrap64 (a5)) && (t827 == a0_2 && (t828 == (wrap64 (a3)) && (t829 == a0_4 && (t830 == a0_5 && (t831 == a0_6 && (t832.toList == a0_7.toList && (t833.toList == a0_8.toList && (t834.toList == a0_9.toList)))))))))) = true := by simpa using c47))
                          (try (have c47b2 : (t825 == (wrap64 (a4)) && (t826 == (wrap64 (a5)) && (t827 == a0_2 && (t828 == (wrap64 (a3)) && (t829 == a0_4 && (t830 == a0_5 && (t831 == a0_6 && (t832.toList == a0_7.toList && (t833.toList == a0_8.toList && (t834.toList == a0_9.toList)))))))))) = true := by simpa using c47))
                          (try (have c47b3 : ((t825 = (wrap64 (a4)) ∧ (t826 = (wrap64 (a5)) ∧ (t827 = a0_2 ∧ (t828 = (wrap64 (a3)) ∧ (t829 = a0_4 ∧ (t830 = a0_5 ∧ (t831 = a0_6 ∧ (t832.toList = a0_7.toList ∧ (t833.toList = a0_8.toList ∧ (t834.toList = a0_9.toList))))))))))) = True := by simpa using c47))
                          clear c47
                          by_cases c48 : t835.toList = a1.toList
                          · rw [if_pos c48] at H
                            have c48b0 : (t835.toList == a1.toList) = true := beq_iff_eq.mpr c48
                            have c48b1 : (t835.toList != a1.toList) = false := bne_eq_false_iff_eq.mpr c48
                            clear c48
                            by_cases c49 : 0 ≤ 1
                            · rw [if_pos c49] at H
                              have c49b0 := eq_true c49
                              have c49b1 : decide (0 ≤ 1) = true := decide_eq_true c49
                              clear c49
                              by_cases c50 : 1 ≤ (t823.size : Int)
                              · rw [if_pos c50] at H
                                have c50b0 := eq_true c50
                                have c50b1 : decide (1 ≤ (t823.size : Int)) = true := decide_eq_true c50
                                clear c50
                                have c51b0 := eq_true (of_decide_eq_true (by first | (with_reducible assumption) | assumption) : 0 ≤ 1)
                                by_cases c52 : 1 ≤ (t819.size : Int)
                                · rw [if_pos c52] at H
                                  have c52b0 := eq_true c52
                                  have c52b1 : decide (1 ≤ (t819.size : Int)) = true := decide_eq_true c52
                                  clear c52
                                  by_cases c53 : (t823.extract 0 1).toList = (t819.extract 0 1).toList
                                  · rw [if_pos c53] at H
                                    have c53b0 : ((t823.extract 0 1).toList == (t819.extract 0 1).toList) = true := beq_iff_eq.mpr c53
                                    have c53b1 : ((t823.extract 0 1).toList != (t819.extract 0 1).toList) = false := bne_eq_false_iff_eq.mpr c53
                                    clear c53
                                    by_cases c54 : 2 ≤ 4
                                    · rw [if_pos c54] at H
                                      have c54b0 := eq_true c54
                                      have c54b1 : decide (2 ≤ 4) = true := decide_eq_true c54
                                      clear c54
                                      by_cases c55 : 4 ≤ (t823.size : Int)
                                      · rw [if_pos c55] at H
                                        have c55b0 := eq_true c55
                                        have c55b1 : decide (4 ≤ (t823.size : Int)) = true := decide_eq_true c55
                                        clear c55
                                        have c56b0 := eq_true (of_decide_eq_true (by first | (with_reducible assumption) | assumption) : 2 ≤ 4)
                                        by_cases c57 : 4 ≤ (t819.size : Int)
                                        · rw [if_pos c57] at H
                                          have c57b0 := eq_true c57
                                          have c57b1 : decide (4 ≤ (t819.size : Int)) = true := decide_eq_true c57
                                          clear c57
                                          by_cases c58 : (t823.extract 2 4).toList = (t819.extract 2 4).toList
                                          · rw [if_pos c58] at H
                                            have c58b0 : ((t823.extract 2 4).toList == (t819.extract 2 4).toList) = true := beq_iff_eq.mpr c58
                                            have c58b1 : ((t823.extract 2 4).toList != (t819.extract 2 4).toList) = false := bne_eq_false_iff_eq.mpr c58
                                            clear c58
                                            by_cases c59 : 9 ≤ 10
                                            · rw [if_pos c59] at H
                                              have c59b0 := eq_true c59
                                              have c59b1 : decide (9 ≤ 10) = true := decide_eq_true c59
                                              clear c59
                                              by_cases c60 : 10 ≤ (t823.size : Int)
                                              · rw [if_pos c60] at H
                                                have c60b0 := eq_true c60
                                                have c60b1 : decide (10 ≤ (t823.size : Int)) = true := decide_eq_true c60
                                                clear c60
                                                have c61b0 := eq_true (of_decide_eq_true (by first | (with_reducible assumption) | assumption) : 9 ≤ 10)
                                                by_cases c62 : 10 ≤ (t819.size : Int)
                                                · rw [if_pos c62] at H
                                                  have c62b0 := eq_true c62
                                                  have c62b1 : decide (10 ≤ (t819.size : Int)) = true := decide_eq_true c62
                                                  clear c62
                                                  by_cases c63 : (t823.extract 9 10).toList = (t819.extract 9 10).toList
                                                  · rw [if_pos c63] at H
                                                    have c63b0 : ((t823.extract 9 10).toList == (t819.extract 9 10).toList) = true := beq_iff_eq.mpr c63
                                                    have c63b1 : ((t823.extract 9 10).toList != (t819.extract 9 10).toList) = false := bne_eq_false_iff_eq.mpr c63
                                                    clear c63
                                                    by_cases c64 : 12 ≤ (t823.size : Int)
                                                    · rw [if_pos c64] at H
                                                      have c64b0 := eq_true c64
                                                      have c64b1 : decide (12 ≤ (t823.size : Int)) = true := decide_eq_true c64
                                                      clear c64
                                                      by_cases c65 : 12 ≤ (t819.size : Int)
                                                      · rw [if_pos c65] at H
                                                        have c65b0 := eq_true c65
                                                        have c65b1 : decide (12 ≤ (t819.size : Int)) = true := decide_eq_true c65
                                                        clear c65
                                                        obtain rfl := Option.some.inj H
                                                        have hcz66_0 : wc.cell? ⟨gb816, 0, none⟩ = some (.int .i64 a0_0) := (blk_cell BK816.out 0).trans rfl
                                                        have hcz66_1 : wc.cell? ⟨gb816, 1, none⟩ = some (.int .i64 a0_1) := (blk_cell BK816.out 1).trans rfl
                                                        have hcz66_2 : wc.cell? ⟨gb816, 2, none⟩ = some (.int .i64 a0_2) := (blk_cell BK816.out 2).trans rfl
                                                        have hcz66_3 : wc.cell? ⟨gb816, 3, none⟩ = some (.int .i64 a0_3) := (blk_cell BK816.out 3).trans rfl
                                                        have hcz66_4 : wc.cell? ⟨gb816, 4, none⟩ = some (.int .i64 a0_4) := (blk_cell BK816.out 4).trans rfl
                                                        have hcz66_5 : wc.cell? ⟨gb816, 5, none⟩ = some (.bool a0_5) := (blk_cell BK816.out 5).trans rfl
                                                        have hcz66_6 : wc.cell? ⟨gb816, 6, none⟩ = some (.bool a0_6) := (blk_cell BK816.out 6).trans rfl
                                                        have hcz66_7 : wc.cell? ⟨gb816, 7, none⟩ = some (.string a0_7) := (blk_cell BK816.out 7).trans rfl
                                                        have hcz66_8 : wc.cell? ⟨gb816, 8, none⟩ = some (.string a0_8) := (blk_cell BK816.out 8).trans rfl
                                                        have hcz66_9 : wc.cell? ⟨gb816, 9, none⟩ = some (.string a0_9) := (blk_cell BK816.out 9).trans rfl
                                                        have hfz66_0 := blk_frozen BK816.out 0
                                                        have hfz66_1 := blk_frozen BK816.out 1
                                                        have hfz66_2 := blk_frozen BK816.out 2
                                                        have hfz66_3 := blk_frozen BK816.out 3
                                                        have hfz66_4 := blk_frozen BK816.out 4
                                                        have hfz66_5 := blk_frozen BK816.out 5
                                                        have hfz66_6 := blk_frozen BK816.out 6
                                                        have hfz66_7 := blk_frozen BK816.out 7
                                                        have hfz66_8 := blk_frozen BK816.out 8
                                                        have hfz66_9 := blk_frozen BK816.out 9
                                                        go_wp2_with (first | (go_at_call 85; (with_reducible refine (ip4_Put.calls (wrap64 (a4)) (wrap64 (a5)) a0_2 (wrap64 (a3)) a0_4 a0_5 a0_6 a0_7 a0_8 a0_9 a1 t823 t824 _ A43.out).mono ?_); rintro e w67 ⟨rfl, hb⟩; have n0_ := Aside0.mk (blk_below (g := gb816) (o := .cells #[.int .i64 (wrap64 (a4)), .int .i64 (wrap64 (a5)), .int .i64 a0_2, .int .i64 (wrap64 (a3)), .int .i64 a0_4, .bool a0_5, .bool a0_6, .string a0_7, .string a0_8, .string a0_9] 93 (0, 0)) (by (with_reducible repeat (first | refine blk_drewN ?_ _ | refine blk_drew ?_ | refine blk_alloc ?_ _)); refine blk_put (cs := #[.int .i64 (wrap64 (a4)), .int .i64 a0_1, .int .i64 a0_2, .int .i64 (wrap64 (a3)), .int .i64 a0_4, .bool a0_5, .bool a0_6, .string a0_7, .string a0_8, .string a0_9]) ?_ 1 _ rfl; (with_reducible repeat (first | refine blk_drewN ?_ _ | refine blk_drew ?_ | refine blk_alloc ?_ _)); refine blk_put (cs := #[.int .i64 a0_0, .int .i64 a0_1, .int .i64 a0_2, .int .i64 (wrap64 (a3)), .int .i64 a0_4, .bool a0_5, .bool a0_6, .string a0_7, .string a0_8, .string a0_9]) ?_ 0 _ rfl; (with_reducible repeat (first | refine blk_drewN ?_ _ | refine blk_drew ?_ | refine blk_alloc ?_ _)); refine blk_put (cs := #[.int .i64 a0_0, .int .i64 a0_1, .int .i64 a0_2, .int .i64 a0_3, .int .i64 a0_4, .bool a0_5, .bool a0_6, .string a0_7, .string a0_8, .string a0_9]) ?_ 3 _ rfl; (with_reducible repeat (first | refine blk_drewN ?_ _ | refine blk_drew ?_ | refine blk_alloc ?_ _)); exact BK816.out) hb); have n1_ := Aside0.mk (below_step (by repeat (first | (with_reducible first | exact HB.out | apply below_alloc | apply pw_below_drewN | apply below_drew1 | refine below_set ?_ GE816.out) | exact HB.out)) hb); clear BK816; clear HB; have BK816 := n0_; have HB := n1_; clear n0_ n1_; (try clear hb); (try clear hb2); (try clear hk); (try clear hi)) | (go_at_call 111; (with_reducible refine (ip4_Get.calls t823 t825 t826 t827 t828 t829 t830 t831 t832 t833 t834 t835 t836 _ A44.out).mono ?_); rintro e w68 ⟨rfl, hb⟩; have n0_ := Aside0.mk (blk_below (g := gb816) (o := .cells #[.int .i64 (wrap64 (a4)), .int .i64 (wrap64 (a5)), .int .i64 a0_2, .int .i64 (wrap64 (a3)), .int .i64 a0_4, .bool a0_5, .bool a0_6, .string a0_7, .string a0_8, .string a0_9] 93 (0, 0)) (by (with_reducible repeat (first | refine blk_drewN ?_ _ | refine blk_drew ?_ | refine blk_alloc ?_ _)); exact BK816.out) hb); have n1_ := Aside0.mk (below_step (by repeat (first | (with_reducible first | exact HB.out | apply below_alloc | apply pw_below_drewN | apply below_drew1 | refine below_set ?_ GE816.out) | exact HB.out)) hb); clear BK816; clear HB; have BK816 := n0_; have HB := n1_; clear n0_ n1_; (try clear hb); (try clear hb2); (try clear hk); (try clear hi)) | ((with_reducible refine gate_dst (N := 20) rfl ?_); (try (refine gate_guard (by rfl) ?_; dsimp only)); refine box_event ?hg (N := 20) ?hd (cs := #[.int .i64 0, .int .i64 0, .int .i64 0, .int .i64 0, .int .i64 0, .bool false, .bool false, .string (⟨#[]⟩ : ByteArray), .string (⟨#[]⟩ : ByteArray), .string (⟨#[]⟩ : ByteArray)]) (t := 93) ?hr ?_; (case hd => rfl); (case hg => rfl); (case hr => first | (go_simp; done) | (go_simp; rfl)); intro gb837 hg w69 hbox hb; have n0_ := Aside0.mk (blk_below (g := gb816) (o := .cells #[.int .i64 (wrap64 (a4)), .int .i64 (wrap64 (a5)), .int .i64 a0_2, .int .i64 (wrap64 (a3)), .int .i64 a0_4, .bool a0_5, .bool a0_6, .string a0_7, .string a0_8, .string a0_9] 93 (0, 0)) (by (with_reducible repeat (first | refine blk_drewN ?_ _ | refine blk_drew ?_ | refine blk_alloc ?_ _)); exact BK816.out) hb); have n1_ := Aside0.mk (below_step (by repeat (first | (with_reducible first | exact HB.out | apply below_alloc | apply pw_below_drewN | apply below_drew1 | refine below_set ?_ GE816.out) | exact HB.out)) hb); have n2_ := Aside0.mk (hbox); have n3_ := Aside0.mk ((by rw [hg]; exact (below_size (by repeat (first | (with_reducible first | exact HB.out | apply below_alloc | apply pw_below_drewN | apply below_drew1 | refine below_set ?_ GE816.out) | exact HB.out))) : w.heap.size ≤ gb837)); have n4_ := Aside0.mk ((by rw [hg]; exact (below_size (by repeat (first | (with_reducible first | exact HB.out | apply below_alloc | apply pw_below_drewN | apply below_drew1 | refine below_set ?_ GE816.out) | exact HB.out))) : w.heap.size ≤ gb837)); have n5_ := Aside0.mk ((by rw [hg]; exact Nat.ne_of_lt (blk_lt (g := gb816) (o := .cells #[.int .i64 (wrap64 (a4)), .int .i64 (wrap64 (a5)), .int .i64 a0_2, .int .i64 (wrap64 (a3)), .int .i64 a0_4, .bool a0_5, .bool a0_6, .string a0_7, .string a0_8, .string a0_9] 93 (0, 0)) (by (with_reducible repeat (first | refine blk_drewN ?_ _ | refine blk_drew ?_ | refine blk_alloc ?_ _)); exact BK816.out)) : gb816 ≠ gb837)); have n6_ := Aside0.mk ((by rw [hg]; exact Nat.ne_of_gt (blk_lt (g := gb816) (o := .cells #[.int .i64 (wrap64 (a4)), .int .i64 (wrap64 (a5)), .int .i64 a0_2, .int .i64 (wrap64 (a3)), .int .i64 a0_4, .bool a0_5, .bool a0_6, .string a0_7, .string a0_8, .string a0_9] 93 (0, 0)) (by (with_reducible repeat (first | refine blk_drewN ?_ _ | refine blk_drew ?_ | refine blk_alloc ?_ _)); exact BK816.out)) : gb837 ≠ gb816)); clear BK816; clear HB; have BK816 := n0_; have HB := n1_; have BK837 := n2_; have GW837 := n3_; have GE837 := n4_; have NB816_837 := n5_; have NB837_816 := n6_; clear n0_ n1_ n2_ n3_ n4_ n5_ n6_; clear hb hbox hg; have hnb70 := NB837_816.out; have hnc70 := NB816_837.out; have hcz71_0 : w69.cell? ⟨gb837, 0, none⟩ = some (.int .i64 0) := (blk_cell BK837.out 0).trans rfl; have hcz71_1 : w69.cell? ⟨gb837, 1, none⟩ = some (.int .i64 0) := (blk_cell BK837.out 1).trans rfl; have hcz71_2 : w69.cell? ⟨gb837, 2, none⟩ = some (.int .i64 0) := (blk_cell BK837.out 2).trans rfl; have hcz71_3 : w69.cell? ⟨gb837, 3, none⟩ = some (.int .i64 0) := (blk_cell BK837.out 3).trans rfl; have hcz71_4 : w69.cell? ⟨gb837, 4, none⟩ = some (.int .i64 0) := (blk_cell BK837.out 4).trans rfl; have hcz71_5 : w69.cell? ⟨gb837, 5, none⟩ = some (.bool false) := (blk_cell BK837.out 5).trans rfl; have hcz71_6 : w69.cell? ⟨gb837, 6, none⟩ = some (.bool false) := (blk_cell BK837.out 6).trans rfl; have hcz71_7 : w69.cell? ⟨gb837, 7, none⟩ = some (.string (⟨#[]⟩ : ByteArray)) := (blk_cell BK837.out 7).trans rfl; have hcz71_8 : w69.cell? ⟨gb837, 8, none⟩ = some (.string (⟨#[]⟩ : ByteArray)) := (blk_cell BK837.out 8).trans rfl; have hcz71_9 : w69.cell? ⟨gb837, 9, none⟩ = some (.string (⟨#[]⟩ : ByteArray)) := (blk_cell BK837.out 9).trans rfl; have hfz71_0 := blk_frozen BK837.out 0; have hfz71_1 := blk_frozen BK837.out 1; have hfz71_2 := blk_frozen BK837.out 2; have hfz71_3 := blk_frozen BK837.out 3; have hfz71_4 := blk_frozen BK837.out 4; have hfz71_5 := blk_frozen BK837.out 5; have hfz71_6 := blk_frozen BK837.out 6; have hfz71_7 := blk_frozen BK837.out 7; have hfz71_8 := blk_frozen BK837.out 8; have hfz71_9 := blk_frozen BK837.out 9; have hcz72_0 : w69.cell? ⟨gb816, 0, none⟩ = some (.int .i64 (wrap64 (a4))) := (blk_cell BK816.out 0).trans rfl; have hcz72_1 : w69.cell? ⟨gb816, 1, none⟩ = some (.int .i64 (wrap64 (a5))) := (blk_cell BK816.out 1).trans rfl; have hcz72_2 : w69.cell? ⟨gb816, 2, none⟩ = some (.int .i64 a0_2) := (blk_cell BK816.out 2).trans rfl; have hcz72_3 : w69.cell? ⟨gb816, 3, none⟩ = some (.int .i64 (wrap64 (a3))) := (blk_cell BK816.out 3).trans rfl; have hcz72_4 : w69.cell? ⟨gb816, 4, none⟩ = some (.int .i64 a0_4) := (blk_cell BK816.out 4).trans rfl; have hcz72_5 : w69.cell? ⟨gb816, 5, none⟩ = some (.bool a0_5) := (blk_cell BK816.out 5).trans rfl; have hcz72_6 : w69.cell? ⟨gb816, 6, none⟩ = some (.bool a0_6) := (blk_cell BK816.out 6).trans rfl; have hcz72_7 : w69.cell? ⟨gb816, 7, none⟩ = some (.string a0_7) := (blk_cell BK816.out 7).trans rfl; have hcz72_8 : w69.cell? ⟨gb816, 8, none⟩ = some (.string a0_8) := (blk_cell BK816.out 8).trans rfl; have hcz72_9 : w69.cell? ⟨gb816, 9, none⟩ = some (.string a0_9) := (blk_cell BK816.out 9).trans rfl; have hfz72_0 := blk_frozen BK816.out 0; have hfz72_1 := blk_frozen BK816.out 1; have hfz72_2 := blk_frozen BK816.out 2; have hfz72_3 := blk_frozen BK816.out 3; have hfz72_4 := blk_frozen BK816.out 4; have hfz72_5 := blk_frozen BK816.out 5; have hfz72_6 := blk_frozen BK816.out 6; have hfz72_7 := blk_frozen BK816.out 7; have hfz72_8 := blk_frozen BK816.out 8; have hfz72_9 := blk_frozen BK816.out 9))
                                                        repeat (go_quiet (first | (go_at_call 85; (with_reducible refine (ip4_Put.calls (wrap64 (a4)) (wrap64 (a5)) a0_2 (wrap64 (a3)) a0_4 a0_5 a0_6 a0_7 a0_8 a0_9 a1 t823 t824 _ A43.out).mono ?_); rintro e w67 ⟨rfl, hb⟩; have n0_ := Aside0.mk (blk_below (g := gb816) (o := .cells #[.int .i64 (wrap64 (a4)), .int .i64 (wrap64 (a5)), .int .i64 a0_2, .int .i64 (wrap64 (a3)), .int .i64 a0_4, .bool a0_5, .bool a0_6, .string a0_7, .string a0_8, .string a0_9] 93 (0, 0)) (by (with_reducible repeat (first | refine blk_drewN ?_ _ | refine blk_drew ?_ | refine blk_alloc ?_ _)); refine blk_put (cs := #[.int .i64 (wrap64 (a4)), .int .i64 a0_1, .int .i64 a0_2, .int .i64 (wrap64 (a3)), .int .i64 a0_4, .bool a0_5, .bool a0_6, .string a0_7, .string a0_8, .string a0_9]) ?_ 1 _ rfl; (with_reducible repeat (first | refine blk_drewN ?_ _ | refine blk_drew ?_ | refine blk_alloc ?_ _)); refine blk_put (cs := #[.int .i64 a0_0, .int .i64 a0_1, .int .i64 a0_2, .int .i64 (wrap64 (a3)), .int .i64 a0_4, .bool a0_5, .bool a0_6, .string a0_7, .string a0_8, .string a0_9]) ?_ 0 _ rfl; (with_reducible repeat (first | refine blk_drewN ?_ _ | refine blk_drew ?_ | refine blk_alloc ?_ _)); refine blk_put (cs := #[.int .i64 a0_0, .int .i64 a0_1, .int .i64 a0_2, .int .i64 a0_3, .int .i64 a0_4, .bool a0_5, .bool a0_6, .string a0_7, .string a0_8, .string a0_9]) ?_ 3 _ rfl; (with_reducible repeat (first | refine blk_drewN ?_ _ | refine blk_drew ?_ | refine blk_alloc ?_ _)); exact BK816.out) hb); have n1_ := Aside0.mk (below_step (by repeat (first | (with_reducible first | exact HB.out | apply below_alloc | apply pw_below_drewN | apply below_drew1 | refine below_set ?_ GE816.out) | exact HB.out)) hb); clear BK816; clear HB; have BK816 := n0_; have HB := n1_; clear n0_ n1_; (try clear hb); (try clear hb2); (try clear hk); (try clear hi)) | (go_at_call 111; (with_reducible refine (ip4_Get.calls t823 t825 t826 t827 t828 t829 t830 t831 t832 t833 t834 t835 t836 _ A44.out).mono ?_); rintro e w68 ⟨rfl, hb⟩; have n0_ := Aside0.mk (blk_below (g := gb816) (o := .cells #[.int .i64 (wrap64 (a4)), .int .i64 (wrap64 (a5)), .int .i64 a0_2, .int .i64 (wrap64 (a3)), .int .i64 a0_4, .bool a0_5, .bool a0_6, .string a0_7, .string a0_8, .string a0_9] 93 (0, 0)) (by (with_reducible repeat (first | refine blk_drewN ?_ _ | refine blk_drew ?_ | refine blk_alloc ?_ _)); exact BK816.out) hb); have n1_ := Aside0.mk (below_step (by repeat (first | (with_reducible first | exact HB.out | apply below_alloc | apply pw_below_drewN | apply below_drew1 | refine below_set ?_ GE816.out) | exact HB.out)) hb); clear BK816; clear HB; have BK816 := n0_; have HB := n1_; clear n0_ n1_; (try clear hb); (try clear hb2); (try clear hk); (try clear hi)) | ((with_reducible refine gate_dst (N := 20) rfl ?_); (try (refine gate_guard (by rfl) ?_; dsimp only)); refine box_event ?hg (N := 20) ?hd (cs := #[.int .i64 0, .int .i64 0, .int .i64 0, .int .i64 0, .int .i64 0, .bool false, .bool false, .string (⟨#[]⟩ : ByteArray), .string (⟨#[]⟩ : ByteArray), .string (⟨#[]⟩ : ByteArray)]) (t := 93) ?hr ?_; (case hd => rfl); (case hg => rfl); (case hr => first | (go_simp; done) | (go_simp; rfl)); intro gb837 hg w69 hbox hb; have n0_ := Aside0.mk (blk_below (g := gb816) (o := .cells #[.int .i64 (wrap64 (a4)), .int .i64 (wrap64 (a5)), .int .i64 a0_2, .int .i64 (wrap64 (a3)), .int .i64 a0_4, .bool a0_5, .bool a0_6, .string a0_7, .string a0_8, .string a0_9] 93 (0, 0)) (by (with_reducible repeat (first | refine blk_drewN ?_ _ | refine blk_drew ?_ | refine blk_alloc ?_ _)); exact BK816.out) hb); have n1_ := Aside0.mk (below_step (by repeat (first | (with_reducible first | exact HB.out | apply below_alloc | apply pw_below_drewN | apply below_drew1 | refine below_set ?_ GE816.out) | exact HB.out)) hb); have n2_ := Aside0.mk (hbox); have n3_ := Aside0.mk ((by rw [hg]; exact (below_size (by repeat (first | (with_reducible first | exact HB.out | apply below_alloc | apply pw_below_drewN | apply below_drew1 | refine below_set ?_ GE816.out) | exact HB.out))) : w.heap.size ≤ gb837)); have n4_ := Aside0.mk ((by rw [hg]; exact (below_size (by repeat (first | (with_reducible first | exact HB.out | apply below_alloc | apply pw_below_drewN | apply below_drew1 | refine below_set ?_ GE816.out) | exact HB.out))) : w.heap.size ≤ gb837)); have n5_ := Aside0.mk ((by rw [hg]; exact Nat.ne_of_lt (blk_lt (g := gb816) (o := .cells #[.int .i64 (wrap64 (a4)), .int .i64 (wrap64 (a5)), .int .i64 a0_2, .int .i64 (wrap64 (a3)), .int .i64 a0_4, .bool a0_5, .bool a0_6, .string a0_7, .string a0_8, .string a0_9] 93 (0, 0)) (by (with_reducible repeat (first | refine blk_drewN ?_ _ | refine blk_drew ?_ | refine blk_alloc ?_ _)); exact BK816.out)) : gb816 ≠ gb837)); have n6_ := Aside0.mk ((by rw [hg]; exact Nat.ne_of_gt (blk_lt (g := gb816) (o := .cells #[.int .i64 (wrap64 (a4)), .int .i64 (wrap64 (a5)), .int .i64 a0_2, .int .i64 (wrap64 (a3)), .int .i64 a0_4, .bool a0_5, .bool a0_6, .string a0_7, .string a0_8, .string a0_9] 93 (0, 0)) (by (with_reducible repeat (first | refine blk_drewN ?_ _ | refine blk_drew ?_ | refine blk_alloc ?_ _)); exact BK816.out)) : gb837 ≠ gb816)); clear BK816; clear HB; have BK816 := n0_; have HB := n1_; have BK837 := n2_; have GW837 := n3_; have GE837 := n4_; have NB816_837 := n5_; have NB837_816 := n6_; clear n0_ n1_ n2_ n3_ n4_ n5_ n6_; clear hb hbox hg; have hnb70 := NB837_816.out; have hnc70 := NB816_837.out; have hcz71_0 : w69.cell? ⟨gb837, 0, none⟩ = some (.int .i64 0) := (blk_cell BK837.out 0).trans rfl; have hcz71_1 : w69.cell? ⟨gb837, 1, none⟩ = some (.int .i64 0) := (blk_cell BK837.out 1).trans rfl; have hcz71_2 : w69.cell? ⟨gb837, 2, none⟩ = some (.int .i64 0) := (blk_cell BK837.out 2).trans rfl; have hcz71_3 : w69.cell? ⟨gb837, 3, none⟩ = some (.int .i64 0) := (blk_cell BK837.out 3).trans rfl; have hcz71_4 : w69.cell? ⟨gb837, 4, none⟩ = some (.int .i64 0) := (blk_cell BK837.out 4).trans rfl; have hcz71_5 : w69.cell? ⟨gb837, 5, none⟩ = some (.bool false) := (blk_cell BK837.out 5).trans rfl; have hcz71_6 : w69.cell? ⟨gb837, 6, none⟩ = some (.bool false) := (blk_cell BK837.out 6).trans rfl; have hcz71_7 : w69.cell? ⟨gb837, 7, none⟩ = some (.string (⟨#[]⟩ : ByteArray)) := (blk_cell BK837.out 7).trans rfl; have hcz71_8 : w69.cell? ⟨gb837, 8, none⟩ = some (.string (⟨#[]⟩ : ByteArray)) := (blk_cell BK837.out 8).trans rfl; have hcz71_9 : w69.cell? ⟨gb837, 9, none⟩ = some (.string (⟨#[]⟩ : ByteArray)) := (blk_cell BK837.out 9).trans rfl; have hfz71_0 := blk_frozen BK837.out 0; have hfz71_1 := blk_frozen BK837.out 1; have hfz71_2 := blk_frozen BK837.out 2; have hfz71_3 := blk_frozen BK837.out 3; have hfz71_4 := blk_frozen BK837.out 4; have hfz71_5 := blk_frozen BK837.out 5; have hfz71_6 := blk_frozen BK837.out 6; have hfz71_7 := blk_frozen BK837.out 7; have hfz71_8 := blk_frozen BK837.out 8; have hfz71_9 := blk_frozen BK837.out 9; have hcz72_0 : w69.cell? ⟨gb816, 0, none⟩ = some (.int .i64 (wrap64 (a4))) := (blk_cell BK816.out 0).trans rfl; have hcz72_1 : w69.cell? ⟨gb816, 1, none⟩ = some (.int .i64 (wrap64 (a5))) := (blk_cell BK816.out 1).trans rfl; have hcz72_2 : w69.cell? ⟨gb816, 2, none⟩ = some (.int .i64 a0_2) := (blk_cell BK816.out 2).trans rfl; have hcz72_3 : w69.cell? ⟨gb816, 3, none⟩ = some (.int .i64 (wrap64 (a3))) := (blk_cell BK816.out 3).trans rfl; have hcz72_4 : w69.cell? ⟨gb816, 4, none⟩ = some (.int .i64 a0_4) := (blk_cell BK816.out 4).trans rfl; have hcz72_5 : w69.cell? ⟨gb816, 5, none⟩ = some (.bool a0_5) := (blk_cell BK816.out 5).trans rfl; have hcz72_6 : w69.cell? ⟨gb816, 6, none⟩ = some (.bool a0_6) := (blk_cell BK816.out 6).trans rfl; have hcz72_7 : w69.cell? ⟨gb816, 7, none⟩ = some (.string a0_7) := (blk_cell BK816.out 7).trans rfl; have hcz72_8 : w69.cell? ⟨gb816, 8, none⟩ = some (.string a0_8) := (blk_cell BK816.out 8).trans rfl; have hcz72_9 : w69.cell? ⟨gb816, 9, none⟩ = some (.string a0_9) := (blk_cell BK816.out 9).trans rfl; have hfz72_0 := blk_frozen BK816.out 0; have hfz72_1 := blk_frozen BK816.out 1; have hfz72_2 := blk_frozen BK816.out 2; have hfz72_3 := blk_frozen BK816.out 3; have hfz72_4 := blk_frozen BK816.out 4; have hfz72_5 := blk_frozen BK816.out 5; have hfz72_6 := blk_frozen BK816.out 6; have hfz72_7 := blk_frozen BK816.out 7; have hfz72_8 := blk_frozen BK816.out 8; have hfz72_9 := blk_frozen BK816.out 9)); try go_wp2_with (first | (go_at_call 85; (with_reducible refine (ip4_Put.calls (wrap64 (a4)) (wrap64 (a5)) a0_2 (wrap64 (a3)) a0_4 a0_5 a0_6 a0_7 a0_8 a0_9 a1 t823 t824 _ A43.out).mono ?_); rintro e w67 ⟨rfl, hb⟩; have n0_ := Aside0.mk (blk_below (g := gb816) (o := .cells #[.int .i64 (wrap64 (a4)), .int .i64 (wrap64 (a5)), .int .i64 a0_2, .int .i64 (wrap64 (a3)), .int .i64 a0_4, .bool a0_5, .bool a0_6, .string a0_7, .string a0_8, .string a0_9] 93 (0, 0)) (by (with_reducible repeat (first | refine blk_drewN ?_ _ | refine blk_drew ?_ | refine blk_alloc ?_ _)); refine blk_put (cs := #[.int .i64 (wrap64 (a4)), .int .i64 a0_1, .int .i64 a0_2, .int .i64 (wrap64 (a3)), .int .i64 a0_4, .bool a0_5, .bool a0_6, .string a0_7, .string a0_8, .string a0_9]) ?_ 1 _ rfl; (with_reducible repeat (first | refine blk_drewN ?_ _ | refine blk_drew ?_ | refine blk_alloc ?_ _)); refine blk_put (cs := #[.int .i64 a0_0, .int .i64 a0_1, .int .i64 a0_2, .int .i64 (wrap64 (a3)), .int .i64 a0_4, .bool a0_5, .bool a0_6, .string a0_7, .string a0_8, .string a0_9]) ?_ 0 _ rfl; (with_reducible repeat (first | refine blk_drewN ?_ _ | refine blk_drew ?_ | refine blk_alloc ?_ _)); refine blk_put (cs := #[.int .i64 a0_0, .int .i64 a0_1, .int .i64 a0_2, .int .i64 a0_3, .int .i64 a0_4, .bool a0_5, .bool a0_6, .string a0_7, .string a0_8, .string a0_9]) ?_ 3 _ rfl; (with_reducible repeat (first | refine blk_drewN ?_ _ | refine blk_drew ?_ | refine blk_alloc ?_ _)); exact BK816.out) hb); have n1_ := Aside0.mk (below_step (by repeat (first | (with_reducible first | exact HB.out | apply below_alloc | apply pw_below_drewN | apply below_drew1 | refine below_set ?_ GE816.out) | exact HB.out)) hb); clear BK816; clear HB; have BK816 := n0_; have HB := n1_; clear n0_ n1_; (try clear hb); (try clear hb2); (try clear hk); (try clear hi)) | (go_at_call 111; (with_reducible refine (ip4_Get.calls t823 t825 t826 t827 t828 t829 t830 t831 t832 t833 t834 t835 t836 _ A44.out).mono ?_); rintro e w68 ⟨rfl, hb⟩; have n0_ := Aside0.mk (blk_below (g := gb816) (o := .cells #[.int .i64 (wrap64 (a4)), .int .i64 (wrap64 (a5)), .int .i64 a0_2, .int .i64 (wrap64 (a3)), .int .i64 a0_4, .bool a0_5, .bool a0_6, .string a0_7, .string a0_8, .string a0_9] 93 (0, 0)) (by (with_reducible repeat (first | refine blk_drewN ?_ _ | refine blk_drew ?_ | refine blk_alloc ?_ _)); exact BK816.out) hb); have n1_ := Aside0.mk (below_step (by repeat (first | (with_reducible first | exact HB.out | apply below_alloc | apply pw_below_drewN | apply below_drew1 | refine below_set ?_ GE816.out) | exact HB.out)) hb); clear BK816; clear HB; have BK816 := n0_; have HB := n1_; clear n0_ n1_; (try clear hb); (try clear hb2); (try clear hk); (try clear hi)) | ((with_reducible refine gate_dst (N := 20) rfl ?_); (try (refine gate_guard (by rfl) ?_; dsimp only)); refine box_event ?hg (N := 20) ?hd (cs := #[.int .i64 0, .int .i64 0, .int .i64 0, .int .i64 0, .int .i64 0, .bool false, .bool false, .string (⟨#[]⟩ : ByteArray), .string (⟨#[]⟩ : ByteArray), .string (⟨#[]⟩ : ByteArray)]) (t := 93) ?hr ?_; (case hd => rfl); (case hg => rfl); (case hr => first | (go_simp; done) | (go_simp; rfl)); intro gb837 hg w69 hbox hb; have n0_ := Aside0.mk (blk_below (g := gb816) (o := .cells #[.int .i64 (wrap64 (a4)), .int .i64 (wrap64 (a5)), .int .i64 a0_2, .int .i64 (wrap64 (a3)), .int .i64 a0_4, .bool a0_5, .bool a0_6, .string a0_7, .string a0_8, .string a0_9] 93 (0, 0)) (by (with_reducible repeat (first | refine blk_drewN ?_ _ | refine blk_drew ?_ | refine blk_alloc ?_ _)); exact BK816.out) hb); have n1_ := Aside0.mk (below_step (by repeat (first | (with_reducible first | exact HB.out | apply below_alloc | apply pw_below_drewN | apply below_drew1 | refine below_set ?_ GE816.out) | exact HB.out)) hb); have n2_ := Aside0.mk (hbox); have n3_ := Aside0.mk ((by rw [hg]; exact (below_size (by repeat (first | (with_reducible first | exact HB.out | apply below_alloc | apply pw_below_drewN | apply below_drew1 | refine below_set ?_ GE816.out) | exact HB.out))) : w.heap.size ≤ gb837)); have n4_ := Aside0.mk ((by rw [hg]; exact (below_size (by repeat (first | (with_reducible first | exact HB.out | apply below_alloc | apply pw_below_drewN | apply below_drew1 | refine below_set ?_ GE816.out) | exact HB.out))) : w.heap.size ≤ gb837)); have n5_ := Aside0.mk ((by rw [hg]; exact Nat.ne_of_lt (blk_lt (g := gb816) (o := .cells #[.int .i64 (wrap64 (a4)), .int .i64 (wrap64 (a5)), .int .i64 a0_2, .int .i64 (wrap64 (a3)), .int .i64 a0_4, .bool a0_5, .bool a0_6, .string a0_7, .string a0_8, .string a0_9] 93 (0, 0)) (by (with_reducible repeat (first | refine blk_drewN ?_ _ | refine blk_drew ?_ | refine blk_alloc ?_ _)); exact BK816.out)) : gb816 ≠ gb837)); have n6_ := Aside0.mk ((by rw [hg]; exact Nat.ne_of_gt (blk_lt (g := gb816) (o := .cells #[.int .i64 (wrap64 (a4)), .int .i64 (wrap64 (a5)), .int .i64 a0_2, .int .i64 (wrap64 (a3)), .int .i64 a0_4, .bool a0_5, .bool a0_6, .string a0_7, .string a0_8, .string a0_9] 93 (0, 0)) (by (with_reducible repeat (first | refine blk_drewN ?_ _ | refine blk_drew ?_ | refine blk_alloc ?_ _)); exact BK816.out)) : gb837 ≠ gb816)); clear BK816; clear HB; have BK816 := n0_; have HB := n1_; have BK837 := n2_; have GW837 := n3_; have GE837 := n4_; have NB816_837 := n5_; have NB837_816 := n6_; clear n0_ n1_ n2_ n3_ n4_ n5_ n6_; clear hb hbox hg; have hnb70 := NB837_816.out; have hnc70 := NB816_837.out; have hcz71_0 : w69.cell? ⟨gb837, 0, none⟩ = some (.int .i64 0) := (blk_cell BK837.out 0).trans rfl; have hcz71_1 : w69.cell? ⟨gb837, 1, none⟩ = some (.int .i64 0) := (blk_cell BK837.out 1).trans rfl; have hcz71_2 : w69.cell? ⟨gb837, 2, none⟩ = some (.int .i64 0) := (blk_cell BK837.out 2).trans rfl; have hcz71_3 : w69.cell? ⟨gb837, 3, none⟩ = some (.int .i64 0) := (blk_cell BK837.out 3).trans rfl; have hcz71_4 : w69.cell? ⟨gb837, 4, none⟩ = some (.int .i64 0) := (blk_cell BK837.out 4).trans rfl; have hcz71_5 : w69.cell? ⟨gb837, 5, none⟩ = some (.bool false) := (blk_cell BK837.out 5).trans rfl; have hcz71_6 : w69.cell? ⟨gb837, 6, none⟩ = some (.bool false) := (blk_cell BK837.out 6).trans rfl; have hcz71_7 : w69.cell? ⟨gb837, 7, none⟩ = some (.string (⟨#[]⟩ : ByteArray)) := (blk_cell BK837.out 7).trans rfl; have hcz71_8 : w69.cell? ⟨gb837, 8, none⟩ = some (.string (⟨#[]⟩ : ByteArray)) := (blk_cell BK837.out 8).trans rfl; have hcz71_9 : w69.cell? ⟨gb837, 9, none⟩ = some (.string (⟨#[]⟩ : ByteArray)) := (blk_cell BK837.out 9).trans rfl; have hfz71_0 := blk_frozen BK837.out 0; have hfz71_1 := blk_frozen BK837.out 1; have hfz71_2 := blk_frozen BK837.out 2; have hfz71_3 := blk_frozen BK837.out 3; have hfz71_4 := blk_frozen BK837.out 4; have hfz71_5 := blk_frozen BK837.out 5; have hfz71_6 := blk_frozen BK837.out 6; have hfz71_7 := blk_frozen BK837.out 7; have hfz71_8 := blk_frozen BK837.out 8; have hfz71_9 := blk_frozen BK837.out 9; have hcz72_0 : w69.cell? ⟨gb816, 0, none⟩ = some (.int .i64 (wrap64 (a4))) := (blk_cell BK816.out 0).trans rfl; have hcz72_1 : w69.cell? ⟨gb816, 1, none⟩ = some (.int .i64 (wrap64 (a5))) := (blk_cell BK816.out 1).trans rfl; have hcz72_2 : w69.cell? ⟨gb816, 2, none⟩ = some (.int .i64 a0_2) := (blk_cell BK816.out 2).trans rfl; have hcz72_3 : w69.cell? ⟨gb816, 3, none⟩ = some (.int .i64 (wrap64 (a3))) := (blk_cell BK816.out 3).trans rfl; have hcz72_4 : w69.cell? ⟨gb816, 4, none⟩ = some (.int .i64 a0_4) := (blk_cell BK816.out 4).trans rfl; have hcz72_5 : w69.cell? ⟨gb816, 5, none⟩ = some (.bool a0_5) := (blk_cell BK816.out 5).trans rfl; have hcz72_6 : w69.cell? ⟨gb816, 6, none⟩ = some (.bool a0_6) := (blk_cell BK816.out 6).trans rfl; have hcz72_7 : w69.cell? ⟨gb816, 7, none⟩ = some (.string a0_7) := (blk_cell BK816.out 7).trans rfl; have hcz72_8 : w69.cell? ⟨gb816, 8, none⟩ = some (.string a0_8) := (blk_cell BK816.out 8).trans rfl; have hcz72_9 : w69.cell? ⟨gb816, 9, none⟩ = some (.string a0_9) := (blk_cell BK816.out 9).trans rfl; have hfz72_0 := blk_frozen BK816.out 0; have hfz72_1 := blk_frozen BK816.out 1; have hfz72_2 := blk_frozen BK816.out 2; have hfz72_3 := blk_frozen BK816.out 3; have hfz72_4 := blk_frozen BK816.out 4; have hfz72_5 := blk_frozen BK816.out 5; have hfz72_6 := blk_frozen BK816.out 6; have hfz72_7 := blk_frozen BK816.out 7; have hfz72_8 := blk_frozen BK816.out 8; have hfz72_9 := blk_frozen BK816.out 9)))
                                                        go_ret
                                                        exact ⟨by first | rfl | (simp [errW_none, errW_some] <;> rfl) | (simp [*, errW_none, errW_some] <;> rfl), by repeat (first | (with_reducible first | exact HB.out | apply below_alloc | apply pw_below_drewN | apply below_drew1 | refine below_set ?_ GE816.out | refine below_set ?_ GE837.out) | exact HB.out)⟩
                                                      · rw [if_neg c65] at H
                                                        exact absurd H (by simp)
                                                    · rw [if_neg c64] at H
                                                      exact absurd H (by simp)
                                                  · rw [if_neg c63] at H
                                                    exact absurd ((Option.some.inj H).trans hrt_.out) (by decide)
                                                · rw [if_neg c62] at H
                                                  exact absurd H (by simp)
                                              · rw [if_neg c60] at H
                                                exact absurd H (by simp)
                                            · rw [if_neg c59] at H
                                              exact absurd H (by simp)
                                          · rw [if_neg c58] at H
                                            exact absurd ((Option.some.inj H).trans hrt_.out) (by decide)
                                        · rw [if_neg c57] at H
                                          exact absurd H (by simp)
                                      · rw [if_neg c55] at H
                                        exact absurd H (by simp)
                                    · rw [if_neg c54] at H
                                      exact absurd H (by simp)
                                  · rw [if_neg c53] at H
                                    exact absurd ((Option.some.inj H).trans hrt_.out) (by decide)
                                · rw [if_neg c52] at H
                                  exact absurd H (by simp)
                              · rw [if_neg c50] at H
                                exact absurd H (by simp)
                            · rw [if_neg c49] at H
                              exact absurd H (by simp)
                          · rw [if_neg c48] at H
                            exact absurd ((Option.some.inj H).trans hrt_.out) (by decide)
                        · rw [if_neg c47] at H
                          exact absurd ((Option.some.inj H).trans hrt_.out) (by decide)
                      · rw [if_neg c46] at H
                        exact absurd ((Option.some.inj H).trans hrt_.out) (by decide)
                    · rw [if_neg c45] at H
                      exact absurd ((Option.some.inj H).trans hrt_.out) (by decide)
            · rw [if_neg c25] at H
              have c25b0 : (t820 == 0) = false := beq_eq_false_iff_ne.mpr c25
              have c25b1 : (t820 != 0) = true := bne_iff_ne.mpr c25
              by_cases c120 : t819.toList = ([] : List UInt8)
              · rw [if_pos c120] at H
                have c120b0 : (t819.toList == ([] : List UInt8)) = true := beq_iff_eq.mpr c120
                have c120b1 : (t819.toList != ([] : List UInt8)) = false := bne_eq_false_iff_eq.mpr c120
                clear c120
                obtain rfl := Option.some.inj H
                have hcz121_0 : wc.cell? ⟨gb816, 0, none⟩ = some (.int .i64 a0_0) := (blk_cell BK816.out 0).trans rfl
                have hcz121_1 : wc.cell? ⟨gb816, 1, none⟩ = some (.int .i64 a0_1) := (blk_cell BK816.out 1).trans rfl
                have hcz121_2 : wc.cell? ⟨gb816, 2, none⟩ = some (.int .i64 a0_2) := (blk_cell BK816.out 2).trans rfl
                have hcz121_3 : wc.cell? ⟨gb816, 3, none⟩ = some (.int .i64 a0_3) := (blk_cell BK816.out 3).trans rfl
                have hcz121_4 : wc.cell? ⟨gb816, 4, none⟩ = some (.int .i64 a0_4) := (blk_cell BK816.out 4).trans rfl
                have hcz121_5 : wc.cell? ⟨gb816, 5, none⟩ = some (.bool a0_5) := (blk_cell BK816.out 5).trans rfl
                have hcz121_6 : wc.cell? ⟨gb816, 6, none⟩ = some (.bool a0_6) := (blk_cell BK816.out 6).trans rfl
                have hcz121_7 : wc.cell? ⟨gb816, 7, none⟩ = some (.string a0_7) := (blk_cell BK816.out 7).trans rfl
                have hcz121_8 : wc.cell? ⟨gb816, 8, none⟩ = some (.string a0_8) := (blk_cell BK816.out 8).trans rfl
                have hcz121_9 : wc.cell? ⟨gb816, 9, none⟩ = some (.string a0_9) := (blk_cell BK816.out 9).trans rfl
                have hfz121_0 := blk_frozen BK816.out 0
                have hfz121_1 := blk_frozen BK816.out 1
                have hfz121_2 := blk_frozen BK816.out 2
                have hfz121_3 := blk_frozen BK816.out 3
                have hfz121_4 := blk_frozen BK816.out 4
                have hfz121_5 := blk_frozen BK816.out 5
                have hfz121_6 := blk_frozen BK816.out 6
                have hfz121_7 := blk_frozen BK816.out 7
                have hfz121_8 := blk_frozen BK816.out 8
                have hfz121_9 := blk_frozen BK816.out 9
                go_wp2_with (first | (go_at_call 85; (with_reducible refine (ip4_Put.calls a0_0 a0_1 a0_2 a0_3 a0_4 a0_5 a0_6 a0_7 a0_8 a0_9 a1 t819 t820 _ A22.out).mono ?_); rintro e w122 ⟨rfl, hb⟩; have n0_ := Aside0.mk (blk_below (g := gb816) (o := .cells #[.int .i64 a0_0, .int .i64 a0_1, .int .i64 a0_2, .int .i64 a0_3, .int .i64 a0_4, .bool a0_5, .bool a0_6, .string a0_7, .string a0_8, .string a0_9] 93 (0, 0)) (by (with_reducible repeat (first | refine blk_drewN ?_ _ | refine blk_drew ?_ | refine blk_alloc ?_ _)); exact BK816.out) hb); have n1_ := Aside0.mk (below_step (by repeat (first | (with_reducible first | exact HB.out | apply below_alloc | apply pw_below_drewN | apply below_drew1 | refine below_set ?_ GE816.out) | exact HB.out)) hb); clear BK816; clear HB; have BK816 := n0_; have HB := n1_; clear n0_ n1_; (try clear hb); (try clear hb2); (try clear hk); (try clear hi); have hcz123_0 : w122.cell? ⟨gb816, 0, none⟩ = some (.int .i64 a0_0) := (blk_cell BK816.out 0).trans rfl; have hcz123_1 : w122.cell? ⟨gb816, 1, none⟩ = some (.int .i64 a0_1) := (blk_cell BK816.out 1).trans rfl; have hcz123_2 : w122.cell? ⟨gb816, 2, none⟩ = some (.int .i64 a0_2) := (blk_cell BK816.out 2).trans rfl; have hcz123_3 : w122.cell? ⟨gb816, 3, none⟩ = some (.int .i64 a0_3) := (blk_cell BK816.out 3).trans rfl; have hcz123_4 : w122.cell? ⟨gb816, 4, none⟩ = some (.int .i64 a0_4) := (blk_cell BK816.out 4).trans rfl; have hcz123_5 : w122.cell? ⟨gb816, 5, none⟩ = some (.bool a0_5) := (blk_cell BK816.out 5).trans rfl; have hcz123_6 : w122.cell? ⟨gb816, 6, none⟩ = some (.bool a0_6) := (blk_cell BK816.out 6).trans rfl; have hcz123_7 : w122.cell? ⟨gb816, 7, none⟩ = some (.string a0_7) := (blk_cell BK816.out 7).trans rfl; have hcz123_8 : w122.cell? ⟨gb816, 8, none⟩ = some (.string a0_8) := (blk_cell BK816.out 8).trans rfl; have hcz123_9 : w122.cell? ⟨gb816, 9, none⟩ = some (.string a0_9) := (blk_cell BK816.out 9).trans rfl; have hfz123_0 := blk_frozen BK816.out 0; have hfz123_1 := blk_frozen BK816.out 1; have hfz123_2 := blk_frozen BK816.out 2; have hfz123_3 := blk_frozen BK816.out 3; have hfz123_4 := blk_frozen BK816.out 4; have hfz123_5 := blk_frozen BK816.out 5; have hfz123_6 := blk_frozen BK816.out 6; have hfz123_7 := blk_frozen BK816.out 7; have hfz123_8 := blk_frozen BK816.out 8; have hfz123_9 := blk_frozen BK816.out 9) | (go_at_call 85; (with_reducible refine (ip4_Put.calls a0_0 a0_1 a0_2 a0_3 a0_4 a0_5 a0_6 a0_7 a0_8 a0_9 a2 t821 t822 _ A23.out).mono ?_); rintro e w124 ⟨rfl, hb⟩; have n0_ := Aside0.mk (blk_below (g := gb816) (o := .cells #[.int .i64 a0_0, .int .i64 a0_1, .int .i64 a0_2, .int .i64 a0_3, .int .i64 a0_4, .bool a0_5, .bool a0_6, .string a0_7, .string a0_8, .string a0_9] 93 (0, 0)) (by (with_reducible repeat (first | refine blk_drewN ?_ _ | refine blk_drew ?_ | refine blk_alloc ?_ _)); exact BK816.out) hb); have n1_ := Aside0.mk (below_step (by repeat (first | (with_reducible first | exact HB.out | apply below_alloc | apply pw_below_drewN | apply below_drew1 | refine below_set ?_ GE816.out) | exact HB.out)) hb); clear BK816; clear HB; have BK816 := n0_; have HB := n1_; clear n0_ n1_; (try clear hb); (try clear hb2); (try clear hk); (try clear hi)))
                repeat (go_quiet (first | (go_at_call 85; (with_reducible refine (ip4_Put.calls a0_0 a0_1 a0_2 a0_3 a0_4 a0_5 a0_6 a0_7 a0_8 a0_9 a1 t819 t820 _ A22.out).mono ?_); rintro e w122 ⟨rfl, hb⟩; have n0_ := Aside0.mk (blk_below (g := gb816) (o := .cells #[.int .i64 a0_0, .int .i64 a0_1, .int .i64 a0_2, .int .i64 a0_3, .int .i64 a0_4, .bool a0_5, .bool a0_6, .string a0_7, .string a0_8, .string a0_9] 93 (0, 0)) (by (with_reducible repeat (first | refine blk_drewN ?_ _ | refine blk_drew ?_ | refine blk_alloc ?_ _)); exact BK816.out) hb); have n1_ := Aside0.mk (below_step (by repeat (first | (with_reducible first | exact HB.out | apply below_alloc | apply pw_below_drewN | apply below_drew1 | refine below_set ?_ GE816.out) | exact HB.out)) hb); clear BK816; clear HB; have BK816 := n0_; have HB := n1_; clear n0_ n1_; (try clear hb); (try clear hb2); (try clear hk); (try clear hi); have hcz123_0 : w122.cell? ⟨gb816, 0, none⟩ = some (.int .i64 a0_0) := (blk_cell BK816.out 0).trans rfl; have hcz123_1 : w122.cell? ⟨gb816, 1, none⟩ = some (.int .i64 a0_1) := (blk_cell BK816.out 1).trans rfl; have hcz123_2 : w122.cell? ⟨gb816, 2, none⟩ = some (.int .i64 a0_2) := (blk_cell BK816.out 2).trans rfl; have hcz123_3 : w122.cell? ⟨gb816, 3, none⟩ = some (.int .i64 a0_3) := (blk_cell BK816.out 3).trans rfl; have hcz123_4 : w122.cell? ⟨gb816, 4, none⟩ = some (.int .i64 a0_4) := (blk_cell BK816.out 4).trans rfl; have hcz123_5 : w122.cell? ⟨gb816, 5, none⟩ = some (.bool a0_5) := (blk_cell BK816.out 5).trans rfl; have hcz123_6 : w122.cell? ⟨gb816, 6, none⟩ = some (.bool a0_6) := (blk_cell BK816.out 6).trans rfl; have hcz123_7 : w122.cell? ⟨gb816, 7, none⟩ = some (.string a0_7) := (blk_cell BK816.out 7).trans rfl; have hcz123_8 : w122.cell? ⟨gb816, 8, none⟩ = some (.string a0_8) := (blk_cell BK816.out 8).trans rfl; have hcz123_9 : w122.cell? ⟨gb816, 9, none⟩ = some (.string a0_9) := (blk_cell BK816.out 9).trans rfl; have hfz123_0 := blk_frozen BK816.out 0; have hfz123_1 := blk_frozen BK816.out 1; have hfz123_2 := blk_frozen BK816.out 2; have hfz123_3 := blk_frozen BK816.out 3; have hfz123_4 := blk_frozen BK816.out 4; have hfz123_5 := blk_frozen BK816.out 5; have hfz123_6 := blk_frozen BK816.out 6; have hfz123_7 := blk_frozen BK816.out 7; have hfz123_8 := blk_frozen BK816.out 8; have hfz123_9 := blk_frozen BK816.out 9) | (go_at_call 85; (with_reducible refine (ip4_Put.calls a0_0 a0_1 a0_2 a0_3 a0_4 a0_5 a0_6 a0_7 a0_8 a0_9 a2 t821 t822 _ A23.out).mono ?_); rintro e w124 ⟨rfl, hb⟩; have n0_ := Aside0.mk (blk_below (g := gb816) (o := .cells #[.int .i64 a0_0, .int .i64 a0_1, .int .i64 a0_2, .int .i64 a0_3, .int .i64 a0_4, .bool a0_5, .bool a0_6, .string a0_7, .string a0_8, .string a0_9] 93 (0, 0)) (by (with_reducible repeat (first | refine blk_drewN ?_ _ | refine blk_drew ?_ | refine blk_alloc ?_ _)); exact BK816.out) hb); have n1_ := Aside0.mk (below_step (by repeat (first | (with_reducible first | exact HB.out | apply below_alloc | apply pw_below_drewN | apply below_drew1 | refine below_set ?_ GE816.out) | exact HB.out)) hb); clear BK816; clear HB; have BK816 := n0_; have HB := n1_; clear n0_ n1_; (try clear hb); (try clear hb2); (try clear hk); (try clear hi))); try go_wp2_with (first | (go_at_call 85; (with_reducible refine (ip4_Put.calls a0_0 a0_1 a0_2 a0_3 a0_4 a0_5 a0_6 a0_7 a0_8 a0_9 a1 t819 t820 _ A22.out).mono ?_); rintro e w122 ⟨rfl, hb⟩; have n0_ := Aside0.mk (blk_below (g := gb816) (o := .cells #[.int .i64 a0_0, .int .i64 a0_1, .int .i64 a0_2, .int .i64 a0_3, .int .i64 a0_4, .bool a0_5, .bool a0_6, .string a0_7, .string a0_8, .string a0_9] 93 (0, 0)) (by (with_reducible repeat (first | refine blk_drewN ?_ _ | refine blk_drew ?_ | refine blk_alloc ?_ _)); exact BK816.out) hb); have n1_ := Aside0.mk (below_step (by repeat (first | (with_reducible first | exact HB.out | apply below_alloc | apply pw_below_drewN | apply below_drew1 | refine below_set ?_ GE816.out) | exact HB.out)) hb); clear BK816; clear HB; have BK816 := n0_; have HB := n1_; clear n0_ n1_; (try clear hb); (try clear hb2); (try clear hk); (try clear hi); have hcz123_0 : w122.cell? ⟨gb816, 0, none⟩ = some (.int .i64 a0_0) := (blk_cell BK816.out 0).trans rfl; have hcz123_1 : w122.cell? ⟨gb816, 1, none⟩ = some (.int .i64 a0_1) := (blk_cell BK816.out 1).trans rfl; have hcz123_2 : w122.cell? ⟨gb816, 2, none⟩ = some (.int .i64 a0_2) := (blk_cell BK816.out 2).trans rfl; have hcz123_3 : w122.cell? ⟨gb816, 3, none⟩ = some (.int .i64 a0_3) := (blk_cell BK816.out 3).trans rfl; have hcz123_4 : w122.cell? ⟨gb816, 4, none⟩ = some (.int .i64 a0_4) := (blk_cell BK816.out 4).trans rfl; have hcz123_5 : w122.cell? ⟨gb816, 5, none⟩ = some (.bool a0_5) := (blk_cell BK816.out 5).trans rfl; have hcz123_6 : w122.cell? ⟨gb816, 6, none⟩ = some (.bool a0_6) := (blk_cell BK816.out 6).trans rfl; have hcz123_7 : w122.cell? ⟨gb816, 7, none⟩ = some (.string a0_7) := (blk_cell BK816.out 7).trans rfl; have hcz123_8 : w122.cell? ⟨gb816, 8, none⟩ = some (.string a0_8) := (blk_cell BK816.out 8).trans rfl; have hcz123_9 : w122.cell? ⟨gb816, 9, none⟩ = some (.string a0_9) := (blk_cell BK816.out 9).trans rfl; have hfz123_0 := blk_frozen BK816.out 0; have hfz123_1 := blk_frozen BK816.out 1; have hfz123_2 := blk_frozen BK816.out 2; have hfz123_3 := blk_frozen BK816.out 3; have hfz123_4 := blk_frozen BK816.out 4; have hfz123_5 := blk_frozen BK816.out 5; have hfz123_6 := blk_frozen BK816.out 6; have hfz123_7 := blk_frozen BK816.out 7; have hfz123_8 := blk_frozen BK816.out 8; have hfz123_9 := blk_frozen BK816.out 9) | (go_at_call 85; (with_reducible refine (ip4_Put.calls a0_0 a0_1 a0_2 a0_3 a0_4 a0_5 a0_6 a0_7 a0_8 a0_9 a2 t821 t822 _ A23.out).mono ?_); rintro e w124 ⟨rfl, hb⟩; have n0_ := Aside0.mk (blk_below (g := gb816) (o := .cells #[.int .i64 a0_0, .int .i64 a0_1, .int .i64 a0_2, .int .i64 a0_3, .int .i64 a0_4, .bool a0_5, .bool a0_6, .string a0_7, .string a0_8, .string a0_9] 93 (0, 0)) (by (with_reducible repeat (first | refine blk_drewN ?_ _ | refine blk_drew ?_ | refine blk_alloc ?_ _)); exact BK816.out) hb); have n1_ := Aside0.mk (below_step (by repeat (first | (with_reducible first | exact HB.out | apply below_alloc | apply pw_below_drewN | apply below_drew1 | refine below_set ?_ GE816.out) | exact HB.out)) hb); clear BK816; clear HB; have BK816 := n0_; have HB := n1_; clear n0_ n1_; (try clear hb); (try clear hb2); (try clear hk); (try clear hi))))
                go_ret
                exact ⟨by first | rfl | (simp [errW_none, errW_some] <;> rfl) | (simp [*, errW_none, errW_some] <;> rfl), by repeat (first | (with_reducible first | exact HB.out | apply below_alloc | apply pw_below_drewN | apply below_drew1 | refine below_set ?_ GE816.out) | exact HB.out)⟩
              · rw [if_neg c120] at H
                exact absurd ((Option.some.inj H).trans hrt_.out) (by decide)
          · rw [if_neg c24] at H
            exact absurd ((Option.some.inj H).trans hrt_.out) (by decide)
  · replace c8 := Bool.eq_false_iff.mpr c8
    subst c8
    have H1 : (some false) = some r := by rw [if_neg (show ¬ (false = true) by decide)] at H; exact H
    exact absurd ((Option.some.inj H1).trans hrt_.out) (by decide)
end Go.Proofs.Ytejmipoolbodgaa.G
