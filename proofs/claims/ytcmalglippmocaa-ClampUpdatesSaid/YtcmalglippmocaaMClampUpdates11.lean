/- Texts of this session, joined: each is a section. -/
import Derived.Test.YtcmalglippmocaaMClampUpdates10
import Derived.Test.YtcmalglippmocaaMClampUpdates2
import Derived.Test.YtcmalglippmocaaMClampUpdates8
import Derived.Test.YtcmalglippmocaaMClampUpdates7
import Derived.RangeFuncNested
import Derived.RangeFuncBound
import Derived.RangeFuncCalls
import Derived.RangeFuncLeaves
import Derived.RangeFuncFrom
import Derived.Shelf.Abstract
import Derived.Shelf.RegionOpen
import Derived.WalkKit
import Derived.OwnWalkIn
import Derived.TacticsInMore
import Derived.LoopNIn
import Derived.LoopIn
import Derived.Laws.Strings2
import Derived.Laws.Strings
set_option linter.unusedVariables false
set_option linter.unusedSimpArgs false
section
namespace Go.Proofs.Ytcmalglippmocaa.G
open Go.RowKit Go.Proofs.YtcmalglippmocaaW.PrintWords Go.Proofs.YtcmalglippmocaaW.PrintLast Go.Proofs.YtcmalglippmocaaW.PrintMore Go.Proofs.Ytcmalglippmocaa.Pal
abbrev FlowR := Int × ByteArray × ByteArray × Int × Int × Int
def flow_bad (e : Int) : FlowR := (0, ⟨#[]⟩, ⟨#[]⟩, 0, 0, e)
def flow_fin (proto : Int) (src dst pay : ByteArray) (piece bare : Bool) : Option FlowR :=
  if piece = true then some (flow_bad 14) else if proto ≠ 6 ∧ proto ≠ 17 then some (flow_bad 6) else
  (flow_ports.f proto pay).bind fun q => if q.2.2.2 ≠ 0 then some (flow_bad q.2.2.2) else
  (sum_Pseudo.f src dst proto pay.size).bind fun ps => (sum_Right.f [ps, pay]).bind fun r =>
  if (if proto = 17 ∧ q.2.2.1 = 0 then bare else r) = true then some (proto, src, dst, q.1, q.2.1, 0) else some (flow_bad 5)
def flow_Get.f (s : ByteArray) : Option FlowR :=
  if s.size = 0 then some (flow_bad 2) else if bt s 0 / 16 = 4 then (ip4_Get.f s).bind fun q => if q.2.2.2.2.2.2.2.2.2.2.2 ≠ 0 then some (flow_bad q.2.2.2.2.2.2.2.2.2.2.2) else flow_fin q.2.2.2.2.1 q.2.2.2.2.2.2.2.1 q.2.2.2.2.2.2.2.2.1 q.2.2.2.2.2.2.2.2.2.2.1 (q.2.2.1 != 0 || q.2.2.2.2.2.2.1) true
  else if bt s 0 / 16 = 6 then (ip6_Get.f s).bind fun q => if q.2.2.2.2.2.2.2 ≠ 0 then some (flow_bad q.2.2.2.2.2.2.2) else flow_fin q.2.2.1 q.2.2.2.2.1 q.2.2.2.2.2.1 q.2.2.2.2.2.2.1 false false
  else some (flow_bad 3)
theorem ite_in_no {c : Prop} {d : Decidable c} {α : Type} {b r : Bool} {x y z : α} (h : ¬ c) (H : (if (if c then b else r) = true then x else y) = z) : (if r = true then x else y) = z := by rw [if_neg h] at H; exact H
theorem ite_in_yes {c : Prop} {d : Decidable c} {α : Type} {b r : Bool} {x y z : α} (h : c) (H : (if (if c then b else r) = true then x else y) = z) : (if b = true then x else y) = z := by rw [if_pos h] at H; exact H
set_option maxHeartbeats 8000000 in
set_option maxRecDepth 100000 in
theorem flow_four (s : ByteArray) (r1 r2 r3 r4 r5 : Int) (r6 r7 : Bool) (r8 r9 r10 r11 : ByteArray) (w : World) (t1 : Int) (t2 t3 : ByteArray) (t4 t5 t6 : Int)
    (ho : Calls Try.prog 25 #[.string s] (w.alloc (.cells #[.int .i64 0, .string ⟨#[]⟩, .string ⟨#[]⟩, .int .i64 0, .int .i64 0] 24)) fun e w' => e = .returned (.tuple #[.iface 92 (.agg (cs4 r1 r2 r3 r4 r5 r6 r7 r8 r9 r10)), .string r11, .int .i64 0]) ∧ Below (w.heap.size + 1) (w.alloc (.cells #[.int .i64 0, .string ⟨#[]⟩, .string ⟨#[]⟩, .int .i64 0, .int .i64 0] 24)) w')
    (hf : flow_fin r5 r8 r9 r11 (r3 != 0 || r7) true = some (t1, t2, t3, t4, t5, t6)) :
    Calls Try.prog 11 #[.string s] w fun e w' => e = .returned (.tuple #[.agg #[.int .i64 t1, .string t2, .string t3, .int .i64 t4, .int .i64 t5], .int .i64 t6]) ∧ Below w.heap.size w w' := by
  have HO := Aside0.mk ho
  have hu := Try.underlying24
  obtain ⟨k, hk⟩ : ∃ k, w.heap.size = k := ⟨_, rfl⟩
  have HK := Aside0.mk (show w.heap.size = k from hk)
  have HB := Aside0.mk ((Below.refl w.heap.size w).alloc (Nat.le_refl _) (.cells #[.int .i64 0, .string ⟨#[]⟩, .string ⟨#[]⟩, .int .i64 0, .int .i64 0] 24))
  have HR := Aside0.mk (Blk.new w 24 #[.int .i64 0, .string ⟨#[]⟩, .string ⟨#[]⟩, .int .i64 0, .int .i64 0])
  have HE := Aside0.mk hf
  clear ho hf
  go_enter Try.func11, Try.ntmps11
  go_wp2_with fail
  refine HO.out.mono ?_
  rintro e w2 ⟨rfl, hb⟩
  replace HB := Aside0.mk (HB.out.trans (hb.mono (by omega)))
  replace HR := Aside0.mk (HR.out.below hb (by omega))
  clear HO hb
  rw [hk] at HB HR
  clear hk
  have m1 := four_m_proto r1 r2 r3 r4 r5 r6 r7 r8 r9 r10
  go_wp2_with fail
  refine (four_proto r1 r2 r3 r4 r5 r6 r7 r8 r9 r10 _).mono ?_
  rintro e w3 ⟨rfl, hb⟩
  replace HB := Aside0.mk (HB.out.trans (hb.mono (by have := HB.out.size; have := HK.out; omega)))
  replace HR := Aside0.mk (HR.out.below hb HR.out.lt)
  clear hb m1
  go_upto_region 5 with (fail)
  have HN := Aside0.mk (Blk.new w3 24 #[.int .i64 r5, .string ⟨#[]⟩, .string ⟨#[]⟩, .int .i64 0, .int .i64 0])
  have HGT := Aside0.mk (show k < w3.heap.size from HR.out.lt)
  replace HR := Aside0.mk (HR.out.alloc (.cells #[.int .i64 r5, .string ⟨#[]⟩, .string ⟨#[]⟩, .int .i64 0, .int .i64 0] 24))
  replace HB := Aside0.mk (HB.out.alloc (by have := HGT.out; omega) (.cells #[.int .i64 r5, .string ⟨#[]⟩, .string ⟨#[]⟩, .int .i64 0, .int .i64 0] 24))
  generalize w3.heap.size = g at HN HGT ⊢
  generalize w3.alloc (.cells #[.int .i64 r5, .string ⟨#[]⟩, .string ⟨#[]⟩, .int .i64 0, .int .i64 0] 24) = w4 at HN HR HB ⊢
  have m2 := four_m_ends r1 r2 r3 r4 r5 r6 r7 r8 r9 r10
  go_wp2_with fail
  refine (four_ends r1 r2 r3 r4 r5 r6 r7 r8 r9 r10 _).mono ?_
  rintro e w5 ⟨rfl, hb⟩
  replace HB := Aside0.mk (HB.out.trans (hb.mono (by have := HB.out.size; have := HK.out; omega)))
  replace HR := Aside0.mk (HR.out.below hb HR.out.lt)
  replace HN := Aside0.mk (HN.out.below hb HN.out.lt)
  clear hb m2
  have n0 := HN.out.frees
  have n1 := HN.out.cells
  go_upto_region 6 with (fail)
  clear n0 n1
  replace HR := Aside0.mk ((HR.out.other ⟨g, 1, none⟩ (by have := HGT.out; simp; omega) (.string r8)).other ⟨g, 2, none⟩ (by have := HGT.out; simp; omega) (.string r9))
  replace HB := Aside0.mk ((HB.out.setCell (p := ⟨g, 1, none⟩) (by have := HGT.out; simp; omega) (.string r8)).setCell (p := ⟨g, 2, none⟩) (by have := HGT.out; simp; omega) (.string r9))
  replace HN := Aside0.mk ((HN.out.set 1 (.string r8)).set 2 (.string r9))
  simp only [List.setIfInBounds_toArray, List.set_cons_zero, List.set_cons_succ] at HN
  generalize (w5.setCell ⟨g, 1, none⟩ (.string r8)).setCell ⟨g, 2, none⟩ (.string r9) = w6 at HN HR HB ⊢
  have m3 := four_m_piece r1 r2 r3 r4 r5 r6 r7 r8 r9 r10
  go_wp2_with fail
  refine (four_piece r1 r2 r3 r4 r5 r6 r7 r8 r9 r10 _).mono ?_
  rintro e w7 ⟨rfl, hb⟩
  replace HB := Aside0.mk (HB.out.trans (hb.mono (by have := HB.out.size; have := HK.out; omega)))
  replace HR := Aside0.mk (HR.out.below hb HR.out.lt)
  replace HN := Aside0.mk (HN.out.below hb HN.out.lt)
  clear hb m3
  cases hp : (r3 != 0 || r7) with
  | true =>
    have hr : (t1, t2, t3, t4, t5, t6) = flow_bad 14 := by
      have := HE.out; unfold flow_fin at this; rw [if_pos hp] at this; exact (Option.some.inj this).symm
    simp only [flow_bad, Prod.mk.injEq] at hr
    obtain ⟨rfl, rfl, rfl, rfl, rfl, rfl⟩ := hr
    clear hp
    have f0 := HR.out.frees
    have f1 := HR.out.cells
    go_wp2
    have HR1 := Aside0.mk (((((HR.out.set 0 (.int .i64 0)).set 1 (.string ⟨#[]⟩)).set 2 (.string ⟨#[]⟩)).set 3 (.int .i64 0)).set 4 (.int .i64 0))
    simp only [List.setIfInBounds_toArray, List.set_cons_zero, List.set_cons_succ] at HR1
    refine bodyPost_ret (results_cell_tmp rfl _ _ k _ _ rfl HR1.out Try.underlying24 rfl (by kernel_rfl)) rfl ?_
    exact ⟨rfl, by rw [HK.out]; exact ((((HB.out.setCell (p := ⟨k, 0, none⟩) (Nat.le_refl _) _).setCell (p := ⟨k, 1, none⟩) (Nat.le_refl _) _).setCell (p := ⟨k, 2, none⟩) (Nat.le_refl _) _).setCell (p := ⟨k, 3, none⟩) (Nat.le_refl _) _).setCell (p := ⟨k, 4, none⟩) (Nat.le_refl _) _⟩
  | false =>
  have HP := Aside0.mk hp
  clear hp
  by_cases h6 : r5 ≠ 6 ∧ r5 ≠ 17
  · as_aux_lemma =>
    have hr : (t1, t2, t3, t4, t5, t6) = flow_bad 6 := by
      have := HE.out; unfold flow_fin at this; rw [HP.out, if_neg (by decide), if_pos h6] at this; exact (Option.some.inj this).symm
    simp only [flow_bad, Prod.mk.injEq] at hr
    obtain ⟨rfl, rfl, rfl, rfl, rfl, rfl⟩ := hr
    have d1 : (r5 != 6) = true := bne_iff_ne.mpr h6.1
    have d2 : (r5 != 17) = true := bne_iff_ne.mpr h6.2
    clear h6
    have n1 := HN.out.cells
    have f0 := HR.out.frees
    have f1 := HR.out.cells
    go_wp2
    have HR1 := Aside0.mk (((((HR.out.set 0 (.int .i64 0)).set 1 (.string ⟨#[]⟩)).set 2 (.string ⟨#[]⟩)).set 3 (.int .i64 0)).set 4 (.int .i64 0))
    simp only [List.setIfInBounds_toArray, List.set_cons_zero, List.set_cons_succ] at HR1
    refine bodyPost_ret (results_cell_tmp rfl _ _ k _ _ rfl HR1.out Try.underlying24 rfl (by kernel_rfl)) rfl ?_
    exact ⟨rfl, by rw [HK.out]; exact ((((HB.out.setCell (p := ⟨k, 0, none⟩) (Nat.le_refl _) _).setCell (p := ⟨k, 1, none⟩) (Nat.le_refl _) _).setCell (p := ⟨k, 2, none⟩) (Nat.le_refl _) _).setCell (p := ⟨k, 3, none⟩) (Nat.le_refl _) _).setCell (p := ⟨k, 4, none⟩) (Nat.le_refl _) _⟩
  have hq : r5 = 6 ∨ r5 = 17 := by
    by_cases e6 : r5 = 6
    · left; exact e6
    · right; exact Classical.not_not.1 fun h => h6 ⟨e6, h⟩
  have HQ := Aside0.mk h6
  clear h6
  rcases hq with rfl | rfl
  · as_aux_lemma =>
    have hE : ((flow_ports.f 6 r11).bind fun q => if q.2.2.2 ≠ 0 then some (flow_bad q.2.2.2) else (sum_Pseudo.f r8 r9 6 r11.size).bind fun ps => (sum_Right.f [ps, r11]).bind fun r => if (if (6 : Int) = 17 ∧ q.2.2.1 = 0 then true else r) = true then some (6, r8, r9, q.1, q.2.1, 0) else some (flow_bad 5)) = some (t1, t2, t3, t4, t5, t6) := by
      have := HE.out; unfold flow_fin at this; rw [HP.out, if_neg (by decide), if_neg HQ.out] at this; exact this
    obtain ⟨⟨p1, p2, p3, p4⟩, hp1, hE⟩ := Option.bind_eq_some_iff.1 hE
    have HPP := Aside0.mk hp1
    replace hE : (if p4 ≠ 0 then some (flow_bad p4) else (sum_Pseudo.f r8 r9 6 r11.size).bind fun ps => (sum_Right.f [ps, r11]).bind fun r => if (if (6 : Int) = 17 ∧ p3 = 0 then true else r) = true then some (6, r8, r9, p1, p2, 0) else some (flow_bad 5)) = some (t1, t2, t3, t4, t5, t6) := hE
    clear HE hp1 HQ
    have HE := Aside0.mk hE
    clear hE
    have n1 := HN.out.cells
    go_wp2_with fail
    refine (flow_ports.calls 6 r11 p1 p2 p3 p4 _ HPP.out).mono ?_
    rintro e w8 ⟨rfl, hb⟩
    replace HB := Aside0.mk (HB.out.trans (hb.mono (by have := HB.out.size; have := HK.out; omega)))
    replace HR := Aside0.mk (HR.out.below hb HR.out.lt)
    replace HN := Aside0.mk (HN.out.below hb HN.out.lt)
    clear hb n1
    have n0 := HN.out.frees
    have n1 := HN.out.cells
    go_upto_region 12 with (fail)
    clear n0 n1
    replace HR := Aside0.mk ((HR.out.other ⟨g, 3, none⟩ (by have := HGT.out; simp; omega) (.int .i64 p1)).other ⟨g, 4, none⟩ (by have := HGT.out; simp; omega) (.int .i64 p2))
    replace HB := Aside0.mk ((HB.out.setCell (p := ⟨g, 3, none⟩) (by have := HGT.out; simp; omega) (.int .i64 p1)).setCell (p := ⟨g, 4, none⟩) (by have := HGT.out; simp; omega) (.int .i64 p2))
    replace HN := Aside0.mk ((HN.out.set 3 (.int .i64 p1)).set 4 (.int .i64 p2))
    simp only [List.setIfInBounds_toArray, List.set_cons_zero, List.set_cons_succ] at HN
    generalize (w8.setCell ⟨g, 3, none⟩ (.int .i64 p1)).setCell ⟨g, 4, none⟩ (.int .i64 p2) = w9 at HN HR HB ⊢
    by_cases h4 : p4 = 0
    case neg =>
      as_aux_lemma =>
      have hr : (t1, t2, t3, t4, t5, t6) = flow_bad p4 := by
        have := HE.out; rw [if_pos h4] at this; exact (Option.some.inj this).symm
      simp only [flow_bad, Prod.mk.injEq] at hr
      obtain ⟨rfl, rfl, rfl, rfl, rfl, rfl⟩ := hr
      have d1 : (t6 != 0) = true := bne_iff_ne.mpr h4
      clear h4 HE HPP
      have f0 := HR.out.frees
      have f1 := HR.out.cells
      go_wp2
      have HR1 := Aside0.mk (((((HR.out.set 0 (.int .i64 0)).set 1 (.string ⟨#[]⟩)).set 2 (.string ⟨#[]⟩)).set 3 (.int .i64 0)).set 4 (.int .i64 0))
      simp only [List.setIfInBounds_toArray, List.set_cons_zero, List.set_cons_succ] at HR1
      refine bodyPost_ret (results_cell_tmp rfl _ _ k _ _ rfl HR1.out Try.underlying24 rfl (by kernel_rfl)) rfl ?_
      exact ⟨rfl, by rw [HK.out]; exact ((((HB.out.setCell (p := ⟨k, 0, none⟩) (Nat.le_refl _) _).setCell (p := ⟨k, 1, none⟩) (Nat.le_refl _) _).setCell (p := ⟨k, 2, none⟩) (Nat.le_refl _) _).setCell (p := ⟨k, 3, none⟩) (Nat.le_refl _) _).setCell (p := ⟨k, 4, none⟩) (Nat.le_refl _) _⟩
    subst h4
    have hE : ((sum_Pseudo.f r8 r9 6 r11.size).bind fun ps => (sum_Right.f [ps, r11]).bind fun r => if (if (6 : Int) = 17 ∧ p3 = 0 then true else r) = true then some (6, r8, r9, p1, p2, 0) else some (flow_bad 5)) = some (t1, t2, t3, t4, t5, t6) := by have := HE.out; rw [if_neg (by decide)] at this; exact this
    obtain ⟨ps, hps, hE⟩ := Option.bind_eq_some_iff.1 hE
    obtain ⟨rt, hrt, hE⟩ := Option.bind_eq_some_iff.1 hE
    have HPS := Aside0.mk hps
    have HRT := Aside0.mk hrt
    clear HE hps hrt HPP
    have HE := Aside0.mk hE
    clear hE
    have n1 := HN.out.cells
    go_wp2_with fail
    refine (sum_Pseudo.calls r8 r9 6 (r11.size : Int) ps _ HPS.out).mono ?_
    rintro e w10 ⟨rfl, hb⟩
    replace HB := Aside0.mk (HB.out.trans (hb.mono (by have := HB.out.size; have := HK.out; omega)))
    replace HR := Aside0.mk (HR.out.below hb HR.out.lt)
    replace HN := Aside0.mk (HN.out.below hb HN.out.lt)
    clear hb n1
    go_wp2_with fail
    refine (sum_Right.calls _ _ [ps, r11] rt _ (C_two _ _ _ _) (by simp) HRT.out).mono ?_
    rintro e w11 ⟨rfl, hb⟩
    replace HR := Aside0.mk ((HR.out.alloc _).below hb (HR.out.alloc _).lt)
    replace HN := Aside0.mk ((HN.out.alloc _).below hb (HN.out.alloc _).lt)
    replace HB := Aside0.mk ((HB.out.alloc (by have := HB.out.size; have := HK.out; omega) _).trans (hb.mono (by have := HB.out.size; have := HK.out; simp; omega)))
    clear hb HRT HPS
    cases rt with
    | true =>
      as_aux_lemma =>
      have hr : (t1, t2, t3, t4, t5, t6) = (6, r8, r9, p1, p2, 0) := by
        have := HE.out; replace this := ite_in_no (fun h => absurd h.1 (by decide)) this; rw [if_pos rfl] at this; exact (Option.some.inj this).symm
      simp only [Prod.mk.injEq] at hr
      obtain ⟨rfl, rfl, rfl, rfl, rfl, rfl⟩ := hr
      have n1 := HN.out.cells
      have f0 := HR.out.frees
      have f1 := HR.out.cells
      go_wp2
      have HR1 := Aside0.mk (((((HR.out.set 0 (.int .i64 6)).set 1 (.string t2)).set 2 (.string t3)).set 3 (.int .i64 t4)).set 4 (.int .i64 t5))
      simp only [List.setIfInBounds_toArray, List.set_cons_zero, List.set_cons_succ] at HR1
      refine bodyPost_ret (results_cell_tmp rfl _ _ k _ _ rfl HR1.out Try.underlying24 rfl (by kernel_rfl)) rfl ?_
      exact ⟨rfl, by rw [HK.out]; exact ((((HB.out.setCell (p := ⟨k, 0, none⟩) (Nat.le_refl _) _).setCell (p := ⟨k, 1, none⟩) (Nat.le_refl _) _).setCell (p := ⟨k, 2, none⟩) (Nat.le_refl _) _).setCell (p := ⟨k, 3, none⟩) (Nat.le_refl _) _).setCell (p := ⟨k, 4, none⟩) (Nat.le_refl _) _⟩
    | false =>
      as_aux_lemma =>
      have hr : (t1, t2, t3, t4, t5, t6) = flow_bad 5 := by
        have := HE.out; replace this := ite_in_no (fun h => absurd h.1 (by decide)) this; rw [if_neg (by decide)] at this; exact (Option.some.inj this).symm
      simp only [flow_bad, Prod.mk.injEq] at hr
      obtain ⟨rfl, rfl, rfl, rfl, rfl, rfl⟩ := hr
      have n1 := HN.out.cells
      have f0 := HR.out.frees
      have f1 := HR.out.cells
      go_wp2
      have HR1 := Aside0.mk (((((HR.out.set 0 (.int .i64 0)).set 1 (.string ⟨#[]⟩)).set 2 (.string ⟨#[]⟩)).set 3 (.int .i64 0)).set 4 (.int .i64 0))
      simp only [List.setIfInBounds_toArray, List.set_cons_zero, List.set_cons_succ] at HR1
      refine bodyPost_ret (results_cell_tmp rfl _ _ k _ _ rfl HR1.out Try.underlying24 rfl (by kernel_rfl)) rfl ?_
      exact ⟨rfl, by rw [HK.out]; exact ((((HB.out.setCell (p := ⟨k, 0, none⟩) (Nat.le_refl _) _).setCell (p := ⟨k, 1, none⟩) (Nat.le_refl _) _).setCell (p := ⟨k, 2, none⟩) (Nat.le_refl _) _).setCell (p := ⟨k, 3, none⟩) (Nat.le_refl _) _).setCell (p := ⟨k, 4, none⟩) (Nat.le_refl _) _⟩
  · as_aux_lemma =>
    have hE : ((flow_ports.f 17 r11).bind fun q => if q.2.2.2 ≠ 0 then some (flow_bad q.2.2.2) else (sum_Pseudo.f r8 r9 17 r11.size).bind fun ps => (sum_Right.f [ps, r11]).bind fun r => if (if q.2.2.1 = 0 then true else r) = true then some (17, r8, r9, q.1, q.2.1, 0) else some (flow_bad 5)) = some (t1, t2, t3, t4, t5, t6) := by
      have := HE.out; unfold flow_fin at this; rw [HP.out, if_neg (by decide), if_neg HQ.out] at this; simpa only [eq_self, true_and] using this
    obtain ⟨⟨p1, p2, p3, p4⟩, hp1, hE⟩ := Option.bind_eq_some_iff.1 hE
    have HPP := Aside0.mk hp1
    replace hE : (if p4 ≠ 0 then some (flow_bad p4) else (sum_Pseudo.f r8 r9 17 r11.size).bind fun ps => (sum_Right.f [ps, r11]).bind fun r => if (if p3 = 0 then true else r) = true then some (17, r8, r9, p1, p2, 0) else some (flow_bad 5)) = some (t1, t2, t3, t4, t5, t6) := hE
    clear HE hp1 HQ
    have HE := Aside0.mk hE
    clear hE
    have n1 := HN.out.cells
    go_wp2_with fail
    refine (flow_ports.calls 17 r11 p1 p2 p3 p4 _ HPP.out).mono ?_
    rintro e w8 ⟨rfl, hb⟩
    replace HB := Aside0.mk (HB.out.trans (hb.mono (by have := HB.out.size; have := HK.out; omega)))
    replace HR := Aside0.mk (HR.out.below hb HR.out.lt)
    replace HN := Aside0.mk (HN.out.below hb HN.out.lt)
    clear hb n1
    have n0 := HN.out.frees
    have n1 := HN.out.cells
    go_upto_region 12 with (fail)
    clear n0 n1
    replace HR := Aside0.mk ((HR.out.other ⟨g, 3, none⟩ (by have := HGT.out; simp; omega) (.int .i64 p1)).other ⟨g, 4, none⟩ (by have := HGT.out; simp; omega) (.int .i64 p2))
    replace HB := Aside0.mk ((HB.out.setCell (p := ⟨g, 3, none⟩) (by have := HGT.out; simp; omega) (.int .i64 p1)).setCell (p := ⟨g, 4, none⟩) (by have := HGT.out; simp; omega) (.int .i64 p2))
    replace HN := Aside0.mk ((HN.out.set 3 (.int .i64 p1)).set 4 (.int .i64 p2))
    simp only [List.setIfInBounds_toArray, List.set_cons_zero, List.set_cons_succ] at HN
    generalize (w8.setCell ⟨g, 3, none⟩ (.int .i64 p1)).setCell ⟨g, 4, none⟩ (.int .i64 p2) = w9 at HN HR HB ⊢
    by_cases h4 : p4 = 0
    case neg =>
      as_aux_lemma =>
      have hr : (t1, t2, t3, t4, t5, t6) = flow_bad p4 := by
        have := HE.out; rw [if_pos h4] at this; exact (Option.some.inj this).symm
      simp only [flow_bad, Prod.mk.injEq] at hr
      obtain ⟨rfl, rfl, rfl, rfl, rfl, rfl⟩ := hr
      have d1 : (t6 != 0) = true := bne_iff_ne.mpr h4
      clear h4 HE HPP
      have f0 := HR.out.frees
      have f1 := HR.out.cells
      go_wp2
      have HR1 := Aside0.mk (((((HR.out.set 0 (.int .i64 0)).set 1 (.string ⟨#[]⟩)).set 2 (.string ⟨#[]⟩)).set 3 (.int .i64 0)).set 4 (.int .i64 0))
      simp only [List.setIfInBounds_toArray, List.set_cons_zero, List.set_cons_succ] at HR1
      refine bodyPost_ret (results_cell_tmp rfl _ _ k _ _ rfl HR1.out Try.underlying24 rfl (by kernel_rfl)) rfl ?_
      exact ⟨rfl, by rw [HK.out]; exact ((((HB.out.setCell (p := ⟨k, 0, none⟩) (Nat.le_refl _) _).setCell (p := ⟨k, 1, none⟩) (Nat.le_refl _) _).setCell (p := ⟨k, 2, none⟩) (Nat.le_refl _) _).setCell (p := ⟨k, 3, none⟩) (Nat.le_refl _) _).setCell (p := ⟨k, 4, none⟩) (Nat.le_refl _) _⟩
    subst h4
    have hE : ((sum_Pseudo.f r8 r9 17 r11.size).bind fun ps => (sum_Right.f [ps, r11]).bind fun r => if (if p3 = 0 then true else r) = true then some (17, r8, r9, p1, p2, 0) else some (flow_bad 5)) = some (t1, t2, t3, t4, t5, t6) := by have := HE.out; rw [if_neg (by decide)] at this; exact this
    obtain ⟨ps, hps, hE⟩ := Option.bind_eq_some_iff.1 hE
    obtain ⟨rt, hrt, hE⟩ := Option.bind_eq_some_iff.1 hE
    have HPS := Aside0.mk hps
    have HRT := Aside0.mk hrt
    clear HE hps hrt HPP
    have HE := Aside0.mk hE
    clear hE
    have n1 := HN.out.cells
    go_wp2_with fail
    refine (sum_Pseudo.calls r8 r9 17 (r11.size : Int) ps _ HPS.out).mono ?_
    rintro e w10 ⟨rfl, hb⟩
    replace HB := Aside0.mk (HB.out.trans (hb.mono (by have := HB.out.size; have := HK.out; omega)))
    replace HR := Aside0.mk (HR.out.below hb HR.out.lt)
    replace HN := Aside0.mk (HN.out.below hb HN.out.lt)
    clear hb n1
    go_wp2_with fail
    refine (sum_Right.calls _ _ [ps, r11] rt _ (C_two _ _ _ _) (by simp) HRT.out).mono ?_
    rintro e w11 ⟨rfl, hb⟩
    replace HR := Aside0.mk ((HR.out.alloc _).below hb (HR.out.alloc _).lt)
    replace HN := Aside0.mk ((HN.out.alloc _).below hb (HN.out.alloc _).lt)
    replace HB := Aside0.mk ((HB.out.alloc (by have := HB.out.size; have := HK.out; omega) _).trans (hb.mono (by have := HB.out.size; have := HK.out; simp; omega)))
    clear hb HRT HPS
    by_cases h3 : p3 = 0
    · subst h3
      have n1 := HN.out.cells
      have m4 := four_m_bare r1 r2 r3 r4 17 r6 r7 r8 r9 r10
      go_wp2_with fail
      refine (four_bare r1 r2 r3 r4 17 r6 r7 r8 r9 r10 _).mono ?_
      rintro e w12 ⟨rfl, hb⟩
      replace HB := Aside0.mk (HB.out.trans (hb.mono (by have := HB.out.size; have := HK.out; omega)))
      replace HR := Aside0.mk (HR.out.below hb HR.out.lt)
      replace HN := Aside0.mk (HN.out.below hb HN.out.lt)
      clear hb m4 n1
      have hr : (t1, t2, t3, t4, t5, t6) = (17, r8, r9, p1, p2, 0) := by
        have := HE.out; replace this := ite_in_yes (by first | trivial | rfl) this; rw [if_pos rfl] at this; exact (Option.some.inj this).symm
      simp only [Prod.mk.injEq] at hr
      obtain ⟨rfl, rfl, rfl, rfl, rfl, rfl⟩ := hr
      have n1 := HN.out.cells
      have f0 := HR.out.frees
      have f1 := HR.out.cells
      go_wp2
      have HR1 := Aside0.mk (((((HR.out.set 0 (.int .i64 17)).set 1 (.string t2)).set 2 (.string t3)).set 3 (.int .i64 t4)).set 4 (.int .i64 t5))
      simp only [List.setIfInBounds_toArray, List.set_cons_zero, List.set_cons_succ] at HR1
      refine bodyPost_ret (results_cell_tmp rfl _ _ k _ _ rfl HR1.out Try.underlying24 rfl (by kernel_rfl)) rfl ?_
      exact ⟨rfl, by rw [HK.out]; exact ((((HB.out.setCell (p := ⟨k, 0, none⟩) (Nat.le_refl _) _).setCell (p := ⟨k, 1, none⟩) (Nat.le_refl _) _).setCell (p := ⟨k, 2, none⟩) (Nat.le_refl _) _).setCell (p := ⟨k, 3, none⟩) (Nat.le_refl _) _).setCell (p := ⟨k, 4, none⟩) (Nat.le_refl _) _⟩
    · have e3 : (p3 == 0) = false := beq_eq_false_iff_ne.mpr h3
      have H3 := Aside0.mk h3
      clear h3
      cases rt with
      | true =>
        as_aux_lemma =>
        have hr : (t1, t2, t3, t4, t5, t6) = (17, r8, r9, p1, p2, 0) := by
          have := HE.out; replace this := ite_in_no H3.out this; rw [if_pos rfl] at this; exact (Option.some.inj this).symm
        simp only [Prod.mk.injEq] at hr
        obtain ⟨rfl, rfl, rfl, rfl, rfl, rfl⟩ := hr
        have n1 := HN.out.cells
        have f0 := HR.out.frees
        have f1 := HR.out.cells
        go_wp2
        have HR1 := Aside0.mk (((((HR.out.set 0 (.int .i64 17)).set 1 (.string t2)).set 2 (.string t3)).set 3 (.int .i64 t4)).set 4 (.int .i64 t5))
        simp only [List.setIfInBounds_toArray, List.set_cons_zero, List.set_cons_succ] at HR1
        refine bodyPost_ret (results_cell_tmp rfl _ _ k _ _ rfl HR1.out Try.underlying24 rfl (by kernel_rfl)) rfl ?_
        exact ⟨rfl, by rw [HK.out]; exact ((((HB.out.setCell (p := ⟨k, 0, none⟩) (Nat.le_refl _) _).setCell (p := ⟨k, 1, none⟩) (Nat.le_refl _) _).setCell (p := ⟨k, 2, none⟩) (Nat.le_refl _) _).setCell (p := ⟨k, 3, none⟩) (Nat.le_refl _) _).setCell (p := ⟨k, 4, none⟩) (Nat.le_refl _) _⟩
      | false =>
        as_aux_lemma =>
        have hr : (t1, t2, t3, t4, t5, t6) = flow_bad 5 := by
          have := HE.out; replace this := ite_in_no H3.out this; rw [if_neg (by decide)] at this; exact (Option.some.inj this).symm
        simp only [flow_bad, Prod.mk.injEq] at hr
        obtain ⟨rfl, rfl, rfl, rfl, rfl, rfl⟩ := hr
        have n1 := HN.out.cells
        have f0 := HR.out.frees
        have f1 := HR.out.cells
        go_wp2
        have HR1 := Aside0.mk (((((HR.out.set 0 (.int .i64 0)).set 1 (.string ⟨#[]⟩)).set 2 (.string ⟨#[]⟩)).set 3 (.int .i64 0)).set 4 (.int .i64 0))
        simp only [List.setIfInBounds_toArray, List.set_cons_zero, List.set_cons_succ] at HR1
        refine bodyPost_ret (results_cell_tmp rfl _ _ k _ _ rfl HR1.out Try.underlying24 rfl (by kernel_rfl)) rfl ?_
        exact ⟨rfl, by rw [HK.out]; exact ((((HB.out.setCell (p := ⟨k, 0, none⟩) (Nat.le_refl _) _).setCell (p := ⟨k, 1, none⟩) (Nat.le_refl _) _).setCell (p := ⟨k, 2, none⟩) (Nat.le_refl _) _).setCell (p := ⟨k, 3, none⟩) (Nat.le_refl _) _).setCell (p := ⟨k, 4, none⟩) (Nat.le_refl _) _⟩
set_option maxHeartbeats 8000000 in
set_option maxRecDepth 100000 in
theorem flow_six (s : ByteArray) (r1 r2 r3 r4 : Int) (r5 r6 r7 : ByteArray) (w : World) (t1 : Int) (t2 t3 : ByteArray) (t4 t5 t6 : Int)
    (ho : Calls Try.prog 25 #[.string s] (w.alloc (.cells #[.int .i64 0, .string ⟨#[]⟩, .string ⟨#[]⟩, .int .i64 0, .int .i64 0] 24)) fun e w' => e = .returned (.tuple #[.iface 96 (.agg (cs6 r1 r2 r3 r4 r5 r6)), .string r7, .int .i64 0]) ∧ Below (w.heap.size + 1) (w.alloc (.cells #[.int .i64 0, .string ⟨#[]⟩, .string ⟨#[]⟩, .int .i64 0, .int .i64 0] 24)) w')
    (hf : flow_fin r3 r5 r6 r7 false false = some (t1, t2, t3, t4, t5, t6)) :
    Calls Try.prog 11 #[.string s] w fun e w' => e = .returned (.tuple #[.agg #[.int .i64 t1, .string t2, .string t3, .int .i64 t4, .int .i64 t5], .int .i64 t6]) ∧ Below w.heap.size w w' := by
  have HO := Aside0.mk ho
  have hu := Try.underlying24
  obtain ⟨k, hk⟩ : ∃ k, w.heap.size = k := ⟨_, rfl⟩
  have HK := Aside0.mk (show w.heap.size = k from hk)
  have HB := Aside0.mk ((Below.refl w.heap.size w).alloc (Nat.le_refl _) (.cells #[.int .i64 0, .string ⟨#[]⟩, .string ⟨#[]⟩, .int .i64 0, .int .i64 0] 24))
  have HR := Aside0.mk (Blk.new w 24 #[.int .i64 0, .string ⟨#[]⟩, .string ⟨#[]⟩, .int .i64 0, .int .i64 0])
  have HE := Aside0.mk hf
  clear ho hf
  go_enter Try.func11, Try.ntmps11
  go_wp2_with fail
  refine HO.out.mono ?_
  rintro e w2 ⟨rfl, hb⟩
  replace HB := Aside0.mk (HB.out.trans (hb.mono (by omega)))
  replace HR := Aside0.mk (HR.out.below hb (by omega))
  clear HO hb
  rw [hk] at HB HR
  clear hk
  have m1 := six_m_proto r1 r2 r3 r4 r5 r6
  go_wp2_with fail
  refine (six_proto r1 r2 r3 r4 r5 r6 _).mono ?_
  rintro e w3 ⟨rfl, hb⟩
  replace HB := Aside0.mk (HB.out.trans (hb.mono (by have := HB.out.size; have := HK.out; omega)))
  replace HR := Aside0.mk (HR.out.below hb HR.out.lt)
  clear hb m1
  go_upto_region 5 with (fail)
  have HN := Aside0.mk (Blk.new w3 24 #[.int .i64 r3, .string ⟨#[]⟩, .string ⟨#[]⟩, .int .i64 0, .int .i64 0])
  have HGT := Aside0.mk (show k < w3.heap.size from HR.out.lt)
  replace HR := Aside0.mk (HR.out.alloc (.cells #[.int .i64 r3, .string ⟨#[]⟩, .string ⟨#[]⟩, .int .i64 0, .int .i64 0] 24))
  replace HB := Aside0.mk (HB.out.alloc (by have := HGT.out; omega) (.cells #[.int .i64 r3, .string ⟨#[]⟩, .string ⟨#[]⟩, .int .i64 0, .int .i64 0] 24))
  generalize w3.heap.size = g at HN HGT ⊢
  generalize w3.alloc (.cells #[.int .i64 r3, .string ⟨#[]⟩, .string ⟨#[]⟩, .int .i64 0, .int .i64 0] 24) = w4 at HN HR HB ⊢
  have m2 := six_m_ends r1 r2 r3 r4 r5 r6
  go_wp2_with fail
  refine (six_ends r1 r2 r3 r4 r5 r6 _).mono ?_
  rintro e w5 ⟨rfl, hb⟩
  replace HB := Aside0.mk (HB.out.trans (hb.mono (by have := HB.out.size; have := HK.out; omega)))
  replace HR := Aside0.mk (HR.out.below hb HR.out.lt)
  replace HN := Aside0.mk (HN.out.below hb HN.out.lt)
  clear hb m2
  have n0 := HN.out.frees
  have n1 := HN.out.cells
  go_upto_region 6 with (fail)
  clear n0 n1
  replace HR := Aside0.mk ((HR.out.other ⟨g, 1, none⟩ (by have := HGT.out; simp; omega) (.string r5)).other ⟨g, 2, none⟩ (by have := HGT.out; simp; omega) (.string r6))
  replace HB := Aside0.mk ((HB.out.setCell (p := ⟨g, 1, none⟩) (by have := HGT.out; simp; omega) (.string r5)).setCell (p := ⟨g, 2, none⟩) (by have := HGT.out; simp; omega) (.string r6))
  replace HN := Aside0.mk ((HN.out.set 1 (.string r5)).set 2 (.string r6))
  simp only [List.setIfInBounds_toArray, List.set_cons_zero, List.set_cons_succ] at HN
  generalize (w5.setCell ⟨g, 1, none⟩ (.string r5)).setCell ⟨g, 2, none⟩ (.string r6) = w6 at HN HR HB ⊢
  have m3 := six_m_piece r1 r2 r3 r4 r5 r6
  go_wp2_with fail
  refine (six_piece r1 r2 r3 r4 r5 r6 _).mono ?_
  rintro e w7 ⟨rfl, hb⟩
  replace HB := Aside0.mk (HB.out.trans (hb.mono (by have := HB.out.size; have := HK.out; omega)))
  replace HR := Aside0.mk (HR.out.below hb HR.out.lt)
  replace HN := Aside0.mk (HN.out.below hb HN.out.lt)
  clear hb m3
  have HP := Aside0.mk (show false = false from rfl)
  by_cases h6 : r3 ≠ 6 ∧ r3 ≠ 17
  · as_aux_lemma =>
    have hr : (t1, t2, t3, t4, t5, t6) = flow_bad 6 := by
      have := HE.out; unfold flow_fin at this; rw [if_neg (by decide), if_pos h6] at this; exact (Option.some.inj this).symm
    simp only [flow_bad, Prod.mk.injEq] at hr
    obtain ⟨rfl, rfl, rfl, rfl, rfl, rfl⟩ := hr
    have d1 : (r3 != 6) = true := bne_iff_ne.mpr h6.1
    have d2 : (r3 != 17) = true := bne_iff_ne.mpr h6.2
    clear h6
    have n1 := HN.out.cells
    have f0 := HR.out.frees
    have f1 := HR.out.cells
    go_wp2
    have HR1 := Aside0.mk (((((HR.out.set 0 (.int .i64 0)).set 1 (.string ⟨#[]⟩)).set 2 (.string ⟨#[]⟩)).set 3 (.int .i64 0)).set 4 (.int .i64 0))
    simp only [List.setIfInBounds_toArray, List.set_cons_zero, List.set_cons_succ] at HR1
    refine bodyPost_ret (results_cell_tmp rfl _ _ k _ _ rfl HR1.out Try.underlying24 rfl (by kernel_rfl)) rfl ?_
    exact ⟨rfl, by rw [HK.out]; exact ((((HB.out.setCell (p := ⟨k, 0, none⟩) (Nat.le_refl _) _).setCell (p := ⟨k, 1, none⟩) (Nat.le_refl _) _).setCell (p := ⟨k, 2, none⟩) (Nat.le_refl _) _).setCell (p := ⟨k, 3, none⟩) (Nat.le_refl _) _).setCell (p := ⟨k, 4, none⟩) (Nat.le_refl _) _⟩
  have hq : r3 = 6 ∨ r3 = 17 := by
    by_cases e6 : r3 = 6
    · left; exact e6
    · right; exact Classical.not_not.1 fun h => h6 ⟨e6, h⟩
  have HQ := Aside0.mk h6
  clear h6
  rcases hq with rfl | rfl
  · as_aux_lemma =>
    have hE : ((flow_ports.f 6 r7).bind fun q => if q.2.2.2 ≠ 0 then some (flow_bad q.2.2.2) else (sum_Pseudo.f r5 r6 6 r7.size).bind fun ps => (sum_Right.f [ps, r7]).bind fun r => if (if (6 : Int) = 17 ∧ q.2.2.1 = 0 then false else r) = true then some (6, r5, r6, q.1, q.2.1, 0) else some (flow_bad 5)) = some (t1, t2, t3, t4, t5, t6) := by
      have := HE.out; unfold flow_fin at this; rw [if_neg (by decide), if_neg HQ.out] at this; exact this
    obtain ⟨⟨p1, p2, p3, p4⟩, hp1, hE⟩ := Option.bind_eq_some_iff.1 hE
    have HPP := Aside0.mk hp1
    replace hE : (if p4 ≠ 0 then some (flow_bad p4) else (sum_Pseudo.f r5 r6 6 r7.size).bind fun ps => (sum_Right.f [ps, r7]).bind fun r => if (if (6 : Int) = 17 ∧ p3 = 0 then false else r) = true then some (6, r5, r6, p1, p2, 0) else some (flow_bad 5)) = some (t1, t2, t3, t4, t5, t6) := hE
    clear HE hp1 HQ
    have HE := Aside0.mk hE
    clear hE
    have n1 := HN.out.cells
    go_wp2_with fail
    refine (flow_ports.calls 6 r7 p1 p2 p3 p4 _ HPP.out).mono ?_
    rintro e w8 ⟨rfl, hb⟩
    replace HB := Aside0.mk (HB.out.trans (hb.mono (by have := HB.out.size; have := HK.out; omega)))
    replace HR := Aside0.mk (HR.out.below hb HR.out.lt)
    replace HN := Aside0.mk (HN.out.below hb HN.out.lt)
    clear hb n1
    have n0 := HN.out.frees
    have n1 := HN.out.cells
    go_upto_region 12 with (fail)
    clear n0 n1
    replace HR := Aside0.mk ((HR.out.other ⟨g, 3, none⟩ (by have := HGT.out; simp; omega) (.int .i64 p1)).other ⟨g, 4, none⟩ (by have := HGT.out; simp; omega) (.int .i64 p2))
    replace HB := Aside0.mk ((HB.out.setCell (p := ⟨g, 3, none⟩) (by have := HGT.out; simp; omega) (.int .i64 p1)).setCell (p := ⟨g, 4, none⟩) (by have := HGT.out; simp; omega) (.int .i64 p2))
    replace HN := Aside0.mk ((HN.out.set 3 (.int .i64 p1)).set 4 (.int .i64 p2))
    simp only [List.setIfInBounds_toArray, List.set_cons_zero, List.set_cons_succ] at HN
    generalize (w8.setCell ⟨g, 3, none⟩ (.int .i64 p1)).setCell ⟨g, 4, none⟩ (.int .i64 p2) = w9 at HN HR HB ⊢
    by_cases h4 : p4 = 0
    case neg =>
      as_aux_lemma =>
      have hr : (t1, t2, t3, t4, t5, t6) = flow_bad p4 := by
        have := HE.out; rw [if_pos h4] at this; exact (Option.some.inj this).symm
      simp only [flow_bad, Prod.mk.injEq] at hr
      obtain ⟨rfl, rfl, rfl, rfl, rfl, rfl⟩ := hr
      have d1 : (t6 != 0) = true := bne_iff_ne.mpr h4
      clear h4 HE HPP
      have f0 := HR.out.frees
      have f1 := HR.out.cells
      go_wp2
      have HR1 := Aside0.mk (((((HR.out.set 0 (.int .i64 0)).set 1 (.string ⟨#[]⟩)).set 2 (.string ⟨#[]⟩)).set 3 (.int .i64 0)).set 4 (.int .i64 0))
      simp only [List.setIfInBounds_toArray, List.set_cons_zero, List.set_cons_succ] at HR1
      refine bodyPost_ret (results_cell_tmp rfl _ _ k _ _ rfl HR1.out Try.underlying24 rfl (by kernel_rfl)) rfl ?_
      exact ⟨rfl, by rw [HK.out]; exact ((((HB.out.setCell (p := ⟨k, 0, none⟩) (Nat.le_refl _) _).setCell (p := ⟨k, 1, none⟩) (Nat.le_refl _) _).setCell (p := ⟨k, 2, none⟩) (Nat.le_refl _) _).setCell (p := ⟨k, 3, none⟩) (Nat.le_refl _) _).setCell (p := ⟨k, 4, none⟩) (Nat.le_refl _) _⟩
    subst h4
    have hE : ((sum_Pseudo.f r5 r6 6 r7.size).bind fun ps => (sum_Right.f [ps, r7]).bind fun r => if (if (6 : Int) = 17 ∧ p3 = 0 then false else r) = true then some (6, r5, r6, p1, p2, 0) else some (flow_bad 5)) = some (t1, t2, t3, t4, t5, t6) := by have := HE.out; rw [if_neg (by decide)] at this; exact this
    obtain ⟨ps, hps, hE⟩ := Option.bind_eq_some_iff.1 hE
    obtain ⟨rt, hrt, hE⟩ := Option.bind_eq_some_iff.1 hE
    have HPS := Aside0.mk hps
    have HRT := Aside0.mk hrt
    clear HE hps hrt HPP
    have HE := Aside0.mk hE
    clear hE
    have n1 := HN.out.cells
    go_wp2_with fail
    refine (sum_Pseudo.calls r5 r6 6 (r7.size : Int) ps _ HPS.out).mono ?_
    rintro e w10 ⟨rfl, hb⟩
    replace HB := Aside0.mk (HB.out.trans (hb.mono (by have := HB.out.size; have := HK.out; omega)))
    replace HR := Aside0.mk (HR.out.below hb HR.out.lt)
    replace HN := Aside0.mk (HN.out.below hb HN.out.lt)
    clear hb n1
    go_wp2_with fail
    refine (sum_Right.calls _ _ [ps, r7] rt _ (C_two _ _ _ _) (by simp) HRT.out).mono ?_
    rintro e w11 ⟨rfl, hb⟩
    replace HR := Aside0.mk ((HR.out.alloc _).below hb (HR.out.alloc _).lt)
    replace HN := Aside0.mk ((HN.out.alloc _).below hb (HN.out.alloc _).lt)
    replace HB := Aside0.mk ((HB.out.alloc (by have := HB.out.size; have := HK.out; omega) _).trans (hb.mono (by have := HB.out.size; have := HK.out; simp; omega)))
    clear hb HRT HPS
    cases rt with
    | true =>
      as_aux_lemma =>
      have hr : (t1, t2, t3, t4, t5, t6) = (6, r5, r6, p1, p2, 0) := by
        have := HE.out; replace this := ite_in_no (fun h => absurd h.1 (by decide)) this; rw [if_pos rfl] at this; exact (Option.some.inj this).symm
      simp only [Prod.mk.injEq] at hr
      obtain ⟨rfl, rfl, rfl, rfl, rfl, rfl⟩ := hr
      have n1 := HN.out.cells
      have f0 := HR.out.frees
      have f1 := HR.out.cells
      go_wp2
      have HR1 := Aside0.mk (((((HR.out.set 0 (.int .i64 6)).set 1 (.string t2)).set 2 (.string t3)).set 3 (.int .i64 t4)).set 4 (.int .i64 t5))
      simp only [List.setIfInBounds_toArray, List.set_cons_zero, List.set_cons_succ] at HR1
      refine bodyPost_ret (results_cell_tmp rfl _ _ k _ _ rfl HR1.out Try.underlying24 rfl (by kernel_rfl)) rfl ?_
      exact ⟨rfl, by rw [HK.out]; exact ((((HB.out.setCell (p := ⟨k, 0, none⟩) (Nat.le_refl _) _).setCell (p := ⟨k, 1, none⟩) (Nat.le_refl _) _).setCell (p := ⟨k, 2, none⟩) (Nat.le_refl _) _).setCell (p := ⟨k, 3, none⟩) (Nat.le_refl _) _).setCell (p := ⟨k, 4, none⟩) (Nat.le_refl _) _⟩
    | false =>
      as_aux_lemma =>
      have hr : (t1, t2, t3, t4, t5, t6) = flow_bad 5 := by
        have := HE.out; replace this := ite_in_no (fun h => absurd h.1 (by decide)) this; rw [if_neg (by decide)] at this; exact (Option.some.inj this).symm
      simp only [flow_bad, Prod.mk.injEq] at hr
      obtain ⟨rfl, rfl, rfl, rfl, rfl, rfl⟩ := hr
      have n1 := HN.out.cells
      have f0 := HR.out.frees
      have f1 := HR.out.cells
      go_wp2
      have HR1 := Aside0.mk (((((HR.out.set 0 (.int .i64 0)).set 1 (.string ⟨#[]⟩)).set 2 (.string ⟨#[]⟩)).set 3 (.int .i64 0)).set 4 (.int .i64 0))
      simp only [List.setIfInBounds_toArray, List.set_cons_zero, List.set_cons_succ] at HR1
      refine bodyPost_ret (results_cell_tmp rfl _ _ k _ _ rfl HR1.out Try.underlying24 rfl (by kernel_rfl)) rfl ?_
      exact ⟨rfl, by rw [HK.out]; exact ((((HB.out.setCell (p := ⟨k, 0, none⟩) (Nat.le_refl _) _).setCell (p := ⟨k, 1, none⟩) (Nat.le_refl _) _).setCell (p := ⟨k, 2, none⟩) (Nat.le_refl _) _).setCell (p := ⟨k, 3, none⟩) (Nat.le_refl _) _).setCell (p := ⟨k, 4, none⟩) (Nat.le_refl _) _⟩
  · as_aux_lemma =>
    have hE : ((flow_ports.f 17 r7).bind fun q => if q.2.2.2 ≠ 0 then some (flow_bad q.2.2.2) else (sum_Pseudo.f r5 r6 17 r7.size).bind fun ps => (sum_Right.f [ps, r7]).bind fun r => if (if q.2.2.1 = 0 then false else r) = true then some (17, r5, r6, q.1, q.2.1, 0) else some (flow_bad 5)) = some (t1, t2, t3, t4, t5, t6) := by
      have := HE.out; unfold flow_fin at this; rw [if_neg (by decide), if_neg HQ.out] at this; simpa only [eq_self, true_and] using this
    obtain ⟨⟨p1, p2, p3, p4⟩, hp1, hE⟩ := Option.bind_eq_some_iff.1 hE
    have HPP := Aside0.mk hp1
    replace hE : (if p4 ≠ 0 then some (flow_bad p4) else (sum_Pseudo.f r5 r6 17 r7.size).bind fun ps => (sum_Right.f [ps, r7]).bind fun r => if (if p3 = 0 then false else r) = true then some (17, r5, r6, p1, p2, 0) else some (flow_bad 5)) = some (t1, t2, t3, t4, t5, t6) := hE
    clear HE hp1 HQ
    have HE := Aside0.mk hE
    clear hE
    have n1 := HN.out.cells
    go_wp2_with fail
    refine (flow_ports.calls 17 r7 p1 p2 p3 p4 _ HPP.out).mono ?_
    rintro e w8 ⟨rfl, hb⟩
    replace HB := Aside0.mk (HB.out.trans (hb.mono (by have := HB.out.size; have := HK.out; omega)))
    replace HR := Aside0.mk (HR.out.below hb HR.out.lt)
    replace HN := Aside0.mk (HN.out.below hb HN.out.lt)
    clear hb n1
    have n0 := HN.out.frees
    have n1 := HN.out.cells
    go_upto_region 12 with (fail)
    clear n0 n1
    replace HR := Aside0.mk ((HR.out.other ⟨g, 3, none⟩ (by have := HGT.out; simp; omega) (.int .i64 p1)).other ⟨g, 4, none⟩ (by have := HGT.out; simp; omega) (.int .i64 p2))
    replace HB := Aside0.mk ((HB.out.setCell (p := ⟨g, 3, none⟩) (by have := HGT.out; simp; omega) (.int .i64 p1)).setCell (p := ⟨g, 4, none⟩) (by have := HGT.out; simp; omega) (.int .i64 p2))
    replace HN := Aside0.mk ((HN.out.set 3 (.int .i64 p1)).set 4 (.int .i64 p2))
    simp only [List.setIfInBounds_toArray, List.set_cons_zero, List.set_cons_succ] at HN
    generalize (w8.setCell ⟨g, 3, none⟩ (.int .i64 p1)).setCell ⟨g, 4, none⟩ (.int .i64 p2) = w9 at HN HR HB ⊢
    by_cases h4 : p4 = 0
    case neg =>
      as_aux_lemma =>
      have hr : (t1, t2, t3, t4, t5, t6) = flow_bad p4 := by
        have := HE.out; rw [if_pos h4] at this; exact (Option.some.inj this).symm
      simp only [flow_bad, Prod.mk.injEq] at hr
      obtain ⟨rfl, rfl, rfl, rfl, rfl, rfl⟩ := hr
      have d1 : (t6 != 0) = true := bne_iff_ne.mpr h4
      clear h4 HE HPP
      have f0 := HR.out.frees
      have f1 := HR.out.cells
      go_wp2
      have HR1 := Aside0.mk (((((HR.out.set 0 (.int .i64 0)).set 1 (.string ⟨#[]⟩)).set 2 (.string ⟨#[]⟩)).set 3 (.int .i64 0)).set 4 (.int .i64 0))
      simp only [List.setIfInBounds_toArray, List.set_cons_zero, List.set_cons_succ] at HR1
      refine bodyPost_ret (results_cell_tmp rfl _ _ k _ _ rfl HR1.out Try.underlying24 rfl (by kernel_rfl)) rfl ?_
      exact ⟨rfl, by rw [HK.out]; exact ((((HB.out.setCell (p := ⟨k, 0, none⟩) (Nat.le_refl _) _).setCell (p := ⟨k, 1, none⟩) (Nat.le_refl _) _).setCell (p := ⟨k, 2, none⟩) (Nat.le_refl _) _).setCell (p := ⟨k, 3, none⟩) (Nat.le_refl _) _).setCell (p := ⟨k, 4, none⟩) (Nat.le_refl _) _⟩
    subst h4
    have hE : ((sum_Pseudo.f r5 r6 17 r7.size).bind fun ps => (sum_Right.f [ps, r7]).bind fun r => if (if p3 = 0 then false else r) = true then some (17, r5, r6, p1, p2, 0) else some (flow_bad 5)) = some (t1, t2, t3, t4, t5, t6) := by have := HE.out; rw [if_neg (by decide)] at this; exact this
    obtain ⟨ps, hps, hE⟩ := Option.bind_eq_some_iff.1 hE
    obtain ⟨rt, hrt, hE⟩ := Option.bind_eq_some_iff.1 hE
    have HPS := Aside0.mk hps
    have HRT := Aside0.mk hrt
    clear HE hps hrt HPP
    have HE := Aside0.mk hE
    clear hE
    have n1 := HN.out.cells
    go_wp2_with fail
    refine (sum_Pseudo.calls r5 r6 17 (r7.size : Int) ps _ HPS.out).mono ?_
    rintro e w10 ⟨rfl, hb⟩
    replace HB := Aside0.mk (HB.out.trans (hb.mono (by have := HB.out.size; have := HK.out; omega)))
    replace HR := Aside0.mk (HR.out.below hb HR.out.lt)
    replace HN := Aside0.mk (HN.out.below hb HN.out.lt)
    clear hb n1
    go_wp2_with fail
    refine (sum_Right.calls _ _ [ps, r7] rt _ (C_two _ _ _ _) (by simp) HRT.out).mono ?_
    rintro e w11 ⟨rfl, hb⟩
    replace HR := Aside0.mk ((HR.out.alloc _).below hb (HR.out.alloc _).lt)
    replace HN := Aside0.mk ((HN.out.alloc _).below hb (HN.out.alloc _).lt)
    replace HB := Aside0.mk ((HB.out.alloc (by have := HB.out.size; have := HK.out; omega) _).trans (hb.mono (by have := HB.out.size; have := HK.out; simp; omega)))
    clear hb HRT HPS
    by_cases h3 : p3 = 0
    · subst h3
      have n1 := HN.out.cells
      have m4 := six_m_bare r1 r2 17 r4 r5 r6
      go_wp2_with fail
      refine (six_bare r1 r2 17 r4 r5 r6 _).mono ?_
      rintro e w12 ⟨rfl, hb⟩
      replace HB := Aside0.mk (HB.out.trans (hb.mono (by have := HB.out.size; have := HK.out; omega)))
      replace HR := Aside0.mk (HR.out.below hb HR.out.lt)
      replace HN := Aside0.mk (HN.out.below hb HN.out.lt)
      clear hb m4 n1
      have hr : (t1, t2, t3, t4, t5, t6) = flow_bad 5 := by
        have := HE.out; replace this := ite_in_yes (by first | trivial | rfl) this; rw [if_neg (by decide)] at this; exact (Option.some.inj this).symm
      simp only [flow_bad, Prod.mk.injEq] at hr
      obtain ⟨rfl, rfl, rfl, rfl, rfl, rfl⟩ := hr
      have n1 := HN.out.cells
      have f0 := HR.out.frees
      have f1 := HR.out.cells
      go_wp2
      have HR1 := Aside0.mk (((((HR.out.set 0 (.int .i64 0)).set 1 (.string ⟨#[]⟩)).set 2 (.string ⟨#[]⟩)).set 3 (.int .i64 0)).set 4 (.int .i64 0))
      simp only [List.setIfInBounds_toArray, List.set_cons_zero, List.set_cons_succ] at HR1
      refine bodyPost_ret (results_cell_tmp rfl _ _ k _ _ rfl HR1.out Try.underlying24 rfl (by kernel_rfl)) rfl ?_
      exact ⟨rfl, by rw [HK.out]; exact ((((HB.out.setCell (p := ⟨k, 0, none⟩) (Nat.le_refl _) _).setCell (p := ⟨k, 1, none⟩) (Nat.le_refl _) _).setCell (p := ⟨k, 2, none⟩) (Nat.le_refl _) _).setCell (p := ⟨k, 3, none⟩) (Nat.le_refl _) _).setCell (p := ⟨k, 4, none⟩) (Nat.le_refl _) _⟩
    · have e3 : (p3 == 0) = false := beq_eq_false_iff_ne.mpr h3
      have H3 := Aside0.mk h3
      clear h3
      cases rt with
      | true =>
        as_aux_lemma =>
        have hr : (t1, t2, t3, t4, t5, t6) = (17, r5, r6, p1, p2, 0) := by
          have := HE.out; replace this := ite_in_no H3.out this; rw [if_pos rfl] at this; exact (Option.some.inj this).symm
        simp only [Prod.mk.injEq] at hr
        obtain ⟨rfl, rfl, rfl, rfl, rfl, rfl⟩ := hr
        have n1 := HN.out.cells
        have f0 := HR.out.frees
        have f1 := HR.out.cells
        go_wp2
        have HR1 := Aside0.mk (((((HR.out.set 0 (.int .i64 17)).set 1 (.string t2)).set 2 (.string t3)).set 3 (.int .i64 t4)).set 4 (.int .i64 t5))
        simp only [List.setIfInBounds_toArray, List.set_cons_zero, List.set_cons_succ] at HR1
        refine bodyPost_ret (results_cell_tmp rfl _ _ k _ _ rfl HR1.out Try.underlying24 rfl (by kernel_rfl)) rfl ?_
        exact ⟨rfl, by rw [HK.out]; exact ((((HB.out.setCell (p := ⟨k, 0, none⟩) (Nat.le_refl _) _).setCell (p := ⟨k, 1, none⟩) (Nat.le_refl _) _).setCell (p := ⟨k, 2, none⟩) (Nat.le_refl _) _).setCell (p := ⟨k, 3, none⟩) (Nat.le_refl _) _).setCell (p := ⟨k, 4, none⟩) (Nat.le_refl _) _⟩
      | false =>
        as_aux_lemma =>
        have hr : (t1, t2, t3, t4, t5, t6) = flow_bad 5 := by
          have := HE.out; replace this := ite_in_no H3.out this; rw [if_neg (by decide)] at this; exact (Option.some.inj this).symm
        simp only [flow_bad, Prod.mk.injEq] at hr
        obtain ⟨rfl, rfl, rfl, rfl, rfl, rfl⟩ := hr
        have n1 := HN.out.cells
        have f0 := HR.out.frees
        have f1 := HR.out.cells
        go_wp2
        have HR1 := Aside0.mk (((((HR.out.set 0 (.int .i64 0)).set 1 (.string ⟨#[]⟩)).set 2 (.string ⟨#[]⟩)).set 3 (.int .i64 0)).set 4 (.int .i64 0))
        simp only [List.setIfInBounds_toArray, List.set_cons_zero, List.set_cons_succ] at HR1
        refine bodyPost_ret (results_cell_tmp rfl _ _ k _ _ rfl HR1.out Try.underlying24 rfl (by kernel_rfl)) rfl ?_
        exact ⟨rfl, by rw [HK.out]; exact ((((HB.out.setCell (p := ⟨k, 0, none⟩) (Nat.le_refl _) _).setCell (p := ⟨k, 1, none⟩) (Nat.le_refl _) _).setCell (p := ⟨k, 2, none⟩) (Nat.le_refl _) _).setCell (p := ⟨k, 3, none⟩) (Nat.le_refl _) _).setCell (p := ⟨k, 4, none⟩) (Nat.le_refl _) _⟩
set_option maxHeartbeats 4000000 in
set_option maxRecDepth 100000 in
theorem flow_err (s : ByteArray) (v : Value) (pl : ByteArray) (x : Int) (hx : x ≠ 0) (w : World)
    (ho : Calls Try.prog 25 #[.string s] (w.alloc (.cells #[.int .i64 0, .string ⟨#[]⟩, .string ⟨#[]⟩, .int .i64 0, .int .i64 0] 24)) fun e w' => e = .returned (.tuple #[v, .string pl, .int .i64 x]) ∧ Below (w.heap.size + 1) (w.alloc (.cells #[.int .i64 0, .string ⟨#[]⟩, .string ⟨#[]⟩, .int .i64 0, .int .i64 0] 24)) w') :
    Calls Try.prog 11 #[.string s] w fun e w' => e = .returned (.tuple #[.agg #[.int .i64 0, .string ⟨#[]⟩, .string ⟨#[]⟩, .int .i64 0, .int .i64 0], .int .i64 x]) ∧ Below w.heap.size w w' := by
  have HO := Aside0.mk ho
  have hu := Try.underlying24
  obtain ⟨k, hk⟩ : ∃ k, w.heap.size = k := ⟨_, rfl⟩
  have HK := Aside0.mk (show w.heap.size = k from hk)
  have HB := Aside0.mk ((Below.refl w.heap.size w).alloc (Nat.le_refl _) (.cells #[.int .i64 0, .string ⟨#[]⟩, .string ⟨#[]⟩, .int .i64 0, .int .i64 0] 24))
  have HR := Aside0.mk (Blk.new w 24 #[.int .i64 0, .string ⟨#[]⟩, .string ⟨#[]⟩, .int .i64 0, .int .i64 0])
  have d1 : (x != 0) = true := bne_iff_ne.mpr hx
  clear ho hx
  go_enter Try.func11, Try.ntmps11
  go_wp2_with fail
  refine HO.out.mono ?_
  rintro e w2 ⟨rfl, hb⟩
  replace HB := Aside0.mk (HB.out.trans (hb.mono (by omega)))
  replace HR := Aside0.mk (HR.out.below hb (by omega))
  clear HO hb
  rw [hk] at HB HR
  clear hk
  have f0 := HR.out.frees
  have f1 := HR.out.cells
  go_wp2
  have HR1 := Aside0.mk (((((HR.out.set 0 (.int .i64 0)).set 1 (.string ⟨#[]⟩)).set 2 (.string ⟨#[]⟩)).set 3 (.int .i64 0)).set 4 (.int .i64 0))
  simp only [List.setIfInBounds_toArray, List.set_cons_zero, List.set_cons_succ] at HR1
  refine bodyPost_ret (results_cell_tmp rfl _ _ k _ _ rfl HR1.out Try.underlying24 rfl (by kernel_rfl)) rfl ?_
  exact ⟨rfl, by rw [HK.out]; exact ((((HB.out.setCell (p := ⟨k, 0, none⟩) (Nat.le_refl _) _).setCell (p := ⟨k, 1, none⟩) (Nat.le_refl _) _).setCell (p := ⟨k, 2, none⟩) (Nat.le_refl _) _).setCell (p := ⟨k, 3, none⟩) (Nat.le_refl _) _).setCell (p := ⟨k, 4, none⟩) (Nat.le_refl _) _⟩
theorem open_at {s : ByteArray} {w : World} {v : Value} (h : Calls Try.prog 25 #[.string s] (w.alloc (.cells #[.int .i64 0, .string ⟨#[]⟩, .string ⟨#[]⟩, .int .i64 0, .int .i64 0] 24)) fun e w' => e = .returned v ∧ Below (w.alloc (.cells #[.int .i64 0, .string ⟨#[]⟩, .string ⟨#[]⟩, .int .i64 0, .int .i64 0] 24)).heap.size (w.alloc (.cells #[.int .i64 0, .string ⟨#[]⟩, .string ⟨#[]⟩, .int .i64 0, .int .i64 0] 24)) w') :
    Calls Try.prog 25 #[.string s] (w.alloc (.cells #[.int .i64 0, .string ⟨#[]⟩, .string ⟨#[]⟩, .int .i64 0, .int .i64 0] 24)) fun e w' => e = .returned v ∧ Below (w.heap.size + 1) (w.alloc (.cells #[.int .i64 0, .string ⟨#[]⟩, .string ⟨#[]⟩, .int .i64 0, .int .i64 0] 24)) w' := by
  rw [World.size_alloc] at h; exact h
theorem flow_Get.calls (s : ByteArray) (r1 : Int) (r2 r3 : ByteArray) (r4 r5 r6 : Int) (w : World) (h : flow_Get.f s = some (r1, r2, r3, r4, r5, r6)) :
    Calls Try.prog 11 #[.string s] w fun e w' => e = .returned (.tuple #[.agg #[.int .i64 r1, .string r2, .string r3, .int .i64 r4, .int .i64 r5], .int .i64 r6]) ∧ Below w.heap.size w w' := by
  unfold flow_Get.f at h
  have inj : ∀ e : Int, some (flow_bad e) = some (r1, r2, r3, r4, r5, r6) → r1 = 0 ∧ r2 = ⟨#[]⟩ ∧ r3 = ⟨#[]⟩ ∧ r4 = 0 ∧ r5 = 0 ∧ r6 = e := fun e h => by
    have := Option.some.inj h
    simp only [flow_bad, Prod.mk.injEq] at this
    obtain ⟨h1, h2, h3, h4, h5, h6⟩ := this
    exact ⟨h1.symm, h2.symm, h3.symm, h4.symm, h5.symm, h6.symm⟩
  by_cases h0 : s.size = 0
  · rw [if_pos h0] at h
    obtain ⟨rfl, rfl, rfl, rfl, rfl, rfl⟩ := inj _ h
    exact flow_err s _ _ _ (by decide) w (open_at (open_none s _ h0))
  rw [if_neg h0] at h
  by_cases h4 : bt s 0 / 16 = 4
  · rw [if_pos h4] at h
    obtain ⟨⟨q1, q2, q3, q4, q5, q6, q7, q8, q9, q10, q11, q12⟩, hg, h⟩ := Option.bind_eq_some_iff.1 h
    by_cases he : q12 = 0
    · subst he
      rw [if_neg (fun h' => h' rfl)] at h
      exact flow_four s q1 q2 q3 q4 q5 q6 q7 q8 q9 q10 q11 w _ _ _ _ _ _ (open_at (open_four s _ h0 h4 hg)) h
    · rw [if_pos he] at h
      obtain ⟨rfl, rfl, rfl, rfl, rfl, rfl⟩ := inj _ h
      exact flow_err s _ _ _ he w (open_at (open_four s _ h0 h4 hg))
  rw [if_neg h4] at h
  by_cases h6 : bt s 0 / 16 = 6
  · rw [if_pos h6] at h
    obtain ⟨⟨q1, q2, q3, q4, q5, q6, q7, q8⟩, hg, h⟩ := Option.bind_eq_some_iff.1 h
    by_cases he : q8 = 0
    · subst he
      rw [if_neg (fun h' => h' rfl)] at h
      exact flow_six s q1 q2 q3 q4 q5 q6 q7 w _ _ _ _ _ _ (open_at (open_six s _ h0 h6 hg)) h
    · rw [if_pos he] at h
      obtain ⟨rfl, rfl, rfl, rfl, rfl, rfl⟩ := inj _ h
      exact flow_err s _ _ _ he w (open_at (open_six s _ h0 h6 hg))
  rw [if_neg h6] at h
  obtain ⟨rfl, rfl, rfl, rfl, rfl, rfl⟩ := inj _ h
  exact flow_err s _ _ _ (by decide) w (open_at (open_other s _ h0 h4 h6))
end Go.Proofs.Ytcmalglippmocaa.G
end

section
namespace Go.Proofs.Ytcmalglippmocaa.Pal
open Go.RowKit Go.Proofs.Ytcmalglippmocaa.G Go.Proofs.Ytcmalglippmocaa.Pure
def hitI (x : Int × ByteArray) : Bool := (bl x.2).getD 0 0 == 2 && x.2.size == 4
def valI (x : Int × ByteArray) : Int × Int := (((((bl x.2).getD 2 0).toNat * 256 + ((bl x.2).getD 3 0).toNat : Nat) : Int), wrap64 (x.1 + 2))
def found (l : List (Int × ByteArray)) : Option (Int × Int) := (l.find? hitI).map valI
theorem found_miss {l : List (Int × ByteArray)} {x : Int × ByteArray} (h : found l = none) (hx : hitI x = false) : found (l ++ [x]) = none := by
  unfold found at *
  rw [List.find?_append, Option.map_eq_none_iff.mp h]
  simp [hx]
theorem found_hit {l : List (Int × ByteArray)} {x : Int × ByteArray} (h : found l = none) (hx : hitI x = true) : found (l ++ [x]) = some (valI x) := by
  unfold found at *
  rw [List.find?_append, Option.map_eq_none_iff.mp h]
  simp [hx]
theorem found_prefix {l m : List (Int × ByteArray)} {v : Int × Int} (hp : l <+: m) (h : found l = some v) : found m = some v := by
  obtain ⟨t, rfl⟩ := hp
  unfold found at *
  rw [List.find?_append]
  obtain ⟨x, hx, hv⟩ := Option.map_eq_some_iff.mp h
  rw [hx]
  simp [hv]
theorem item_byte (s : ByteArray) (p : Nat × Nat) (k : Nat) (h : p.1 + p.2 ≤ (bl s).length) (hk : k < p.2) : (bl (itemOf s p).2).getD k 0 = (bl s).getD (p.1 + k) 0 := by
  have e : bl (s.extract p.1 (p.1 + p.2)) = ((bl s).take (p.1 + p.2)).drop p.1 := by simp [bl, ByteArray.data_extract, List.drop_take]
  unfold itemOf
  dsimp only
  rw [e]
  simp [List.getD_eq_getElem?_getD, List.getElem?_drop, List.getElem?_take, hk]
theorem item_size (s : ByteArray) (p : Nat × Nat) (h : p.1 + p.2 ≤ (bl s).length) : (itemOf s p).2.size = p.2 := by
  rw [bl_length] at h
  unfold itemOf; dsimp only
  simp only [ByteArray.size_extract]; omega
theorem found_is (s : ByteArray) (hs : s.size ≤ 140737488351232) {L : List (Nat × Nat)} (hL : W (bl s) 0 = some L) : found (items s 0) = (mssOf (bl s)).map fun p => ((p.1 : Int), (p.2 : Int)) := by
  rw [items_right s 0 L hL, mssOf_of hL]
  have hm := W_mem 0 L hL
  clear hL
  unfold found
  induction L with
  | nil => rfl
  | cons p L ih =>
    have hp := hm p List.mem_cons_self
    have e : hitI (itemOf s p) = isMSS (bl s) p := by
      unfold hitI isMSS
      rw [item_byte s p 0 hp.2.1 (by omega), item_size s p hp.2.1]
      rfl
    rw [List.map_cons, List.find?_cons, List.find?_cons, e]
    cases hx : isMSS (bl s) p with
    | false => exact ih fun q hq => hm q (List.mem_cons_of_mem _ hq)
    | true =>
      have h4 : p.2 = 4 := by
        unfold isMSS at hx
        simp only [Bool.and_eq_true, beq_iff_eq] at hx
        exact hx.2
      have hb := bl_length s
      simp only [Option.map_some, valI, mssAt]
      rw [item_byte s p 2 hp.2.1 (by omega), item_byte s p 3 hp.2.1 (by omega)]
      congr 2
      unfold itemOf; dsimp only
      unfold wrap64; omega
theorem items_some (s : ByteArray) (h : rightO (bl s) = true) : ∀ x ∈ items s 0, 0 < x.2.size := by
  obtain ⟨L, hL⟩ := rightO_some h
  rw [items_right s 0 L hL]
  intro x hx
  obtain ⟨p, hp, rfl⟩ := List.mem_map.mp hx
  have hm := W_mem 0 L hL p hp
  rw [item_size s p hm.2.1]; omega
end Go.Proofs.Ytcmalglippmocaa.Pal
end

section
namespace Go.Proofs.Ytcmalglippmocaa.G
open Go.RowKit Go.Shelf Go.Proofs.YtcmalglippmocaaW.PrintWords Go.Proofs.YtcmalglippmocaaW.PrintLast Go.Proofs.YtcmalglippmocaaW.PrintMore Go.Proofs.Ytcmalglippmocaa.Pal
attribute [local go_sem] Oper.semAt_some
abbrev Res3 (k : Nat) (a b : Int) (c : Bool) : List (Nat × TypeId × Array Value) := [(k, 3, #[.int .i64 a]), (k + 1, 3, #[.int .i64 b]), (k + 1 + 1, 4, #[.bool c])]
theorem res3_new (w : World) : Hp (((w.alloc (.cells #[.int .i64 0] 3)).alloc (.cells #[.int .i64 0] 3)).alloc (.cells #[.bool false] 4)) (Res3 w.heap.size 0 0 false) := by
  have b1 := Blk.new (w.alloc (.cells #[.int .i64 0] 3)) 3 #[.int .i64 0]
  have b2 := Blk.new ((w.alloc (.cells #[.int .i64 0] 3)).alloc (.cells #[.int .i64 0] 3)) 4 #[.bool false]
  rw [World.size_alloc] at b1
  rw [World.size_alloc, World.size_alloc] at b2
  exact .cons (((Blk.new w _ _).alloc _).alloc _) (.cons (b1.alloc _) (.cons b2 (.nil _)))
theorem Res3.facts {W : World} {k : Nat} {a b : Int} {c : Bool} (h : Hp W (Res3 k a b c)) :
    (W.cell? ⟨k, 0, none⟩ = some (.int .i64 a) ∧ W.frozen? ⟨k, 0, none⟩ = false) ∧ (W.cell? ⟨k + 1, 0, none⟩ = some (.int .i64 b) ∧ W.frozen? ⟨k + 1, 0, none⟩ = false) ∧ (W.cell? ⟨k + 1 + 1, 0, none⟩ = some (.bool c) ∧ W.frozen? ⟨k + 1 + 1, 0, none⟩ = false) :=
  ⟨⟨h.head.cell 0 _ rfl, h.head.free 0⟩, ⟨h.tail.head.cell 0 _ rfl, h.tail.head.free 0⟩, ⟨h.tail.tail.head.cell 0 _ rfl, h.tail.tail.head.free 0⟩⟩
theorem Res3.put {W : World} {k : Nat} {a b : Int} {c : Bool} (h : Hp W (Res3 k a b c)) (a' b' : Int) (c' : Bool) :
    Hp (((W.setCell ⟨k, 0, none⟩ (.int .i64 a')).setCell ⟨k + 1, 0, none⟩ (.int .i64 b')).setCell ⟨k + 1 + 1, 0, none⟩ (.bool c')) (Res3 k a' b' c') := by
  have h1 := Hp.set (l1 := []) (l2 := [_, _]) (show Hp W ([] ++ (k, 3, #[.int .i64 a]) :: [_, _]) from h) 0 (.int .i64 a') (by simp) (by simp; omega)
  have h2 := Hp.set (l1 := [_]) (l2 := [_]) h1 0 (.int .i64 b') (by simp) (by simp)
  exact Hp.set (l1 := [_, _]) (l2 := []) h2 0 (.bool c') (by simp; omega) (by simp)

set_option maxRecDepth 100000 in
set_option maxHeartbeats 4000000 in
theorem tcp_MSS.no (s : ByteArray) (hs : s.size ≤ 140737488351232) (hr : rightO (bl s) = false) (w : World) :
    Calls Try.prog 59 #[.string s] w fun e w' => e = .returned (.tuple #[.int .i64 0, .int .i64 0, .bool false]) ∧ Below w.heap.size w w' := by
  have HR := Aside0.mk (show tcp_Right.f s = some false by rw [Pure.right_is s hs, hr])
  clear hs hr
  have HB := Aside0.mk ((((Below.refl _ w).alloc (Nat.le_refl _) (.cells #[.int .i64 0] 3)).alloc (by simp) (.cells #[.int .i64 0] 3)).alloc (by simp; omega) (.cells #[.bool false] 4))
  refine (callsIn_wide (n := 4)).1 ?_
  refine callsIn_of_wp_marks Try.func59 rfl trivial ?_ rfl
  simp only [Try.ntmps59, List.size_toArray, List.length_cons, List.length_nil, Nat.reduceAdd, Nat.reduceSub, Array.replicate_succ, Array.replicate_zero, List.push_toArray, List.append_toArray, List.nil_append, List.cons_append]
  gi_wp2_with (refine ⟨trivial, ?_⟩; gi_at_call 76; refine (callsIn_wide.2 (tcp_Right.calls s false _ HR.out)).mono ?_; rintro e w2 ⟨rfl, g1⟩; replace HB := Aside0.mk (HB.out.trans (g1.mono HB.out.size)); have HP := Aside0.mk ((res3_new w).below g1 (by simp; omega)); obtain ⟨⟨c0, z0⟩, ⟨c1, z1⟩, c2, z2⟩ := Res3.facts HP.out; clear g1)
  have HQ := Aside0.mk (Res3.facts (Res3.put HP.out 0 0 false))
  clear c0 c1 c2 z0 z1 z2
  obtain ⟨⟨d0, _⟩, ⟨d1, _⟩, d2, _⟩ := HQ.out
  refine ⟨.tuple #[.int .i64 0, .int .i64 0, .bool false], ?_, rfl, ((HB.out.setCell (p := ⟨w.heap.size, 0, none⟩) (Nat.le_refl _) _).setCell (p := ⟨w.heap.size + 1, 0, none⟩) (by simp) _).setCell (p := ⟨w.heap.size + 1 + 1, 0, none⟩) (by simp; omega) _⟩
  simp [results, Try.f59, go_sem, d0, d1, d2]

def goesOn (Q : Exit → Act → World → Prop) : Exit → Act → World → Prop
  | .normal, a, w => Q .normal a w
  | _, _, _ => False
theorem wpIn_goesOn {F : Fence} {n : Nat} {P : Program} {c : Code} {Q : Exit → Act → World → Prop} {a : Act} {w : World} (h : c.wpIn F n P (goesOn Q) a w) : c.wpIn F n P Q a w :=
  Code.wpIn_mono (fun e a w hq => by cases e <;> first | exact hq | exact False.elim hq) h
theorem goesOn_intro {Q : Exit → Act → World → Prop} {a : Act} {w : World} (h : Q .normal a w) : goesOn Q .normal a w := h
theorem oper_inRound {F : Fence} {n l : Nat} {P : Program} {o : Oper} {a : Act} {w : World} {K K' : Act → World → Prop} {Q : Exit → Act → World → Prop} (hro : F.round = none) (hd : ∀ c, o.op ≠ .defer c) (hK : ∀ a w, K a w → K' a w) (h : o.wpIn F n P a w K Q) : o.wpIn (F.inRound l) n P a w K' Q := by
  have h := Oper.wpIn_mono hK h
  unfold Oper.wpIn at h ⊢
  rw [Oper.semAt_eq _ _ _ hd] at h ⊢
  exact h
theorem wpAny_inRound {F : Fence} {n l : Nat} {P : Program} {md : Region.Mode} {ops : Array Oper} {Q : Exit → Act → World → Prop} (hro : F.round = none) (hd : ∀ (i : Nat) (o : Oper), ops[i]? = some o → ∀ c, o.op ≠ .defer c) :
    ∀ (fuel : Nat) (listed : Array Bool) (a : Act) (w : World), wpAnyIn F n P md ops Q fuel listed a w → wpAnyIn (F.inRound l) n P md ops Q fuel listed a w
  | 0, _, _, _, h => h
  | fuel + 1, listed, a, w, h => ⟨h.1, fun i hi => by
      have h2 := h.2 i hi
      unfold wpOpIn at h2 ⊢
      cases ho : ops[i]? with
      | none => rw [ho] at h2; exact wpAny_inRound hro hd fuel _ _ _ h2
      | some o =>
        rw [ho] at h2
        dsimp only at h2 ⊢
        split
        · rename_i hw; rw [if_pos hw] at h2; exact oper_inRound hro (hd i o ho) (fun a w hk => wpAny_inRound hro hd fuel _ _ _ hk) h2
        · rename_i hw; rw [if_neg hw] at h2; exact ⟨h2.1, wpAny_inRound hro hd fuel _ _ _ h2.2⟩⟩
def noDefer (ops : Array Oper) : Bool := ops.toList.all fun o => match o.op with | .defer _ => false | _ => true
theorem noDefer_spec {ops : Array Oper} (h : noDefer ops = true) : ∀ (i : Nat) (o : Oper), ops[i]? = some o → ∀ c, o.op ≠ .defer c := fun i o ho c hc => by
  have h2 := List.all_eq_true.mp h o (by rw [Array.mem_toList_iff]; exact Array.mem_of_getElem? ho)
  rw [hc] at h2
  exact Bool.noConfusion h2
theorem region_inRound {F : Fence} {n l id : Nat} {P : Program} {ops : Array Oper} {Q : Exit → Act → World → Prop} {a : Act} {w : World} (hro : F.round = none) (hm : P.follows .mixedOrders = true) (hd : noDefer ops = true)
    (h : wpAnyIn F n P .any ops (goesOn Q) ops.size (Array.replicate ops.size false) a w.drew) : (Code.region id ops true).wpIn (F.inRound l) n P Q a w :=
  wpIn_goesOn (wpIn_region_any hm (wpAny_inRound hro (noDefer_spec hd) _ _ _ _ h))
theorem hit_facts (o : ByteArray) (h : 0 < o.size) (w : World) : (Instr.index 9 (.string o) (.int .i64 0)).run Try.prog w = .ok (.int .u8 (((bl o).getD 0 0).toNat : Int)) w := by
  rw [run_index_string (P := Try.prog) (w := w) 9 o .i64 0 Try.underlying9, dif_pos ⟨by decide, by omega⟩]
  congr 3
  simp [List.getD_eq_getElem?_getD, List.getElem?_eq_getElem (show 0 < (bl o).length by rw [bl_length]; exact h)]; rfl
theorem at_facts (o : ByteArray) (k : Nat) (h : k < o.size) (w : World) : (Instr.index 9 (.string o) (.int .i64 (k : Int))).run Try.prog w = .ok (.int .u8 (((bl o).getD k 0).toNat : Int)) w := by
  rw [run_index_string (P := Try.prog) (w := w) 9 o .i64 (k : Int) Try.underlying9, dif_pos ⟨by omega, by omega⟩]
  congr 3
  simp [List.getD_eq_getElem?_getD, List.getElem?_eq_getElem (show k < (bl o).length by rw [bl_length]; exact h)]; rfl
theorem or_bytes (a b : Nat) (ha : a < 256) (hb : b < 256) : Go.bits .or .i64 ((a : Int) * 256) (b : Int) = ((a * 256 + b : Nat) : Int) := by
  have e := i64_or (a * 256) b (by omega) (by omega)
  rw [show ((a * 256 : Nat) : Int) = (a : Int) * 256 by omega] at e
  rw [e]
  have := (Nat.two_pow_add_eq_or_of_lt (i := 8) (b := b) hb a)
  rw [show (2 : Nat) ^ 8 = 256 from rfl] at this
  rw [Nat.mul_comm a 256, this]

theorem res_cells {W : World} {k : Nat} {a b : Int} {c : Bool} (c0 : W.cell? ⟨k, 0, none⟩ = some (.int .i64 a)) (c1 : W.cell? ⟨k + 1, 0, none⟩ = some (.int .i64 b)) (c2 : W.cell? ⟨k + 1 + 1, 0, none⟩ = some (.bool c)) (p q : Int) (r : Bool) :
    (((W.setCell ⟨k, 0, none⟩ (.int .i64 p)).setCell ⟨k + 1, 0, none⟩ (.int .i64 q)).setCell ⟨k + 1 + 1, 0, none⟩ (.bool r)).cell? ⟨k, 0, none⟩ = some (.int .i64 p) ∧ (((W.setCell ⟨k, 0, none⟩ (.int .i64 p)).setCell ⟨k + 1, 0, none⟩ (.int .i64 q)).setCell ⟨k + 1 + 1, 0, none⟩ (.bool r)).cell? ⟨k + 1, 0, none⟩ = some (.int .i64 q) ∧ (((W.setCell ⟨k, 0, none⟩ (.int .i64 p)).setCell ⟨k + 1, 0, none⟩ (.int .i64 q)).setCell ⟨k + 1 + 1, 0, none⟩ (.bool r)).cell? ⟨k + 1 + 1, 0, none⟩ = some (.bool r) := by
  refine ⟨?_, ?_, ?_⟩
  · simp [World.cell?_setCell_other, World.cell?_setCell_same', c0]
  · simp [World.cell?_setCell_other, World.cell?_setCell_same', c1]
  · simp [World.cell?_setCell_other, World.cell?_setCell_same', c2]
set_option maxRecDepth 100000 in
set_option maxHeartbeats 8000000 in
theorem tcp_MSS.yes (s : ByteArray) (hs : s.size ≤ 140737488351232) (hr : rightO (bl s) = true) (a b : Int) (c : Bool) (hres : (match found (items s 0) with | none => (0, 0, false) | some v => (v.1, v.2, true)) = (a, b, c)) (w : World) :
    Calls Try.prog 59 #[.string s] w fun e w' => e = .returned (.tuple #[.int .i64 a, .int .i64 b, .bool c]) ∧ Below w.heap.size w w' := by
  have HR := Aside0.mk (show tcp_Right.f s = some true by rw [Pure.right_is s hs, hr])
  have HI := Aside0.mk (items_some s hr)
  have HS := Aside0.mk hs
  have HE := Aside0.mk hres
  clear hs hr hres
  have HB := Aside0.mk ((((Below.refl _ w).alloc (Nat.le_refl _) (.cells #[.int .i64 0] 3)).alloc (by simp) (.cells #[.int .i64 0] 3)).alloc (by simp; omega) (.cells #[.bool false] 4))
  refine (callsIn_wide (n := 4)).1 ?_
  refine callsIn_of_wp_marks Try.func59 rfl trivial ?_ rfl
  simp only [Try.ntmps59, List.size_toArray, List.length_cons, List.length_nil, Nat.reduceAdd, Nat.reduceSub, Array.replicate_succ, Array.replicate_zero, List.push_toArray, List.append_toArray, List.nil_append, List.cons_append]
  gi_wp2_with (first
    | (refine ⟨trivial, ?_⟩; gi_at_call 76; refine (callsIn_wide.2 (tcp_Right.calls s true _ HR.out)).mono ?_; rintro e w2 ⟨rfl, g1⟩; replace HB := Aside0.mk (HB.out.trans (g1.mono HB.out.size)); have HP := Aside0.mk ((res3_new w).below g1 (by simp; omega)); have HZ := Aside0.mk (show w.heap.size + 3 ≤ w2.heap.size by have := g1.size; simp at this; omega); clear g1)
    | (refine ⟨trivial, ?_⟩; gi_at_call 79; refine (walk_in Fence.wide _ trivial rfl s _).mono ?_; rintro e w3 ⟨rfl, rfl⟩))
  replace HB := Aside0.mk (HB.out.alloc HB.out.size (.cells #[.string s] 9))
  replace HP := Aside0.mk (HP.out.alloc (.cells #[.string s] 9))
  have hc0 : (w2.alloc (.cells #[.string s] 9)).cell? ⟨w2.heap.size, 0, none⟩ = some (.string s) := (Blk.new w2 9 #[.string s]).cell 0 _ rfl
  have hsz : (w2.alloc (.cells #[.string s] 9)).heap.size = w2.heap.size + 1 := by simp
  have hz := HZ.out
  generalize w2.alloc (.cells #[.string s] 9) = W0 at hc0 hsz HB HP ⊢
  refine wpIn_rangeFunc_ownF (α := ItemR) (encs := encR) rfl (show 1 ≤ 4 by decide) (gf := 84) (lb := #[.pointer (some ⟨w2.heap.size, 0, none⟩)]) rfl trivial (enters_of Try.func84 (by kernel_rfl) rfl)
    (walk_stopsR 3 (by decide) w2.heap.size (w2.heap.size + 1) s HS.out HI.out W0 (by omega) (by omega) hc0) belowK_t (belowK_b (by omega)) (Below.refl _ _) (fun _ => rfl)
    (fun pre W => (((W.cell? ⟨w.heap.size, 0, none⟩ = some (.int .i64 0) ∧ W.frozen? ⟨w.heap.size, 0, none⟩ = false) ∧ (W.cell? ⟨w.heap.size + 1, 0, none⟩ = some (.int .i64 0) ∧ W.frozen? ⟨w.heap.size + 1, 0, none⟩ = false) ∧ (W.cell? ⟨w.heap.size + 1 + 1, 0, none⟩ = some (.bool false) ∧ W.frozen? ⟨w.heap.size + 1 + 1, 0, none⟩ = false)) ∧ found (pre.map (·.1)) = none) ∧ Below w.heap.size w W)
    (fun c pre W => ((c = .ret) ∧ ∃ p q : Int, found (pre.map (·.1)) = some (p, q) ∧ W.cell? ⟨w.heap.size, 0, none⟩ = some (.int .i64 p) ∧ W.cell? ⟨w.heap.size + 1, 0, none⟩ = some (.int .i64 q) ∧ W.cell? ⟨w.heap.size + 1 + 1, 0, none⟩ = some (.bool true)) ∧ Below w.heap.size w W)
    (OwnFrom.and (Own.from (fun s A B row hs hg hr => ⟨⟨⟨cell_kept hs.1.1.1 hg hr, (frozen_kept hs.1.1.1 hg hr).trans hs.1.1.2⟩, ⟨cell_kept hs.1.2.1.1 hg hr, (frozen_kept hs.1.2.1.1 hg hr).trans hs.1.2.1.2⟩, ⟨cell_kept hs.1.2.2.1 hg hr, (frozen_kept hs.1.2.2.1 hg hr).trans hs.1.2.2.2⟩⟩, hs.2⟩) _) (ownFrom_below (Nat.le_refl _) (by omega)))
    (fun c => OwnFrom.and (Own.from (fun s A B row hs hg hr => by obtain ⟨e, p, q, h1, h2, h3, h4⟩ := hs; exact ⟨e, p, q, h1, cell_kept h2 hg hr, cell_kept h3 hg hr, cell_kept h4 hg hr⟩) _) (ownFrom_below (Nat.le_refl _) (by omega)))
    ⟨⟨Res3.facts HP.out, rfl⟩, HB.out⟩
    (fun x => { tmps := #[.string s, undef, .pointer (some ⟨w.heap.size, 0, none⟩), .pointer (some ⟨w.heap.size + 1, 0, none⟩), .pointer (some ⟨w.heap.size + 1 + 1, 0, none⟩), .int .i64 x.1.1, .string x.1.2, .string s, .bool true, .bool false, .string s, .func (.func 84) #[] #[.pointer (some ⟨w2.heap.size, 0, none⟩)], .int .i64 x.1.1, .string x.1.2, undef, undef, undef, undef, undef, undef, undef, undef, undef, undef, undef, undef, undef, undef, undef, undef, undef, undef], defers := [] }) ?assign ?body ?done ?stop
  case assign =>
    intro l x W K hK
    gi_wp2
    exact hK
  case body =>
    rintro l pre ⟨⟨n, o⟩, ho⟩ W ⟨⟨hcs, hnone⟩, hB⟩ _
    dsimp only at ho ⊢
    have HN := Aside0.mk hnone
    have HB1 := Aside0.mk hB
    clear hnone hB
    obtain ⟨b0, hb0⟩ : ∃ b : Nat, b = ((bl o).getD 0 0).toNat := ⟨_, rfl⟩
    have i0 := hit_facts o ho
    rw [← hb0] at i0
    by_cases h2 : b0 = 2
    case neg =>
      have d1 : ((b0 : Int) == 2) = false := by rw [beq_eq_false_iff_ne]; omega
      have d2 : (b0 == 2) = false := by rw [beq_eq_false_iff_ne]; exact h2
      have HX := Aside0.mk (show found ((pre ++ [(⟨(n, o), ho⟩ : ItemR)]).map (·.1)) = none by
        rw [List.map_append]
        refine found_miss HN.out ?_
        have : (bl o).getD 0 0 ≠ 2 := fun h => h2 (by rw [hb0, h]; rfl)
        simp only [hitI, Bool.and_eq_false_iff, beq_eq_false_iff_ne]
        exact .inl this)
      clear h2 hb0
      gi_wp2
      exact ⟨KeepsOthers.refl _, Below.refl _ _, ⟨hcs, HX.out⟩, HB1.out⟩
    have d1 : ((b0 : Int) == 2) = true := by rw [beq_iff_eq]; omega
    have d2 : (b0 == 2) = true := by rw [beq_iff_eq]; exact h2
    by_cases h4 : o.size = 4
    case neg =>
      have d3 : ((o.size : Int) == 4) = false := by rw [beq_eq_false_iff_ne]; omega
      have d4 : (o.size == 4) = false := by rw [beq_eq_false_iff_ne]; exact h4
      have HX := Aside0.mk (show found ((pre ++ [(⟨(n, o), ho⟩ : ItemR)]).map (·.1)) = none by
        rw [List.map_append]
        refine found_miss HN.out ?_
        simp only [hitI, Bool.and_eq_false_iff, beq_eq_false_iff_ne]
        exact .inr h4)
      clear h2 hb0 h4
      gi_wp2
      exact ⟨KeepsOthers.refl _, Below.refl _ _, ⟨hcs, HX.out⟩, HB1.out⟩
    have d3 : ((o.size : Int) == 4) = true := by rw [beq_iff_eq]; omega
    have d4 : (o.size == 4) = true := by rw [beq_iff_eq]; exact h4
    obtain ⟨b2, hb2⟩ : ∃ b : Nat, b = ((bl o).getD 2 0).toNat := ⟨_, rfl⟩
    obtain ⟨b3, hb3⟩ : ∃ b : Nat, b = ((bl o).getD 3 0).toNat := ⟨_, rfl⟩
    have i2 : ∀ w, (Instr.index 9 (.string o) (.int .i64 2)).run Try.prog w = .ok (.int .u8 (b2 : Int)) w := fun w => by rw [hb2]; exact at_facts o 2 (by omega) w
    have i3 : ∀ w, (Instr.index 9 (.string o) (.int .i64 3)).run Try.prog w = .ok (.int .u8 (b3 : Int)) w := fun w => by rw [hb3]; exact at_facts o 3 (by omega) w
    have l2 : b2 < 256 := by rw [hb2]; exact UInt8.toNat_lt _
    have l3 : b3 < 256 := by rw [hb3]; exact UInt8.toNat_lt _
    have ho_ := or_bytes b2 b3 l2 l3
    have v1 : wrap64 ((b2 : Int) * 256) = (b2 : Int) * 256 := by unfold wrap64; omega
    have v4 : IntKind.i64.wrap ((b2 : Int) * 256) = (b2 : Int) * 256 := by rw [IntKind.wrap_i64]; omega
    have v2 : IntKind.i64.wrap (b2 : Int) = (b2 : Int) := by rw [IntKind.wrap_i64]; omega
    have v3 : IntKind.i64.wrap (b3 : Int) = (b3 : Int) := by rw [IntKind.wrap_i64]; omega
    have HX := Aside0.mk (show found ((pre ++ [(⟨(n, o), ho⟩ : ItemR)]).map (·.1)) = some (((b2 * 256 + b3 : Nat) : Int), wrap64 (n + 2)) by
      rw [List.map_append]
      refine (found_hit HN.out ?_).trans ?_
      · have : (bl o).getD 0 0 = 2 := UInt8.toNat_inj.1 (by rw [← hb0, h2]; rfl)
        simp only [hitI, Bool.and_eq_true, beq_iff_eq]
        exact ⟨this, h4⟩
      · rw [hb2, hb3]; rfl)
    clear h2 hb0 h4 hb2 hb3 l2 l3
    have hmx : Try.prog.follows .mixedOrders = true := by kernel_rfl
    gi_wp2
    refine region_inRound (F := Fence.wide) rfl hmx (by kernel_rfl) ?_
    refine wpAnyIn_take (i := 0) (v := .string o) rfl rfl (by kernel_rfl) (by kernel_rfl) (by kernel_rfl) (fun _ _ _ h => h) ⟨Or.inl ⟨by rfl, ?_⟩, fun _ => rfl⟩ ?_
    · intro w; first | (go_simp; done) | (go_simp; exact v4) | (go_simp; rw [IntKind.wrap_i64]; unfold wrap64; omega)
    refine wpAnyIn_take (i := 1) (v := .int .u8 (b2 : Int)) rfl rfl (by kernel_rfl) (by kernel_rfl) (by kernel_rfl) (fun _ _ _ h => h) ⟨Or.inl ⟨by rfl, ?_⟩, fun _ => rfl⟩ ?_
    · intro w; first | (go_simp; done) | (go_simp; exact v4) | (go_simp; rw [IntKind.wrap_i64]; unfold wrap64; omega)
    refine wpAnyIn_take (i := 2) (v := .int .i64 (b2 : Int)) rfl rfl (by kernel_rfl) (by kernel_rfl) (by kernel_rfl) (fun _ _ _ h => h) ⟨Or.inl ⟨by rfl, ?_⟩, fun _ => rfl⟩ ?_
    · intro w; first | (go_simp; done) | (go_simp; exact v4) | (go_simp; rw [IntKind.wrap_i64]; unfold wrap64; omega)
    refine wpAnyIn_take (i := 3) (v := .int .i64 ((b2 : Int) * 256)) rfl rfl (by kernel_rfl) (by kernel_rfl) (by kernel_rfl) (fun _ _ _ h => h) ⟨Or.inl ⟨by rfl, ?_⟩, fun _ => rfl⟩ ?_
    · intro w; first | (go_simp; done) | (go_simp; exact v4) | (go_simp; rw [IntKind.wrap_i64]; unfold wrap64; omega)
    refine wpAnyIn_take (i := 4) (v := .string o) rfl rfl (by kernel_rfl) (by kernel_rfl) (by kernel_rfl) (fun _ _ _ h => h) ⟨Or.inl ⟨by rfl, ?_⟩, fun _ => rfl⟩ ?_
    · intro w; first | (go_simp; done) | (go_simp; exact v4) | (go_simp; rw [IntKind.wrap_i64]; unfold wrap64; omega)
    refine wpAnyIn_take (i := 5) (v := .int .u8 (b3 : Int)) rfl rfl (by kernel_rfl) (by kernel_rfl) (by kernel_rfl) (fun _ _ _ h => h) ⟨Or.inl ⟨by rfl, ?_⟩, fun _ => rfl⟩ ?_
    · intro w; first | (go_simp; done) | (go_simp; exact v4) | (go_simp; rw [IntKind.wrap_i64]; unfold wrap64; omega)
    refine wpAnyIn_take (i := 6) (v := .int .i64 (b3 : Int)) rfl rfl (by kernel_rfl) (by kernel_rfl) (by kernel_rfl) (fun _ _ _ h => h) ⟨Or.inl ⟨by rfl, ?_⟩, fun _ => rfl⟩ ?_
    · intro w; first | (go_simp; done) | (go_simp; exact v4) | (go_simp; rw [IntKind.wrap_i64]; unfold wrap64; omega)
    refine wpAnyIn_take (i := 7) (v := .int .i64 ((b2 * 256 + b3 : Nat) : Int)) rfl rfl (by kernel_rfl) (by kernel_rfl) (by kernel_rfl) (fun _ _ _ h => h) ⟨Or.inl ⟨by rfl, ?_⟩, fun _ => rfl⟩ ?_
    · intro w; first | (go_simp; done) | (go_simp; exact v4) | (go_simp; rw [IntKind.wrap_i64]; unfold wrap64; omega)
    refine wpAnyIn_take (i := 8) (v := .int .i64 n) rfl rfl (by kernel_rfl) (by kernel_rfl) (by kernel_rfl) (fun _ _ _ h => h) ⟨Or.inl ⟨by rfl, ?_⟩, fun _ => rfl⟩ ?_
    · intro w; first | (go_simp; done) | (go_simp; exact v4) | (go_simp; rw [IntKind.wrap_i64]; unfold wrap64; omega)
    refine wpAnyIn_take (i := 9) (v := .int .i64 (wrap64 (n + 2))) rfl rfl (by kernel_rfl) (by kernel_rfl) (by kernel_rfl) (fun _ _ _ h => h) ⟨Or.inl ⟨by rfl, ?_⟩, fun _ => rfl⟩ ?_
    · intro w; first | (go_simp; done) | (go_simp; exact v4) | (go_simp; rw [IntKind.wrap_i64]; unfold wrap64; omega)
    obtain ⟨⟨c0, z0⟩, ⟨c1, z1⟩, c2, z2⟩ := hcs
    refine wpAnyIn_ready (rs := [10]) (by kernel_rfl) (by simp) ?_
    refine AllReadyIn.cons rfl (fun K hK => ?_) AllReadyIn.nil
    go_simp
    refine hK _ _ ?_
    clear hK K
    refine wpAnyIn_ready (rs := [11]) (by kernel_rfl) (by simp) ?_
    refine AllReadyIn.cons rfl (fun K hK => ?_) AllReadyIn.nil
    go_simp
    refine hK _ _ ?_
    clear hK K
    refine wpAnyIn_ready (rs := [12]) (by kernel_rfl) (by simp) ?_
    refine AllReadyIn.cons rfl (fun K hK => ?_) AllReadyIn.nil
    go_simp
    refine hK _ _ ?_
    clear hK K
    refine wpAnyIn_done (by kernel_rfl) ?_ _
    have hcast : ((b2 * 256 + b3 : Nat) : Int) = (b2 : Int) * 256 + (b3 : Int) := by omega
    rw [hcast] at HX
    have k0 : W.drew.cell? ⟨w.heap.size, 0, none⟩ = some (.int .i64 0) := c0
    have k1 : W.drew.cell? ⟨w.heap.size + 1, 0, none⟩ = some (.int .i64 0) := c1
    have k2 : W.drew.cell? ⟨w.heap.size + 1 + 1, 0, none⟩ = some (.bool false) := c2
    have HF := Aside0.mk (res_cells (W := W.drew) (k := w.heap.size) k0 k1 k2 ((b2 : Int) * 256 + (b3 : Int)) (wrap64 (n + 2)) true)
    clear k0 k1 k2 c0 c1 c2 hcast
    refine goesOn_intro ?_
    gi_wp2
    exact ⟨(KeepsOthers.drew W).trans (((KeepsOthers.setCell _ _ _).trans (KeepsOthers.setCell _ _ _)).trans (KeepsOthers.setCell _ _ _)), ⟨rfl, _, _, HX.out, HF.out.1, HF.out.2.1, HF.out.2.2⟩, ((HB1.out.drew.setCell (p := ⟨w.heap.size, 0, none⟩) (Nat.le_refl _) _).setCell (p := ⟨w.heap.size + 1, 0, none⟩) (by simp) _).setCell (p := ⟨w.heap.size + 1 + 1, 0, none⟩) (by simp; omega) _⟩
  case done =>
    rintro D ys W hD hys ⟨⟨hcs, hnone⟩, hB⟩ hK
    have HN := Aside0.mk (show (a, b, c) = (0, 0, false) by have := HE.out; rw [← hys, hnone] at this; exact this.symm)
    have HB1 := Aside0.mk hB
    have HD := Aside0.mk (show w.heap.size ≤ D by omega)
    clear hnone hys hB hD hz
    obtain ⟨⟨c0, z0⟩, ⟨c1, z1⟩, c2, z2⟩ := hcs
    gi_wp2
    have hK' := (((KeepsOthers.setCell W ⟨w.heap.size, 0, none⟩ (.int .i64 0)).trans (KeepsOthers.setCell _ ⟨w.heap.size + 1, 0, none⟩ (.int .i64 0))).trans (KeepsOthers.setCell _ ⟨w.heap.size + 1 + 1, 0, none⟩ (.bool false))).same D _ hK rfl
    have f0 : (((W.setCell ⟨w.heap.size, 0, none⟩ (.int .i64 0)).setCell ⟨w.heap.size + 1, 0, none⟩ (.int .i64 0)).setCell ⟨w.heap.size + 1 + 1, 0, none⟩ (.bool false)).cell? ⟨w.heap.size, 0, none⟩ = some (.int .i64 0) := by simp [World.cell?_setCell_other, World.cell?_setCell_same', c0]
    have f1 : (((W.setCell ⟨w.heap.size, 0, none⟩ (.int .i64 0)).setCell ⟨w.heap.size + 1, 0, none⟩ (.int .i64 0)).setCell ⟨w.heap.size + 1 + 1, 0, none⟩ (.bool false)).cell? ⟨w.heap.size + 1, 0, none⟩ = some (.int .i64 0) := by simp [World.cell?_setCell_other, World.cell?_setCell_same', c1]
    have f2 : (((W.setCell ⟨w.heap.size, 0, none⟩ (.int .i64 0)).setCell ⟨w.heap.size + 1, 0, none⟩ (.int .i64 0)).setCell ⟨w.heap.size + 1 + 1, 0, none⟩ (.bool false)).cell? ⟨w.heap.size + 1 + 1, 0, none⟩ = some (.bool false) := by simp [World.cell?_setCell_other, World.cell?_setCell_same', c2]
    refine ⟨by simp, .inl ⟨_, _, rfl, run_takeDeferred hK', ?_⟩⟩
    have e0 := cell_kept f0 (grownBy_putObj' _ D (.deferred none)) (fun r e => by cases e; exact ⟨_, hK', rfl⟩)
    have e1 := cell_kept f1 (grownBy_putObj' _ D (.deferred none)) (fun r e => by cases e; exact ⟨_, hK', rfl⟩)
    have e2 := cell_kept f2 (grownBy_putObj' _ D (.deferred none)) (fun r e => by cases e; exact ⟨_, hK', rfl⟩)
    refine ⟨.tuple #[.int .i64 0, .int .i64 0, .bool false], ?_, by obtain ⟨rfl, rfl, rfl⟩ := (by have := HN.out; simp only [Prod.mk.injEq] at this; exact this : a = 0 ∧ b = 0 ∧ c = false); rfl, (((HB1.out.setCell (p := ⟨w.heap.size, 0, none⟩) (Nat.le_refl _) _).setCell (p := ⟨w.heap.size + 1, 0, none⟩) (by simp) _).setCell (p := ⟨w.heap.size + 1 + 1, 0, none⟩) (by simp; omega) _).trans (belowK_b (w := w) (Nat.le_refl _) _ D _ _ HD.out hK' rfl rfl)⟩
    simp [results, Try.f59, go_sem, e0, e1, e2]
  case stop =>
    rintro D c' pre W hD hSp ⟨⟨rfl, p, q, hf, c0, c1, c2⟩, hB⟩ hK
    have HN := Aside0.mk (show (a, b, c) = (p, q, true) by have := HE.out; rw [found_prefix hSp hf] at this; exact this.symm)
    have HB1 := Aside0.mk hB
    have HD := Aside0.mk (show w.heap.size ≤ D by omega)
    clear hf hB hD hz hSp
    gi_wp2
    refine ⟨by simp, .inl ⟨_, _, rfl, run_takeDeferred hK, ?_⟩⟩
    have e0 := cell_kept c0 (grownBy_putObj' _ D (.deferred none)) (fun r e => by cases e; exact ⟨_, hK, rfl⟩)
    have e1 := cell_kept c1 (grownBy_putObj' _ D (.deferred none)) (fun r e => by cases e; exact ⟨_, hK, rfl⟩)
    have e2 := cell_kept c2 (grownBy_putObj' _ D (.deferred none)) (fun r e => by cases e; exact ⟨_, hK, rfl⟩)
    refine ⟨.tuple #[.int .i64 p, .int .i64 q, .bool true], ?_, by obtain ⟨rfl, rfl, rfl⟩ := (by have := HN.out; simp only [Prod.mk.injEq] at this; exact this : a = p ∧ b = q ∧ c = true); rfl, HB1.out.trans (belowK_b (w := w) (Nat.le_refl _) _ D _ _ HD.out hK rfl rfl)⟩
    simp [results, Try.f59, go_sem, e0, e1, e2]

theorem tcp_MSS.calls (s : ByteArray) (r1 r2 : Int) (r3 : Bool) (w : World) (h : tcp_MSS.f s = some (r1, r2, r3)) :
    Calls Try.prog 59 #[.string s] w fun e w' => e = .returned (.tuple #[.int .i64 r1, .int .i64 r2, .bool r3]) ∧ Below w.heap.size w w' := by
  unfold tcp_MSS.f at h
  split at h
  case isFalse => exact absurd h (by simp)
  rename_i hs
  have h := Option.some.inj h
  by_cases hr : rightO (bl s) = true
  · obtain ⟨L, hL⟩ := Pure.rightO_some hr
    refine tcp_MSS.yes s hs hr r1 r2 r3 ?_ w
    rw [found_is s hs hL, ← h]
    cases mssOf (bl s) <;> rfl
  · have hf := Bool.eq_false_iff.mpr hr
    rw [Pure.mssOf_not hf] at h
    obtain ⟨rfl, rfl, rfl⟩ : (0 : Int) = r1 ∧ (0 : Int) = r2 ∧ false = r3 := by simpa [mssR] using h
    exact tcp_MSS.no s hs hf w
end Go.Proofs.Ytcmalglippmocaa.G
end
