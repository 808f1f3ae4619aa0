/- Texts of this session, joined: each is a section. -/
import Derived.Test.YtcmalglippmocaaDoorMFlowb6
import Derived.Test.YtcmalglippmocaaDoorMFlowb7
import Derived.Test.YtcmalglippmocaaDoorMFlowb4
import Derived.Test.YtcmalglippmocaaDoorMFlowb3
import Derived.Test.YtcmalglippmocaaDoorMFlowb1
import Derived.Test.YtcmalglippmocaaDoorMFlowb2
set_option linter.unusedVariables false
set_option linter.unusedSimpArgs false
section
/- By hand: flow.Get: a packet's flow, or the first fault. -/
namespace Go.Proofs.YtcmalglippmocaaDoor.G
open Go.RowKit Go.Proofs.YtcmalglippmocaaDoorW.PrintWords Go.Proofs.YtcmalglippmocaaDoorW.PrintLast Go.Proofs.YtcmalglippmocaaDoorW.PrintMore Go.Proofs.YtcmalglippmocaaDoor.Pal
set_option linter.unusedVariables false
set_option linter.unusedSimpArgs false
abbrev FlowR := Int × ByteArray × ByteArray × Int × Int × Int
def flow_bad (e : Int) : FlowR := (0, ⟨#[]⟩, ⟨#[]⟩, 0, 0, e)
/-- What Get does behind the header: the protocol, the ends, the payload; is it a piece; may a datagram be bare? -/
def flow_fin (proto : Int) (src dst pay : ByteArray) (piece bare : Bool) : Option FlowR :=
  if piece = true then some (flow_bad 14) else if proto ≠ 6 ∧ proto ≠ 17 then some (flow_bad 6) else
  (flow_ports.f proto pay).bind fun q => if q.2.2.2 ≠ 0 then some (flow_bad q.2.2.2) else
  (sum_Pseudo.f src dst proto pay.size).bind fun ps => (sum_Right.f [ps, pay]).bind fun r =>
  if (if proto = 17 ∧ q.2.2.1 = 0 then bare else r) = true then some (proto, src, dst, q.1, q.2.1, 0) else some (flow_bad 5)
def flow_Get.f (s : ByteArray) : Option FlowR :=
  if s.size = 0 then some (flow_bad 2) else if bt s 0 / 16 = 4 then (ip4_Get.f s).bind fun q => if q.2.2.2.2.2.2.2.2.2.2.2 ≠ 0 then some (flow_bad q.2.2.2.2.2.2.2.2.2.2.2) else flow_fin q.2.2.2.2.1 q.2.2.2.2.2.2.2.1 q.2.2.2.2.2.2.2.2.1 q.2.2.2.2.2.2.2.2.2.2.1 (q.2.2.1 != 0 || q.2.2.2.2.2.2.1) true
  else if bt s 0 / 16 = 6 then (ip6_Get.f s).bind fun q => if q.2.2.2.2.2.2.2 ≠ 0 then some (flow_bad q.2.2.2.2.2.2.2) else flow_fin q.2.2.1 q.2.2.2.2.1 q.2.2.2.2.2.1 q.2.2.2.2.2.2.1 false false
  else some (flow_bad 3)
theorem ite_in_no {c : Prop} {d : Decidable c} {α : Type} {b r : Bool} {x y z : α} (h : ¬ c) (H : (if (if c then b else r) = true then x else y) = z) : (if r = true then x else y) = z := by rw [if_neg h] at H; exact H
theorem ite_in_yes {c : Prop} {d : Decidable c} {α : Type} {b r : Bool} {x y z : α} (h : c) (H : (if (if c then b else r) = true then x else y) = z) : (if b = true then x else y) = z := by rw [if_pos h] at H; exact H
set_option maxHeartbeats 8000000 in
set_option maxRecDepth 100000 in
theorem flow_four (s : ByteArray) (r1 r2 r3 r4 r5 : Int) (r6 r7 : Bool) (r8 r9 r10 r11 : ByteArray) (w : World) (t1 : Int) (t2 t3 : ByteArray) (t4 t5 t6 : Int)
    (ho : Calls Tryd.prog 95 #[.string s] (w.alloc (.cells #[.int .i64 0, .string ⟨#[]⟩, .string ⟨#[]⟩, .int .i64 0, .int .i64 0] 88)) fun e w' => e = .returned (.tuple #[.iface 193 (.agg (cs4 r1 r2 r3 r4 r5 r6 r7 r8 r9 r10)), .string r11, .int .i64 0]) ∧ Below (w.heap.size + 1) (w.alloc (.cells #[.int .i64 0, .string ⟨#[]⟩, .string ⟨#[]⟩, .int .i64 0, .int .i64 0] 88)) w')
    (hf : flow_fin r5 r8 r9 r11 (r3 != 0 || r7) true = some (t1, t2, t3, t4, t5, t6)) :
    Calls Tryd.prog 51 #[.string s] w fun e w' => e = .returned (.tuple #[.agg #[.int .i64 t1, .string t2, .string t3, .int .i64 t4, .int .i64 t5], .int .i64 t6]) ∧ Below w.heap.size w w' := by
  have HO := Aside0.mk ho
  have hu := Tryd.underlying88
  obtain ⟨k, hk⟩ : ∃ k, w.heap.size = k := ⟨_, rfl⟩
  have HK := Aside0.mk (show w.heap.size = k from hk)
  have HB := Aside0.mk ((Below.refl w.heap.size w).alloc (Nat.le_refl _) (.cells #[.int .i64 0, .string ⟨#[]⟩, .string ⟨#[]⟩, .int .i64 0, .int .i64 0] 88))
  have HR := Aside0.mk (Blk.new w 88 #[.int .i64 0, .string ⟨#[]⟩, .string ⟨#[]⟩, .int .i64 0, .int .i64 0])
  have HE := Aside0.mk hf
  clear ho hf
  go_enter Tryd.func51, Tryd.ntmps51
  go_wp2_with fail
  refine HO.out.mono ?_
  rintro e w2 ⟨rfl, hb⟩
  replace HB := Aside0.mk (HB.out.trans (hb.mono (by omega)))
  replace HR := Aside0.mk (HR.out.below hb (by omega))
  clear HO hb
  rw [hk] at HB HR
  clear hk
  have m1 := four_m_proto r1 r2 r3 r4 r5 r6 r7 r8 r9 r10
  go_wp2_with fail
  refine (four_proto r1 r2 r3 r4 r5 r6 r7 r8 r9 r10 _).mono ?_
  rintro e w3 ⟨rfl, hb⟩
  replace HB := Aside0.mk (HB.out.trans (hb.mono (by have := HB.out.size; have := HK.out; omega)))
  replace HR := Aside0.mk (HR.out.below hb HR.out.lt)
  clear hb m1
  go_upto_region 5 with (fail)
  have HN := Aside0.mk (Blk.new w3 88 #[.int .i64 r5, .string ⟨#[]⟩, .string ⟨#[]⟩, .int .i64 0, .int .i64 0])
  have HGT := Aside0.mk (show k < w3.heap.size from HR.out.lt)
  replace HR := Aside0.mk (HR.out.alloc (.cells #[.int .i64 r5, .string ⟨#[]⟩, .string ⟨#[]⟩, .int .i64 0, .int .i64 0] 88))
  replace HB := Aside0.mk (HB.out.alloc (by have := HGT.out; omega) (.cells #[.int .i64 r5, .string ⟨#[]⟩, .string ⟨#[]⟩, .int .i64 0, .int .i64 0] 88))
  generalize w3.heap.size = g at HN HGT ⊢
  generalize w3.alloc (.cells #[.int .i64 r5, .string ⟨#[]⟩, .string ⟨#[]⟩, .int .i64 0, .int .i64 0] 88) = w4 at HN HR HB ⊢
  have m2 := four_m_ends r1 r2 r3 r4 r5 r6 r7 r8 r9 r10
  go_wp2_with fail
  refine (four_ends r1 r2 r3 r4 r5 r6 r7 r8 r9 r10 _).mono ?_
  rintro e w5 ⟨rfl, hb⟩
  replace HB := Aside0.mk (HB.out.trans (hb.mono (by have := HB.out.size; have := HK.out; omega)))
  replace HR := Aside0.mk (HR.out.below hb HR.out.lt)
  replace HN := Aside0.mk (HN.out.below hb HN.out.lt)
  clear hb m2
  have n0 := HN.out.frees
  have n1 := HN.out.cells
  go_upto_region 6 with (fail)
  clear n0 n1
  replace HR := Aside0.mk ((HR.out.other ⟨g, 1, none⟩ (by have := HGT.out; simp; omega) (.string r8)).other ⟨g, 2, none⟩ (by have := HGT.out; simp; omega) (.string r9))
  replace HB := Aside0.mk ((HB.out.setCell (p := ⟨g, 1, none⟩) (by have := HGT.out; simp; omega) (.string r8)).setCell (p := ⟨g, 2, none⟩) (by have := HGT.out; simp; omega) (.string r9))
  replace HN := Aside0.mk ((HN.out.set 1 (.string r8)).set 2 (.string r9))
  simp only [List.setIfInBounds_toArray, List.set_cons_zero, List.set_cons_succ] at HN
  generalize (w5.setCell ⟨g, 1, none⟩ (.string r8)).setCell ⟨g, 2, none⟩ (.string r9) = w6 at HN HR HB ⊢
  have m3 := four_m_piece r1 r2 r3 r4 r5 r6 r7 r8 r9 r10
  go_wp2_with fail
  refine (four_piece r1 r2 r3 r4 r5 r6 r7 r8 r9 r10 _).mono ?_
  rintro e w7 ⟨rfl, hb⟩
  replace HB := Aside0.mk (HB.out.trans (hb.mono (by have := HB.out.size; have := HK.out; omega)))
  replace HR := Aside0.mk (HR.out.below hb HR.out.lt)
  replace HN := Aside0.mk (HN.out.below hb HN.out.lt)
  clear hb m3
  cases hp : (r3 != 0 || r7) with
  | true =>
    have hr : (t1, t2, t3, t4, t5, t6) = flow_bad 14 := by
      have := HE.out; unfold flow_fin at this; rw [if_pos hp] at this; exact (Option.some.inj this).symm
    simp only [flow_bad, Prod.mk.injEq] at hr
    obtain ⟨rfl, rfl, rfl, rfl, rfl, rfl⟩ := hr
    clear hp
    have f0 := HR.out.frees
    have f1 := HR.out.cells
    go_wp2
    have HR1 := Aside0.mk (((((HR.out.set 0 (.int .i64 0)).set 1 (.string ⟨#[]⟩)).set 2 (.string ⟨#[]⟩)).set 3 (.int .i64 0)).set 4 (.int .i64 0))
    simp only [List.setIfInBounds_toArray, List.set_cons_zero, List.set_cons_succ] at HR1
    refine bodyPost_ret (results_cell_tmp rfl _ _ k _ _ rfl HR1.out Tryd.underlying88 rfl (by kernel_rfl)) rfl ?_
    exact ⟨rfl, by rw [HK.out]; exact ((((HB.out.setCell (p := ⟨k, 0, none⟩) (Nat.le_refl _) _).setCell (p := ⟨k, 1, none⟩) (Nat.le_refl _) _).setCell (p := ⟨k, 2, none⟩) (Nat.le_refl _) _).setCell (p := ⟨k, 3, none⟩) (Nat.le_refl _) _).setCell (p := ⟨k, 4, none⟩) (Nat.le_refl _) _⟩
  | false =>
  have HP := Aside0.mk hp
  clear hp
  by_cases h6 : r5 ≠ 6 ∧ r5 ≠ 17
  · as_aux_lemma =>
    have hr : (t1, t2, t3, t4, t5, t6) = flow_bad 6 := by
      have := HE.out; unfold flow_fin at this; rw [HP.out, if_neg (by decide), if_pos h6] at this; exact (Option.some.inj this).symm
    simp only [flow_bad, Prod.mk.injEq] at hr
    obtain ⟨rfl, rfl, rfl, rfl, rfl, rfl⟩ := hr
    have d1 : (r5 != 6) = true := bne_iff_ne.mpr h6.1
    have d2 : (r5 != 17) = true := bne_iff_ne.mpr h6.2
    clear h6
    have n1 := HN.out.cells
    have f0 := HR.out.frees
    have f1 := HR.out.cells
    go_wp2
    have HR1 := Aside0.mk (((((HR.out.set 0 (.int .i64 0)).set 1 (.string ⟨#[]⟩)).set 2 (.string ⟨#[]⟩)).set 3 (.int .i64 0)).set 4 (.int .i64 0))
    simp only [List.setIfInBounds_toArray, List.set_cons_zero, List.set_cons_succ] at HR1
    refine bodyPost_ret (results_cell_tmp rfl _ _ k _ _ rfl HR1.out Tryd.underlying88 rfl (by kernel_rfl)) rfl ?_
    exact ⟨rfl, by rw [HK.out]; exact ((((HB.out.setCell (p := ⟨k, 0, none⟩) (Nat.le_refl _) _).setCell (p := ⟨k, 1, none⟩) (Nat.le_refl _) _).setCell (p := ⟨k, 2, none⟩) (Nat.le_refl _) _).setCell (p := ⟨k, 3, none⟩) (Nat.le_refl _) _).setCell (p := ⟨k, 4, none⟩) (Nat.le_refl _) _⟩
  have hq : r5 = 6 ∨ r5 = 17 := by
    by_cases e6 : r5 = 6
    · left; exact e6
    · right; exact Classical.not_not.1 fun h => h6 ⟨e6, h⟩
  have HQ := Aside0.mk h6
  clear h6
  rcases hq with rfl | rfl
  · as_aux_lemma =>
    have hE : ((flow_ports.f 6 r11).bind fun q => if q.2.2.2 ≠ 0 then some (flow_bad q.2.2.2) else (sum_Pseudo.f r8 r9 6 r11.size).bind fun ps => (sum_Right.f [ps, r11]).bind fun r => if (if (6 : Int) = 17 ∧ q.2.2.1 = 0 then true else r) = true then some (6, r8, r9, q.1, q.2.1, 0) else some (flow_bad 5)) = some (t1, t2, t3, t4, t5, t6) := by
      have := HE.out; unfold flow_fin at this; rw [HP.out, if_neg (by decide), if_neg HQ.out] at this; exact this
    obtain ⟨⟨p1, p2, p3, p4⟩, hp1, hE⟩ := Option.bind_eq_some_iff.1 hE
    have HPP := Aside0.mk hp1
    replace hE : (if p4 ≠ 0 then some (flow_bad p4) else (sum_Pseudo.f r8 r9 6 r11.size).bind fun ps => (sum_Right.f [ps, r11]).bind fun r => if (if (6 : Int) = 17 ∧ p3 = 0 then true else r) = true then some (6, r8, r9, p1, p2, 0) else some (flow_bad 5)) = some (t1, t2, t3, t4, t5, t6) := hE
    clear HE hp1 HQ
    have HE := Aside0.mk hE
    clear hE
    have n1 := HN.out.cells
    go_wp2_with fail
    refine (flow_ports.calls 6 r11 p1 p2 p3 p4 _ HPP.out).mono ?_
    rintro e w8 ⟨rfl, hb⟩
    replace HB := Aside0.mk (HB.out.trans (hb.mono (by have := HB.out.size; have := HK.out; omega)))
    replace HR := Aside0.mk (HR.out.below hb HR.out.lt)
    replace HN := Aside0.mk (HN.out.below hb HN.out.lt)
    clear hb n1
    have n0 := HN.out.frees
    have n1 := HN.out.cells
    go_upto_region 12 with (fail)
    clear n0 n1
    replace HR := Aside0.mk ((HR.out.other ⟨g, 3, none⟩ (by have := HGT.out; simp; omega) (.int .i64 p1)).other ⟨g, 4, none⟩ (by have := HGT.out; simp; omega) (.int .i64 p2))
    replace HB := Aside0.mk ((HB.out.setCell (p := ⟨g, 3, none⟩) (by have := HGT.out; simp; omega) (.int .i64 p1)).setCell (p := ⟨g, 4, none⟩) (by have := HGT.out; simp; omega) (.int .i64 p2))
    replace HN := Aside0.mk ((HN.out.set 3 (.int .i64 p1)).set 4 (.int .i64 p2))
    simp only [List.setIfInBounds_toArray, List.set_cons_zero, List.set_cons_succ] at HN
    generalize (w8.setCell ⟨g, 3, none⟩ (.int .i64 p1)).setCell ⟨g, 4, none⟩ (.int .i64 p2) = w9 at HN HR HB ⊢
    by_cases h4 : p4 = 0
    case neg =>
      as_aux_lemma =>
      have hr : (t1, t2, t3, t4, t5, t6) = flow_bad p4 := by
        have := HE.out; rw [if_pos h4] at this; exact (Option.some.inj this).symm
      simp only [flow_bad, Prod.mk.injEq] at hr
      obtain ⟨rfl, rfl, rfl, rfl, rfl, rfl⟩ := hr
      have d1 : (t6 != 0) = true := bne_iff_ne.mpr h4
      clear h4 HE HPP
      have f0 := HR.out.frees
      have f1 := HR.out.cells
      go_wp2
      have HR1 := Aside0.mk (((((HR.out.set 0 (.int .i64 0)).set 1 (.string ⟨#[]⟩)).set 2 (.string ⟨#[]⟩)).set 3 (.int .i64 0)).set 4 (.int .i64 0))
      simp only [List.setIfInBounds_toArray, List.set_cons_zero, List.set_cons_succ] at HR1
      refine bodyPost_ret (results_cell_tmp rfl _ _ k _ _ rfl HR1.out Tryd.underlying88 rfl (by kernel_rfl)) rfl ?_
      exact ⟨rfl, by rw [HK.out]; exact ((((HB.out.setCell (p := ⟨k, 0, none⟩) (Nat.le_refl _) _).setCell (p := ⟨k, 1, none⟩) (Nat.le_refl _) _).setCell (p := ⟨k, 2, none⟩) (Nat.le_refl _) _).setCell (p := ⟨k, 3, none⟩) (Nat.le_refl _) _).setCell (p := ⟨k, 4, none⟩) (Nat.le_refl _) _⟩
    subst h4
    have hE : ((sum_Pseudo.f r8 r9 6 r11.size).bind fun ps => (sum_Right.f [ps, r11]).bind fun r => if (if (6 : Int) = 17 ∧ p3 = 0 then true else r) = true then some (6, r8, r9, p1, p2, 0) else some (flow_bad 5)) = some (t1, t2, t3, t4, t5, t6) := by have := HE.out; rw [if_neg (by decide)] at this; exact this
    obtain ⟨ps, hps, hE⟩ := Option.bind_eq_some_iff.1 hE
    obtain ⟨rt, hrt, hE⟩ := Option.bind_eq_some_iff.1 hE
    have HPS := Aside0.mk hps
    have HRT := Aside0.mk hrt
    clear HE hps hrt HPP
    have HE := Aside0.mk hE
    clear hE
    have n1 := HN.out.cells
    go_wp2_with fail
    refine (sum_Pseudo.calls r8 r9 6 (r11.size : Int) ps _ HPS.out).mono ?_
    rintro e w10 ⟨rfl, hb⟩
    replace HB := Aside0.mk (HB.out.trans (hb.mono (by have := HB.out.size; have := HK.out; omega)))
    replace HR := Aside0.mk (HR.out.below hb HR.out.lt)
    replace HN := Aside0.mk (HN.out.below hb HN.out.lt)
    clear hb n1
    go_wp2_with fail
    refine (sum_Right.calls _ _ [ps, r11] rt _ (C_two _ _ _ _) (by simp) HRT.out).mono ?_
    rintro e w11 ⟨rfl, hb⟩
    replace HR := Aside0.mk ((HR.out.alloc _).below hb (HR.out.alloc _).lt)
    replace HN := Aside0.mk ((HN.out.alloc _).below hb (HN.out.alloc _).lt)
    replace HB := Aside0.mk ((HB.out.alloc (by have := HB.out.size; have := HK.out; omega) _).trans (hb.mono (by have := HB.out.size; have := HK.out; simp; omega)))
    clear hb HRT HPS
    cases rt with
    | true =>
      as_aux_lemma =>
      have hr : (t1, t2, t3, t4, t5, t6) = (6, r8, r9, p1, p2, 0) := by
        have := HE.out; replace this := ite_in_no (fun h => absurd h.1 (by decide)) this; rw [if_pos rfl] at this; exact (Option.some.inj this).symm
      simp only [Prod.mk.injEq] at hr
      obtain ⟨rfl, rfl, rfl, rfl, rfl, rfl⟩ := hr
      have n1 := HN.out.cells
      have f0 := HR.out.frees
      have f1 := HR.out.cells
      go_wp2
      have HR1 := Aside0.mk (((((HR.out.set 0 (.int .i64 6)).set 1 (.string t2)).set 2 (.string t3)).set 3 (.int .i64 t4)).set 4 (.int .i64 t5))
      simp only [List.setIfInBounds_toArray, List.set_cons_zero, List.set_cons_succ] at HR1
      refine bodyPost_ret (results_cell_tmp rfl _ _ k _ _ rfl HR1.out Tryd.underlying88 rfl (by kernel_rfl)) rfl ?_
      exact ⟨rfl, by rw [HK.out]; exact ((((HB.out.setCell (p := ⟨k, 0, none⟩) (Nat.le_refl _) _).setCell (p := ⟨k, 1, none⟩) (Nat.le_refl _) _).setCell (p := ⟨k, 2, none⟩) (Nat.le_refl _) _).setCell (p := ⟨k, 3, none⟩) (Nat.le_refl _) _).setCell (p := ⟨k, 4, none⟩) (Nat.le_refl _) _⟩
    | false =>
      as_aux_lemma =>
      have hr : (t1, t2, t3, t4, t5, t6) = flow_bad 5 := by
        have := HE.out; replace this := ite_in_no (fun h => absurd h.1 (by decide)) this; rw [if_neg (by decide)] at this; exact (Option.some.inj this).symm
      simp only [flow_bad, Prod.mk.injEq] at hr
      obtain ⟨rfl, rfl, rfl, rfl, rfl, rfl⟩ := hr
      have n1 := HN.out.cells
      have f0 := HR.out.frees
      have f1 := HR.out.cells
      go_wp2
      have HR1 := Aside0.mk (((((HR.out.set 0 (.int .i64 0)).set 1 (.string ⟨#[]⟩)).set 2 (.string ⟨#[]⟩)).set 3 (.int .i64 0)).set 4 (.int .i64 0))
      simp only [List.setIfInBounds_toArray, List.set_cons_zero, List.set_cons_succ] at HR1
      refine bodyPost_ret (results_cell_tmp rfl _ _ k _ _ rfl HR1.out Tryd.underlying88 rfl (by kernel_rfl)) rfl ?_
      exact ⟨rfl, by rw [HK.out]; exact ((((HB.out.setCell (p := ⟨k, 0, none⟩) (Nat.le_refl _) _).setCell (p := ⟨k, 1, none⟩) (Nat.le_refl _) _).setCell (p := ⟨k, 2, none⟩) (Nat.le_refl _) _).setCell (p := ⟨k, 3, none⟩) (Nat.le_refl _) _).setCell (p := ⟨k, 4, none⟩) (Nat.le_refl _) _⟩
  · as_aux_lemma =>
    have hE : ((flow_ports.f 17 r11).bind fun q => if q.2.2.2 ≠ 0 then some (flow_bad q.2.2.2) else (sum_Pseudo.f r8 r9 17 r11.size).bind fun ps => (sum_Right.f [ps, r11]).bind fun r => if (if q.2.2.1 = 0 then true else r) = true then some (17, r8, r9, q.1, q.2.1, 0) else some (flow_bad 5)) = some (t1, t2, t3, t4, t5, t6) := by
      have := HE.out; unfold flow_fin at this; rw [HP.out, if_neg (by decide), if_neg HQ.out] at this; simpa only [eq_self, true_and] using this
    obtain ⟨⟨p1, p2, p3, p4⟩, hp1, hE⟩ := Option.bind_eq_some_iff.1 hE
    have HPP := Aside0.mk hp1
    replace hE : (if p4 ≠ 0 then some (flow_bad p4) else (sum_Pseudo.f r8 r9 17 r11.size).bind fun ps => (sum_Right.f [ps, r11]).bind fun r => if (if p3 = 0 then true else r) = true then some (17, r8, r9, p1, p2, 0) else some (flow_bad 5)) = some (t1, t2, t3, t4, t5, t6) := hE
    clear HE hp1 HQ
    have HE := Aside0.mk hE
    clear hE
    have n1 := HN.out.cells
    go_wp2_with fail
    refine (flow_ports.calls 17 r11 p1 p2 p3 p4 _ HPP.out).mono ?_
    rintro e w8 ⟨rfl, hb⟩
    replace HB := Aside0.mk (HB.out.trans (hb.mono (by have := HB.out.size; have := HK.out; omega)))
    replace HR := Aside0.mk (HR.out.below hb HR.out.lt)
    replace HN := Aside0.mk (HN.out.below hb HN.out.lt)
    clear hb n1
    have n0 := HN.out.frees
    have n1 := HN.out.cells
    go_upto_region 12 with (fail)
    clear n0 n1
    replace HR := Aside0.mk ((HR.out.other ⟨g, 3, none⟩ (by have := HGT.out; simp; omega) (.int .i64 p1)).other ⟨g, 4, none⟩ (by have := HGT.out; simp; omega) (.int .i64 p2))
    replace HB := Aside0.mk ((HB.out.setCell (p := ⟨g, 3, none⟩) (by have := HGT.out; simp; omega) (.int .i64 p1)).setCell (p := ⟨g, 4, none⟩) (by have := HGT.out; simp; omega) (.int .i64 p2))
    replace HN := Aside0.mk ((HN.out.set 3 (.int .i64 p1)).set 4 (.int .i64 p2))
    simp only [List.setIfInBounds_toArray, List.set_cons_zero, List.set_cons_succ] at HN
    generalize (w8.setCell ⟨g, 3, none⟩ (.int .i64 p1)).setCell ⟨g, 4, none⟩ (.int .i64 p2) = w9 at HN HR HB ⊢
    by_cases h4 : p4 = 0
    case neg =>
      as_aux_lemma =>
      have hr : (t1, t2, t3, t4, t5, t6) = flow_bad p4 := by
        have := HE.out; rw [if_pos h4] at this; exact (Option.some.inj this).symm
      simp only [flow_bad, Prod.mk.injEq] at hr
      obtain ⟨rfl, rfl, rfl, rfl, rfl, rfl⟩ := hr
      have d1 : (t6 != 0) = true := bne_iff_ne.mpr h4
      clear h4 HE HPP
      have f0 := HR.out.frees
      have f1 := HR.out.cells
      go_wp2
      have HR1 := Aside0.mk (((((HR.out.set 0 (.int .i64 0)).set 1 (.string ⟨#[]⟩)).set 2 (.string ⟨#[]⟩)).set 3 (.int .i64 0)).set 4 (.int .i64 0))
      simp only [List.setIfInBounds_toArray, List.set_cons_zero, List.set_cons_succ] at HR1
      refine bodyPost_ret (results_cell_tmp rfl _ _ k _ _ rfl HR1.out Tryd.underlying88 rfl (by kernel_rfl)) rfl ?_
      exact ⟨rfl, by rw [HK.out]; exact ((((HB.out.setCell (p := ⟨k, 0, none⟩) (Nat.le_refl _) _).setCell (p := ⟨k, 1, none⟩) (Nat.le_refl _) _).setCell (p := ⟨k, 2, none⟩) (Nat.le_refl _) _).setCell (p := ⟨k, 3, none⟩) (Nat.le_refl _) _).setCell (p := ⟨k, 4, none⟩) (Nat.le_refl _) _⟩
    subst h4
    have hE : ((sum_Pseudo.f r8 r9 17 r11.size).bind fun ps => (sum_Right.f [ps, r11]).bind fun r => if (if p3 = 0 then true else r) = true then some (17, r8, r9, p1, p2, 0) else some (flow_bad 5)) = some (t1, t2, t3, t4, t5, t6) := by have := HE.out; rw [if_neg (by decide)] at this; exact this
    obtain ⟨ps, hps, hE⟩ := Option.bind_eq_some_iff.1 hE
    obtain ⟨rt, hrt, hE⟩ := Option.bind_eq_some_iff.1 hE
    have HPS := Aside0.mk hps
    have HRT := Aside0.mk hrt
    clear HE hps hrt HPP
    have HE := Aside0.mk hE
    clear hE
    have n1 := HN.out.cells
    go_wp2_with fail
    refine (sum_Pseudo.calls r8 r9 17 (r11.size : Int) ps _ HPS.out).mono ?_
    rintro e w10 ⟨rfl, hb⟩
    replace HB := Aside0.mk (HB.out.trans (hb.mono (by have := HB.out.size; have := HK.out; omega)))
    replace HR := Aside0.mk (HR.out.below hb HR.out.lt)
    replace HN := Aside0.mk (HN.out.below hb HN.out.lt)
    clear hb n1
    go_wp2_with fail
    refine (sum_Right.calls _ _ [ps, r11] rt _ (C_two _ _ _ _) (by simp) HRT.out).mono ?_
    rintro e w11 ⟨rfl, hb⟩
    replace HR := Aside0.mk ((HR.out.alloc _).below hb (HR.out.alloc _).lt)
    replace HN := Aside0.mk ((HN.out.alloc _).below hb (HN.out.alloc _).lt)
    replace HB := Aside0.mk ((HB.out.alloc (by have := HB.out.size; have := HK.out; omega) _).trans (hb.mono (by have := HB.out.size; have := HK.out; simp; omega)))
    clear hb HRT HPS
    by_cases h3 : p3 = 0
    · subst h3
      have n1 := HN.out.cells
      have m4 := four_m_bare r1 r2 r3 r4 17 r6 r7 r8 r9 r10
      go_wp2_with fail
      refine (four_bare r1 r2 r3 r4 17 r6 r7 r8 r9 r10 _).mono ?_
      rintro e w12 ⟨rfl, hb⟩
      replace HB := Aside0.mk (HB.out.trans (hb.mono (by have := HB.out.size; have := HK.out; omega)))
      replace HR := Aside0.mk (HR.out.below hb HR.out.lt)
      replace HN := Aside0.mk (HN.out.below hb HN.out.lt)
      clear hb m4 n1
      have hr : (t1, t2, t3, t4, t5, t6) = (17, r8, r9, p1, p2, 0) := by
        have := HE.out; replace this := ite_in_yes (by first | trivial | rfl) this; rw [if_pos rfl] at this; exact (Option.some.inj this).symm
      simp only [Prod.mk.injEq] at hr
      obtain ⟨rfl, rfl, rfl, rfl, rfl, rfl⟩ := hr
      have n1 := HN.out.cells
      have f0 := HR.out.frees
      have f1 := HR.out.cells
      go_wp2
      have HR1 := Aside0.mk (((((HR.out.set 0 (.int .i64 17)).set 1 (.string t2)).set 2 (.string t3)).set 3 (.int .i64 t4)).set 4 (.int .i64 t5))
      simp only [List.setIfInBounds_toArray, List.set_cons_zero, List.set_cons_succ] at HR1
      refine bodyPost_ret (results_cell_tmp rfl _ _ k _ _ rfl HR1.out Tryd.underlying88 rfl (by kernel_rfl)) rfl ?_
      exact ⟨rfl, by rw [HK.out]; exact ((((HB.out.setCell (p := ⟨k, 0, none⟩) (Nat.le_refl _) _).setCell (p := ⟨k, 1, none⟩) (Nat.le_refl _) _).setCell (p := ⟨k, 2, none⟩) (Nat.le_refl _) _).setCell (p := ⟨k, 3, none⟩) (Nat.le_refl _) _).setCell (p := ⟨k, 4, none⟩) (Nat.le_refl _) _⟩
    · have e3 : (p3 == 0) = false := beq_eq_false_iff_ne.mpr h3
      have H3 := Aside0.mk h3
      clear h3
      cases rt with
      | true =>
        as_aux_lemma =>
        have hr : (t1, t2, t3, t4, t5, t6) = (17, r8, r9, p1, p2, 0) := by
          have := HE.out; replace this := ite_in_no H3.out this; rw [if_pos rfl] at this; exact (Option.some.inj this).symm
        simp only [Prod.mk.injEq] at hr
        obtain ⟨rfl, rfl, rfl, rfl, rfl, rfl⟩ := hr
        have n1 := HN.out.cells
        have f0 := HR.out.frees
        have f1 := HR.out.cells
        go_wp2
        have HR1 := Aside0.mk (((((HR.out.set 0 (.int .i64 17)).set 1 (.string t2)).set 2 (.string t3)).set 3 (.int .i64 t4)).set 4 (.int .i64 t5))
        simp only [List.setIfInBounds_toArray, List.set_cons_zero, List.set_cons_succ] at HR1
        refine bodyPost_ret (results_cell_tmp rfl _ _ k _ _ rfl HR1.out Tryd.underlying88 rfl (by kernel_rfl)) rfl ?_
        exact ⟨rfl, by rw [HK.out]; exact ((((HB.out.setCell (p := ⟨k, 0, none⟩) (Nat.le_refl _) _).setCell (p := ⟨k, 1, none⟩) (Nat.le_refl _) _).setCell (p := ⟨k, 2, none⟩) (Nat.le_refl _) _).setCell (p := ⟨k, 3, none⟩) (Nat.le_refl _) _).setCell (p := ⟨k, 4, none⟩) (Nat.le_refl _) _⟩
      | false =>
        as_aux_lemma =>
        have hr : (t1, t2, t3, t4, t5, t6) = flow_bad 5 := by
          have := HE.out; replace this := ite_in_no H3.out this; rw [if_neg (by decide)] at this; exact (Option.some.inj this).symm
        simp only [flow_bad, Prod.mk.injEq] at hr
        obtain ⟨rfl, rfl, rfl, rfl, rfl, rfl⟩ := hr
        have n1 := HN.out.cells
        have f0 := HR.out.frees
        have f1 := HR.out.cells
        go_wp2
        have HR1 := Aside0.mk (((((HR.out.set 0 (.int .i64 0)).set 1 (.string ⟨#[]⟩)).set 2 (.string ⟨#[]⟩)).set 3 (.int .i64 0)).set 4 (.int .i64 0))
        simp only [List.setIfInBounds_toArray, List.set_cons_zero, List.set_cons_succ] at HR1
        refine bodyPost_ret (results_cell_tmp rfl _ _ k _ _ rfl HR1.out Tryd.underlying88 rfl (by kernel_rfl)) rfl ?_
        exact ⟨rfl, by rw [HK.out]; exact ((((HB.out.setCell (p := ⟨k, 0, none⟩) (Nat.le_refl _) _).setCell (p := ⟨k, 1, none⟩) (Nat.le_refl _) _).setCell (p := ⟨k, 2, none⟩) (Nat.le_refl _) _).setCell (p := ⟨k, 3, none⟩) (Nat.le_refl _) _).setCell (p := ⟨k, 4, none⟩) (Nat.le_refl _) _⟩
set_option maxHeartbeats 8000000 in
set_option maxRecDepth 100000 in
theorem flow_six (s : ByteArray) (r1 r2 r3 r4 : Int) (r5 r6 r7 : ByteArray) (w : World) (t1 : Int) (t2 t3 : ByteArray) (t4 t5 t6 : Int)
    (ho : Calls Tryd.prog 95 #[.string s] (w.alloc (.cells #[.int .i64 0, .string ⟨#[]⟩, .string ⟨#[]⟩, .int .i64 0, .int .i64 0] 88)) fun e w' => e = .returned (.tuple #[.iface 197 (.agg (cs6 r1 r2 r3 r4 r5 r6)), .string r7, .int .i64 0]) ∧ Below (w.heap.size + 1) (w.alloc (.cells #[.int .i64 0, .string ⟨#[]⟩, .string ⟨#[]⟩, .int .i64 0, .int .i64 0] 88)) w')
    (hf : flow_fin r3 r5 r6 r7 false false = some (t1, t2, t3, t4, t5, t6)) :
    Calls Tryd.prog 51 #[.string s] w fun e w' => e = .returned (.tuple #[.agg #[.int .i64 t1, .string t2, .string t3, .int .i64 t4, .int .i64 t5], .int .i64 t6]) ∧ Below w.heap.size w w' := by
  have HO := Aside0.mk ho
  have hu := Tryd.underlying88
  obtain ⟨k, hk⟩ : ∃ k, w.heap.size = k := ⟨_, rfl⟩
  have HK := Aside0.mk (show w.heap.size = k from hk)
  have HB := Aside0.mk ((Below.refl w.heap.size w).alloc (Nat.le_refl _) (.cells #[.int .i64 0, .string ⟨#[]⟩, .string ⟨#[]⟩, .int .i64 0, .int .i64 0] 88))
  have HR := Aside0.mk (Blk.new w 88 #[.int .i64 0, .string ⟨#[]⟩, .string ⟨#[]⟩, .int .i64 0, .int .i64 0])
  have HE := Aside0.mk hf
  clear ho hf
  go_enter Tryd.func51, Tryd.ntmps51
  go_wp2_with fail
  refine HO.out.mono ?_
  rintro e w2 ⟨rfl, hb⟩
  replace HB := Aside0.mk (HB.out.trans (hb.mono (by omega)))
  replace HR := Aside0.mk (HR.out.below hb (by omega))
  clear HO hb
  rw [hk] at HB HR
  clear hk
  have m1 := six_m_proto r1 r2 r3 r4 r5 r6
  go_wp2_with fail
  refine (six_proto r1 r2 r3 r4 r5 r6 _).mono ?_
  rintro e w3 ⟨rfl, hb⟩
  replace HB := Aside0.mk (HB.out.trans (hb.mono (by have := HB.out.size; have := HK.out; omega)))
  replace HR := Aside0.mk (HR.out.below hb HR.out.lt)
  clear hb m1
  go_upto_region 5 with (fail)
  have HN := Aside0.mk (Blk.new w3 88 #[.int .i64 r3, .string ⟨#[]⟩, .string ⟨#[]⟩, .int .i64 0, .int .i64 0])
  have HGT := Aside0.mk (show k < w3.heap.size from HR.out.lt)
  replace HR := Aside0.mk (HR.out.alloc (.cells #[.int .i64 r3, .string ⟨#[]⟩, .string ⟨#[]⟩, .int .i64 0, .int .i64 0] 88))
  replace HB := Aside0.mk (HB.out.alloc (by have := HGT.out; omega) (.cells #[.int .i64 r3, .string ⟨#[]⟩, .string ⟨#[]⟩, .int .i64 0, .int .i64 0] 88))
  generalize w3.heap.size = g at HN HGT ⊢
  generalize w3.alloc (.cells #[.int .i64 r3, .string ⟨#[]⟩, .string ⟨#[]⟩, .int .i64 0, .int .i64 0] 88) = w4 at HN HR HB ⊢
  have m2 := six_m_ends r1 r2 r3 r4 r5 r6
  go_wp2_with fail
  refine (six_ends r1 r2 r3 r4 r5 r6 _).mono ?_
  rintro e w5 ⟨rfl, hb⟩
  replace HB := Aside0.mk (HB.out.trans (hb.mono (by have := HB.out.size; have := HK.out; omega)))
  replace HR := Aside0.mk (HR.out.below hb HR.out.lt)
  replace HN := Aside0.mk (HN.out.below hb HN.out.lt)
  clear hb m2
  have n0 := HN.out.frees
  have n1 := HN.out.cells
  go_upto_region 6 with (fail)
  clear n0 n1
  replace HR := Aside0.mk ((HR.out.other ⟨g, 1, none⟩ (by have := HGT.out; simp; omega) (.string r5)).other ⟨g, 2, none⟩ (by have := HGT.out; simp; omega) (.string r6))
  replace HB := Aside0.mk ((HB.out.setCell (p := ⟨g, 1, none⟩) (by have := HGT.out; simp; omega) (.string r5)).setCell (p := ⟨g, 2, none⟩) (by have := HGT.out; simp; omega) (.string r6))
  replace HN := Aside0.mk ((HN.out.set 1 (.string r5)).set 2 (.string r6))
  simp only [List.setIfInBounds_toArray, List.set_cons_zero, List.set_cons_succ] at HN
  generalize (w5.setCell ⟨g, 1, none⟩ (.string r5)).setCell ⟨g, 2, none⟩ (.string r6) = w6 at HN HR HB ⊢
  have m3 := six_m_piece r1 r2 r3 r4 r5 r6
  go_wp2_with fail
  refine (six_piece r1 r2 r3 r4 r5 r6 _).mono ?_
  rintro e w7 ⟨rfl, hb⟩
  replace HB := Aside0.mk (HB.out.trans (hb.mono (by have := HB.out.size; have := HK.out; omega)))
  replace HR := Aside0.mk (HR.out.below hb HR.out.lt)
  replace HN := Aside0.mk (HN.out.below hb HN.out.lt)
  clear hb m3
  have HP := Aside0.mk (show false = false from rfl)
  by_cases h6 : r3 ≠ 6 ∧ r3 ≠ 17
  · as_aux_lemma =>
    have hr : (t1, t2, t3, t4, t5, t6) = flow_bad 6 := by
      have := HE.out; unfold flow_fin at this; rw [if_neg (by decide), if_pos h6] at this; exact (Option.some.inj this).symm
    simp only [flow_bad, Prod.mk.injEq] at hr
    obtain ⟨rfl, rfl, rfl, rfl, rfl, rfl⟩ := hr
    have d1 : (r3 != 6) = true := bne_iff_ne.mpr h6.1
    have d2 : (r3 != 17) = true := bne_iff_ne.mpr h6.2
    clear h6
    have n1 := HN.out.cells
    have f0 := HR.out.frees
    have f1 := HR.out.cells
    go_wp2
    have HR1 := Aside0.mk (((((HR.out.set 0 (.int .i64 0)).set 1 (.string ⟨#[]⟩)).set 2 (.string ⟨#[]⟩)).set 3 (.int .i64 0)).set 4 (.int .i64 0))
    simp only [List.setIfInBounds_toArray, List.set_cons_zero, List.set_cons_succ] at HR1
    refine bodyPost_ret (results_cell_tmp rfl _ _ k _ _ rfl HR1.out Tryd.underlying88 rfl (by kernel_rfl)) rfl ?_
    exact ⟨rfl, by rw [HK.out]; exact ((((HB.out.setCell (p := ⟨k, 0, none⟩) (Nat.le_refl _) _).setCell (p := ⟨k, 1, none⟩) (Nat.le_refl _) _).setCell (p := ⟨k, 2, none⟩) (Nat.le_refl _) _).setCell (p := ⟨k, 3, none⟩) (Nat.le_refl _) _).setCell (p := ⟨k, 4, none⟩) (Nat.le_refl _) _⟩
  have hq : r3 = 6 ∨ r3 = 17 := by
    by_cases e6 : r3 = 6
    · left; exact e6
    · right; exact Classical.not_not.1 fun h => h6 ⟨e6, h⟩
  have HQ := Aside0.mk h6
  clear h6
  rcases hq with rfl | rfl
  · as_aux_lemma =>
    have hE : ((flow_ports.f 6 r7).bind fun q => if q.2.2.2 ≠ 0 then some (flow_bad q.2.2.2) else (sum_Pseudo.f r5 r6 6 r7.size).bind fun ps => (sum_Right.f [ps, r7]).bind fun r => if (if (6 : Int) = 17 ∧ q.2.2.1 = 0 then false else r) = true then some (6, r5, r6, q.1, q.2.1, 0) else some (flow_bad 5)) = some (t1, t2, t3, t4, t5, t6) := by
      have := HE.out; unfold flow_fin at this; rw [if_neg (by decide), if_neg HQ.out] at this; exact this
    obtain ⟨⟨p1, p2, p3, p4⟩, hp1, hE⟩ := Option.bind_eq_some_iff.1 hE
    have HPP := Aside0.mk hp1
    replace hE : (if p4 ≠ 0 then some (flow_bad p4) else (sum_Pseudo.f r5 r6 6 r7.size).bind fun ps => (sum_Right.f [ps, r7]).bind fun r => if (if (6 : Int) = 17 ∧ p3 = 0 then false else r) = true then some (6, r5, r6, p1, p2, 0) else some (flow_bad 5)) = some (t1, t2, t3, t4, t5, t6) := hE
    clear HE hp1 HQ
    have HE := Aside0.mk hE
    clear hE
    have n1 := HN.out.cells
    go_wp2_with fail
    refine (flow_ports.calls 6 r7 p1 p2 p3 p4 _ HPP.out).mono ?_
    rintro e w8 ⟨rfl, hb⟩
    replace HB := Aside0.mk (HB.out.trans (hb.mono (by have := HB.out.size; have := HK.out; omega)))
    replace HR := Aside0.mk (HR.out.below hb HR.out.lt)
    replace HN := Aside0.mk (HN.out.below hb HN.out.lt)
    clear hb n1
    have n0 := HN.out.frees
    have n1 := HN.out.cells
    go_upto_region 12 with (fail)
    clear n0 n1
    replace HR := Aside0.mk ((HR.out.other ⟨g, 3, none⟩ (by have := HGT.out; simp; omega) (.int .i64 p1)).other ⟨g, 4, none⟩ (by have := HGT.out; simp; omega) (.int .i64 p2))
    replace HB := Aside0.mk ((HB.out.setCell (p := ⟨g, 3, none⟩) (by have := HGT.out; simp; omega) (.int .i64 p1)).setCell (p := ⟨g, 4, none⟩) (by have := HGT.out; simp; omega) (.int .i64 p2))
    replace HN := Aside0.mk ((HN.out.set 3 (.int .i64 p1)).set 4 (.int .i64 p2))
    simp only [List.setIfInBounds_toArray, List.set_cons_zero, List.set_cons_succ] at HN
    generalize (w8.setCell ⟨g, 3, none⟩ (.int .i64 p1)).setCell ⟨g, 4, none⟩ (.int .i64 p2) = w9 at HN HR HB ⊢
    by_cases h4 : p4 = 0
    case neg =>
      as_aux_lemma =>
      have hr : (t1, t2, t3, t4, t5, t6) = flow_bad p4 := by
        have := HE.out; rw [if_pos h4] at this; exact (Option.some.inj this).symm
      simp only [flow_bad, Prod.mk.injEq] at hr
      obtain ⟨rfl, rfl, rfl, rfl, rfl, rfl⟩ := hr
      have d1 : (t6 != 0) = true := bne_iff_ne.mpr h4
      clear h4 HE HPP
      have f0 := HR.out.frees
      have f1 := HR.out.cells
      go_wp2
      have HR1 := Aside0.mk (((((HR.out.set 0 (.int .i64 0)).set 1 (.string ⟨#[]⟩)).set 2 (.string ⟨#[]⟩)).set 3 (.int .i64 0)).set 4 (.int .i64 0))
      simp only [List.setIfInBounds_toArray, List.set_cons_zero, List.set_cons_succ] at HR1
      refine bodyPost_ret (results_cell_tmp rfl _ _ k _ _ rfl HR1.out Tryd.underlying88 rfl (by kernel_rfl)) rfl ?_
      exact ⟨rfl, by rw [HK.out]; exact ((((HB.out.setCell (p := ⟨k, 0, none⟩) (Nat.le_refl _) _).setCell (p := ⟨k, 1, none⟩) (Nat.le_refl _) _).setCell (p := ⟨k, 2, none⟩) (Nat.le_refl _) _).setCell (p := ⟨k, 3, none⟩) (Nat.le_refl _) _).setCell (p := ⟨k, 4, none⟩) (Nat.le_refl _) _⟩
    subst h4
    have hE : ((sum_Pseudo.f r5 r6 6 r7.size).bind fun ps => (sum_Right.f [ps, r7]).bind fun r => if (if (6 : Int) = 17 ∧ p3 = 0 then false else r) = true then some (6, r5, r6, p1, p2, 0) else some (flow_bad 5)) = some (t1, t2, t3, t4, t5, t6) := by have := HE.out; rw [if_neg (by decide)] at this; exact this
    obtain ⟨ps, hps, hE⟩ := Option.bind_eq_some_iff.1 hE
    obtain ⟨rt, hrt, hE⟩ := Option.bind_eq_some_iff.1 hE
    have HPS := Aside0.mk hps
    have HRT := Aside0.mk hrt
    clear HE hps hrt HPP
    have HE := Aside0.mk hE
    clear hE
    have n1 := HN.out.cells
    go_wp2_with fail
    refine (sum_Pseudo.calls r5 r6 6 (r7.size : Int) ps _ HPS.out).mono ?_
    rintro e w10 ⟨rfl, hb⟩
    replace HB := Aside0.mk (HB.out.trans (hb.mono (by have := HB.out.size; have := HK.out; omega)))
    replace HR := Aside0.mk (HR.out.below hb HR.out.lt)
    replace HN := Aside0.mk (HN.out.below hb HN.out.lt)
    clear hb n1
    go_wp2_with fail
    refine (sum_Right.calls _ _ [ps, r7] rt _ (C_two _ _ _ _) (by simp) HRT.out).mono ?_
    rintro e w11 ⟨rfl, hb⟩
    replace HR := Aside0.mk ((HR.out.alloc _).below hb (HR.out.alloc _).lt)
    replace HN := Aside0.mk ((HN.out.alloc _).below hb (HN.out.alloc _).lt)
    replace HB := Aside0.mk ((HB.out.alloc (by have := HB.out.size; have := HK.out; omega) _).trans (hb.mono (by have := HB.out.size; have := HK.out; simp; omega)))
    clear hb HRT HPS
    cases rt with
    | true =>
      as_aux_lemma =>
      have hr : (t1, t2, t3, t4, t5, t6) = (6, r5, r6, p1, p2, 0) := by
        have := HE.out; replace this := ite_in_no (fun h => absurd h.1 (by decide)) this; rw [if_pos rfl] at this; exact (Option.some.inj this).symm
      simp only [Prod.mk.injEq] at hr
      obtain ⟨rfl, rfl, rfl, rfl, rfl, rfl⟩ := hr
      have n1 := HN.out.cells
      have f0 := HR.out.frees
      have f1 := HR.out.cells
      go_wp2
      have HR1 := Aside0.mk (((((HR.out.set 0 (.int .i64 6)).set 1 (.string t2)).set 2 (.string t3)).set 3 (.int .i64 t4)).set 4 (.int .i64 t5))
      simp only [List.setIfInBounds_toArray, List.set_cons_zero, List.set_cons_succ] at HR1
      refine bodyPost_ret (results_cell_tmp rfl _ _ k _ _ rfl HR1.out Tryd.underlying88 rfl (by kernel_rfl)) rfl ?_
      exact ⟨rfl, by rw [HK.out]; exact ((((HB.out.setCell (p := ⟨k, 0, none⟩) (Nat.le_refl _) _).setCell (p := ⟨k, 1, none⟩) (Nat.le_refl _) _).setCell (p := ⟨k, 2, none⟩) (Nat.le_refl _) _).setCell (p := ⟨k, 3, none⟩) (Nat.le_refl _) _).setCell (p := ⟨k, 4, none⟩) (Nat.le_refl _) _⟩
    | false =>
      as_aux_lemma =>
      have hr : (t1, t2, t3, t4, t5, t6) = flow_bad 5 := by
        have := HE.out; replace this := ite_in_no (fun h => absurd h.1 (by decide)) this; rw [if_neg (by decide)] at this; exact (Option.some.inj this).symm
      simp only [flow_bad, Prod.mk.injEq] at hr
      obtain ⟨rfl, rfl, rfl, rfl, rfl, rfl⟩ := hr
      have n1 := HN.out.cells
      have f0 := HR.out.frees
      have f1 := HR.out.cells
      go_wp2
      have HR1 := Aside0.mk (((((HR.out.set 0 (.int .i64 0)).set 1 (.string ⟨#[]⟩)).set 2 (.string ⟨#[]⟩)).set 3 (.int .i64 0)).set 4 (.int .i64 0))
      simp only [List.setIfInBounds_toArray, List.set_cons_zero, List.set_cons_succ] at HR1
      refine bodyPost_ret (results_cell_tmp rfl _ _ k _ _ rfl HR1.out Tryd.underlying88 rfl (by kernel_rfl)) rfl ?_
      exact ⟨rfl, by rw [HK.out]; exact ((((HB.out.setCell (p := ⟨k, 0, none⟩) (Nat.le_refl _) _).setCell (p := ⟨k, 1, none⟩) (Nat.le_refl _) _).setCell (p := ⟨k, 2, none⟩) (Nat.le_refl _) _).setCell (p := ⟨k, 3, none⟩) (Nat.le_refl _) _).setCell (p := ⟨k, 4, none⟩) (Nat.le_refl _) _⟩
  · as_aux_lemma =>
    have hE : ((flow_ports.f 17 r7).bind fun q => if q.2.2.2 ≠ 0 then some (flow_bad q.2.2.2) else (sum_Pseudo.f r5 r6 17 r7.size).bind fun ps => (sum_Right.f [ps, r7]).bind fun r => if (if q.2.2.1 = 0 then false else r) = true then some (17, r5, r6, q.1, q.2.1, 0) else some (flow_bad 5)) = some (t1, t2, t3, t4, t5, t6) := by
      have := HE.out; unfold flow_fin at this; rw [if_neg (by decide), if_neg HQ.out] at this; simpa only [eq_self, true_and] using this
    obtain ⟨⟨p1, p2, p3, p4⟩, hp1, hE⟩ := Option.bind_eq_some_iff.1 hE
    have HPP := Aside0.mk hp1
    replace hE : (if p4 ≠ 0 then some (flow_bad p4) else (sum_Pseudo.f r5 r6 17 r7.size).bind fun ps => (sum_Right.f [ps, r7]).bind fun r => if (if p3 = 0 then false else r) = true then some (17, r5, r6, p1, p2, 0) else some (flow_bad 5)) = some (t1, t2, t3, t4, t5, t6) := hE
    clear HE hp1 HQ
    have HE := Aside0.mk hE
    clear hE
    have n1 := HN.out.cells
    go_wp2_with fail
    refine (flow_ports.calls 17 r7 p1 p2 p3 p4 _ HPP.out).mono ?_
    rintro e w8 ⟨rfl, hb⟩
    replace HB := Aside0.mk (HB.out.trans (hb.mono (by have := HB.out.size; have := HK.out; omega)))
    replace HR := Aside0.mk (HR.out.below hb HR.out.lt)
    replace HN := Aside0.mk (HN.out.below hb HN.out.lt)
    clear hb n1
    have n0 := HN.out.frees
    have n1 := HN.out.cells
    go_upto_region 12 with (fail)
    clear n0 n1
    replace HR := Aside0.mk ((HR.out.other ⟨g, 3, none⟩ (by have := HGT.out; simp; omega) (.int .i64 p1)).other ⟨g, 4, none⟩ (by have := HGT.out; simp; omega) (.int .i64 p2))
    replace HB := Aside0.mk ((HB.out.setCell (p := ⟨g, 3, none⟩) (by have := HGT.out; simp; omega) (.int .i64 p1)).setCell (p := ⟨g, 4, none⟩) (by have := HGT.out; simp; omega) (.int .i64 p2))
    replace HN := Aside0.mk ((HN.out.set 3 (.int .i64 p1)).set 4 (.int .i64 p2))
    simp only [List.setIfInBounds_toArray, List.set_cons_zero, List.set_cons_succ] at HN
    generalize (w8.setCell ⟨g, 3, none⟩ (.int .i64 p1)).setCell ⟨g, 4, none⟩ (.int .i64 p2) = w9 at HN HR HB ⊢
    by_cases h4 : p4 = 0
    case neg =>
      as_aux_lemma =>
      have hr : (t1, t2, t3, t4, t5, t6) = flow_bad p4 := by
        have := HE.out; rw [if_pos h4] at this; exact (Option.some.inj this).symm
      simp only [flow_bad, Prod.mk.injEq] at hr
      obtain ⟨rfl, rfl, rfl, rfl, rfl, rfl⟩ := hr
      have d1 : (t6 != 0) = true := bne_iff_ne.mpr h4
      clear h4 HE HPP
      have f0 := HR.out.frees
      have f1 := HR.out.cells
      go_wp2
      have HR1 := Aside0.mk (((((HR.out.set 0 (.int .i64 0)).set 1 (.string ⟨#[]⟩)).set 2 (.string ⟨#[]⟩)).set 3 (.int .i64 0)).set 4 (.int .i64 0))
      simp only [List.setIfInBounds_toArray, List.set_cons_zero, List.set_cons_succ] at HR1
      refine bodyPost_ret (results_cell_tmp rfl _ _ k _ _ rfl HR1.out Tryd.underlying88 rfl (by kernel_rfl)) rfl ?_
      exact ⟨rfl, by rw [HK.out]; exact ((((HB.out.setCell (p := ⟨k, 0, none⟩) (Nat.le_refl _) _).setCell (p := ⟨k, 1, none⟩) (Nat.le_refl _) _).setCell (p := ⟨k, 2, none⟩) (Nat.le_refl _) _).setCell (p := ⟨k, 3, none⟩) (Nat.le_refl _) _).setCell (p := ⟨k, 4, none⟩) (Nat.le_refl _) _⟩
    subst h4
    have hE : ((sum_Pseudo.f r5 r6 17 r7.size).bind fun ps => (sum_Right.f [ps, r7]).bind fun r => if (if p3 = 0 then false else r) = true then some (17, r5, r6, p1, p2, 0) else some (flow_bad 5)) = some (t1, t2, t3, t4, t5, t6) := by have := HE.out; rw [if_neg (by decide)] at this; exact this
    obtain ⟨ps, hps, hE⟩ := Option.bind_eq_some_iff.1 hE
    obtain ⟨rt, hrt, hE⟩ := Option.bind_eq_some_iff.1 hE
    have HPS := Aside0.mk hps
    have HRT := Aside0.mk hrt
    clear HE hps hrt HPP
    have HE := Aside0.mk hE
    clear hE
    have n1 := HN.out.cells
    go_wp2_with fail
    refine (sum_Pseudo.calls r5 r6 17 (r7.size : Int) ps _ HPS.out).mono ?_
    rintro e w10 ⟨rfl, hb⟩
    replace HB := Aside0.mk (HB.out.trans (hb.mono (by have := HB.out.size; have := HK.out; omega)))
    replace HR := Aside0.mk (HR.out.below hb HR.out.lt)
    replace HN := Aside0.mk (HN.out.below hb HN.out.lt)
    clear hb n1
    go_wp2_with fail
    refine (sum_Right.calls _ _ [ps, r7] rt _ (C_two _ _ _ _) (by simp) HRT.out).mono ?_
    rintro e w11 ⟨rfl, hb⟩
    replace HR := Aside0.mk ((HR.out.alloc _).below hb (HR.out.alloc _).lt)
    replace HN := Aside0.mk ((HN.out.alloc _).below hb (HN.out.alloc _).lt)
    replace HB := Aside0.mk ((HB.out.alloc (by have := HB.out.size; have := HK.out; omega) _).trans (hb.mono (by have := HB.out.size; have := HK.out; simp; omega)))
    clear hb HRT HPS
    by_cases h3 : p3 = 0
    · subst h3
      have n1 := HN.out.cells
      have m4 := six_m_bare r1 r2 17 r4 r5 r6
      go_wp2_with fail
      refine (six_bare r1 r2 17 r4 r5 r6 _).mono ?_
      rintro e w12 ⟨rfl, hb⟩
      replace HB := Aside0.mk (HB.out.trans (hb.mono (by have := HB.out.size; have := HK.out; omega)))
      replace HR := Aside0.mk (HR.out.below hb HR.out.lt)
      replace HN := Aside0.mk (HN.out.below hb HN.out.lt)
      clear hb m4 n1
      have hr : (t1, t2, t3, t4, t5, t6) = flow_bad 5 := by
        have := HE.out; replace this := ite_in_yes (by first | trivial | rfl) this; rw [if_neg (by decide)] at this; exact (Option.some.inj this).symm
      simp only [flow_bad, Prod.mk.injEq] at hr
      obtain ⟨rfl, rfl, rfl, rfl, rfl, rfl⟩ := hr
      have n1 := HN.out.cells
      have f0 := HR.out.frees
      have f1 := HR.out.cells
      go_wp2
      have HR1 := Aside0.mk (((((HR.out.set 0 (.int .i64 0)).set 1 (.string ⟨#[]⟩)).set 2 (.string ⟨#[]⟩)).set 3 (.int .i64 0)).set 4 (.int .i64 0))
      simp only [List.setIfInBounds_toArray, List.set_cons_zero, List.set_cons_succ] at HR1
      refine bodyPost_ret (results_cell_tmp rfl _ _ k _ _ rfl HR1.out Tryd.underlying88 rfl (by kernel_rfl)) rfl ?_
      exact ⟨rfl, by rw [HK.out]; exact ((((HB.out.setCell (p := ⟨k, 0, none⟩) (Nat.le_refl _) _).setCell (p := ⟨k, 1, none⟩) (Nat.le_refl _) _).setCell (p := ⟨k, 2, none⟩) (Nat.le_refl _) _).setCell (p := ⟨k, 3, none⟩) (Nat.le_refl _) _).setCell (p := ⟨k, 4, none⟩) (Nat.le_refl _) _⟩
    · have e3 : (p3 == 0) = false := beq_eq_false_iff_ne.mpr h3
      have H3 := Aside0.mk h3
      clear h3
      cases rt with
      | true =>
        as_aux_lemma =>
        have hr : (t1, t2, t3, t4, t5, t6) = (17, r5, r6, p1, p2, 0) := by
          have := HE.out; replace this := ite_in_no H3.out this; rw [if_pos rfl] at this; exact (Option.some.inj this).symm
        simp only [Prod.mk.injEq] at hr
        obtain ⟨rfl, rfl, rfl, rfl, rfl, rfl⟩ := hr
        have n1 := HN.out.cells
        have f0 := HR.out.frees
        have f1 := HR.out.cells
        go_wp2
        have HR1 := Aside0.mk (((((HR.out.set 0 (.int .i64 17)).set 1 (.string t2)).set 2 (.string t3)).set 3 (.int .i64 t4)).set 4 (.int .i64 t5))
        simp only [List.setIfInBounds_toArray, List.set_cons_zero, List.set_cons_succ] at HR1
        refine bodyPost_ret (results_cell_tmp rfl _ _ k _ _ rfl HR1.out Tryd.underlying88 rfl (by kernel_rfl)) rfl ?_
        exact ⟨rfl, by rw [HK.out]; exact ((((HB.out.setCell (p := ⟨k, 0, none⟩) (Nat.le_refl _) _).setCell (p := ⟨k, 1, none⟩) (Nat.le_refl _) _).setCell (p := ⟨k, 2, none⟩) (Nat.le_refl _) _).setCell (p := ⟨k, 3, none⟩) (Nat.le_refl _) _).setCell (p := ⟨k, 4, none⟩) (Nat.le_refl _) _⟩
      | false =>
        as_aux_lemma =>
        have hr : (t1, t2, t3, t4, t5, t6) = flow_bad 5 := by
          have := HE.out; replace this := ite_in_no H3.out this; rw [if_neg (by decide)] at this; exact (Option.some.inj this).symm
        simp only [flow_bad, Prod.mk.injEq] at hr
        obtain ⟨rfl, rfl, rfl, rfl, rfl, rfl⟩ := hr
        have n1 := HN.out.cells
        have f0 := HR.out.frees
        have f1 := HR.out.cells
        go_wp2
        have HR1 := Aside0.mk (((((HR.out.set 0 (.int .i64 0)).set 1 (.string ⟨#[]⟩)).set 2 (.string ⟨#[]⟩)).set 3 (.int .i64 0)).set 4 (.int .i64 0))
        simp only [List.setIfInBounds_toArray, List.set_cons_zero, List.set_cons_succ] at HR1
        refine bodyPost_ret (results_cell_tmp rfl _ _ k _ _ rfl HR1.out Tryd.underlying88 rfl (by kernel_rfl)) rfl ?_
        exact ⟨rfl, by rw [HK.out]; exact ((((HB.out.setCell (p := ⟨k, 0, none⟩) (Nat.le_refl _) _).setCell (p := ⟨k, 1, none⟩) (Nat.le_refl _) _).setCell (p := ⟨k, 2, none⟩) (Nat.le_refl _) _).setCell (p := ⟨k, 3, none⟩) (Nat.le_refl _) _).setCell (p := ⟨k, 4, none⟩) (Nat.le_refl _) _⟩
set_option maxHeartbeats 4000000 in
set_option maxRecDepth 100000 in
theorem flow_err (s : ByteArray) (v : Value) (pl : ByteArray) (x : Int) (hx : x ≠ 0) (w : World)
    (ho : Calls Tryd.prog 95 #[.string s] (w.alloc (.cells #[.int .i64 0, .string ⟨#[]⟩, .string ⟨#[]⟩, .int .i64 0, .int .i64 0] 88)) fun e w' => e = .returned (.tuple #[v, .string pl, .int .i64 x]) ∧ Below (w.heap.size + 1) (w.alloc (.cells #[.int .i64 0, .string ⟨#[]⟩, .string ⟨#[]⟩, .int .i64 0, .int .i64 0] 88)) w') :
    Calls Tryd.prog 51 #[.string s] w fun e w' => e = .returned (.tuple #[.agg #[.int .i64 0, .string ⟨#[]⟩, .string ⟨#[]⟩, .int .i64 0, .int .i64 0], .int .i64 x]) ∧ Below w.heap.size w w' := by
  have HO := Aside0.mk ho
  have hu := Tryd.underlying88
  obtain ⟨k, hk⟩ : ∃ k, w.heap.size = k := ⟨_, rfl⟩
  have HK := Aside0.mk (show w.heap.size = k from hk)
  have HB := Aside0.mk ((Below.refl w.heap.size w).alloc (Nat.le_refl _) (.cells #[.int .i64 0, .string ⟨#[]⟩, .string ⟨#[]⟩, .int .i64 0, .int .i64 0] 88))
  have HR := Aside0.mk (Blk.new w 88 #[.int .i64 0, .string ⟨#[]⟩, .string ⟨#[]⟩, .int .i64 0, .int .i64 0])
  have d1 : (x != 0) = true := bne_iff_ne.mpr hx
  clear ho hx
  go_enter Tryd.func51, Tryd.ntmps51
  go_wp2_with fail
  refine HO.out.mono ?_
  rintro e w2 ⟨rfl, hb⟩
  replace HB := Aside0.mk (HB.out.trans (hb.mono (by omega)))
  replace HR := Aside0.mk (HR.out.below hb (by omega))
  clear HO hb
  rw [hk] at HB HR
  clear hk
  have f0 := HR.out.frees
  have f1 := HR.out.cells
  go_wp2
  have HR1 := Aside0.mk (((((HR.out.set 0 (.int .i64 0)).set 1 (.string ⟨#[]⟩)).set 2 (.string ⟨#[]⟩)).set 3 (.int .i64 0)).set 4 (.int .i64 0))
  simp only [List.setIfInBounds_toArray, List.set_cons_zero, List.set_cons_succ] at HR1
  refine bodyPost_ret (results_cell_tmp rfl _ _ k _ _ rfl HR1.out Tryd.underlying88 rfl (by kernel_rfl)) rfl ?_
  exact ⟨rfl, by rw [HK.out]; exact ((((HB.out.setCell (p := ⟨k, 0, none⟩) (Nat.le_refl _) _).setCell (p := ⟨k, 1, none⟩) (Nat.le_refl _) _).setCell (p := ⟨k, 2, none⟩) (Nat.le_refl _) _).setCell (p := ⟨k, 3, none⟩) (Nat.le_refl _) _).setCell (p := ⟨k, 4, none⟩) (Nat.le_refl _) _⟩
theorem open_at {s : ByteArray} {w : World} {v : Value} (h : Calls Tryd.prog 95 #[.string s] (w.alloc (.cells #[.int .i64 0, .string ⟨#[]⟩, .string ⟨#[]⟩, .int .i64 0, .int .i64 0] 88)) fun e w' => e = .returned v ∧ Below (w.alloc (.cells #[.int .i64 0, .string ⟨#[]⟩, .string ⟨#[]⟩, .int .i64 0, .int .i64 0] 88)).heap.size (w.alloc (.cells #[.int .i64 0, .string ⟨#[]⟩, .string ⟨#[]⟩, .int .i64 0, .int .i64 0] 88)) w') :
    Calls Tryd.prog 95 #[.string s] (w.alloc (.cells #[.int .i64 0, .string ⟨#[]⟩, .string ⟨#[]⟩, .int .i64 0, .int .i64 0] 88)) fun e w' => e = .returned v ∧ Below (w.heap.size + 1) (w.alloc (.cells #[.int .i64 0, .string ⟨#[]⟩, .string ⟨#[]⟩, .int .i64 0, .int .i64 0] 88)) w' := by
  rw [World.size_alloc] at h; exact h
theorem flow_Get.calls (s : ByteArray) (r1 : Int) (r2 r3 : ByteArray) (r4 r5 r6 : Int) (w : World) (h : flow_Get.f s = some (r1, r2, r3, r4, r5, r6)) :
    Calls Tryd.prog 51 #[.string s] w fun e w' => e = .returned (.tuple #[.agg #[.int .i64 r1, .string r2, .string r3, .int .i64 r4, .int .i64 r5], .int .i64 r6]) ∧ Below w.heap.size w w' := by
  unfold flow_Get.f at h
  have inj : ∀ e : Int, some (flow_bad e) = some (r1, r2, r3, r4, r5, r6) → r1 = 0 ∧ r2 = ⟨#[]⟩ ∧ r3 = ⟨#[]⟩ ∧ r4 = 0 ∧ r5 = 0 ∧ r6 = e := fun e h => by
    have := Option.some.inj h
    simp only [flow_bad, Prod.mk.injEq] at this
    obtain ⟨h1, h2, h3, h4, h5, h6⟩ := this
    exact ⟨h1.symm, h2.symm, h3.symm, h4.symm, h5.symm, h6.symm⟩
  by_cases h0 : s.size = 0
  · rw [if_pos h0] at h
    obtain ⟨rfl, rfl, rfl, rfl, rfl, rfl⟩ := inj _ h
    exact flow_err s _ _ _ (by decide) w (open_at (open_none s _ h0))
  rw [if_neg h0] at h
  by_cases h4 : bt s 0 / 16 = 4
  · rw [if_pos h4] at h
    obtain ⟨⟨q1, q2, q3, q4, q5, q6, q7, q8, q9, q10, q11, q12⟩, hg, h⟩ := Option.bind_eq_some_iff.1 h
    by_cases he : q12 = 0
    · subst he
      rw [if_neg (fun h' => h' rfl)] at h
      exact flow_four s q1 q2 q3 q4 q5 q6 q7 q8 q9 q10 q11 w _ _ _ _ _ _ (open_at (open_four s _ h0 h4 hg)) h
    · rw [if_pos he] at h
      obtain ⟨rfl, rfl, rfl, rfl, rfl, rfl⟩ := inj _ h
      exact flow_err s _ _ _ he w (open_at (open_four s _ h0 h4 hg))
  rw [if_neg h4] at h
  by_cases h6 : bt s 0 / 16 = 6
  · rw [if_pos h6] at h
    obtain ⟨⟨q1, q2, q3, q4, q5, q6, q7, q8⟩, hg, h⟩ := Option.bind_eq_some_iff.1 h
    by_cases he : q8 = 0
    · subst he
      rw [if_neg (fun h' => h' rfl)] at h
      exact flow_six s q1 q2 q3 q4 q5 q6 q7 w _ _ _ _ _ _ (open_at (open_six s _ h0 h6 hg)) h
    · rw [if_pos he] at h
      obtain ⟨rfl, rfl, rfl, rfl, rfl, rfl⟩ := inj _ h
      exact flow_err s _ _ _ he w (open_at (open_six s _ h0 h6 hg))
  rw [if_neg h6] at h
  obtain ⟨rfl, rfl, rfl, rfl, rfl, rfl⟩ := inj _ h
  exact flow_err s _ _ _ (by decide) w (open_at (open_other s _ h0 h4 h6))
end Go.Proofs.YtcmalglippmocaaDoor.G
end

section
namespace Go.Proofs.YtcmalglippmocaaDoor.G
open Go.RowKit Go.Proofs.YtcmalglippmocaaDoorW.PrintWords Go.Proofs.YtcmalglippmocaaDoorW.PrintLast Go.Proofs.YtcmalglippmocaaDoorW.PrintMore
set_option linter.unusedVariables false
set_option linter.unusedSimpArgs false

def palanquinlaw09_awake.f (k : Nat)  : Option (Bool) := if 16 ≤ 281474976710656 then ((some (List.replicate 16 0 : List Int)).bind fun y391 => ((palanquinref05_Put.f k 0 0 0 0 17 false false (⟨#[97, 98, 99, 100]⟩ : ByteArray) (⟨#[101, 102, 103, 104]⟩ : ByteArray) (⟨#[]⟩ : ByteArray) (⟨#[0, 1, 0, 2, 0, 8, 0, 0]⟩ : ByteArray)).bind fun bt394 => ((palanquinref06_Put.f k 0 0 17 0 (strOfNums y391) (strOfNums y391) (⟨#[0, 1, 0, 2, 0, 8, 0, 0]⟩ : ByteArray)).bind fun bt396 => ((flow_Get.f bt394.1).bind fun bt398 => ((flow_Get.f bt396.1).bind fun bt405 => (if bt398.2.2.2.2.1 = 2 then (if bt398.2.2.2.2.2 = 0 then (some (bt405.2.2.2.2.2 == 5)) else (some false)) else (some false))))))) else (none)
set_option maxHeartbeats 8000000 in
set_option maxRecDepth 100000 in
theorem palanquinlaw09_awake.calls (k : Nat)  (r : Bool) (w : World) (h : palanquinlaw09_awake.f k  = some r) :
  Calls Tryd.prog 40 #[] w fun e w' => e = .returned (.bool r) ∧ Below w.heap.size w w' := by
 have hu69 := Tryd.underlying69
 have hu71 := Tryd.underlying71
 have hu88 := Tryd.underlying88
 have HB := mA (Below.refl w.heap.size w)
 have H : (if 16 ≤ 281474976710656 then ((some (List.replicate 16 0 : List Int)).bind fun y391 => ((palanquinref05_Put.f k 0 0 0 0 17 false false (⟨#[97, 98, 99, 100]⟩ : ByteArray) (⟨#[101, 102, 103, 104]⟩ : ByteArray) (⟨#[]⟩ : ByteArray) (⟨#[0, 1, 0, 2, 0, 8, 0, 0]⟩ : ByteArray)).bind fun bt394 => ((palanquinref06_Put.f k 0 0 17 0 (strOfNums y391) (strOfNums y391) (⟨#[0, 1, 0, 2, 0, 8, 0, 0]⟩ : ByteArray)).bind fun bt396 => ((flow_Get.f bt394.1).bind fun bt398 => ((flow_Get.f bt396.1).bind fun bt405 => (if bt398.2.2.2.2.1 = 2 then (if bt398.2.2.2.2.2 = 0 then (some (bt405.2.2.2.2.2 == 5)) else (some false)) else (some false))))))) else (none)) = some r := h
 clear h
 by_cases c1 : 16 ≤ 281474976710656
 ·rw [if_pos c1] at H
  have c1b0 := eq_true c1
  have c1b1 : decide (16 ≤ 281474976710656) = true := decide_eq_true c1
  clear c1
  obtain ⟨y391, hy391⟩ : ∃ y_ : List Int, y_ = (List.replicate 16 0) := ⟨_, rfl⟩
  replace H : ((palanquinref05_Put.f k 0 0 0 0 17 false false (⟨#[97, 98, 99, 100]⟩ : ByteArray) (⟨#[101, 102, 103, 104]⟩ : ByteArray) (⟨#[]⟩ : ByteArray) (⟨#[0, 1, 0, 2, 0, 8, 0, 0]⟩ : ByteArray)).bind fun bt394 => ((palanquinref06_Put.f k 0 0 17 0 (strOfNums y391) (strOfNums y391) (⟨#[0, 1, 0, 2, 0, 8, 0, 0]⟩ : ByteArray)).bind fun bt396 => ((flow_Get.f bt394.1).bind fun bt398 => ((flow_Get.f bt396.1).bind fun bt405 => (if bt398.2.2.2.2.1 = 2 then (if bt398.2.2.2.2.2 = 0 then (some (bt405.2.2.2.2.2 == 5)) else (some false)) else (some false)))))) = some r := by first | (rw [hy391]; with_reducible exact H) | (have H2_ := (Option.bind_some _ _).symm.trans H; rw [hy391]; with_reducible exact H2_) | (have H2_ := (Option.bind_some _ _).symm.trans H; with_reducible exact H2_) | with_reducible exact H | (rw [hy391]; exact H) | exact H
  have Ny391 := mA hy391
  clear hy391
  replace H := Option.bind_eq_some_iff.mp H
  obtain ⟨⟨t394, t395⟩, A20, H⟩ := H
  replace H : ((palanquinref06_Put.f k 0 0 17 0 (strOfNums y391) (strOfNums y391) (⟨#[0, 1, 0, 2, 0, 8, 0, 0]⟩ : ByteArray)).bind fun bt396 => ((flow_Get.f t394).bind fun bt398 => ((flow_Get.f bt396.1).bind fun bt405 => (if bt398.2.2.2.2.1 = 2 then (if bt398.2.2.2.2.2 = 0 then (some (bt405.2.2.2.2.2 == 5)) else (some false)) else (some false))))) = some r := H
  have A2 := mA A20
  clear A20
  replace H := Option.bind_eq_some_iff.mp H
  obtain ⟨⟨t396, t397⟩, A30, H⟩ := H
  replace H : ((flow_Get.f t394).bind fun bt398 => ((flow_Get.f t396).bind fun bt405 => (if bt398.2.2.2.2.1 = 2 then (if bt398.2.2.2.2.2 = 0 then (some (bt405.2.2.2.2.2 == 5)) else (some false)) else (some false)))) = some r := H
  have A3 := mA A30
  clear A30
  replace H := Option.bind_eq_some_iff.mp H
  obtain ⟨⟨t398, t399, t400, t401, t402, t403⟩, A40, H⟩ := H
  replace H : ((flow_Get.f t396).bind fun bt405 => (if t402 = 2 then (if t403 = 0 then (some (bt405.2.2.2.2.2 == 5)) else (some false)) else (some false))) = some r := H
  have A4 := mA A40
  clear A40
  replace H := Option.bind_eq_some_iff.mp H
  obtain ⟨⟨t405, t406, t407, t408, t409, t410⟩, A50, H⟩ := H
  replace H : (if t402 = 2 then (if t403 = 0 then (some (t410 == 5)) else (some false)) else (some false)) = some r := H
  have A5 := mA A50
  clear A50
  by_cases c6 : t402 = 2
  ·rw [if_pos c6] at H
   have c6b0 : (t402 == 2) = true := beq_iff_eq.mpr c6
   have c6b1 : (t402 != 2) = false := bne_eq_false_iff_eq.mpr c6
   clear c6
   by_cases c7 : t403 = 0
   ·rw [if_pos c7] at H
    have c7b0 : (t403 == 0) = true := beq_iff_eq.mpr c7
    have c7b1 : (t403 != 0) = false := bne_eq_false_iff_eq.mpr c7
    clear c7
    obtain rfl := Option.some.inj H
    go_enter Tryd.func40, Tryd.ntmps40
    go_wp2_with (first | ((with_reducible refine gate_dst (N := 11) rfl ?_); refine Kd.R_make (Kd.int .u8) _ 5 rfl (N := 11) rfl 23 _ _ rfl 16 rfl rfl Tryd.underlying23 (.int .u8 0) 1 info5 rfl (by decide) (by omega) 0 (ok := fun _ => True) (okp := fun _ => True) rfl (fun _ hk => hk) trivial (by omega) (by omega) (Below.refl _ _) (Nat.le_refl _) ?_; intro v392 w8 ho9 hb hg_ hnew_; clear hg_ hnew_; (first | rw [← Ny391.out] at ho9 | (simp only [Int.reduceToNat] at ho9; rw [← Ny391.out] at ho9)); have n0_ := mA (Kd.R_lower ho9 (below_size (by repeat (first | (with_reducible first | exact HB.out | apply bA | apply bN | apply bD) | exact HB.out)))); have n1_ := mA (bP (by repeat (first | (with_reducible first | exact HB.out | apply bA | apply bN | apply bD) | exact HB.out)) hb); clear HB; have HO393 := n0_; have HB := n1_; clear n0_ n1_; clear hb ho9; have hcv10 := own_string (P := Tryd.prog) Tryd.underlying23 Tryd.underlying5 Tryd.underlying9 (Kd.own_of_R HO393.out)) | ((with_reducible refine gate_callee (f := 82) rfl ?_); refine goesL_ (some 16) rfl rfl Tryd.func82 (by kernel_rfl) rfl #[.agg #[.int .i64 0, .int .i64 0, .int .i64 0, .int .i64 0, .int .i64 17, .bool false, .bool false, .string (⟨#[97, 98, 99, 100]⟩ : ByteArray), .string (⟨#[101, 102, 103, 104]⟩ : ByteArray), .string (⟨#[]⟩ : ByteArray)], .string (⟨#[0, 1, 0, 2, 0, 8, 0, 0]⟩ : ByteArray)] rfl (by (try simp only [List.map_toArray, List.map_cons, List.map_nil]); first | done | rfl | (simp only [List.length_drop, List.length_take]; rfl)) ?_; (with_reducible refine (palanquinref05_Put.calls k 0 0 0 0 17 false false (⟨#[97, 98, 99, 100]⟩ : ByteArray) (⟨#[101, 102, 103, 104]⟩ : ByteArray) (⟨#[]⟩ : ByteArray) (⟨#[0, 1, 0, 2, 0, 8, 0, 0]⟩ : ByteArray) t394 t395 _ A2.out).mono ?_); rintro e w11 ⟨rfl, hb⟩; refine ⟨_, rfl, ?_⟩; have n0_ := mA (Kd.R_below (by (with_reducible repeat (first | apply Kd.R_alloc | apply Kd.R_drewN | apply Kd.R_drew)); exact HO393.out) hb); have n1_ := mA (bP (by repeat (first | (with_reducible first | exact HB.out | apply bA | apply bN | apply bD) | exact HB.out)) hb); clear HO393; clear HB; have HO393 := n0_; have HB := n1_; clear n0_ n1_; (try clear hb); (try clear hb2); (try clear hk); (try clear hi)) | ((with_reducible refine gate_callee (f := 83) rfl ?_); refine goesL_ (some 24) rfl rfl Tryd.func83 (by kernel_rfl) rfl #[.agg #[.int .i64 0, .int .i64 0, .int .i64 17, .int .i64 0, .string (strOfNums y391), .string (strOfNums y391)], .string (⟨#[0, 1, 0, 2, 0, 8, 0, 0]⟩ : ByteArray)] rfl (by (try simp only [List.map_toArray, List.map_cons, List.map_nil]); first | done | rfl | (simp only [List.length_drop, List.length_take]; rfl)) ?_; (with_reducible refine (palanquinref06_Put.calls k 0 0 17 0 (strOfNums y391) (strOfNums y391) (⟨#[0, 1, 0, 2, 0, 8, 0, 0]⟩ : ByteArray) t396 t397 _ A3.out).mono ?_); rintro e w12 ⟨rfl, hb⟩; refine ⟨_, rfl, ?_⟩; have n0_ := mA (Kd.R_below (by (with_reducible repeat (first | apply Kd.R_alloc | apply Kd.R_drewN | apply Kd.R_drew)); exact HO393.out) hb); have n1_ := mA (bP (by repeat (first | (with_reducible first | exact HB.out | apply bA | apply bN | apply bD) | exact HB.out)) hb); clear HO393; clear HB; have HO393 := n0_; have HB := n1_; clear n0_ n1_; (try clear hb); (try clear hb2); (try clear hk); (try clear hi)) | ((with_reducible refine gate_callee (f := 51) rfl ?_); refine goesL_ (some 29) rfl rfl Tryd.func51 (by kernel_rfl) rfl #[.string t394] rfl (by (try simp only [List.map_toArray, List.map_cons, List.map_nil]); first | done | rfl | (simp only [List.length_drop, List.length_take]; rfl)) ?_; (with_reducible refine (flow_Get.calls t394 t398 t399 t400 t401 t402 t403 _ A4.out).mono ?_); rintro e w13 ⟨rfl, hb⟩; refine ⟨_, rfl, ?_⟩; have n0_ := mA (Kd.R_below (by (with_reducible repeat (first | apply Kd.R_alloc | apply Kd.R_drewN | apply Kd.R_drew)); exact HO393.out) hb); have n1_ := mA (bP (by repeat (first | (with_reducible first | exact HB.out | apply bA | apply bN | apply bD) | exact HB.out)) hb); clear HO393; clear HB; have HO393 := n0_; have HB := n1_; clear n0_ n1_; (try clear hb); (try clear hb2); (try clear hk); (try clear hi)) | ((with_reducible refine gate_dst (N := 7) rfl ?_); refine box_event ?hg (N := 7) ?hd (cs := #[.int .i64 0, .string (⟨#[]⟩ : ByteArray), .string (⟨#[]⟩ : ByteArray), .int .i64 0, .int .i64 0]) (t := 88) ?hr ?_; (case hd => rfl); (case hg => rfl); (case hr => first | (go_simp; done) | (go_simp; rfl)); intro gb404 hg w14 hbox hb; have n0_ := mA (Kd.R_below (by (with_reducible repeat (first | apply Kd.R_alloc | apply Kd.R_drewN | apply Kd.R_drew)); exact HO393.out) hb); obtain ⟨n1_, nq_⟩ := bpr (by repeat (first | (with_reducible first | exact HB.out | apply bA | apply bN | apply bD) | exact HB.out)) hb; have n2_ := mA (hbox); have n3_ := mA ((by rw [hg]; exact nq_ : w.heap.size ≤ gb404)); have n4_ := mA ((by rw [hg]; exact nq_ : w.heap.size ≤ gb404)); clear HO393; clear HB; have HO393 := n0_; have HB := n1_; have BK404 := n2_; have GW404 := n3_; have GE404 := n4_; clear nq_; clear n0_ n1_ n2_ n3_ n4_; clear hb hbox hg; obtain ⟨hcz15_0, hcz15_1, hcz15_2, hcz15_3, hcz15_4⟩ := bc5 BK404.out; obtain ⟨hfz15_0, hfz15_1, hfz15_2, hfz15_3, hfz15_4⟩ := bf5 BK404.out) | ((with_reducible refine gate_callee (f := 51) rfl ?_); refine goesL_ (some 34) rfl rfl Tryd.func51 (by kernel_rfl) rfl #[.string t396] rfl (by (try simp only [List.map_toArray, List.map_cons, List.map_nil]); first | done | rfl | (simp only [List.length_drop, List.length_take]; rfl)) ?_; (with_reducible refine (flow_Get.calls t396 t405 t406 t407 t408 t409 t410 _ A5.out).mono ?_); rintro e w16 ⟨rfl, hb⟩; refine ⟨_, rfl, ?_⟩; have n0_ := mA (Kd.R_below (by (with_reducible repeat (first | apply Kd.R_alloc | apply Kd.R_drewN | apply Kd.R_drew)); exact (Kd.R_mono (Kd.R_far (p := ⟨gb404, 4, none⟩) (Kd.R_far (p := ⟨gb404, 3, none⟩) (Kd.R_far (p := ⟨gb404, 2, none⟩) (Kd.R_far (p := ⟨gb404, 1, none⟩) (Kd.R_far (p := ⟨gb404, 0, none⟩) (Kd.R_types HO393.out BK404.out (by decide)) (fun _ hk => hk.2) (.int .i64 t398)) (fun _ hk => hk.2) (.string t399)) (fun _ hk => hk.2) (.string t400)) (fun _ hk => hk.2) (.int .i64 t401)) (fun _ hk => hk.2) (.int .i64 t402)) (fun _ h_ => h_.1))) hb); have n1_ := mA (blk_below (g := gb404) (o := .cells #[.int .i64 t398, .string t399, .string t400, .int .i64 t401, .int .i64 t402] 88 (0, 0)) (by (with_reducible repeat (first | apply kN | apply kD | apply kA)); refine blk_put (cs := #[.int .i64 t398, .string t399, .string t400, .int .i64 t401, .int .i64 0]) ?_ 4 _ (by first | rfl | (simp [*]; done)); (with_reducible repeat (first | apply kN | apply kD | apply kA)); refine blk_put (cs := #[.int .i64 t398, .string t399, .string t400, .int .i64 0, .int .i64 0]) ?_ 3 _ (by first | rfl | (simp [*]; done)); (with_reducible repeat (first | apply kN | apply kD | apply kA)); refine blk_put (cs := #[.int .i64 t398, .string t399, .string (⟨#[]⟩ : ByteArray), .int .i64 0, .int .i64 0]) ?_ 2 _ (by first | rfl | (simp [*]; done)); (with_reducible repeat (first | apply kN | apply kD | apply kA)); refine blk_put (cs := #[.int .i64 t398, .string (⟨#[]⟩ : ByteArray), .string (⟨#[]⟩ : ByteArray), .int .i64 0, .int .i64 0]) ?_ 1 _ (by first | rfl | (simp [*]; done)); (with_reducible repeat (first | apply kN | apply kD | apply kA)); refine blk_put (cs := #[.int .i64 0, .string (⟨#[]⟩ : ByteArray), .string (⟨#[]⟩ : ByteArray), .int .i64 0, .int .i64 0]) ?_ 0 _ (by first | rfl | (simp [*]; done)); (with_reducible repeat (first | apply kN | apply kD | apply kA)); exact BK404.out) hb); have n2_ := mA (bP (by repeat (first | (with_reducible first | exact HB.out | apply bA | apply bN | apply bD | refine bS ?_ GE404.out) | exact HB.out)) hb); clear HO393; clear BK404; clear HB; have HO393 := n0_; have BK404 := n1_; have HB := n2_; clear n0_ n1_ n2_; (try clear hb); (try clear hb2); (try clear hk); (try clear hi)) | ((with_reducible refine gate_dst (N := 9) rfl ?_); refine box_event ?hg (N := 9) ?hd (cs := #[.int .i64 0, .string (⟨#[]⟩ : ByteArray), .string (⟨#[]⟩ : ByteArray), .int .i64 0, .int .i64 0]) (t := 88) ?hr ?_; (case hd => rfl); (case hg => rfl); (case hr => first | (go_simp; done) | (go_simp; rfl)); intro gb411 hg w17 hbox hb; have n0_ := mA (Kd.R_below (by (with_reducible repeat (first | apply Kd.R_alloc | apply Kd.R_drewN | apply Kd.R_drew)); exact HO393.out) hb); obtain ⟨n1_, nl404_⟩ := bt3 (g := gb404) (o := .cells #[.int .i64 t398, .string t399, .string t400, .int .i64 t401, .int .i64 t402] 88 (0, 0)) (by (with_reducible repeat (first | apply kN | apply kD | apply kA)); exact BK404.out) hb; obtain ⟨n2_, nq_⟩ := bpr (by repeat (first | (with_reducible first | exact HB.out | apply bA | apply bN | apply bD | refine bS ?_ GE404.out) | exact HB.out)) hb; have n3_ := mA (hbox); have n4_ := mA ((by rw [hg]; exact nq_ : w.heap.size ≤ gb411)); have n5_ := mA ((by rw [hg]; exact nq_ : w.heap.size ≤ gb411)); have n6_ := mA ((by rw [hg]; exact Nat.ne_of_lt nl404_ : gb404 ≠ gb411)); have n7_ := mA ((by rw [hg]; exact Nat.ne_of_gt nl404_ : gb411 ≠ gb404)); clear HO393; clear BK404; clear HB; have HO393 := n0_; have BK404 := n1_; have HB := n2_; have BK411 := n3_; have GW411 := n4_; have GE411 := n5_; have NB404_411 := n6_; have NB411_404 := n7_; clear nl404_; clear nq_; clear n0_ n1_ n2_ n3_ n4_ n5_ n6_ n7_; clear hb hbox hg; have hnb18 := NB411_404.out; have hnc18 := NB404_411.out; obtain ⟨hcz19_0, hcz19_1, hcz19_2, hcz19_3, hcz19_4⟩ := bc5 BK411.out; obtain ⟨hfz19_0, hfz19_1, hfz19_2, hfz19_3, hfz19_4⟩ := bf5 BK411.out; obtain ⟨hcz20_0, hcz20_1, hcz20_2, hcz20_3, hcz20_4⟩ := bc5 BK404.out; obtain ⟨hfz20_0, hfz20_1, hfz20_2, hfz20_3, hfz20_4⟩ := bf5 BK404.out))
    go_ret
    exact ⟨by first | rfl | (simp [errW_none, errW_some] <;> rfl) | (simp [*, errW_none, errW_some] <;> rfl), by repeat (first | (with_reducible first | exact HB.out | apply bA | apply bN | apply bD | refine bS ?_ GE404.out | refine bS ?_ GE411.out) | exact HB.out)⟩
   ·rw [if_neg c7] at H
    have c7b0 : (t403 == 0) = false := beq_eq_false_iff_ne.mpr c7
    have c7b1 : (t403 != 0) = true := bne_iff_ne.mpr c7
    obtain rfl := Option.some.inj H
    go_enter Tryd.func40, Tryd.ntmps40
    go_wp2_with (first | ((with_reducible refine gate_dst (N := 11) rfl ?_); refine Kd.R_make (Kd.int .u8) _ 5 rfl (N := 11) rfl 23 _ _ rfl 16 rfl rfl Tryd.underlying23 (.int .u8 0) 1 info5 rfl (by decide) (by omega) 0 (ok := fun _ => True) (okp := fun _ => True) rfl (fun _ hk => hk) trivial (by omega) (by omega) (Below.refl _ _) (Nat.le_refl _) ?_; intro v392 w21 ho22 hb hg_ hnew_; clear hg_ hnew_; (first | rw [← Ny391.out] at ho22 | (simp only [Int.reduceToNat] at ho22; rw [← Ny391.out] at ho22)); have n0_ := mA (Kd.R_lower ho22 (below_size (by repeat (first | (with_reducible first | exact HB.out | apply bA | apply bN | apply bD) | exact HB.out)))); have n1_ := mA (bP (by repeat (first | (with_reducible first | exact HB.out | apply bA | apply bN | apply bD) | exact HB.out)) hb); clear HB; have HO393 := n0_; have HB := n1_; clear n0_ n1_; clear hb ho22; have hcv23 := own_string (P := Tryd.prog) Tryd.underlying23 Tryd.underlying5 Tryd.underlying9 (Kd.own_of_R HO393.out)) | ((with_reducible refine gate_callee (f := 82) rfl ?_); refine goesL_ (some 16) rfl rfl Tryd.func82 (by kernel_rfl) rfl #[.agg #[.int .i64 0, .int .i64 0, .int .i64 0, .int .i64 0, .int .i64 17, .bool false, .bool false, .string (⟨#[97, 98, 99, 100]⟩ : ByteArray), .string (⟨#[101, 102, 103, 104]⟩ : ByteArray), .string (⟨#[]⟩ : ByteArray)], .string (⟨#[0, 1, 0, 2, 0, 8, 0, 0]⟩ : ByteArray)] rfl (by (try simp only [List.map_toArray, List.map_cons, List.map_nil]); first | done | rfl | (simp only [List.length_drop, List.length_take]; rfl)) ?_; (with_reducible refine (palanquinref05_Put.calls k 0 0 0 0 17 false false (⟨#[97, 98, 99, 100]⟩ : ByteArray) (⟨#[101, 102, 103, 104]⟩ : ByteArray) (⟨#[]⟩ : ByteArray) (⟨#[0, 1, 0, 2, 0, 8, 0, 0]⟩ : ByteArray) t394 t395 _ A2.out).mono ?_); rintro e w24 ⟨rfl, hb⟩; refine ⟨_, rfl, ?_⟩; have n0_ := mA (Kd.R_below (by (with_reducible repeat (first | apply Kd.R_alloc | apply Kd.R_drewN | apply Kd.R_drew)); exact HO393.out) hb); have n1_ := mA (bP (by repeat (first | (with_reducible first | exact HB.out | apply bA | apply bN | apply bD) | exact HB.out)) hb); clear HO393; clear HB; have HO393 := n0_; have HB := n1_; clear n0_ n1_; (try clear hb); (try clear hb2); (try clear hk); (try clear hi)) | ((with_reducible refine gate_callee (f := 83) rfl ?_); refine goesL_ (some 24) rfl rfl Tryd.func83 (by kernel_rfl) rfl #[.agg #[.int .i64 0, .int .i64 0, .int .i64 17, .int .i64 0, .string (strOfNums y391), .string (strOfNums y391)], .string (⟨#[0, 1, 0, 2, 0, 8, 0, 0]⟩ : ByteArray)] rfl (by (try simp only [List.map_toArray, List.map_cons, List.map_nil]); first | done | rfl | (simp only [List.length_drop, List.length_take]; rfl)) ?_; (with_reducible refine (palanquinref06_Put.calls k 0 0 17 0 (strOfNums y391) (strOfNums y391) (⟨#[0, 1, 0, 2, 0, 8, 0, 0]⟩ : ByteArray) t396 t397 _ A3.out).mono ?_); rintro e w25 ⟨rfl, hb⟩; refine ⟨_, rfl, ?_⟩; have n0_ := mA (Kd.R_below (by (with_reducible repeat (first | apply Kd.R_alloc | apply Kd.R_drewN | apply Kd.R_drew)); exact HO393.out) hb); have n1_ := mA (bP (by repeat (first | (with_reducible first | exact HB.out | apply bA | apply bN | apply bD) | exact HB.out)) hb); clear HO393; clear HB; have HO393 := n0_; have HB := n1_; clear n0_ n1_; (try clear hb); (try clear hb2); (try clear hk); (try clear hi)) | ((with_reducible refine gate_callee (f := 51) rfl ?_); refine goesL_ (some 29) rfl rfl Tryd.func51 (by kernel_rfl) rfl #[.string t394] rfl (by (try simp only [List.map_toArray, List.map_cons, List.map_nil]); first | done | rfl | (simp only [List.length_drop, List.length_take]; rfl)) ?_; (with_reducible refine (flow_Get.calls t394 t398 t399 t400 t401 t402 t403 _ A4.out).mono ?_); rintro e w26 ⟨rfl, hb⟩; refine ⟨_, rfl, ?_⟩; have n0_ := mA (Kd.R_below (by (with_reducible repeat (first | apply Kd.R_alloc | apply Kd.R_drewN | apply Kd.R_drew)); exact HO393.out) hb); have n1_ := mA (bP (by repeat (first | (with_reducible first | exact HB.out | apply bA | apply bN | apply bD) | exact HB.out)) hb); clear HO393; clear HB; have HO393 := n0_; have HB := n1_; clear n0_ n1_; (try clear hb); (try clear hb2); (try clear hk); (try clear hi)) | ((with_reducible refine gate_dst (N := 7) rfl ?_); refine box_event ?hg (N := 7) ?hd (cs := #[.int .i64 0, .string (⟨#[]⟩ : ByteArray), .string (⟨#[]⟩ : ByteArray), .int .i64 0, .int .i64 0]) (t := 88) ?hr ?_; (case hd => rfl); (case hg => rfl); (case hr => first | (go_simp; done) | (go_simp; rfl)); intro gb404 hg w27 hbox hb; have n0_ := mA (Kd.R_below (by (with_reducible repeat (first | apply Kd.R_alloc | apply Kd.R_drewN | apply Kd.R_drew)); exact HO393.out) hb); obtain ⟨n1_, nq_⟩ := bpr (by repeat (first | (with_reducible first | exact HB.out | apply bA | apply bN | apply bD) | exact HB.out)) hb; have n2_ := mA (hbox); have n3_ := mA ((by rw [hg]; exact nq_ : w.heap.size ≤ gb404)); have n4_ := mA ((by rw [hg]; exact nq_ : w.heap.size ≤ gb404)); clear HO393; clear HB; have HO393 := n0_; have HB := n1_; have BK404 := n2_; have GW404 := n3_; have GE404 := n4_; clear nq_; clear n0_ n1_ n2_ n3_ n4_; clear hb hbox hg; obtain ⟨hcz28_0, hcz28_1, hcz28_2, hcz28_3, hcz28_4⟩ := bc5 BK404.out; obtain ⟨hfz28_0, hfz28_1, hfz28_2, hfz28_3, hfz28_4⟩ := bf5 BK404.out) | ((with_reducible refine gate_callee (f := 51) rfl ?_); refine goesL_ (some 34) rfl rfl Tryd.func51 (by kernel_rfl) rfl #[.string t396] rfl (by (try simp only [List.map_toArray, List.map_cons, List.map_nil]); first | done | rfl | (simp only [List.length_drop, List.length_take]; rfl)) ?_; (with_reducible refine (flow_Get.calls t396 t405 t406 t407 t408 t409 t410 _ A5.out).mono ?_); rintro e w29 ⟨rfl, hb⟩; refine ⟨_, rfl, ?_⟩; have n0_ := mA (Kd.R_below (by (with_reducible repeat (first | apply Kd.R_alloc | apply Kd.R_drewN | apply Kd.R_drew)); exact (Kd.R_mono (Kd.R_far (p := ⟨gb404, 4, none⟩) (Kd.R_far (p := ⟨gb404, 3, none⟩) (Kd.R_far (p := ⟨gb404, 2, none⟩) (Kd.R_far (p := ⟨gb404, 1, none⟩) (Kd.R_far (p := ⟨gb404, 0, none⟩) (Kd.R_types HO393.out BK404.out (by decide)) (fun _ hk => hk.2) (.int .i64 t398)) (fun _ hk => hk.2) (.string t399)) (fun _ hk => hk.2) (.string t400)) (fun _ hk => hk.2) (.int .i64 t401)) (fun _ hk => hk.2) (.int .i64 t402)) (fun _ h_ => h_.1))) hb); have n1_ := mA (blk_below (g := gb404) (o := .cells #[.int .i64 t398, .string t399, .string t400, .int .i64 t401, .int .i64 t402] 88 (0, 0)) (by (with_reducible repeat (first | apply kN | apply kD | apply kA)); refine blk_put (cs := #[.int .i64 t398, .string t399, .string t400, .int .i64 t401, .int .i64 0]) ?_ 4 _ (by first | rfl | (simp [*]; done)); (with_reducible repeat (first | apply kN | apply kD | apply kA)); refine blk_put (cs := #[.int .i64 t398, .string t399, .string t400, .int .i64 0, .int .i64 0]) ?_ 3 _ (by first | rfl | (simp [*]; done)); (with_reducible repeat (first | apply kN | apply kD | apply kA)); refine blk_put (cs := #[.int .i64 t398, .string t399, .string (⟨#[]⟩ : ByteArray), .int .i64 0, .int .i64 0]) ?_ 2 _ (by first | rfl | (simp [*]; done)); (with_reducible repeat (first | apply kN | apply kD | apply kA)); refine blk_put (cs := #[.int .i64 t398, .string (⟨#[]⟩ : ByteArray), .string (⟨#[]⟩ : ByteArray), .int .i64 0, .int .i64 0]) ?_ 1 _ (by first | rfl | (simp [*]; done)); (with_reducible repeat (first | apply kN | apply kD | apply kA)); refine blk_put (cs := #[.int .i64 0, .string (⟨#[]⟩ : ByteArray), .string (⟨#[]⟩ : ByteArray), .int .i64 0, .int .i64 0]) ?_ 0 _ (by first | rfl | (simp [*]; done)); (with_reducible repeat (first | apply kN | apply kD | apply kA)); exact BK404.out) hb); have n2_ := mA (bP (by repeat (first | (with_reducible first | exact HB.out | apply bA | apply bN | apply bD | refine bS ?_ GE404.out) | exact HB.out)) hb); clear HO393; clear BK404; clear HB; have HO393 := n0_; have BK404 := n1_; have HB := n2_; clear n0_ n1_ n2_; (try clear hb); (try clear hb2); (try clear hk); (try clear hi)) | ((with_reducible refine gate_dst (N := 9) rfl ?_); refine box_event ?hg (N := 9) ?hd (cs := #[.int .i64 0, .string (⟨#[]⟩ : ByteArray), .string (⟨#[]⟩ : ByteArray), .int .i64 0, .int .i64 0]) (t := 88) ?hr ?_; (case hd => rfl); (case hg => rfl); (case hr => first | (go_simp; done) | (go_simp; rfl)); intro gb411 hg w30 hbox hb; have n0_ := mA (Kd.R_below (by (with_reducible repeat (first | apply Kd.R_alloc | apply Kd.R_drewN | apply Kd.R_drew)); exact HO393.out) hb); obtain ⟨n1_, nl404_⟩ := bt3 (g := gb404) (o := .cells #[.int .i64 t398, .string t399, .string t400, .int .i64 t401, .int .i64 t402] 88 (0, 0)) (by (with_reducible repeat (first | apply kN | apply kD | apply kA)); exact BK404.out) hb; obtain ⟨n2_, nq_⟩ := bpr (by repeat (first | (with_reducible first | exact HB.out | apply bA | apply bN | apply bD | refine bS ?_ GE404.out) | exact HB.out)) hb; have n3_ := mA (hbox); have n4_ := mA ((by rw [hg]; exact nq_ : w.heap.size ≤ gb411)); have n5_ := mA ((by rw [hg]; exact nq_ : w.heap.size ≤ gb411)); have n6_ := mA ((by rw [hg]; exact Nat.ne_of_lt nl404_ : gb404 ≠ gb411)); have n7_ := mA ((by rw [hg]; exact Nat.ne_of_gt nl404_ : gb411 ≠ gb404)); clear HO393; clear BK404; clear HB; have HO393 := n0_; have BK404 := n1_; have HB := n2_; have BK411 := n3_; have GW411 := n4_; have GE411 := n5_; have NB404_411 := n6_; have NB411_404 := n7_; clear nl404_; clear nq_; clear n0_ n1_ n2_ n3_ n4_ n5_ n6_ n7_; clear hb hbox hg; have hnb31 := NB411_404.out; have hnc31 := NB404_411.out; obtain ⟨hcz32_0, hcz32_1, hcz32_2, hcz32_3, hcz32_4⟩ := bc5 BK411.out; obtain ⟨hfz32_0, hfz32_1, hfz32_2, hfz32_3, hfz32_4⟩ := bf5 BK411.out; obtain ⟨hcz33_0, hcz33_1, hcz33_2, hcz33_3, hcz33_4⟩ := bc5 BK404.out; obtain ⟨hfz33_0, hfz33_1, hfz33_2, hfz33_3, hfz33_4⟩ := bf5 BK404.out))
    go_ret
    exact ⟨by first | rfl | (simp [errW_none, errW_some] <;> rfl) | (simp [*, errW_none, errW_some] <;> rfl), by repeat (first | (with_reducible first | exact HB.out | apply bA | apply bN | apply bD | refine bS ?_ GE404.out | refine bS ?_ GE411.out) | exact HB.out)⟩
  ·rw [if_neg c6] at H
   have c6b0 : (t402 == 2) = false := beq_eq_false_iff_ne.mpr c6
   have c6b1 : (t402 != 2) = true := bne_iff_ne.mpr c6
   obtain rfl := Option.some.inj H
   go_enter Tryd.func40, Tryd.ntmps40
   go_wp2_with (first | ((with_reducible refine gate_dst (N := 11) rfl ?_); refine Kd.R_make (Kd.int .u8) _ 5 rfl (N := 11) rfl 23 _ _ rfl 16 rfl rfl Tryd.underlying23 (.int .u8 0) 1 info5 rfl (by decide) (by omega) 0 (ok := fun _ => True) (okp := fun _ => True) rfl (fun _ hk => hk) trivial (by omega) (by omega) (Below.refl _ _) (Nat.le_refl _) ?_; intro v392 w34 ho35 hb hg_ hnew_; clear hg_ hnew_; (first | rw [← Ny391.out] at ho35 | (simp only [Int.reduceToNat] at ho35; rw [← Ny391.out] at ho35)); have n0_ := mA (Kd.R_lower ho35 (below_size (by repeat (first | (with_reducible first | exact HB.out | apply bA | apply bN | apply bD) | exact HB.out)))); have n1_ := mA (bP (by repeat (first | (with_reducible first | exact HB.out | apply bA | apply bN | apply bD) | exact HB.out)) hb); clear HB; have HO393 := n0_; have HB := n1_; clear n0_ n1_; clear hb ho35; have hcv36 := own_string (P := Tryd.prog) Tryd.underlying23 Tryd.underlying5 Tryd.underlying9 (Kd.own_of_R HO393.out)) | ((with_reducible refine gate_callee (f := 82) rfl ?_); refine goesL_ (some 16) rfl rfl Tryd.func82 (by kernel_rfl) rfl #[.agg #[.int .i64 0, .int .i64 0, .int .i64 0, .int .i64 0, .int .i64 17, .bool false, .bool false, .string (⟨#[97, 98, 99, 100]⟩ : ByteArray), .string (⟨#[101, 102, 103, 104]⟩ : ByteArray), .string (⟨#[]⟩ : ByteArray)], .string (⟨#[0, 1, 0, 2, 0, 8, 0, 0]⟩ : ByteArray)] rfl (by (try simp only [List.map_toArray, List.map_cons, List.map_nil]); first | done | rfl | (simp only [List.length_drop, List.length_take]; rfl)) ?_; (with_reducible refine (palanquinref05_Put.calls k 0 0 0 0 17 false false (⟨#[97, 98, 99, 100]⟩ : ByteArray) (⟨#[101, 102, 103, 104]⟩ : ByteArray) (⟨#[]⟩ : ByteArray) (⟨#[0, 1, 0, 2, 0, 8, 0, 0]⟩ : ByteArray) t394 t395 _ A2.out).mono ?_); rintro e w37 ⟨rfl, hb⟩; refine ⟨_, rfl, ?_⟩; have n0_ := mA (Kd.R_below (by (with_reducible repeat (first | apply Kd.R_alloc | apply Kd.R_drewN | apply Kd.R_drew)); exact HO393.out) hb); have n1_ := mA (bP (by repeat (first | (with_reducible first | exact HB.out | apply bA | apply bN | apply bD) | exact HB.out)) hb); clear HO393; clear HB; have HO393 := n0_; have HB := n1_; clear n0_ n1_; (try clear hb); (try clear hb2); (try clear hk); (try clear hi)) | ((with_reducible refine gate_callee (f := 83) rfl ?_); refine goesL_ (some 24) rfl rfl Tryd.func83 (by kernel_rfl) rfl #[.agg #[.int .i64 0, .int .i64 0, .int .i64 17, .int .i64 0, .string (strOfNums y391), .string (strOfNums y391)], .string (⟨#[0, 1, 0, 2, 0, 8, 0, 0]⟩ : ByteArray)] rfl (by (try simp only [List.map_toArray, List.map_cons, List.map_nil]); first | done | rfl | (simp only [List.length_drop, List.length_take]; rfl)) ?_; (with_reducible refine (palanquinref06_Put.calls k 0 0 17 0 (strOfNums y391) (strOfNums y391) (⟨#[0, 1, 0, 2, 0, 8, 0, 0]⟩ : ByteArray) t396 t397 _ A3.out).mono ?_); rintro e w38 ⟨rfl, hb⟩; refine ⟨_, rfl, ?_⟩; have n0_ := mA (Kd.R_below (by (with_reducible repeat (first | apply Kd.R_alloc | apply Kd.R_drewN | apply Kd.R_drew)); exact HO393.out) hb); have n1_ := mA (bP (by repeat (first | (with_reducible first | exact HB.out | apply bA | apply bN | apply bD) | exact HB.out)) hb); clear HO393; clear HB; have HO393 := n0_; have HB := n1_; clear n0_ n1_; (try clear hb); (try clear hb2); (try clear hk); (try clear hi)) | ((with_reducible refine gate_callee (f := 51) rfl ?_); refine goesL_ (some 29) rfl rfl Tryd.func51 (by kernel_rfl) rfl #[.string t394] rfl (by (try simp only [List.map_toArray, List.map_cons, List.map_nil]); first | done | rfl | (simp only [List.length_drop, List.length_take]; rfl)) ?_; (with_reducible refine (flow_Get.calls t394 t398 t399 t400 t401 t402 t403 _ A4.out).mono ?_); rintro e w39 ⟨rfl, hb⟩; refine ⟨_, rfl, ?_⟩; have n0_ := mA (Kd.R_below (by (with_reducible repeat (first | apply Kd.R_alloc | apply Kd.R_drewN | apply Kd.R_drew)); exact HO393.out) hb); have n1_ := mA (bP (by repeat (first | (with_reducible first | exact HB.out | apply bA | apply bN | apply bD) | exact HB.out)) hb); clear HO393; clear HB; have HO393 := n0_; have HB := n1_; clear n0_ n1_; (try clear hb); (try clear hb2); (try clear hk); (try clear hi)) | ((with_reducible refine gate_dst (N := 7) rfl ?_); refine box_event ?hg (N := 7) ?hd (cs := #[.int .i64 0, .string (⟨#[]⟩ : ByteArray), .string (⟨#[]⟩ : ByteArray), .int .i64 0, .int .i64 0]) (t := 88) ?hr ?_; (case hd => rfl); (case hg => rfl); (case hr => first | (go_simp; done) | (go_simp; rfl)); intro gb404 hg w40 hbox hb; have n0_ := mA (Kd.R_below (by (with_reducible repeat (first | apply Kd.R_alloc | apply Kd.R_drewN | apply Kd.R_drew)); exact HO393.out) hb); obtain ⟨n1_, nq_⟩ := bpr (by repeat (first | (with_reducible first | exact HB.out | apply bA | apply bN | apply bD) | exact HB.out)) hb; have n2_ := mA (hbox); have n3_ := mA ((by rw [hg]; exact nq_ : w.heap.size ≤ gb404)); have n4_ := mA ((by rw [hg]; exact nq_ : w.heap.size ≤ gb404)); clear HO393; clear HB; have HO393 := n0_; have HB := n1_; have BK404 := n2_; have GW404 := n3_; have GE404 := n4_; clear nq_; clear n0_ n1_ n2_ n3_ n4_; clear hb hbox hg; obtain ⟨hcz41_0, hcz41_1, hcz41_2, hcz41_3, hcz41_4⟩ := bc5 BK404.out; obtain ⟨hfz41_0, hfz41_1, hfz41_2, hfz41_3, hfz41_4⟩ := bf5 BK404.out) | ((with_reducible refine gate_callee (f := 51) rfl ?_); refine goesL_ (some 34) rfl rfl Tryd.func51 (by kernel_rfl) rfl #[.string t396] rfl (by (try simp only [List.map_toArray, List.map_cons, List.map_nil]); first | done | rfl | (simp only [List.length_drop, List.length_take]; rfl)) ?_; (with_reducible refine (flow_Get.calls t396 t405 t406 t407 t408 t409 t410 _ A5.out).mono ?_); rintro e w42 ⟨rfl, hb⟩; refine ⟨_, rfl, ?_⟩; have n0_ := mA (Kd.R_below (by (with_reducible repeat (first | apply Kd.R_alloc | apply Kd.R_drewN | apply Kd.R_drew)); exact (Kd.R_mono (Kd.R_far (p := ⟨gb404, 4, none⟩) (Kd.R_far (p := ⟨gb404, 3, none⟩) (Kd.R_far (p := ⟨gb404, 2, none⟩) (Kd.R_far (p := ⟨gb404, 1, none⟩) (Kd.R_far (p := ⟨gb404, 0, none⟩) (Kd.R_types HO393.out BK404.out (by decide)) (fun _ hk => hk.2) (.int .i64 t398)) (fun _ hk => hk.2) (.string t399)) (fun _ hk => hk.2) (.string t400)) (fun _ hk => hk.2) (.int .i64 t401)) (fun _ hk => hk.2) (.int .i64 t402)) (fun _ h_ => h_.1))) hb); have n1_ := mA (blk_below (g := gb404) (o := .cells #[.int .i64 t398, .string t399, .string t400, .int .i64 t401, .int .i64 t402] 88 (0, 0)) (by (with_reducible repeat (first | apply kN | apply kD | apply kA)); refine blk_put (cs := #[.int .i64 t398, .string t399, .string t400, .int .i64 t401, .int .i64 0]) ?_ 4 _ (by first | rfl | (simp [*]; done)); (with_reducible repeat (first | apply kN | apply kD | apply kA)); refine blk_put (cs := #[.int .i64 t398, .string t399, .string t400, .int .i64 0, .int .i64 0]) ?_ 3 _ (by first | rfl | (simp [*]; done)); (with_reducible repeat (first | apply kN | apply kD | apply kA)); refine blk_put (cs := #[.int .i64 t398, .string t399, .string (⟨#[]⟩ : ByteArray), .int .i64 0, .int .i64 0]) ?_ 2 _ (by first | rfl | (simp [*]; done)); (with_reducible repeat (first | apply kN | apply kD | apply kA)); refine blk_put (cs := #[.int .i64 t398, .string (⟨#[]⟩ : ByteArray), .string (⟨#[]⟩ : ByteArray), .int .i64 0, .int .i64 0]) ?_ 1 _ (by first | rfl | (simp [*]; done)); (with_reducible repeat (first | apply kN | apply kD | apply kA)); refine blk_put (cs := #[.int .i64 0, .string (⟨#[]⟩ : ByteArray), .string (⟨#[]⟩ : ByteArray), .int .i64 0, .int .i64 0]) ?_ 0 _ (by first | rfl | (simp [*]; done)); (with_reducible repeat (first | apply kN | apply kD | apply kA)); exact BK404.out) hb); have n2_ := mA (bP (by repeat (first | (with_reducible first | exact HB.out | apply bA | apply bN | apply bD | refine bS ?_ GE404.out) | exact HB.out)) hb); clear HO393; clear BK404; clear HB; have HO393 := n0_; have BK404 := n1_; have HB := n2_; clear n0_ n1_ n2_; (try clear hb); (try clear hb2); (try clear hk); (try clear hi)) | ((with_reducible refine gate_dst (N := 9) rfl ?_); refine box_event ?hg (N := 9) ?hd (cs := #[.int .i64 0, .string (⟨#[]⟩ : ByteArray), .string (⟨#[]⟩ : ByteArray), .int .i64 0, .int .i64 0]) (t := 88) ?hr ?_; (case hd => rfl); (case hg => rfl); (case hr => first | (go_simp; done) | (go_simp; rfl)); intro gb411 hg w43 hbox hb; have n0_ := mA (Kd.R_below (by (with_reducible repeat (first | apply Kd.R_alloc | apply Kd.R_drewN | apply Kd.R_drew)); exact HO393.out) hb); obtain ⟨n1_, nl404_⟩ := bt3 (g := gb404) (o := .cells #[.int .i64 t398, .string t399, .string t400, .int .i64 t401, .int .i64 t402] 88 (0, 0)) (by (with_reducible repeat (first | apply kN | apply kD | apply kA)); exact BK404.out) hb; obtain ⟨n2_, nq_⟩ := bpr (by repeat (first | (with_reducible first | exact HB.out | apply bA | apply bN | apply bD | refine bS ?_ GE404.out) | exact HB.out)) hb; have n3_ := mA (hbox); have n4_ := mA ((by rw [hg]; exact nq_ : w.heap.size ≤ gb411)); have n5_ := mA ((by rw [hg]; exact nq_ : w.heap.size ≤ gb411)); have n6_ := mA ((by rw [hg]; exact Nat.ne_of_lt nl404_ : gb404 ≠ gb411)); have n7_ := mA ((by rw [hg]; exact Nat.ne_of_gt nl404_ : gb411 ≠ gb404)); clear HO393; clear BK404; clear HB; have HO393 := n0_; have BK404 := n1_; have HB := n2_; have BK411 := n3_; have GW411 := n4_; have GE411 := n5_; have NB404_411 := n6_; have NB411_404 := n7_; clear nl404_; clear nq_; clear n0_ n1_ n2_ n3_ n4_ n5_ n6_ n7_; clear hb hbox hg; have hnb44 := NB411_404.out; have hnc44 := NB404_411.out; obtain ⟨hcz45_0, hcz45_1, hcz45_2, hcz45_3, hcz45_4⟩ := bc5 BK411.out; obtain ⟨hfz45_0, hfz45_1, hfz45_2, hfz45_3, hfz45_4⟩ := bf5 BK411.out; obtain ⟨hcz46_0, hcz46_1, hcz46_2, hcz46_3, hcz46_4⟩ := bc5 BK404.out; obtain ⟨hfz46_0, hfz46_1, hfz46_2, hfz46_3, hfz46_4⟩ := bf5 BK404.out))
   go_ret
   exact ⟨by first | rfl | (simp [errW_none, errW_some] <;> rfl) | (simp [*, errW_none, errW_some] <;> rfl), by repeat (first | (with_reducible first | exact HB.out | apply bA | apply bN | apply bD | refine bS ?_ GE404.out | refine bS ?_ GE411.out) | exact HB.out)⟩
 ·rw [if_neg c1] at H
  exact absurd H (by simp)

def palanquinlaw09_few.f (a0 : ByteArray) (a1 : ByteArray) (a2 : ByteArray) : Option (Bool) := if (a0.size : Int) ≤ 300 then (if (a1.size : Int) ≤ 300 then (some (decide ((a2.size : Int) ≤ 300))) else (some false)) else (some false)
set_option maxHeartbeats 8000000 in
set_option maxRecDepth 100000 in
theorem palanquinlaw09_few.calls (a0 : ByteArray) (a1 : ByteArray) (a2 : ByteArray) (r : Bool) (w : World) (h : palanquinlaw09_few.f a0 a1 a2 = some r) :
  Calls Tryd.prog 42 #[.string a0, .string a1, .string a2] w fun e w' => e = .returned (.bool r) ∧ Drawn0 w w' := by
 have H : (if (a0.size : Int) ≤ 300 then (if (a1.size : Int) ≤ 300 then (some (decide ((a2.size : Int) ≤ 300))) else (some false)) else (some false)) = some r := h
 clear h
 by_cases c4 : (a0.size : Int) ≤ 300
 ·rw [if_pos c4] at H
  have c4b0 : decide ((a0.size : Int) ≤ 300) = true := decide_eq_true c4
  have c4b1 : decide (a0.size ≤ 300) = true := decide_eq_true (by omega)
  clear c4
  by_cases c5 : (a1.size : Int) ≤ 300
  ·rw [if_pos c5] at H
   have c5b0 : decide ((a1.size : Int) ≤ 300) = true := decide_eq_true c5
   have c5b1 : decide (a1.size ≤ 300) = true := decide_eq_true (by omega)
   clear c5
   obtain rfl := Option.some.inj H
   go_enter Tryd.func42, Tryd.ntmps42
   go_wp2
   go_ret
   exact ⟨by first | rfl | (simp; done) | (simp [*]; done), by repeat (first | exact Drawn0.refl _ | apply Drawn0.step)⟩
  ·rw [if_neg c5] at H
   have c5b0 : decide ((a1.size : Int) ≤ 300) = false := decide_eq_false c5
   have c5b1 : decide (a1.size ≤ 300) = false := decide_eq_false (by omega)
   clear c5
   obtain rfl := Option.some.inj H
   go_enter Tryd.func42, Tryd.ntmps42
   go_wp2
   go_ret
   exact ⟨by first | rfl | (simp; done) | (simp [*]; done), by repeat (first | exact Drawn0.refl _ | apply Drawn0.step)⟩
 ·rw [if_neg c4] at H
  have c4b0 : decide ((a0.size : Int) ≤ 300) = false := decide_eq_false c4
  have c4b1 : decide (a0.size ≤ 300) = false := decide_eq_false (by omega)
  clear c4
  obtain rfl := Option.some.inj H
  go_enter Tryd.func42, Tryd.ntmps42
  go_wp2
  go_ret
  exact ⟨by first | rfl | (simp; done) | (simp [*]; done), by repeat (first | exact Drawn0.refl _ | apply Drawn0.step)⟩

end Go.Proofs.YtcmalglippmocaaDoor.G
end

section
/- Plain theory: a text with its own checksum inside it, at an even place. No program in it. -/
namespace Go.Proofs.YtcmalglippmocaaDoor.Pal
theorem nb2_is (c : Nat) : nb 2 c = [UInt8.ofNat (c / 256), UInt8.ofNat c] := rfl
theorem nb2_tot (c : Nat) (h : c ≤ 65535) : tot false (nb 2 c) = c := by
  rw [nb2_is]
  simp only [tot, UInt8.toNat_ofNat']
  omega
theorem tot_mid (A B : List UInt8) (c : Nat) (hA : odd A = false) (hc : c ≤ 65535) : tot false (A ++ nb 2 c ++ B) = tot false (A ++ nb 2 0 ++ B) + c := by
  have e : ∀ d, odd (A ++ nb 2 d) = false := fun d => by
    unfold odd at hA ⊢
    rw [List.length_append, nb_length]
    simp only [beq_eq_false_iff_ne] at hA ⊢
    omega
  have t : ∀ d, tot false (A ++ nb 2 d ++ B) = tot false A + tot false (nb 2 d) + tot false B := fun d => by
    rw [tot_append, tot_append, e d, hA]
    rfl
  rw [t, t, nb2_tot c hc, nb2_tot 0 (by decide)]
  omega
theorem csum_bound (l : List UInt8) : csum l ≤ 65535 := by unfold csum; omega
/-- With its checksum in its place it sums to 0. -/
theorem inSealed (A B : List UInt8) (hA : odd A = false) : csum (A ++ nb 2 (csum (A ++ nb 2 0 ++ B)) ++ B) = 0 := by
  unfold csum at *
  rw [tot_mid A B _ hA (by omega)]
  generalize tot false (A ++ nb 2 0 ++ B) = t
  unfold fold16
  split <;> split <;> omega
end Go.Proofs.YtcmalglippmocaaDoor.Pal
end

section
/- Plain theory: a text with one bit turned. No program in it. -/
namespace Go.Proofs.YtcmalglippmocaaDoor.Pal
theorem cut_bl (s : ByteArray) (n m : Nat) : bl (s.extract n m) = ((bl s).take m).drop n := by simp [bl, ByteArray.data_extract, List.drop_take]
theorem take_bl (s : ByteArray) : (bl s).take s.size = bl s := List.take_of_length_le (by rw [bl_length]; exact Nat.le_refl _)
end Go.Proofs.YtcmalglippmocaaDoor.Pal
end

section
/- Plain theory: a text with its checksum inside it, 0 spelled FFFF; a bit turned in a part of a text. No program in it. -/
namespace Go.Proofs.YtcmalglippmocaaDoor.Pal
def seal17 (t : Nat) : Nat := if t = 0 then 65535 else t
theorem seal17_le {t : Nat} (h : t ≤ 65535) : 1 ≤ seal17 t ∧ seal17 t ≤ 65535 := by unfold seal17; split <;> omega
theorem seal17_fold (t : Nat) : 65535 - fold16 (t + seal17 (65535 - fold16 t)) = 0 := by
  unfold fold16 seal17
  by_cases h : t = 0
  · subst h; rfl
  · rw [if_neg h]
    have := Nat.mod_lt (t - 1) (show 0 < 65535 by decide)
    by_cases h2 : 65535 - ((t - 1) % 65535 + 1) = 0
    · rw [if_pos h2, if_neg (by omega)]; omega
    · rw [if_neg h2, if_neg (by omega)]; omega
theorem inSealed17 (A B : List UInt8) (hA : odd A = false) : csum (A ++ nb 2 (seal17 (csum (A ++ nb 2 0 ++ B))) ++ B) = 0 := by
  have e := tot_mid A B _ hA (seal17_le (csum_bound (A ++ nb 2 0 ++ B))).2
  unfold csum at *
  rw [e]
  exact seal17_fold _
end Go.Proofs.YtcmalglippmocaaDoor.Pal
end

section
/- Plain facts of udp.Put and udp.Get as functions: what is put is got, what is got is put. -/
namespace Go.Proofs.YtcmalglippmocaaDoor.Pure
open Go.RowKit Go.Proofs.YtcmalglippmocaaDoorW.PrintWords Go.Proofs.YtcmalglippmocaaDoorW.PrintLast Go.Proofs.YtcmalglippmocaaDoor.G Go.Proofs.YtcmalglippmocaaDoor.Pal
theorem bl_inj {a b : ByteArray} (h : bl a = bl b) : a = b := ByteArray.ext (Array.toList_inj.mp h)
theorem bl_mk (l : List UInt8) : bl ⟨l.toArray⟩ = l := by simp [bl]
theorem size_mk (l : List UInt8) : (⟨l.toArray⟩ : ByteArray).size = l.length := by simp [ByteArray.size]
theorem u64n_of {a : Int} (h0 : 0 ≤ a) (h1 : a ≤ 18446744073709551615) : u64n a = a.toNat := by
  unfold u64n; rw [IntKind.wrap_u64]; omega
theorem be_nb2 {a : Int} (h : in16 a) : ((be (nb 2 (u64n a)) : Nat) : Int) = a := by
  rw [be_nb, u64n_of h.1 (by have := h.2; omega)]; have := h.1; have := h.2; omega
theorem check_zero {a b : Int} {n : Nat} : udpCheck a b n = 0 ↔ in16 a ∧ in16 b ∧ n ≤ 65527 := by
  unfold udpCheck
  split
  · split <;> simp_all
  · rename_i h; constructor
    · intro h; omega
    · intro h2; exact absurd ⟨h2.1, h2.2.1⟩ h
/-- The bytes of a datagram, part by part. -/
theorem parts {x : ByteArray} {A B L S : List UInt8} {p : ByteArray} (hx : bl x = A ++ B ++ L ++ S ++ bl p) (hA : A.length = 2) (hB : B.length = 2) (hL : L.length = 2) (hS : S.length = 2) :
    x.size = 8 + p.size ∧ bl (x.extract 0 2) = A ∧ bl (x.extract 2 4) = B ∧ bl (x.extract 4 6) = L ∧ bl (x.extract 6 8) = S ∧ x.extract 8 x.size = p := by
  match A, hA, B, hB, L, hL, S, hS with
  | [a0, a1], _, [b0, b1], _, [l0, l1], _, [s0, s1], _ =>
    have hsz : x.size = 8 + p.size := by rw [← bl_length, hx, ← bl_length]; simp; omega
    refine ⟨hsz, ?_, ?_, ?_, ?_, bl_inj ?_⟩ <;> rw [bl_extract, hx]
    · simp
    · simp
    · simp
    · simp
    · rw [List.take_of_length_le (by simp [bl_length, hsz]; omega)]; simp
theorem put_ok {a b : Int} {p : ByteArray} {n : Int} (h0 : udpCheck a b p.size = 0) (hn : in16 n) : udp_Put.f a b p n = some (⟨(udpBytes a b p n).toArray⟩, 0) := by
  unfold udp_Put.f; rw [if_neg (by omega), if_pos hn]
theorem put_len {a b : Int} {p : ByteArray} {n : Int} (h0 : udpCheck a b p.size ≠ 0) : udp_Put.f a b p n = some (empty, udpCheck a b p.size) := by
  unfold udp_Put.f; rw [if_pos h0]
theorem put_sum {a b : Int} {p : ByteArray} {n : Int} (h0 : udpCheck a b p.size = 0) (hn : ¬ in16 n) : udp_Put.f a b p n = some (empty, 1) := by
  unfold udp_Put.f; rw [if_neg (by omega), if_neg hn]
theorem get_is {s : ByteArray} (hs : s.size ≤ 140737488351232) : udp_Get.f s = some (if udpErr s = 0 then (((be (bl (s.extract 0 2)) : Nat) : Int), ((be (bl (s.extract 2 4)) : Nat) : Int), s.extract 8 s.size, ((be (bl (s.extract 6 8)) : Nat) : Int), 0) else (0, 0, empty, 0, udpErr s)) := by
  unfold udp_Get.f; rw [if_pos hs]
/-- What is put is got. -/
theorem get_put {a b : Int} {p : ByteArray} {n : Int} {x : ByteArray} (ha : in16 a) (hb : in16 b) (hp : p.size ≤ 65527) (hn : in16 n) (hx : bl x = udpBytes a b p n) : udp_Get.f x = some (a, b, p, n, 0) := by
  obtain ⟨h0, h1, h2, h3, h4, h5⟩ := parts hx (nb_length _ _) (nb_length _ _) (nb_length _ _) (nb_length _ _)
  have he : udpErr x = 0 := by
    unfold udpErr
    rw [if_neg (by omega), if_pos (by
      rw [h3]
      have := be_nb2 (a := 8 + (p.size : Int)) (by unfold in16; omega)
      omega)]
  rw [get_is (by omega), if_pos he, h1, h2, h4, h5, be_nb2 ha, be_nb2 hb, be_nb2 hn]
theorem udpBytes_length (a b : Int) (p : ByteArray) (n : Int) : (udpBytes a b p n).length = 8 + p.size := by
  unfold udpBytes; simp only [List.length_append, nb_length, bl_length]
theorem empty_list : (empty : ByteArray).toList = [] := by decide +kernel
end Go.Proofs.YtcmalglippmocaaDoor.Pure
end

section
/- Plain facts of palanquinref01: Value reads a big-endian number, Bytes writes one. -/
namespace Go.Proofs.YtcmalglippmocaaDoor.Pure
open Go.RowKit Go.Proofs.YtcmalglippmocaaDoorW.PrintWords Go.Proofs.YtcmalglippmocaaDoorW.PrintLast Go.Proofs.YtcmalglippmocaaDoor.G Go.Proofs.YtcmalglippmocaaDoor.Pal
theorem bt_bl (s : ByteArray) (i : Nat) (h : i < s.size) : bt s (i : Int) = (((bl s)[i]'(by rw [bl_length]; exact h)).toNat : Int) := by
  unfold bt
  rw [dif_pos (by simpa using h)]
  rfl
theorem byte_is (x : Int) (h0 : 0 ≤ x) : strOfNums [Int.tmod x 256 % 256] = ⟨#[UInt8.ofNat x.toNat]⟩ := by
  obtain ⟨n, rfl⟩ := Int.eq_ofNat_of_zero_le h0
  have e : Int.tmod (n : Int) 256 % 256 = ((n % 256 : Nat) : Int) := by rw [Int.tmod_eq_emod_of_nonneg (by omega)]; omega
  rw [e]
  simp [strOfNums]
  apply UInt8.toNat.inj
  simp
  omega
theorem bytes_loop (n : Nat) (hn : n ≤ 8) : ∀ (m i k x : Nat) (t : ByteArray), i + m = n → m < k → x ≤ 18446744073709551615 → t.size = i →
    ∃ r, palanquinref01_Bytes.l0 k (x : Int) (n : Int) t (i : Int) = some r ∧ bl r = nb m x ++ bl t
  | 0, i, k + 1, x, t, hi, _, _, _ => by
    refine ⟨t, ?_, by simp [nb]⟩
    rw [palanquinref01_Bytes.l0, if_neg (by omega)]
  | m + 1, i, k + 1, x, t, hi, hk, hx, ht => by
    have hd : IntKind.u64.wrap (Int.tdiv (x : Int) 256) = ((x / 256 : Nat) : Int) := by rw [IntKind.wrap_u64, Int.tdiv_eq_ediv_of_nonneg (by omega)]; omega
    have hb := byte_is (x : Int) (by omega)
    rw [Int.toNat_natCast] at hb
    have h1 : (⟨#[UInt8.ofNat x]⟩ : ByteArray).size = 1 := rfl
    obtain ⟨r, hr, hr2⟩ := bytes_loop n hn m (i + 1) k (x / 256) (⟨#[UInt8.ofNat x]⟩ ++ t) (by omega) (by omega) (by omega) (by rw [ByteArray.size_append, h1]; omega)
    refine ⟨r, ?_, ?_⟩
    · rw [palanquinref01_Bytes.l0, if_pos (by omega), Option.bind_some, hb, if_pos (by rw [h1]; omega), hd, show wrap64 ((i : Int) + 1) = ((i + 1 : Nat) : Int) by unfold wrap64; omega]
      exact hr
    · rw [hr2, bl_append, nb, List.append_assoc]
      rfl
theorem bytes_is (n : Nat) (hn : n ≤ 8) (x : Nat) (hx : x ≤ 18446744073709551615) (k : Nat) (hk : n < k) : ∃ r, palanquinref01_Bytes.f k (x : Int) (n : Int) = some r ∧ bl r = nb n x := by
  obtain ⟨r, h1, h2⟩ := bytes_loop n hn n 0 k x ⟨#[]⟩ (by omega) hk hx rfl
  refine ⟨r, h1, ?_⟩
  rw [h2]
  simp [bl]
theorem bytes_u (n : Nat) (hn : n ≤ 8) (v : Int) (k : Nat) (hk : n < k) : ∃ r, palanquinref01_Bytes.f k (IntKind.u64.wrap v) (n : Int) = some r ∧ bl r = nb n (IntKind.u64.wrap v).toNat := by
  have h0 : 0 ≤ IntKind.u64.wrap v ∧ IntKind.u64.wrap v ≤ 18446744073709551615 := by rw [IntKind.wrap_u64]; omega
  generalize IntKind.u64.wrap v = x at h0 ⊢
  obtain ⟨x, rfl⟩ := Int.eq_ofNat_of_zero_le h0.1
  obtain ⟨r, h1, h2⟩ := bytes_is n hn x (by omega) k hk
  exact ⟨r, h1, by rw [h2, Int.toNat_natCast]⟩
theorem bytes_sized {n : Nat} {r : ByteArray} {x : Nat} (h : bl r = nb n x) : r.size = n := by rw [← bl_length, h, nb_length]
end Go.Proofs.YtcmalglippmocaaDoor.Pure
end

section
/- Plain facts of flow.Seal: what is sealed; what palanquinref09 seals is the same. -/
namespace Go.Proofs.YtcmalglippmocaaDoor.Pure
open Go.RowKit Go.Proofs.YtcmalglippmocaaDoorW.PrintWords Go.Proofs.YtcmalglippmocaaDoorW.PrintLast Go.Proofs.YtcmalglippmocaaDoor.G Go.Proofs.YtcmalglippmocaaDoor.Pal
set_option linter.unusedVariables false
/-- The end of what stands ahead of a segment. -/
def psT (six : Bool) (a b : Int) : ByteArray := if six then strOfNums [b / 16777216 % 256, b / 65536 % 256, b / 256 % 256, b % 256, 0, 0, 0, a % 256] else strOfNums [0, a % 256, b / 256 % 256, b % 256]
theorem psT_size (six : Bool) (a b : Int) : (psT six a b).size % 2 = 0 ∧ (psT six a b).size ≤ 8 := by
  have sz_nums : ∀ xs : List Int, (strOfNums xs).size = xs.length := fun xs => by rw [← bl_length]; simp [bl, strOfNums]
  unfold psT; split <;> rw [sz_nums] <;> exact ⟨by simp, by simp⟩
def psB (s d : ByteArray) (a b : Int) : ByteArray := s ++ d ++ psT (s.size == 16) a b
theorem pseudo_some (s d : ByteArray) (hs : s.size ≤ 300) (hd : d.size ≤ 300) (a b : Int) : sum_Pseudo.f s d a b = some (psB s d a b) := by
  have sz_nums : ∀ xs : List Int, (strOfNums xs).size = xs.length := fun xs => by rw [← bl_length]; simp [bl, strOfNums]
  unfold sum_Pseudo.f psB psT
  by_cases h : (s.size : Int) = 16
  · have h' : (s.size == 16) = true := beq_iff_eq.mpr (by omega)
    rw [if_pos h, if_pos (by omega), Option.bind_some, if_pos (by rw [sz_nums, ByteArray.size_append]; simp; omega), if_pos h']
  · have h' : (s.size == 16) = false := beq_eq_false_iff_ne.mpr (by omega)
    rw [if_neg h, if_pos (by omega), Option.bind_some, if_pos (by rw [sz_nums, ByteArray.size_append]; simp; omega), if_neg (by rw [h']; decide)]
theorem psB_size (s d : ByteArray) (a b : Int) : (psB s d a b).size = s.size + d.size + (psT (s.size == 16) a b).size := by unfold psB; rw [ByteArray.size_append, ByteArray.size_append]
theorem psB_even (s d : ByteArray) (a b : Int) (h : (s.size + d.size) % 2 = 0) : odd (bl (psB s d a b)) = false := by
  have := (psT_size (s.size == 16) a b).1
  unfold odd; rw [bl_length, psB_size]; simp only [beq_eq_false_iff_ne]; omega
/-- Between addresses that are exchanged it weighs the same. -/
theorem psB_swap (s d : ByteArray) (a b : Int) (hz : s.size = d.size) (he : s.size % 2 = 0) : tot false (bl (psB s d a b)) = tot false (bl (psB d s a b)) := by
  have o : ∀ x : ByteArray, x.size % 2 = 0 → odd (bl x) = false := fun x hx => by unfold odd; rw [bl_length, hx]; rfl
  have t : ∀ x y z : ByteArray, x.size % 2 = 0 → y.size % 2 = 0 → tot false (bl (x ++ y ++ z)) = tot false (bl x) + tot false (bl y) + tot false (bl z) := fun x y z hx hy => by
    rw [bl_append, bl_append, tot_append, tot_append, o x hx, show odd (bl x ++ bl y) = false by rw [← bl_append]; exact o _ (by rw [ByteArray.size_append]; omega)]
    rfl
  unfold psB
  rw [t s d _ he (by omega), t d s _ (by omega) he, hz]
  omega
theorem sum_is (l : List ByteArray) (h : (cat l).length ≤ 1099511627776) : sum_Sum.f l = some ((csum (cat l) : Nat) : Int) := by unfold sum_Sum.f; rw [if_pos h]
theorem right2 (a b : ByteArray) (h : a.size + b.size ≤ 1099511627776) : sum_Right.f [a, b] = some (decide (csum (bl a ++ bl b) = 0)) := by
  unfold sum_Right.f
  rw [sum_is _ (by rw [cat_cons, cat_cons, cat_nil, List.append_nil, List.length_append, bl_length, bl_length]; exact h), Option.bind_some, cat_cons, cat_cons, cat_nil, List.append_nil]
  congr 1
  by_cases hc : csum (bl a ++ bl b) = 0
  · rw [hc]; rfl
  · rw [decide_eq_false hc]; exact beq_eq_false_iff_ne.mpr (by omega)
/-- A sum as it is put: a datagram's 0 as FFFF. -/
def sealC (p : Int) (t : Nat) : Nat := if t = 0 ∧ p = 17 then 65535 else t
theorem sealC_le {p : Int} {t : Nat} (h : t ≤ 65535) : sealC p t ≤ 65535 := by unfold sealC; split <;> omega
theorem sealNo_is (p : Int) (t : Nat) : sealNo p (t : Int) = ((sealC p t : Nat) : Int) := by
  unfold sealNo sealC
  by_cases h : t = 0 ∧ p = 17
  · rw [if_pos h, if_pos ⟨by omega, h.2⟩]; rfl
  · rw [if_neg h, if_neg (fun h' => h ⟨by omega, h'.2⟩)]
theorem sealC_17 (t : Nat) : sealC 17 t = seal17 t := by unfold sealC seal17; simp
/-- The text with another number where its sum stands. -/
def putAt (s : ByteArray) (q c : Nat) : ByteArray := ⟨((bl s).take q ++ nb 2 c ++ (bl s).drop (q + 2)).toArray⟩
theorem bl_putAt (s : ByteArray) (q c : Nat) : bl (putAt s q c) = (bl s).take q ++ nb 2 c ++ (bl s).drop (q + 2) := by unfold putAt; simp [bl]
theorem putAt_size (s : ByteArray) (q c : Nat) (h : q + 2 ≤ s.size) : (putAt s q c).size = s.size := by
  rw [← bl_length, bl_putAt]; simp only [List.length_append, List.length_take, List.length_drop, nb_length, bl_length]; omega
theorem take_putAt (s : ByteArray) (q c : Nat) (h : q + 2 ≤ s.size) : (bl (putAt s q c)).take q = (bl s).take q := by
  have hl : ((bl s).take q).length = q := by rw [List.length_take, bl_length]; omega
  rw [bl_putAt, List.append_assoc, List.take_append_of_le_length (by omega), List.take_of_length_le (by omega)]
theorem drop_putAt (s : ByteArray) (q c : Nat) (h : q + 2 ≤ s.size) : (bl (putAt s q c)).drop (q + 2) = (bl s).drop (q + 2) := by
  have hl : ((bl s).take q).length = q := by rw [List.length_take, bl_length]; omega
  rw [bl_putAt]
  exact List.drop_left' (by rw [List.length_append, nb_length, hl])
theorem putAt_twice (s : ByteArray) (q c d : Nat) (h : q + 2 ≤ s.size) : putAt (putAt s q c) q d = putAt s q d := by
  apply bl_inj
  rw [bl_putAt (putAt s q c), take_putAt s q c h, drop_putAt s q c h, bl_putAt]
/-- The sum of a segment, with zeros where it stands. -/
def sumAt (ps : ByteArray) (s : ByteArray) (q : Nat) : Nat := csum (bl ps ++ bl (putAt s q 0))
theorem sumAt_le (ps s : ByteArray) (q : Nat) : sumAt ps s q ≤ 65535 := csum_bound _
theorem seal_none {p : Int} {a b s : ByteArray} (h : sealAt p s.size = 0) (hs : s.size ≤ 1000000000) : flow_Seal.f p a b s = some s := by unfold flow_Seal.f; rw [if_pos hs, if_pos h]
theorem ext_front (s : ByteArray) (q : Nat) : bl (s.extract 0 q) = (bl s).take q := by rw [cut_bl, List.drop_zero]
theorem ext_back (s : ByteArray) (q : Nat) : bl (s.extract q s.size) = (bl s).drop q := by rw [cut_bl, take_bl]
theorem seal_some {p : Int} {a b s : ByteArray} {q : Nat} (h : sealAt p s.size = q) (h0 : q ≠ 0) (hs : s.size ≤ 1000000000) (ha : a.size ≤ 300) (hb : b.size ≤ 300) :
    flow_Seal.f p a b s = some (putAt s q (sealC p (sumAt (psB a b p s.size) s q))) := by
  unfold flow_Seal.f
  rw [if_pos hs, h, if_neg h0]
  unfold seal_with
  rw [pseudo_some a b ha hb, Option.bind_some]
  have hz := psB_size a b p s.size
  have hz2 := (psT_size (a.size == 16) p s.size).2
  have hcat : cat [psB a b p s.size, s.extract 0 q, ⟨#[0, 0]⟩, s.extract (q + 2) s.size] = bl (psB a b p s.size) ++ bl (putAt s q 0) := by
    rw [bl_putAt, cat_cons, cat_cons, cat_cons, cat_cons, cat_nil, List.append_nil, ext_front, ext_back, show bl (⟨#[0, 0]⟩ : ByteArray) = nb 2 0 from rfl]
    simp only [List.append_assoc]
  rw [sum_is _ (by rw [hcat, bl_putAt]; simp only [List.length_append, List.length_take, List.length_drop, nb_length, bl_length]; omega), Option.bind_some, hcat, sealNo_is]
  unfold sealBytes
  rw [u64n_of (by omega) (by have := sealC_le (p := p) (csum_bound (bl (psB a b p s.size) ++ bl (putAt s q 0))); omega), Int.toNat_natCast, ext_front, ext_back]
  rfl
theorem sealAt_cases (p : Int) (n : Nat) : sealAt p n = 0 ∨ (sealAt p n = 16 ∧ p = 6 ∧ 20 ≤ n) ∨ (sealAt p n = 6 ∧ p = 17 ∧ 8 ≤ n) := by
  unfold sealAt; split
  · rename_i h; exact .inr (.inl ⟨rfl, h.1, h.2⟩)
  · split
    · rename_i h; exact .inr (.inr ⟨rfl, h.1, h.2⟩)
    · exact .inl rfl
theorem sealed_right {ps s : ByteArray} {q : Nat} {p : Int} (hp : odd (bl ps) = false) (hq : q % 2 = 0) (hl : q + 2 ≤ s.size) : csum (bl ps ++ bl (putAt s q (sealC p (sumAt ps s q)))) = 0 := by
  have hA : odd (bl ps ++ (bl s).take q) = false := by
    have e : ((bl s).take q).length = q := by rw [List.length_take, bl_length]; omega
    unfold odd at hp ⊢
    simp only [beq_eq_false_iff_ne] at hp ⊢
    rw [List.length_append, e]; omega
  have e : ∀ c, bl ps ++ bl (putAt s q c) = (bl ps ++ (bl s).take q) ++ nb 2 c ++ (bl s).drop (q + 2) := fun c => by rw [bl_putAt]; simp only [List.append_assoc]
  unfold sumAt
  rw [e, e]
  unfold sealC
  split
  · rename_i h
    have := inSealed17 (bl ps ++ (bl s).take q) ((bl s).drop (q + 2)) hA
    unfold seal17 at this
    rw [if_pos h.1] at this
    exact this
  · exact inSealed _ _ hA
end Go.Proofs.YtcmalglippmocaaDoor.Pure
end

section
/- Plain facts of flow.Seal, more: sealed twice, between addresses that are exchanged; a number where the sum stands. -/
namespace Go.Proofs.YtcmalglippmocaaDoor.Pure
open Go.RowKit Go.Proofs.YtcmalglippmocaaDoorW.PrintWords Go.Proofs.YtcmalglippmocaaDoorW.PrintLast Go.Proofs.YtcmalglippmocaaDoor.G Go.Proofs.YtcmalglippmocaaDoor.Pal
namespace F2
set_option linter.unusedVariables false
theorem csum_swap {s d : ByteArray} (a b : Int) (hz : s.size = d.size) (he : s.size % 2 = 0) (l : List UInt8) : csum (bl (psB s d a b) ++ l) = csum (bl (psB d s a b) ++ l) := by
  unfold csum
  rw [tot_append, tot_append, psB_swap s d a b hz he, psB_even s d a b (by omega), psB_even d s a b (by omega)]
theorem toList_of {a b : ByteArray} (h : bl a = bl b) : a.toList = b.toList := by rw [bl_inj h]
theorem sumAt_put (ps s : ByteArray) (q c : Nat) (h : q + 2 ≤ s.size) : sumAt ps (putAt s q c) q = sumAt ps s q := by unfold sumAt; rw [putAt_twice s q c 0 h]
theorem sumAt_swap {a b s : ByteArray} {q : Nat} (p n : Int) (hz : a.size = b.size) (he : a.size % 2 = 0) : sumAt (psB a b p n) s q = sumAt (psB b a p n) s q := by unfold sumAt; rw [csum_swap p n hz he]
theorem mid_putAt (s : ByteArray) (q c : Nat) (h : q + 2 ≤ s.size) : bl ((putAt s q c).extract q (q + 2)) = nb 2 c := by
  have hl : ((bl s).take q).length = q := by rw [List.length_take, bl_length]; omega
  rw [cut_bl, bl_putAt, List.take_append_of_le_length (by rw [List.length_append, nb_length]; omega), List.take_of_length_le (by rw [List.length_append, nb_length]; omega)]
  exact List.drop_left' hl
theorem be_pairU (s : ByteArray) (i : Nat) (h : i + 1 < s.size) : ((be (bl (s.extract i (i + 2))) : Nat) : Int) = bt s (i : Int) * 256 + bt s ((i + 1 : Nat) : Int) := by
  have hb := bl_length s
  have d0 := List.drop_eq_getElem_cons (l := bl s) (i := i) (by omega)
  have d1 := List.drop_eq_getElem_cons (l := bl s) (i := i + 1) (by omega)
  have e : bl (s.extract i (i + 2)) = [(bl s)[i]'(by omega), (bl s)[i + 1]'(by omega)] := by
    rw [cut_bl, List.drop_take, show i + 2 - i = 2 by omega, d0, d1]
    rfl
  have e2 : ∀ x y : UInt8, be [x, y] = x.toNat * 256 + y.toNat := fun x y => by
    rw [show [x, y] = [x] ++ [y] from rfl, be_snoc]
    simp [be]
  rw [e, e2, bt_bl s i (by omega), bt_bl s (i + 1) (by omega), Int.natCast_add, Int.natCast_mul]
  rfl
theorem bt_putAt (s : ByteArray) (q c : Nat) (h : q + 2 ≤ s.size) (hc : c ≤ 65535) : bt (putAt s q c) (q : Int) * 256 + bt (putAt s q c) ((q + 1 : Nat) : Int) = (c : Int) := by
  rw [← be_pairU _ _ (by rw [putAt_size s q c h]; omega), mid_putAt s q c h, be_nb]; omega
theorem seal_again {p : Int} {a b s : ByteArray} {q : Nat} (h : sealAt p s.size = q) (h0 : q ≠ 0) (hq : q + 2 ≤ s.size) (hs : s.size ≤ 1000000000) (ha : a.size ≤ 300) (hb : b.size ≤ 300) :
    flow_Seal.f p a b (putAt s q (sealC p (sumAt (psB a b p s.size) s q))) = some (putAt s q (sealC p (sumAt (psB a b p s.size) s q))) := by
  have hz := putAt_size s q (sealC p (sumAt (psB a b p s.size) s q)) hq
  rw [seal_some (by rw [hz]; exact h) h0 (by omega) ha hb, hz, sumAt_put _ _ _ _ hq, putAt_twice _ _ _ _ hq]
theorem seal_turned {p : Int} {a b s : ByteArray} {q : Nat} (h : sealAt p s.size = q) (h0 : q ≠ 0) (hq : q + 2 ≤ s.size) (hs : s.size ≤ 1000000000) (ha : a.size ≤ 300) (hz2 : a.size = b.size) (he : a.size % 2 = 0) :
    flow_Seal.f p b a (putAt s q (sealC p (sumAt (psB a b p s.size) s q))) = some (putAt s q (sealC p (sumAt (psB a b p s.size) s q))) := by
  have hz := putAt_size s q (sealC p (sumAt (psB a b p s.size) s q)) hq
  rw [seal_some (by rw [hz]; exact h) h0 (by omega) (by omega) ha, hz, sumAt_put _ _ _ _ hq, putAt_twice _ _ _ _ hq, sumAt_swap p s.size (a := b) (b := a) hz2.symm (by omega)]
end F2
end Go.Proofs.YtcmalglippmocaaDoor.Pure
end
