/- Texts of this session, joined: each is a section. -/
import Derived.Test.YtcmalglippmocaaMFlowGets5
import Derived.Test.YtcmalglippmocaaMFlowGets4
import Derived.Test.YtcmalglippmocaaMFlowGets1
import Derived.Test.YtcmalglippmocaaMFlowGets2
import Derived.Test.YtcmalglippmocaaMFlowGets3
set_option linter.unusedVariables false
set_option linter.unusedSimpArgs false
section
/- By hand: flow.Get: a packet's flow, or the first fault. -/
namespace Go.Proofs.Ytcmalglippmocaa.G
open Go.RowKit Go.Proofs.YtcmalglippmocaaW.PrintWords Go.Proofs.YtcmalglippmocaaW.PrintLast Go.Proofs.YtcmalglippmocaaW.PrintMore Go.Proofs.Ytcmalglippmocaa.Pal
set_option linter.unusedVariables false
set_option linter.unusedSimpArgs false
abbrev FlowR := Int × ByteArray × ByteArray × Int × Int × Int
def flow_bad (e : Int) : FlowR := (0, ⟨#[]⟩, ⟨#[]⟩, 0, 0, e)
/-- What Get does behind the header: the protocol, the ends, the payload; is it a piece; may a datagram be bare? -/
def flow_fin (proto : Int) (src dst pay : ByteArray) (piece bare : Bool) : Option FlowR :=
  if piece = true then some (flow_bad 14) else if proto ≠ 6 ∧ proto ≠ 17 then some (flow_bad 6) else
  (flow_ports.f proto pay).bind fun q => if q.2.2.2 ≠ 0 then some (flow_bad q.2.2.2) else
  (sum_Pseudo.f src dst proto pay.size).bind fun ps => (sum_Right.f [ps, pay]).bind fun r =>
  if (if proto = 17 ∧ q.2.2.1 = 0 then bare else r) = true then some (proto, src, dst, q.1, q.2.1, 0) else some (flow_bad 5)
def flow_Get.f (s : ByteArray) : Option FlowR :=
  if s.size = 0 then some (flow_bad 2) else if bt s 0 / 16 = 4 then (ip4_Get.f s).bind fun q => if q.2.2.2.2.2.2.2.2.2.2.2 ≠ 0 then some (flow_bad q.2.2.2.2.2.2.2.2.2.2.2) else flow_fin q.2.2.2.2.1 q.2.2.2.2.2.2.2.1 q.2.2.2.2.2.2.2.2.1 q.2.2.2.2.2.2.2.2.2.2.1 (q.2.2.1 != 0 || q.2.2.2.2.2.2.1) true
  else if bt s 0 / 16 = 6 then (ip6_Get.f s).bind fun q => if q.2.2.2.2.2.2.2 ≠ 0 then some (flow_bad q.2.2.2.2.2.2.2) else flow_fin q.2.2.1 q.2.2.2.2.1 q.2.2.2.2.2.1 q.2.2.2.2.2.2.1 false false
  else some (flow_bad 3)
theorem ite_in_no {c : Prop} {d : Decidable c} {α : Type} {b r : Bool} {x y z : α} (h : ¬ c) (H : (if (if c then b else r) = true then x else y) = z) : (if r = true then x else y) = z := by rw [if_neg h] at H; exact H
theorem ite_in_yes {c : Prop} {d : Decidable c} {α : Type} {b r : Bool} {x y z : α} (h : c) (H : (if (if c then b else r) = true then x else y) = z) : (if b = true then x else y) = z := by rw [if_pos h] at H; exact H
set_option maxHeartbeats 8000000 in
set_option maxRecDepth 100000 in
theorem flow_four (s : ByteArray) (r1 r2 r3 r4 r5 : Int) (r6 r7 : Bool) (r8 r9 r10 r11 : ByteArray) (w : World) (t1 : Int) (t2 t3 : ByteArray) (t4 t5 t6 : Int)
    (ho : Calls Try.prog 25 #[.string s] (w.alloc (.cells #[.int .i64 0, .string ⟨#[]⟩, .string ⟨#[]⟩, .int .i64 0, .int .i64 0] 24)) fun e w' => e = .returned (.tuple #[.iface 92 (.agg (cs4 r1 r2 r3 r4 r5 r6 r7 r8 r9 r10)), .string r11, .int .i64 0]) ∧ Below (w.heap.size + 1) (w.alloc (.cells #[.int .i64 0, .string ⟨#[]⟩, .string ⟨#[]⟩, .int .i64 0, .int .i64 0] 24)) w')
    (hf : flow_fin r5 r8 r9 r11 (r3 != 0 || r7) true = some (t1, t2, t3, t4, t5, t6)) :
    Calls Try.prog 11 #[.string s] w fun e w' => e = .returned (.tuple #[.agg #[.int .i64 t1, .string t2, .string t3, .int .i64 t4, .int .i64 t5], .int .i64 t6]) ∧ Below w.heap.size w w' := by
  have HO := Aside0.mk ho
  have hu := Try.underlying24
  obtain ⟨k, hk⟩ : ∃ k, w.heap.size = k := ⟨_, rfl⟩
  have HK := Aside0.mk (show w.heap.size = k from hk)
  have HB := Aside0.mk ((Below.refl w.heap.size w).alloc (Nat.le_refl _) (.cells #[.int .i64 0, .string ⟨#[]⟩, .string ⟨#[]⟩, .int .i64 0, .int .i64 0] 24))
  have HR := Aside0.mk (Blk.new w 24 #[.int .i64 0, .string ⟨#[]⟩, .string ⟨#[]⟩, .int .i64 0, .int .i64 0])
  have HE := Aside0.mk hf
  clear ho hf
  go_enter Try.func11, Try.ntmps11
  go_wp2_with fail
  refine HO.out.mono ?_
  rintro e w2 ⟨rfl, hb⟩
  replace HB := Aside0.mk (HB.out.trans (hb.mono (by omega)))
  replace HR := Aside0.mk (HR.out.below hb (by omega))
  clear HO hb
  rw [hk] at HB HR
  clear hk
  have m1 := four_m_proto r1 r2 r3 r4 r5 r6 r7 r8 r9 r10
  go_wp2_with fail
  refine (four_proto r1 r2 r3 r4 r5 r6 r7 r8 r9 r10 _).mono ?_
  rintro e w3 ⟨rfl, hb⟩
  replace HB := Aside0.mk (HB.out.trans (hb.mono (by have := HB.out.size; have := HK.out; omega)))
  replace HR := Aside0.mk (HR.out.below hb HR.out.lt)
  clear hb m1
  go_upto_region 5 with (fail)
  have HN := Aside0.mk (Blk.new w3 24 #[.int .i64 r5, .string ⟨#[]⟩, .string ⟨#[]⟩, .int .i64 0, .int .i64 0])
  have HGT := Aside0.mk (show k < w3.heap.size from HR.out.lt)
  replace HR := Aside0.mk (HR.out.alloc (.cells #[.int .i64 r5, .string ⟨#[]⟩, .string ⟨#[]⟩, .int .i64 0, .int .i64 0] 24))
  replace HB := Aside0.mk (HB.out.alloc (by have := HGT.out; omega) (.cells #[.int .i64 r5, .string ⟨#[]⟩, .string ⟨#[]⟩, .int .i64 0, .int .i64 0] 24))
  generalize w3.heap.size = g at HN HGT ⊢
  generalize w3.alloc (.cells #[.int .i64 r5, .string ⟨#[]⟩, .string ⟨#[]⟩, .int .i64 0, .int .i64 0] 24) = w4 at HN HR HB ⊢
  have m2 := four_m_ends r1 r2 r3 r4 r5 r6 r7 r8 r9 r10
  go_wp2_with fail
  refine (four_ends r1 r2 r3 r4 r5 r6 r7 r8 r9 r10 _).mono ?_
  rintro e w5 ⟨rfl, hb⟩
  replace HB := Aside0.mk (HB.out.trans (hb.mono (by have := HB.out.size; have := HK.out; omega)))
  replace HR := Aside0.mk (HR.out.below hb HR.out.lt)
  replace HN := Aside0.mk (HN.out.below hb HN.out.lt)
  clear hb m2
  have n0 := HN.out.frees
  have n1 := HN.out.cells
  go_upto_region 6 with (fail)
  clear n0 n1
  replace HR := Aside0.mk ((HR.out.other ⟨g, 1, none⟩ (by have := HGT.out; simp; omega) (.string r8)).other ⟨g, 2, none⟩ (by have := HGT.out; simp; omega) (.string r9))
  replace HB := Aside0.mk ((HB.out.setCell (p := ⟨g, 1, none⟩) (by have := HGT.out; simp; omega) (.string r8)).setCell (p := ⟨g, 2, none⟩) (by have := HGT.out; simp; omega) (.string r9))
  replace HN := Aside0.mk ((HN.out.set 1 (.string r8)).set 2 (.string r9))
  simp only [List.setIfInBounds_toArray, List.set_cons_zero, List.set_cons_succ] at HN
  generalize (w5.setCell ⟨g, 1, none⟩ (.string r8)).setCell ⟨g, 2, none⟩ (.string r9) = w6 at HN HR HB ⊢
  have m3 := four_m_piece r1 r2 r3 r4 r5 r6 r7 r8 r9 r10
  go_wp2_with fail
  refine (four_piece r1 r2 r3 r4 r5 r6 r7 r8 r9 r10 _).mono ?_
  rintro e w7 ⟨rfl, hb⟩
  replace HB := Aside0.mk (HB.out.trans (hb.mono (by have := HB.out.size; have := HK.out; omega)))
  replace HR := Aside0.mk (HR.out.below hb HR.out.lt)
  replace HN := Aside0.mk (HN.out.below hb HN.out.lt)
  clear hb m3
  cases hp : (r3 != 0 || r7) with
  | true =>
    have hr : (t1, t2, t3, t4, t5, t6) = flow_bad 14 := by
      have := HE.out; unfold flow_fin at this; rw [if_pos hp] at this; exact (Option.some.inj this).symm
    simp only [flow_bad, Prod.mk.injEq] at hr
    obtain ⟨rfl, rfl, rfl, rfl, rfl, rfl⟩ := hr
    clear hp
    have f0 := HR.out.frees
    have f1 := HR.out.cells
    go_wp2
    have HR1 := Aside0.mk (((((HR.out.set 0 (.int .i64 0)).set 1 (.string ⟨#[]⟩)).set 2 (.string ⟨#[]⟩)).set 3 (.int .i64 0)).set 4 (.int .i64 0))
    simp only [List.setIfInBounds_toArray, List.set_cons_zero, List.set_cons_succ] at HR1
    refine bodyPost_ret (results_cell_tmp rfl _ _ k _ _ rfl HR1.out Try.underlying24 rfl (by kernel_rfl)) rfl ?_
    exact ⟨rfl, by rw [HK.out]; exact ((((HB.out.setCell (p := ⟨k, 0, none⟩) (Nat.le_refl _) _).setCell (p := ⟨k, 1, none⟩) (Nat.le_refl _) _).setCell (p := ⟨k, 2, none⟩) (Nat.le_refl _) _).setCell (p := ⟨k, 3, none⟩) (Nat.le_refl _) _).setCell (p := ⟨k, 4, none⟩) (Nat.le_refl _) _⟩
  | false =>
  have HP := Aside0.mk hp
  clear hp
  by_cases h6 : r5 ≠ 6 ∧ r5 ≠ 17
  · as_aux_lemma =>
    have hr : (t1, t2, t3, t4, t5, t6) = flow_bad 6 := by
      have := HE.out; unfold flow_fin at this; rw [HP.out, if_neg (by decide), if_pos h6] at this; exact (Option.some.inj this).symm
    simp only [flow_bad, Prod.mk.injEq] at hr
    obtain ⟨rfl, rfl, rfl, rfl, rfl, rfl⟩ := hr
    have d1 : (r5 != 6) = true := bne_iff_ne.mpr h6.1
    have d2 : (r5 != 17) = true := bne_iff_ne.mpr h6.2
    clear h6
    have n1 := HN.out.cells
    have f0 := HR.out.frees
    have f1 := HR.out.cells
    go_wp2
    have HR1 := Aside0.mk (((((HR.out.set 0 (.int .i64 0)).set 1 (.string ⟨#[]⟩)).set 2 (.string ⟨#[]⟩)).set 3 (.int .i64 0)).set 4 (.int .i64 0))
    simp only [List.setIfInBounds_toArray, List.set_cons_zero, List.set_cons_succ] at HR1
    refine bodyPost_ret (results_cell_tmp rfl _ _ k _ _ rfl HR1.out Try.underlying24 rfl (by kernel_rfl)) rfl ?_
    exact ⟨rfl, by rw [HK.out]; exact ((((HB.out.setCell (p := ⟨k, 0, none⟩) (Nat.le_refl _) _).setCell (p := ⟨k, 1, none⟩) (Nat.le_refl _) _).setCell (p := ⟨k, 2, none⟩) (Nat.le_refl _) _).setCell (p := ⟨k, 3, none⟩) (Nat.le_refl _) _).setCell (p := ⟨k, 4, none⟩) (Nat.le_refl _) _⟩
  have hq : r5 = 6 ∨ r5 = 17 := by
    by_cases e6 : r5 = 6
    · left; exact e6
    · right; exact Classical.not_not.1 fun h => h6 ⟨e6, h⟩
  have HQ := Aside0.mk h6
  clear h6
  rcases hq with rfl | rfl
  · as_aux_lemma =>
    have hE : ((flow_ports.f 6 r11).bind fun q => if q.2.2.2 ≠ 0 then some (flow_bad q.2.2.2) else (sum_Pseudo.f r8 r9 6 r11.size).bind fun ps => (sum_Right.f [ps, r11]).bind fun r => if (if (6 : Int) = 17 ∧ q.2.2.1 = 0 then true else r) = true then some (6, r8, r9, q.1, q.2.1, 0) else some (flow_bad 5)) = some (t1, t2, t3, t4, t5, t6) := by
      have := HE.out; unfold flow_fin at this; rw [HP.out, if_neg (by decide), if_neg HQ.out] at this; exact this
    obtain ⟨⟨p1, p2, p3, p4⟩, hp1, hE⟩ := Option.bind_eq_some_iff.1 hE
    have HPP := Aside0.mk hp1
    replace hE : (if p4 ≠ 0 then some (flow_bad p4) else (sum_Pseudo.f r8 r9 6 r11.size).bind fun ps => (sum_Right.f [ps, r11]).bind fun r => if (if (6 : Int) = 17 ∧ p3 = 0 then true else r) = true then some (6, r8, r9, p1, p2, 0) else some (flow_bad 5)) = some (t1, t2, t3, t4, t5, t6) := hE
    clear HE hp1 HQ
    have HE := Aside0.mk hE
    clear hE
    have n1 := HN.out.cells
    go_wp2_with fail
    refine (flow_ports.calls 6 r11 p1 p2 p3 p4 _ HPP.out).mono ?_
    rintro e w8 ⟨rfl, hb⟩
    replace HB := Aside0.mk (HB.out.trans (hb.mono (by have := HB.out.size; have := HK.out; omega)))
    replace HR := Aside0.mk (HR.out.below hb HR.out.lt)
    replace HN := Aside0.mk (HN.out.below hb HN.out.lt)
    clear hb n1
    have n0 := HN.out.frees
    have n1 := HN.out.cells
    go_upto_region 12 with (fail)
    clear n0 n1
    replace HR := Aside0.mk ((HR.out.other ⟨g, 3, none⟩ (by have := HGT.out; simp; omega) (.int .i64 p1)).other ⟨g, 4, none⟩ (by have := HGT.out; simp; omega) (.int .i64 p2))
    replace HB := Aside0.mk ((HB.out.setCell (p := ⟨g, 3, none⟩) (by have := HGT.out; simp; omega) (.int .i64 p1)).setCell (p := ⟨g, 4, none⟩) (by have := HGT.out; simp; omega) (.int .i64 p2))
    replace HN := Aside0.mk ((HN.out.set 3 (.int .i64 p1)).set 4 (.int .i64 p2))
    simp only [List.setIfInBounds_toArray, List.set_cons_zero, List.set_cons_succ] at HN
    generalize (w8.setCell ⟨g, 3, none⟩ (.int .i64 p1)).setCell ⟨g, 4, none⟩ (.int .i64 p2) = w9 at HN HR HB ⊢
    by_cases h4 : p4 = 0
    case neg =>
      as_aux_lemma =>
      have hr : (t1, t2, t3, t4, t5, t6) = flow_bad p4 := by
        have := HE.out; rw [if_pos h4] at this; exact (Option.some.inj this).symm
      simp only [flow_bad, Prod.mk.injEq] at hr
      obtain ⟨rfl, rfl, rfl, rfl, rfl, rfl⟩ := hr
      have d1 : (t6 != 0) = true := bne_iff_ne.mpr h4
      clear h4 HE HPP
      have f0 := HR.out.frees
      have f1 := HR.out.cells
      go_wp2
      have HR1 := Aside0.mk (((((HR.out.set 0 (.int .i64 0)).set 1 (.string ⟨#[]⟩)).set 2 (.string ⟨#[]⟩)).set 3 (.int .i64 0)).set 4 (.int .i64 0))
      simp only [List.setIfInBounds_toArray, List.set_cons_zero, List.set_cons_succ] at HR1
      refine bodyPost_ret (results_cell_tmp rfl _ _ k _ _ rfl HR1.out Try.underlying24 rfl (by kernel_rfl)) rfl ?_
      exact ⟨rfl, by rw [HK.out]; exact ((((HB.out.setCell (p := ⟨k, 0, none⟩) (Nat.le_refl _) _).setCell (p := ⟨k, 1, none⟩) (Nat.le_refl _) _).setCell (p := ⟨k, 2, none⟩) (Nat.le_refl _) _).setCell (p := ⟨k, 3, none⟩) (Nat.le_refl _) _).setCell (p := ⟨k, 4, none⟩) (Nat.le_refl _) _⟩
    subst h4
    have hE : ((sum_Pseudo.f r8 r9 6 r11.size).bind fun ps => (sum_Right.f [ps, r11]).bind fun r => if (if (6 : Int) = 17 ∧ p3 = 0 then true else r) = true then some (6, r8, r9, p1, p2, 0) else some (flow_bad 5)) = some (t1, t2, t3, t4, t5, t6) := by have := HE.out; rw [if_neg (by decide)] at this; exact this
    obtain ⟨ps, hps, hE⟩ := Option.bind_eq_some_iff.1 hE
    obtain ⟨rt, hrt, hE⟩ := Option.bind_eq_some_iff.1 hE
    have HPS := Aside0.mk hps
    have HRT := Aside0.mk hrt
    clear HE hps hrt HPP
    have HE := Aside0.mk hE
    clear hE
    have n1 := HN.out.cells
    go_wp2_with fail
    refine (sum_Pseudo.calls r8 r9 6 (r11.size : Int) ps _ HPS.out).mono ?_
    rintro e w10 ⟨rfl, hb⟩
    replace HB := Aside0.mk (HB.out.trans (hb.mono (by have := HB.out.size; have := HK.out; omega)))
    replace HR := Aside0.mk (HR.out.below hb HR.out.lt)
    replace HN := Aside0.mk (HN.out.below hb HN.out.lt)
    clear hb n1
    go_wp2_with fail
    refine (sum_Right.calls _ _ [ps, r11] rt _ (C_two _ _ _ _) (by simp) HRT.out).mono ?_
    rintro e w11 ⟨rfl, hb⟩
    replace HR := Aside0.mk ((HR.out.alloc _).below hb (HR.out.alloc _).lt)
    replace HN := Aside0.mk ((HN.out.alloc _).below hb (HN.out.alloc _).lt)
    replace HB := Aside0.mk ((HB.out.alloc (by have := HB.out.size; have := HK.out; omega) _).trans (hb.mono (by have := HB.out.size; have := HK.out; simp; omega)))
    clear hb HRT HPS
    cases rt with
    | true =>
      as_aux_lemma =>
      have hr : (t1, t2, t3, t4, t5, t6) = (6, r8, r9, p1, p2, 0) := by
        have := HE.out; replace this := ite_in_no (fun h => absurd h.1 (by decide)) this; rw [if_pos rfl] at this; exact (Option.some.inj this).symm
      simp only [Prod.mk.injEq] at hr
      obtain ⟨rfl, rfl, rfl, rfl, rfl, rfl⟩ := hr
      have n1 := HN.out.cells
      have f0 := HR.out.frees
      have f1 := HR.out.cells
      go_wp2
      have HR1 := Aside0.mk (((((HR.out.set 0 (.int .i64 6)).set 1 (.string t2)).set 2 (.string t3)).set 3 (.int .i64 t4)).set 4 (.int .i64 t5))
      simp only [List.setIfInBounds_toArray, List.set_cons_zero, List.set_cons_succ] at HR1
      refine bodyPost_ret (results_cell_tmp rfl _ _ k _ _ rfl HR1.out Try.underlying24 rfl (by kernel_rfl)) rfl ?_
      exact ⟨rfl, by rw [HK.out]; exact ((((HB.out.setCell (p := ⟨k, 0, none⟩) (Nat.le_refl _) _).setCell (p := ⟨k, 1, none⟩) (Nat.le_refl _) _).setCell (p := ⟨k, 2, none⟩) (Nat.le_refl _) _).setCell (p := ⟨k, 3, none⟩) (Nat.le_refl _) _).setCell (p := ⟨k, 4, none⟩) (Nat.le_refl _) _⟩
    | false =>
      as_aux_lemma =>
      have hr : (t1, t2, t3, t4, t5, t6) = flow_bad 5 := by
        have := HE.out; replace this := ite_in_no (fun h => absurd h.1 (by decide)) this; rw [if_neg (by decide)] at this; exact (Option.some.inj this).symm
      simp only [flow_bad, Prod.mk.injEq] at hr
      obtain ⟨rfl, rfl, rfl, rfl, rfl, rfl⟩ := hr
      have n1 := HN.out.cells
      have f0 := HR.out.frees
      have f1 := HR.out.cells
      go_wp2
      have HR1 := Aside0.mk (((((HR.out.set 0 (.int .i64 0)).set 1 (.string ⟨#[]⟩)).set 2 (.string ⟨#[]⟩)).set 3 (.int .i64 0)).set 4 (.int .i64 0))
      simp only [List.setIfInBounds_toArray, List.set_cons_zero, List.set_cons_succ] at HR1
      refine bodyPost_ret (results_cell_tmp rfl _ _ k _ _ rfl HR1.out Try.underlying24 rfl (by kernel_rfl)) rfl ?_
      exact ⟨rfl, by rw [HK.out]; exact ((((HB.out.setCell (p := ⟨k, 0, none⟩) (Nat.le_refl _) _).setCell (p := ⟨k, 1, none⟩) (Nat.le_refl _) _).setCell (p := ⟨k, 2, none⟩) (Nat.le_refl _) _).setCell (p := ⟨k, 3, none⟩) (Nat.le_refl _) _).setCell (p := ⟨k, 4, none⟩) (Nat.le_refl _) _⟩
  · as_aux_lemma =>
    have hE : ((flow_ports.f 17 r11).bind fun q => if q.2.2.2 ≠ 0 then some (flow_bad q.2.2.2) else (sum_Pseudo.f r8 r9 17 r11.size).bind fun ps => (sum_Right.f [ps, r11]).bind fun r => if (if q.2.2.1 = 0 then true else r) = true then some (17, r8, r9, q.1, q.2.1, 0) else some (flow_bad 5)) = some (t1, t2, t3, t4, t5, t6) := by
      have := HE.out; unfold flow_fin at this; rw [HP.out, if_neg (by decide), if_neg HQ.out] at this; simpa only [eq_self, true_and] using this
    obtain ⟨⟨p1, p2, p3, p4⟩, hp1, hE⟩ := Option.bind_eq_some_iff.1 hE
    have HPP := Aside0.mk hp1
    replace hE : (if p4 ≠ 0 then some (flow_bad p4) else (sum_Pseudo.f r8 r9 17 r11.size).bind fun ps => (sum_Right.f [ps, r11]).bind fun r => if (if p3 = 0 then true else r) = true then some (17, r8, r9, p1, p2, 0) else some (flow_bad 5)) = some (t1, t2, t3, t4, t5, t6) := hE
    clear HE hp1 HQ
    have HE := Aside0.mk hE
    clear hE
    have n1 := HN.out.cells
    go_wp2_with fail
    refine (flow_ports.calls 17 r11 p1 p2 p3 p4 _ HPP.out).mono ?_
    rintro e w8 ⟨rfl, hb⟩
    replace HB := Aside0.mk (HB.out.trans (hb.mono (by have := HB.out.size; have := HK.out; omega)))
    replace HR := Aside0.mk (HR.out.below hb HR.out.lt)
    replace HN := Aside0.mk (HN.out.below hb HN.out.lt)
    clear hb n1
    have n0 := HN.out.frees
    have n1 := HN.out.cells
    go_upto_region 12 with (fail)
    clear n0 n1
    replace HR := Aside0.mk ((HR.out.other ⟨g, 3, none⟩ (by have := HGT.out; simp; omega) (.int .i64 p1)).other ⟨g, 4, none⟩ (by have := HGT.out; simp; omega) (.int .i64 p2))
    replace HB := Aside0.mk ((HB.out.setCell (p := ⟨g, 3, none⟩) (by have := HGT.out; simp; omega) (.int .i64 p1)).setCell (p := ⟨g, 4, none⟩) (by have := HGT.out; simp; omega) (.int .i64 p2))
    replace HN := Aside0.mk ((HN.out.set 3 (.int .i64 p1)).set 4 (.int .i64 p2))
    simp only [List.setIfInBounds_toArray, List.set_cons_zero, List.set_cons_succ] at HN
    generalize (w8.setCell ⟨g, 3, none⟩ (.int .i64 p1)).setCell ⟨g, 4, none⟩ (.int .i64 p2) = w9 at HN HR HB ⊢
    by_cases h4 : p4 = 0
    case neg =>
      as_aux_lemma =>
      have hr : (t1, t2, t3, t4, t5, t6) = flow_bad p4 := by
        have := HE.out; rw [if_pos h4] at this; exact (Option.some.inj this).symm
      simp only [flow_bad, Prod.mk.injEq] at hr
      obtain ⟨rfl, rfl, rfl, rfl, rfl, rfl⟩ := hr
      have d1 : (t6 != 0) = true := bne_iff_ne.mpr h4
      clear h4 HE HPP
      have f0 := HR.out.frees
      have f1 := HR.out.cells
      go_wp2
      have HR1 := Aside0.mk (((((HR.out.set 0 (.int .i64 0)).set 1 (.string ⟨#[]⟩)).set 2 (.string ⟨#[]⟩)).set 3 (.int .i64 0)).set 4 (.int .i64 0))
      simp only [List.setIfInBounds_toArray, List.set_cons_zero, List.set_cons_succ] at HR1
      refine bodyPost_ret (results_cell_tmp rfl _ _ k _ _ rfl HR1.out Try.underlying24 rfl (by kernel_rfl)) rfl ?_
      exact ⟨rfl, by rw [HK.out]; exact ((((HB.out.setCell (p := ⟨k, 0, none⟩) (Nat.le_refl _) _).setCell (p := ⟨k, 1, none⟩) (Nat.le_refl _) _).setCell (p := ⟨k, 2, none⟩) (Nat.le_refl _) _).setCell (p := ⟨k, 3, none⟩) (Nat.le_refl _) _).setCell (p := ⟨k, 4, none⟩) (Nat.le_refl _) _⟩
    subst h4
    have hE : ((sum_Pseudo.f r8 r9 17 r11.size).bind fun ps => (sum_Right.f [ps, r11]).bind fun r => if (if p3 = 0 then true else r) = true then some (17, r8, r9, p1, p2, 0) else some (flow_bad 5)) = some (t1, t2, t3, t4, t5, t6) := by have := HE.out; rw [if_neg (by decide)] at this; exact this
    obtain ⟨ps, hps, hE⟩ := Option.bind_eq_some_iff.1 hE
    obtain ⟨rt, hrt, hE⟩ := Option.bind_eq_some_iff.1 hE
    have HPS := Aside0.mk hps
    have HRT := Aside0.mk hrt
    clear HE hps hrt HPP
    have HE := Aside0.mk hE
    clear hE
    have n1 := HN.out.cells
    go_wp2_with fail
    refine (sum_Pseudo.calls r8 r9 17 (r11.size : Int) ps _ HPS.out).mono ?_
    rintro e w10 ⟨rfl, hb⟩
    replace HB := Aside0.mk (HB.out.trans (hb.mono (by have := HB.out.size; have := HK.out; omega)))
    replace HR := Aside0.mk (HR.out.below hb HR.out.lt)
    replace HN := Aside0.mk (HN.out.below hb HN.out.lt)
    clear hb n1
    go_wp2_with fail
    refine (sum_Right.calls _ _ [ps, r11] rt _ (C_two _ _ _ _) (by simp) HRT.out).mono ?_
    rintro e w11 ⟨rfl, hb⟩
    replace HR := Aside0.mk ((HR.out.alloc _).below hb (HR.out.alloc _).lt)
    replace HN := Aside0.mk ((HN.out.alloc _).below hb (HN.out.alloc _).lt)
    replace HB := Aside0.mk ((HB.out.alloc (by have := HB.out.size; have := HK.out; omega) _).trans (hb.mono (by have := HB.out.size; have := HK.out; simp; omega)))
    clear hb HRT HPS
    by_cases h3 : p3 = 0
    · subst h3
      have n1 := HN.out.cells
      have m4 := four_m_bare r1 r2 r3 r4 17 r6 r7 r8 r9 r10
      go_wp2_with fail
      refine (four_bare r1 r2 r3 r4 17 r6 r7 r8 r9 r10 _).mono ?_
      rintro e w12 ⟨rfl, hb⟩
      replace HB := Aside0.mk (HB.out.trans (hb.mono (by have := HB.out.size; have := HK.out; omega)))
      replace HR := Aside0.mk (HR.out.below hb HR.out.lt)
      replace HN := Aside0.mk (HN.out.below hb HN.out.lt)
      clear hb m4 n1
      have hr : (t1, t2, t3, t4, t5, t6) = (17, r8, r9, p1, p2, 0) := by
        have := HE.out; replace this := ite_in_yes (by first | trivial | rfl) this; rw [if_pos rfl] at this; exact (Option.some.inj this).symm
      simp only [Prod.mk.injEq] at hr
      obtain ⟨rfl, rfl, rfl, rfl, rfl, rfl⟩ := hr
      have n1 := HN.out.cells
      have f0 := HR.out.frees
      have f1 := HR.out.cells
      go_wp2
      have HR1 := Aside0.mk (((((HR.out.set 0 (.int .i64 17)).set 1 (.string t2)).set 2 (.string t3)).set 3 (.int .i64 t4)).set 4 (.int .i64 t5))
      simp only [List.setIfInBounds_toArray, List.set_cons_zero, List.set_cons_succ] at HR1
      refine bodyPost_ret (results_cell_tmp rfl _ _ k _ _ rfl HR1.out Try.underlying24 rfl (by kernel_rfl)) rfl ?_
      exact ⟨rfl, by rw [HK.out]; exact ((((HB.out.setCell (p := ⟨k, 0, none⟩) (Nat.le_refl _) _).setCell (p := ⟨k, 1, none⟩) (Nat.le_refl _) _).setCell (p := ⟨k, 2, none⟩) (Nat.le_refl _) _).setCell (p := ⟨k, 3, none⟩) (Nat.le_refl _) _).setCell (p := ⟨k, 4, none⟩) (Nat.le_refl _) _⟩
    · have e3 : (p3 == 0) = false := beq_eq_false_iff_ne.mpr h3
      have H3 := Aside0.mk h3
      clear h3
      cases rt with
      | true =>
        as_aux_lemma =>
        have hr : (t1, t2, t3, t4, t5, t6) = (17, r8, r9, p1, p2, 0) := by
          have := HE.out; replace this := ite_in_no H3.out this; rw [if_pos rfl] at this; exact (Option.some.inj this).symm
        simp only [Prod.mk.injEq] at hr
        obtain ⟨rfl, rfl, rfl, rfl, rfl, rfl⟩ := hr
        have n1 := HN.out.cells
        have f0 := HR.out.frees
        have f1 := HR.out.cells
        go_wp2
        have HR1 := Aside0.mk (((((HR.out.set 0 (.int .i64 17)).set 1 (.string t2)).set 2 (.string t3)).set 3 (.int .i64 t4)).set 4 (.int .i64 t5))
        simp only [List.setIfInBounds_toArray, List.set_cons_zero, List.set_cons_succ] at HR1
        refine bodyPost_ret (results_cell_tmp rfl _ _ k _ _ rfl HR1.out Try.underlying24 rfl (by kernel_rfl)) rfl ?_
        exact ⟨rfl, by rw [HK.out]; exact ((((HB.out.setCell (p := ⟨k, 0, none⟩) (Nat.le_refl _) _).setCell (p := ⟨k, 1, none⟩) (Nat.le_refl _) _).setCell (p := ⟨k, 2, none⟩) (Nat.le_refl _) _).setCell (p := ⟨k, 3, none⟩) (Nat.le_refl _) _).setCell (p := ⟨k, 4, none⟩) (Nat.le_refl _) _⟩
      | false =>
        as_aux_lemma =>
        have hr : (t1, t2, t3, t4, t5, t6) = flow_bad 5 := by
          have := HE.out; replace this := ite_in_no H3.out this; rw [if_neg (by decide)] at this; exact (Option.some.inj this).symm
        simp only [flow_bad, Prod.mk.injEq] at hr
        obtain ⟨rfl, rfl, rfl, rfl, rfl, rfl⟩ := hr
        have n1 := HN.out.cells
        have f0 := HR.out.frees
        have f1 := HR.out.cells
        go_wp2
        have HR1 := Aside0.mk (((((HR.out.set 0 (.int .i64 0)).set 1 (.string ⟨#[]⟩)).set 2 (.string ⟨#[]⟩)).set 3 (.int .i64 0)).set 4 (.int .i64 0))
        simp only [List.setIfInBounds_toArray, List.set_cons_zero, List.set_cons_succ] at HR1
        refine bodyPost_ret (results_cell_tmp rfl _ _ k _ _ rfl HR1.out Try.underlying24 rfl (by kernel_rfl)) rfl ?_
        exact ⟨rfl, by rw [HK.out]; exact ((((HB.out.setCell (p := ⟨k, 0, none⟩) (Nat.le_refl _) _).setCell (p := ⟨k, 1, none⟩) (Nat.le_refl _) _).setCell (p := ⟨k, 2, none⟩) (Nat.le_refl _) _).setCell (p := ⟨k, 3, none⟩) (Nat.le_refl _) _).setCell (p := ⟨k, 4, none⟩) (Nat.le_refl _) _⟩
set_option maxHeartbeats 8000000 in
set_option maxRecDepth 100000 in
theorem flow_six (s : ByteArray) (r1 r2 r3 r4 : Int) (r5 r6 r7 : ByteArray) (w : World) (t1 : Int) (t2 t3 : ByteArray) (t4 t5 t6 : Int)
    (ho : Calls Try.prog 25 #[.string s] (w.alloc (.cells #[.int .i64 0, .string ⟨#[]⟩, .string ⟨#[]⟩, .int .i64 0, .int .i64 0] 24)) fun e w' => e = .returned (.tuple #[.iface 96 (.agg (cs6 r1 r2 r3 r4 r5 r6)), .string r7, .int .i64 0]) ∧ Below (w.heap.size + 1) (w.alloc (.cells #[.int .i64 0, .string ⟨#[]⟩, .string ⟨#[]⟩, .int .i64 0, .int .i64 0] 24)) w')
    (hf : flow_fin r3 r5 r6 r7 false false = some (t1, t2, t3, t4, t5, t6)) :
    Calls Try.prog 11 #[.string s] w fun e w' => e = .returned (.tuple #[.agg #[.int .i64 t1, .string t2, .string t3, .int .i64 t4, .int .i64 t5], .int .i64 t6]) ∧ Below w.heap.size w w' := by
  have HO := Aside0.mk ho
  have hu := Try.underlying24
  obtain ⟨k, hk⟩ : ∃ k, w.heap.size = k := ⟨_, rfl⟩
  have HK := Aside0.mk (show w.heap.size = k from hk)
  have HB := Aside0.mk ((Below.refl w.heap.size w).alloc (Nat.le_refl _) (.cells #[.int .i64 0, .string ⟨#[]⟩, .string ⟨#[]⟩, .int .i64 0, .int .i64 0] 24))
  have HR := Aside0.mk (Blk.new w 24 #[.int .i64 0, .string ⟨#[]⟩, .string ⟨#[]⟩, .int .i64 0, .int .i64 0])
  have HE := Aside0.mk hf
  clear ho hf
  go_enter Try.func11, Try.ntmps11
  go_wp2_with fail
  refine HO.out.mono ?_
  rintro e w2 ⟨rfl, hb⟩
  replace HB := Aside0.mk (HB.out.trans (hb.mono (by omega)))
  replace HR := Aside0.mk (HR.out.below hb (by omega))
  clear HO hb
  rw [hk] at HB HR
  clear hk
  have m1 := six_m_proto r1 r2 r3 r4 r5 r6
  go_wp2_with fail
  refine (six_proto r1 r2 r3 r4 r5 r6 _).mono ?_
  rintro e w3 ⟨rfl, hb⟩
  replace HB := Aside0.mk (HB.out.trans (hb.mono (by have := HB.out.size; have := HK.out; omega)))
  replace HR := Aside0.mk (HR.out.below hb HR.out.lt)
  clear hb m1
  go_upto_region 5 with (fail)
  have HN := Aside0.mk (Blk.new w3 24 #[.int .i64 r3, .string ⟨#[]⟩, .string ⟨#[]⟩, .int .i64 0, .int .i64 0])
  have HGT := Aside0.mk (show k < w3.heap.size from HR.out.lt)
  replace HR := Aside0.mk (HR.out.alloc (.cells #[.int .i64 r3, .string ⟨#[]⟩, .string ⟨#[]⟩, .int .i64 0, .int .i64 0] 24))
  replace HB := Aside0.mk (HB.out.alloc (by have := HGT.out; omega) (.cells #[.int .i64 r3, .string ⟨#[]⟩, .string ⟨#[]⟩, .int .i64 0, .int .i64 0] 24))
  generalize w3.heap.size = g at HN HGT ⊢
  generalize w3.alloc (.cells #[.int .i64 r3, .string ⟨#[]⟩, .string ⟨#[]⟩, .int .i64 0, .int .i64 0] 24) = w4 at HN HR HB ⊢
  have m2 := six_m_ends r1 r2 r3 r4 r5 r6
  go_wp2_with fail
  refine (six_ends r1 r2 r3 r4 r5 r6 _).mono ?_
  rintro e w5 ⟨rfl, hb⟩
  replace HB := Aside0.mk (HB.out.trans (hb.mono (by have := HB.out.size; have := HK.out; omega)))
  replace HR := Aside0.mk (HR.out.below hb HR.out.lt)
  replace HN := Aside0.mk (HN.out.below hb HN.out.lt)
  clear hb m2
  have n0 := HN.out.frees
  have n1 := HN.out.cells
  go_upto_region 6 with (fail)
  clear n0 n1
  replace HR := Aside0.mk ((HR.out.other ⟨g, 1, none⟩ (by have := HGT.out; simp; omega) (.string r5)).other ⟨g, 2, none⟩ (by have := HGT.out; simp; omega) (.string r6))
  replace HB := Aside0.mk ((HB.out.setCell (p := ⟨g, 1, none⟩) (by have := HGT.out; simp; omega) (.string r5)).setCell (p := ⟨g, 2, none⟩) (by have := HGT.out; simp; omega) (.string r6))
  replace HN := Aside0.mk ((HN.out.set 1 (.string r5)).set 2 (.string r6))
  simp only [List.setIfInBounds_toArray, List.set_cons_zero, List.set_cons_succ] at HN
  generalize (w5.setCell ⟨g, 1, none⟩ (.string r5)).setCell ⟨g, 2, none⟩ (.string r6) = w6 at HN HR HB ⊢
  have m3 := six_m_piece r1 r2 r3 r4 r5 r6
  go_wp2_with fail
  refine (six_piece r1 r2 r3 r4 r5 r6 _).mono ?_
  rintro e w7 ⟨rfl, hb⟩
  replace HB := Aside0.mk (HB.out.trans (hb.mono (by have := HB.out.size; have := HK.out; omega)))
  replace HR := Aside0.mk (HR.out.below hb HR.out.lt)
  replace HN := Aside0.mk (HN.out.below hb HN.out.lt)
  clear hb m3
  have HP := Aside0.mk (show false = false from rfl)
  by_cases h6 : r3 ≠ 6 ∧ r3 ≠ 17
  · as_aux_lemma =>
    have hr : (t1, t2, t3, t4, t5, t6) = flow_bad 6 := by
      have := HE.out; unfold flow_fin at this; rw [if_neg (by decide), if_pos h6] at this; exact (Option.some.inj this).symm
    simp only [flow_bad, Prod.mk.injEq] at hr
    obtain ⟨rfl, rfl, rfl, rfl, rfl, rfl⟩ := hr
    have d1 : (r3 != 6) = true := bne_iff_ne.mpr h6.1
    have d2 : (r3 != 17) = true := bne_iff_ne.mpr h6.2
    clear h6
    have n1 := HN.out.cells
    have f0 := HR.out.frees
    have f1 := HR.out.cells
    go_wp2
    have HR1 := Aside0.mk (((((HR.out.set 0 (.int .i64 0)).set 1 (.string ⟨#[]⟩)).set 2 (.string ⟨#[]⟩)).set 3 (.int .i64 0)).set 4 (.int .i64 0))
    simp only [List.setIfInBounds_toArray, List.set_cons_zero, List.set_cons_succ] at HR1
    refine bodyPost_ret (results_cell_tmp rfl _ _ k _ _ rfl HR1.out Try.underlying24 rfl (by kernel_rfl)) rfl ?_
    exact ⟨rfl, by rw [HK.out]; exact ((((HB.out.setCell (p := ⟨k, 0, none⟩) (Nat.le_refl _) _).setCell (p := ⟨k, 1, none⟩) (Nat.le_refl _) _).setCell (p := ⟨k, 2, none⟩) (Nat.le_refl _) _).setCell (p := ⟨k, 3, none⟩) (Nat.le_refl _) _).setCell (p := ⟨k, 4, none⟩) (Nat.le_refl _) _⟩
  have hq : r3 = 6 ∨ r3 = 17 := by
    by_cases e6 : r3 = 6
    · left; exact e6
    · right; exact Classical.not_not.1 fun h => h6 ⟨e6, h⟩
  have HQ := Aside0.mk h6
  clear h6
  rcases hq with rfl | rfl
  · as_aux_lemma =>
    have hE : ((flow_ports.f 6 r7).bind fun q => if q.2.2.2 ≠ 0 then some (flow_bad q.2.2.2) else (sum_Pseudo.f r5 r6 6 r7.size).bind fun ps => (sum_Right.f [ps, r7]).bind fun r => if (if (6 : Int) = 17 ∧ q.2.2.1 = 0 then false else r) = true then some (6, r5, r6, q.1, q.2.1, 0) else some (flow_bad 5)) = some (t1, t2, t3, t4, t5, t6) := by
      have := HE.out; unfold flow_fin at this; rw [if_neg (by decide), if_neg HQ.out] at this; exact this
    obtain ⟨⟨p1, p2, p3, p4⟩, hp1, hE⟩ := Option.bind_eq_some_iff.1 hE
    have HPP := Aside0.mk hp1
    replace hE : (if p4 ≠ 0 then some (flow_bad p4) else (sum_Pseudo.f r5 r6 6 r7.size).bind fun ps => (sum_Right.f [ps, r7]).bind fun r => if (if (6 : Int) = 17 ∧ p3 = 0 then false else r) = true then some (6, r5, r6, p1, p2, 0) else some (flow_bad 5)) = some (t1, t2, t3, t4, t5, t6) := hE
    clear HE hp1 HQ
    have HE := Aside0.mk hE
    clear hE
    have n1 := HN.out.cells
    go_wp2_with fail
    refine (flow_ports.calls 6 r7 p1 p2 p3 p4 _ HPP.out).mono ?_
    rintro e w8 ⟨rfl, hb⟩
    replace HB := Aside0.mk (HB.out.trans (hb.mono (by have := HB.out.size; have := HK.out; omega)))
    replace HR := Aside0.mk (HR.out.below hb HR.out.lt)
    replace HN := Aside0.mk (HN.out.below hb HN.out.lt)
    clear hb n1
    have n0 := HN.out.frees
    have n1 := HN.out.cells
    go_upto_region 12 with (fail)
    clear n0 n1
    replace HR := Aside0.mk ((HR.out.other ⟨g, 3, none⟩ (by have := HGT.out; simp; omega) (.int .i64 p1)).other ⟨g, 4, none⟩ (by have := HGT.out; simp; omega) (.int .i64 p2))
    replace HB := Aside0.mk ((HB.out.setCell (p := ⟨g, 3, none⟩) (by have := HGT.out; simp; omega) (.int .i64 p1)).setCell (p := ⟨g, 4, none⟩) (by have := HGT.out; simp; omega) (.int .i64 p2))
    replace HN := Aside0.mk ((HN.out.set 3 (.int .i64 p1)).set 4 (.int .i64 p2))
    simp only [List.setIfInBounds_toArray, List.set_cons_zero, List.set_cons_succ] at HN
    generalize (w8.setCell ⟨g, 3, none⟩ (.int .i64 p1)).setCell ⟨g, 4, none⟩ (.int .i64 p2) = w9 at HN HR HB ⊢
    by_cases h4 : p4 = 0
    case neg =>
      as_aux_lemma =>
      have hr : (t1, t2, t3, t4, t5, t6) = flow_bad p4 := by
        have := HE.out; rw [if_pos h4] at this; exact (Option.some.inj this).symm
      simp only [flow_bad, Prod.mk.injEq] at hr
      obtain ⟨rfl, rfl, rfl, rfl, rfl, rfl⟩ := hr
      have d1 : (t6 != 0) = true := bne_iff_ne.mpr h4
      clear h4 HE HPP
      have f0 := HR.out.frees
      have f1 := HR.out.cells
      go_wp2
      have HR1 := Aside0.mk (((((HR.out.set 0 (.int .i64 0)).set 1 (.string ⟨#[]⟩)).set 2 (.string ⟨#[]⟩)).set 3 (.int .i64 0)).set 4 (.int .i64 0))
      simp only [List.setIfInBounds_toArray, List.set_cons_zero, List.set_cons_succ] at HR1
      refine bodyPost_ret (results_cell_tmp rfl _ _ k _ _ rfl HR1.out Try.underlying24 rfl (by kernel_rfl)) rfl ?_
      exact ⟨rfl, by rw [HK.out]; exact ((((HB.out.setCell (p := ⟨k, 0, none⟩) (Nat.le_refl _) _).setCell (p := ⟨k, 1, none⟩) (Nat.le_refl _) _).setCell (p := ⟨k, 2, none⟩) (Nat.le_refl _) _).setCell (p := ⟨k, 3, none⟩) (Nat.le_refl _) _).setCell (p := ⟨k, 4, none⟩) (Nat.le_refl _) _⟩
    subst h4
    have hE : ((sum_Pseudo.f r5 r6 6 r7.size).bind fun ps => (sum_Right.f [ps, r7]).bind fun r => if (if (6 : Int) = 17 ∧ p3 = 0 then false else r) = true then some (6, r5, r6, p1, p2, 0) else some (flow_bad 5)) = some (t1, t2, t3, t4, t5, t6) := by have := HE.out; rw [if_neg (by decide)] at this; exact this
    obtain ⟨ps, hps, hE⟩ := Option.bind_eq_some_iff.1 hE
    obtain ⟨rt, hrt, hE⟩ := Option.bind_eq_some_iff.1 hE
    have HPS := Aside0.mk hps
    have HRT := Aside0.mk hrt
    clear HE hps hrt HPP
    have HE := Aside0.mk hE
    clear hE
    have n1 := HN.out.cells
    go_wp2_with fail
    refine (sum_Pseudo.calls r5 r6 6 (r7.size : Int) ps _ HPS.out).mono ?_
    rintro e w10 ⟨rfl, hb⟩
    replace HB := Aside0.mk (HB.out.trans (hb.mono (by have := HB.out.size; have := HK.out; omega)))
    replace HR := Aside0.mk (HR.out.below hb HR.out.lt)
    replace HN := Aside0.mk (HN.out.below hb HN.out.lt)
    clear hb n1
    go_wp2_with fail
    refine (sum_Right.calls _ _ [ps, r7] rt _ (C_two _ _ _ _) (by simp) HRT.out).mono ?_
    rintro e w11 ⟨rfl, hb⟩
    replace HR := Aside0.mk ((HR.out.alloc _).below hb (HR.out.alloc _).lt)
    replace HN := Aside0.mk ((HN.out.alloc _).below hb (HN.out.alloc _).lt)
    replace HB := Aside0.mk ((HB.out.alloc (by have := HB.out.size; have := HK.out; omega) _).trans (hb.mono (by have := HB.out.size; have := HK.out; simp; omega)))
    clear hb HRT HPS
    cases rt with
    | true =>
      as_aux_lemma =>
      have hr : (t1, t2, t3, t4, t5, t6) = (6, r5, r6, p1, p2, 0) := by
        have := HE.out; replace this := ite_in_no (fun h => absurd h.1 (by decide)) this; rw [if_pos rfl] at this; exact (Option.some.inj this).symm
      simp only [Prod.mk.injEq] at hr
      obtain ⟨rfl, rfl, rfl, rfl, rfl, rfl⟩ := hr
      have n1 := HN.out.cells
      have f0 := HR.out.frees
      have f1 := HR.out.cells
      go_wp2
      have HR1 := Aside0.mk (((((HR.out.set 0 (.int .i64 6)).set 1 (.string t2)).set 2 (.string t3)).set 3 (.int .i64 t4)).set 4 (.int .i64 t5))
      simp only [List.setIfInBounds_toArray, List.set_cons_zero, List.set_cons_succ] at HR1
      refine bodyPost_ret (results_cell_tmp rfl _ _ k _ _ rfl HR1.out Try.underlying24 rfl (by kernel_rfl)) rfl ?_
      exact ⟨rfl, by rw [HK.out]; exact ((((HB.out.setCell (p := ⟨k, 0, none⟩) (Nat.le_refl _) _).setCell (p := ⟨k, 1, none⟩) (Nat.le_refl _) _).setCell (p := ⟨k, 2, none⟩) (Nat.le_refl _) _).setCell (p := ⟨k, 3, none⟩) (Nat.le_refl _) _).setCell (p := ⟨k, 4, none⟩) (Nat.le_refl _) _⟩
    | false =>
      as_aux_lemma =>
      have hr : (t1, t2, t3, t4, t5, t6) = flow_bad 5 := by
        have := HE.out; replace this := ite_in_no (fun h => absurd h.1 (by decide)) this; rw [if_neg (by decide)] at this; exact (Option.some.inj this).symm
      simp only [flow_bad, Prod.mk.injEq] at hr
      obtain ⟨rfl, rfl, rfl, rfl, rfl, rfl⟩ := hr
      have n1 := HN.out.cells
      have f0 := HR.out.frees
      have f1 := HR.out.cells
      go_wp2
      have HR1 := Aside0.mk (((((HR.out.set 0 (.int .i64 0)).set 1 (.string ⟨#[]⟩)).set 2 (.string ⟨#[]⟩)).set 3 (.int .i64 0)).set 4 (.int .i64 0))
      simp only [List.setIfInBounds_toArray, List.set_cons_zero, List.set_cons_succ] at HR1
      refine bodyPost_ret (results_cell_tmp rfl _ _ k _ _ rfl HR1.out Try.underlying24 rfl (by kernel_rfl)) rfl ?_
      exact ⟨rfl, by rw [HK.out]; exact ((((HB.out.setCell (p := ⟨k, 0, none⟩) (Nat.le_refl _) _).setCell (p := ⟨k, 1, none⟩) (Nat.le_refl _) _).setCell (p := ⟨k, 2, none⟩) (Nat.le_refl _) _).setCell (p := ⟨k, 3, none⟩) (Nat.le_refl _) _).setCell (p := ⟨k, 4, none⟩) (Nat.le_refl _) _⟩
  · as_aux_lemma =>
    have hE : ((flow_ports.f 17 r7).bind fun q => if q.2.2.2 ≠ 0 then some (flow_bad q.2.2.2) else (sum_Pseudo.f r5 r6 17 r7.size).bind fun ps => (sum_Right.f [ps, r7]).bind fun r => if (if q.2.2.1 = 0 then false else r) = true then some (17, r5, r6, q.1, q.2.1, 0) else some (flow_bad 5)) = some (t1, t2, t3, t4, t5, t6) := by
      have := HE.out; unfold flow_fin at this; rw [if_neg (by decide), if_neg HQ.out] at this; simpa only [eq_self, true_and] using this
    obtain ⟨⟨p1, p2, p3, p4⟩, hp1, hE⟩ := Option.bind_eq_some_iff.1 hE
    have HPP := Aside0.mk hp1
    replace hE : (if p4 ≠ 0 then some (flow_bad p4) else (sum_Pseudo.f r5 r6 17 r7.size).bind fun ps => (sum_Right.f [ps, r7]).bind fun r => if (if p3 = 0 then false else r) = true then some (17, r5, r6, p1, p2, 0) else some (flow_bad 5)) = some (t1, t2, t3, t4, t5, t6) := hE
    clear HE hp1 HQ
    have HE := Aside0.mk hE
    clear hE
    have n1 := HN.out.cells
    go_wp2_with fail
    refine (flow_ports.calls 17 r7 p1 p2 p3 p4 _ HPP.out).mono ?_
    rintro e w8 ⟨rfl, hb⟩
    replace HB := Aside0.mk (HB.out.trans (hb.mono (by have := HB.out.size; have := HK.out; omega)))
    replace HR := Aside0.mk (HR.out.below hb HR.out.lt)
    replace HN := Aside0.mk (HN.out.below hb HN.out.lt)
    clear hb n1
    have n0 := HN.out.frees
    have n1 := HN.out.cells
    go_upto_region 12 with (fail)
    clear n0 n1
    replace HR := Aside0.mk ((HR.out.other ⟨g, 3, none⟩ (by have := HGT.out; simp; omega) (.int .i64 p1)).other ⟨g, 4, none⟩ (by have := HGT.out; simp; omega) (.int .i64 p2))
    replace HB := Aside0.mk ((HB.out.setCell (p := ⟨g, 3, none⟩) (by have := HGT.out; simp; omega) (.int .i64 p1)).setCell (p := ⟨g, 4, none⟩) (by have := HGT.out; simp; omega) (.int .i64 p2))
    replace HN := Aside0.mk ((HN.out.set 3 (.int .i64 p1)).set 4 (.int .i64 p2))
    simp only [List.setIfInBounds_toArray, List.set_cons_zero, List.set_cons_succ] at HN
    generalize (w8.setCell ⟨g, 3, none⟩ (.int .i64 p1)).setCell ⟨g, 4, none⟩ (.int .i64 p2) = w9 at HN HR HB ⊢
    by_cases h4 : p4 = 0
    case neg =>
      as_aux_lemma =>
      have hr : (t1, t2, t3, t4, t5, t6) = flow_bad p4 := by
        have := HE.out; rw [if_pos h4] at this; exact (Option.some.inj this).symm
      simp only [flow_bad, Prod.mk.injEq] at hr
      obtain ⟨rfl, rfl, rfl, rfl, rfl, rfl⟩ := hr
      have d1 : (t6 != 0) = true := bne_iff_ne.mpr h4
      clear h4 HE HPP
      have f0 := HR.out.frees
      have f1 := HR.out.cells
      go_wp2
      have HR1 := Aside0.mk (((((HR.out.set 0 (.int .i64 0)).set 1 (.string ⟨#[]⟩)).set 2 (.string ⟨#[]⟩)).set 3 (.int .i64 0)).set 4 (.int .i64 0))
      simp only [List.setIfInBounds_toArray, List.set_cons_zero, List.set_cons_succ] at HR1
      refine bodyPost_ret (results_cell_tmp rfl _ _ k _ _ rfl HR1.out Try.underlying24 rfl (by kernel_rfl)) rfl ?_
      exact ⟨rfl, by rw [HK.out]; exact ((((HB.out.setCell (p := ⟨k, 0, none⟩) (Nat.le_refl _) _).setCell (p := ⟨k, 1, none⟩) (Nat.le_refl _) _).setCell (p := ⟨k, 2, none⟩) (Nat.le_refl _) _).setCell (p := ⟨k, 3, none⟩) (Nat.le_refl _) _).setCell (p := ⟨k, 4, none⟩) (Nat.le_refl _) _⟩
    subst h4
    have hE : ((sum_Pseudo.f r5 r6 17 r7.size).bind fun ps => (sum_Right.f [ps, r7]).bind fun r => if (if p3 = 0 then false else r) = true then some (17, r5, r6, p1, p2, 0) else some (flow_bad 5)) = some (t1, t2, t3, t4, t5, t6) := by have := HE.out; rw [if_neg (by decide)] at this; exact this
    obtain ⟨ps, hps, hE⟩ := Option.bind_eq_some_iff.1 hE
    obtain ⟨rt, hrt, hE⟩ := Option.bind_eq_some_iff.1 hE
    have HPS := Aside0.mk hps
    have HRT := Aside0.mk hrt
    clear HE hps hrt HPP
    have HE := Aside0.mk hE
    clear hE
    have n1 := HN.out.cells
    go_wp2_with fail
    refine (sum_Pseudo.calls r5 r6 17 (r7.size : Int) ps _ HPS.out).mono ?_
    rintro e w10 ⟨rfl, hb⟩
    replace HB := Aside0.mk (HB.out.trans (hb.mono (by have := HB.out.size; have := HK.out; omega)))
    replace HR := Aside0.mk (HR.out.below hb HR.out.lt)
    replace HN := Aside0.mk (HN.out.below hb HN.out.lt)
    clear hb n1
    go_wp2_with fail
    refine (sum_Right.calls _ _ [ps, r7] rt _ (C_two _ _ _ _) (by simp) HRT.out).mono ?_
    rintro e w11 ⟨rfl, hb⟩
    replace HR := Aside0.mk ((HR.out.alloc _).below hb (HR.out.alloc _).lt)
    replace HN := Aside0.mk ((HN.out.alloc _).below hb (HN.out.alloc _).lt)
    replace HB := Aside0.mk ((HB.out.alloc (by have := HB.out.size; have := HK.out; omega) _).trans (hb.mono (by have := HB.out.size; have := HK.out; simp; omega)))
    clear hb HRT HPS
    by_cases h3 : p3 = 0
    · subst h3
      have n1 := HN.out.cells
      have m4 := six_m_bare r1 r2 17 r4 r5 r6
      go_wp2_with fail
      refine (six_bare r1 r2 17 r4 r5 r6 _).mono ?_
      rintro e w12 ⟨rfl, hb⟩
      replace HB := Aside0.mk (HB.out.trans (hb.mono (by have := HB.out.size; have := HK.out; omega)))
      replace HR := Aside0.mk (HR.out.below hb HR.out.lt)
      replace HN := Aside0.mk (HN.out.below hb HN.out.lt)
      clear hb m4 n1
      have hr : (t1, t2, t3, t4, t5, t6) = flow_bad 5 := by
        have := HE.out; replace this := ite_in_yes (by first | trivial | rfl) this; rw [if_neg (by decide)] at this; exact (Option.some.inj this).symm
      simp only [flow_bad, Prod.mk.injEq] at hr
      obtain ⟨rfl, rfl, rfl, rfl, rfl, rfl⟩ := hr
      have n1 := HN.out.cells
      have f0 := HR.out.frees
      have f1 := HR.out.cells
      go_wp2
      have HR1 := Aside0.mk (((((HR.out.set 0 (.int .i64 0)).set 1 (.string ⟨#[]⟩)).set 2 (.string ⟨#[]⟩)).set 3 (.int .i64 0)).set 4 (.int .i64 0))
      simp only [List.setIfInBounds_toArray, List.set_cons_zero, List.set_cons_succ] at HR1
      refine bodyPost_ret (results_cell_tmp rfl _ _ k _ _ rfl HR1.out Try.underlying24 rfl (by kernel_rfl)) rfl ?_
      exact ⟨rfl, by rw [HK.out]; exact ((((HB.out.setCell (p := ⟨k, 0, none⟩) (Nat.le_refl _) _).setCell (p := ⟨k, 1, none⟩) (Nat.le_refl _) _).setCell (p := ⟨k, 2, none⟩) (Nat.le_refl _) _).setCell (p := ⟨k, 3, none⟩) (Nat.le_refl _) _).setCell (p := ⟨k, 4, none⟩) (Nat.le_refl _) _⟩
    · have e3 : (p3 == 0) = false := beq_eq_false_iff_ne.mpr h3
      have H3 := Aside0.mk h3
      clear h3
      cases rt with
      | true =>
        as_aux_lemma =>
        have hr : (t1, t2, t3, t4, t5, t6) = (17, r5, r6, p1, p2, 0) := by
          have := HE.out; replace this := ite_in_no H3.out this; rw [if_pos rfl] at this; exact (Option.some.inj this).symm
        simp only [Prod.mk.injEq] at hr
        obtain ⟨rfl, rfl, rfl, rfl, rfl, rfl⟩ := hr
        have n1 := HN.out.cells
        have f0 := HR.out.frees
        have f1 := HR.out.cells
        go_wp2
        have HR1 := Aside0.mk (((((HR.out.set 0 (.int .i64 17)).set 1 (.string t2)).set 2 (.string t3)).set 3 (.int .i64 t4)).set 4 (.int .i64 t5))
        simp only [List.setIfInBounds_toArray, List.set_cons_zero, List.set_cons_succ] at HR1
        refine bodyPost_ret (results_cell_tmp rfl _ _ k _ _ rfl HR1.out Try.underlying24 rfl (by kernel_rfl)) rfl ?_
        exact ⟨rfl, by rw [HK.out]; exact ((((HB.out.setCell (p := ⟨k, 0, none⟩) (Nat.le_refl _) _).setCell (p := ⟨k, 1, none⟩) (Nat.le_refl _) _).setCell (p := ⟨k, 2, none⟩) (Nat.le_refl _) _).setCell (p := ⟨k, 3, none⟩) (Nat.le_refl _) _).setCell (p := ⟨k, 4, none⟩) (Nat.le_refl _) _⟩
      | false =>
        as_aux_lemma =>
        have hr : (t1, t2, t3, t4, t5, t6) = flow_bad 5 := by
          have := HE.out; replace this := ite_in_no H3.out this; rw [if_neg (by decide)] at this; exact (Option.some.inj this).symm
        simp only [flow_bad, Prod.mk.injEq] at hr
        obtain ⟨rfl, rfl, rfl, rfl, rfl, rfl⟩ := hr
        have n1 := HN.out.cells
        have f0 := HR.out.frees
        have f1 := HR.out.cells
        go_wp2
        have HR1 := Aside0.mk (((((HR.out.set 0 (.int .i64 0)).set 1 (.string ⟨#[]⟩)).set 2 (.string ⟨#[]⟩)).set 3 (.int .i64 0)).set 4 (.int .i64 0))
        simp only [List.setIfInBounds_toArray, List.set_cons_zero, List.set_cons_succ] at HR1
        refine bodyPost_ret (results_cell_tmp rfl _ _ k _ _ rfl HR1.out Try.underlying24 rfl (by kernel_rfl)) rfl ?_
        exact ⟨rfl, by rw [HK.out]; exact ((((HB.out.setCell (p := ⟨k, 0, none⟩) (Nat.le_refl _) _).setCell (p := ⟨k, 1, none⟩) (Nat.le_refl _) _).setCell (p := ⟨k, 2, none⟩) (Nat.le_refl _) _).setCell (p := ⟨k, 3, none⟩) (Nat.le_refl _) _).setCell (p := ⟨k, 4, none⟩) (Nat.le_refl _) _⟩
set_option maxHeartbeats 4000000 in
set_option maxRecDepth 100000 in
theorem flow_err (s : ByteArray) (v : Value) (pl : ByteArray) (x : Int) (hx : x ≠ 0) (w : World)
    (ho : Calls Try.prog 25 #[.string s] (w.alloc (.cells #[.int .i64 0, .string ⟨#[]⟩, .string ⟨#[]⟩, .int .i64 0, .int .i64 0] 24)) fun e w' => e = .returned (.tuple #[v, .string pl, .int .i64 x]) ∧ Below (w.heap.size + 1) (w.alloc (.cells #[.int .i64 0, .string ⟨#[]⟩, .string ⟨#[]⟩, .int .i64 0, .int .i64 0] 24)) w') :
    Calls Try.prog 11 #[.string s] w fun e w' => e = .returned (.tuple #[.agg #[.int .i64 0, .string ⟨#[]⟩, .string ⟨#[]⟩, .int .i64 0, .int .i64 0], .int .i64 x]) ∧ Below w.heap.size w w' := by
  have HO := Aside0.mk ho
  have hu := Try.underlying24
  obtain ⟨k, hk⟩ : ∃ k, w.heap.size = k := ⟨_, rfl⟩
  have HK := Aside0.mk (show w.heap.size = k from hk)
  have HB := Aside0.mk ((Below.refl w.heap.size w).alloc (Nat.le_refl _) (.cells #[.int .i64 0, .string ⟨#[]⟩, .string ⟨#[]⟩, .int .i64 0, .int .i64 0] 24))
  have HR := Aside0.mk (Blk.new w 24 #[.int .i64 0, .string ⟨#[]⟩, .string ⟨#[]⟩, .int .i64 0, .int .i64 0])
  have d1 : (x != 0) = true := bne_iff_ne.mpr hx
  clear ho hx
  go_enter Try.func11, Try.ntmps11
  go_wp2_with fail
  refine HO.out.mono ?_
  rintro e w2 ⟨rfl, hb⟩
  replace HB := Aside0.mk (HB.out.trans (hb.mono (by omega)))
  replace HR := Aside0.mk (HR.out.below hb (by omega))
  clear HO hb
  rw [hk] at HB HR
  clear hk
  have f0 := HR.out.frees
  have f1 := HR.out.cells
  go_wp2
  have HR1 := Aside0.mk (((((HR.out.set 0 (.int .i64 0)).set 1 (.string ⟨#[]⟩)).set 2 (.string ⟨#[]⟩)).set 3 (.int .i64 0)).set 4 (.int .i64 0))
  simp only [List.setIfInBounds_toArray, List.set_cons_zero, List.set_cons_succ] at HR1
  refine bodyPost_ret (results_cell_tmp rfl _ _ k _ _ rfl HR1.out Try.underlying24 rfl (by kernel_rfl)) rfl ?_
  exact ⟨rfl, by rw [HK.out]; exact ((((HB.out.setCell (p := ⟨k, 0, none⟩) (Nat.le_refl _) _).setCell (p := ⟨k, 1, none⟩) (Nat.le_refl _) _).setCell (p := ⟨k, 2, none⟩) (Nat.le_refl _) _).setCell (p := ⟨k, 3, none⟩) (Nat.le_refl _) _).setCell (p := ⟨k, 4, none⟩) (Nat.le_refl _) _⟩
theorem open_at {s : ByteArray} {w : World} {v : Value} (h : Calls Try.prog 25 #[.string s] (w.alloc (.cells #[.int .i64 0, .string ⟨#[]⟩, .string ⟨#[]⟩, .int .i64 0, .int .i64 0] 24)) fun e w' => e = .returned v ∧ Below (w.alloc (.cells #[.int .i64 0, .string ⟨#[]⟩, .string ⟨#[]⟩, .int .i64 0, .int .i64 0] 24)).heap.size (w.alloc (.cells #[.int .i64 0, .string ⟨#[]⟩, .string ⟨#[]⟩, .int .i64 0, .int .i64 0] 24)) w') :
    Calls Try.prog 25 #[.string s] (w.alloc (.cells #[.int .i64 0, .string ⟨#[]⟩, .string ⟨#[]⟩, .int .i64 0, .int .i64 0] 24)) fun e w' => e = .returned v ∧ Below (w.heap.size + 1) (w.alloc (.cells #[.int .i64 0, .string ⟨#[]⟩, .string ⟨#[]⟩, .int .i64 0, .int .i64 0] 24)) w' := by
  rw [World.size_alloc] at h; exact h
theorem flow_Get.calls (s : ByteArray) (r1 : Int) (r2 r3 : ByteArray) (r4 r5 r6 : Int) (w : World) (h : flow_Get.f s = some (r1, r2, r3, r4, r5, r6)) :
    Calls Try.prog 11 #[.string s] w fun e w' => e = .returned (.tuple #[.agg #[.int .i64 r1, .string r2, .string r3, .int .i64 r4, .int .i64 r5], .int .i64 r6]) ∧ Below w.heap.size w w' := by
  unfold flow_Get.f at h
  have inj : ∀ e : Int, some (flow_bad e) = some (r1, r2, r3, r4, r5, r6) → r1 = 0 ∧ r2 = ⟨#[]⟩ ∧ r3 = ⟨#[]⟩ ∧ r4 = 0 ∧ r5 = 0 ∧ r6 = e := fun e h => by
    have := Option.some.inj h
    simp only [flow_bad, Prod.mk.injEq] at this
    obtain ⟨h1, h2, h3, h4, h5, h6⟩ := this
    exact ⟨h1.symm, h2.symm, h3.symm, h4.symm, h5.symm, h6.symm⟩
  by_cases h0 : s.size = 0
  · rw [if_pos h0] at h
    obtain ⟨rfl, rfl, rfl, rfl, rfl, rfl⟩ := inj _ h
    exact flow_err s _ _ _ (by decide) w (open_at (open_none s _ h0))
  rw [if_neg h0] at h
  by_cases h4 : bt s 0 / 16 = 4
  · rw [if_pos h4] at h
    obtain ⟨⟨q1, q2, q3, q4, q5, q6, q7, q8, q9, q10, q11, q12⟩, hg, h⟩ := Option.bind_eq_some_iff.1 h
    by_cases he : q12 = 0
    · subst he
      rw [if_neg (fun h' => h' rfl)] at h
      exact flow_four s q1 q2 q3 q4 q5 q6 q7 q8 q9 q10 q11 w _ _ _ _ _ _ (open_at (open_four s _ h0 h4 hg)) h
    · rw [if_pos he] at h
      obtain ⟨rfl, rfl, rfl, rfl, rfl, rfl⟩ := inj _ h
      exact flow_err s _ _ _ he w (open_at (open_four s _ h0 h4 hg))
  rw [if_neg h4] at h
  by_cases h6 : bt s 0 / 16 = 6
  · rw [if_pos h6] at h
    obtain ⟨⟨q1, q2, q3, q4, q5, q6, q7, q8⟩, hg, h⟩ := Option.bind_eq_some_iff.1 h
    by_cases he : q8 = 0
    · subst he
      rw [if_neg (fun h' => h' rfl)] at h
      exact flow_six s q1 q2 q3 q4 q5 q6 q7 w _ _ _ _ _ _ (open_at (open_six s _ h0 h6 hg)) h
    · rw [if_pos he] at h
      obtain ⟨rfl, rfl, rfl, rfl, rfl, rfl⟩ := inj _ h
      exact flow_err s _ _ _ he w (open_at (open_six s _ h0 h6 hg))
  rw [if_neg h6] at h
  obtain ⟨rfl, rfl, rfl, rfl, rfl, rfl⟩ := inj _ h
  exact flow_err s _ _ _ (by decide) w (open_at (open_other s _ h0 h4 h6))
end Go.Proofs.Ytcmalglippmocaa.G
end

section
namespace Go.Proofs.Ytcmalglippmocaa.G
open Go.RowKit Go.Proofs.YtcmalglippmocaaW.PrintWords Go.Proofs.YtcmalglippmocaaW.PrintLast Go.Proofs.YtcmalglippmocaaW.PrintMore
attribute [local go_sem] max2_int min2_int max_two min_two max_three min_three max_four min_four   -- for this text's walks alone
set_option linter.unusedVariables false
set_option linter.unusedSimpArgs false

def palanquinlaw09_awake.f (k : Nat)  : Option (Bool) := if 16 ≤ 281474976710656 then ((some (List.replicate 16 0 : List Int)).bind fun y162 => ((palanquinref05_Put.f k 0 0 0 0 17 false false (⟨#[97, 98, 99, 100]⟩ : ByteArray) (⟨#[101, 102, 103, 104]⟩ : ByteArray) (⟨#[]⟩ : ByteArray) (⟨#[0, 1, 0, 2, 0, 8, 0, 0]⟩ : ByteArray)).bind fun bt165 => ((palanquinref06_Put.f k 0 0 17 0 (strOfNums y162) (strOfNums y162) (⟨#[0, 1, 0, 2, 0, 8, 0, 0]⟩ : ByteArray)).bind fun bt167 => ((flow_Get.f bt165.1).bind fun bt169 => ((flow_Get.f bt167.1).bind fun bt176 => (if bt169.2.2.2.2.1 = 2 then (if bt169.2.2.2.2.2 = 0 then (some (bt176.2.2.2.2.2 == 5)) else (some false)) else (some false))))))) else (none)
set_option maxHeartbeats 8000000 in
set_option maxRecDepth 100000 in
theorem palanquinlaw09_awake.calls (k : Nat)  (r : Bool) (w : World) (h : palanquinlaw09_awake.f k  = some r) :
  Calls Try.prog 10 #[] w fun e w' => e = .returned (.bool r) ∧ Below w.heap.size w w' := by
 have hu50 := Try.underlying50
 have hu53 := Try.underlying53
 have hu24 := Try.underlying24
 have HB := mA (Below.refl w.heap.size w)
 have H : (if 16 ≤ 281474976710656 then ((some (List.replicate 16 0 : List Int)).bind fun y162 => ((palanquinref05_Put.f k 0 0 0 0 17 false false (⟨#[97, 98, 99, 100]⟩ : ByteArray) (⟨#[101, 102, 103, 104]⟩ : ByteArray) (⟨#[]⟩ : ByteArray) (⟨#[0, 1, 0, 2, 0, 8, 0, 0]⟩ : ByteArray)).bind fun bt165 => ((palanquinref06_Put.f k 0 0 17 0 (strOfNums y162) (strOfNums y162) (⟨#[0, 1, 0, 2, 0, 8, 0, 0]⟩ : ByteArray)).bind fun bt167 => ((flow_Get.f bt165.1).bind fun bt169 => ((flow_Get.f bt167.1).bind fun bt176 => (if bt169.2.2.2.2.1 = 2 then (if bt169.2.2.2.2.2 = 0 then (some (bt176.2.2.2.2.2 == 5)) else (some false)) else (some false))))))) else (none)) = some r := h
 clear h
 by_cases c1 : 16 ≤ 281474976710656
 ·rw [if_pos c1] at H
  have c1b0 := eq_true c1
  have c1b1 : decide (16 ≤ 281474976710656) = true := decide_eq_true c1
  clear c1
  obtain ⟨y162, hy162⟩ : ∃ y_ : List Int, y_ = (List.replicate 16 0) := ⟨_, rfl⟩
  replace H : ((palanquinref05_Put.f k 0 0 0 0 17 false false (⟨#[97, 98, 99, 100]⟩ : ByteArray) (⟨#[101, 102, 103, 104]⟩ : ByteArray) (⟨#[]⟩ : ByteArray) (⟨#[0, 1, 0, 2, 0, 8, 0, 0]⟩ : ByteArray)).bind fun bt165 => ((palanquinref06_Put.f k 0 0 17 0 (strOfNums y162) (strOfNums y162) (⟨#[0, 1, 0, 2, 0, 8, 0, 0]⟩ : ByteArray)).bind fun bt167 => ((flow_Get.f bt165.1).bind fun bt169 => ((flow_Get.f bt167.1).bind fun bt176 => (if bt169.2.2.2.2.1 = 2 then (if bt169.2.2.2.2.2 = 0 then (some (bt176.2.2.2.2.2 == 5)) else (some false)) else (some false)))))) = some r := by first | (rw [hy162]; with_reducible exact H) | (have H2_ := (Option.bind_some _ _).symm.trans H; rw [hy162]; with_reducible exact H2_) | (have H2_ := (Option.bind_some _ _).symm.trans H; with_reducible exact H2_) | with_reducible exact H | (rw [hy162]; exact H) | exact H
  have Ny162 := mA hy162
  clear hy162
  replace H := Option.bind_eq_some_iff.mp H
  obtain ⟨⟨t165, t166⟩, A20, H⟩ := H
  replace H : ((palanquinref06_Put.f k 0 0 17 0 (strOfNums y162) (strOfNums y162) (⟨#[0, 1, 0, 2, 0, 8, 0, 0]⟩ : ByteArray)).bind fun bt167 => ((flow_Get.f t165).bind fun bt169 => ((flow_Get.f bt167.1).bind fun bt176 => (if bt169.2.2.2.2.1 = 2 then (if bt169.2.2.2.2.2 = 0 then (some (bt176.2.2.2.2.2 == 5)) else (some false)) else (some false))))) = some r := H
  have A2 := mA A20
  clear A20
  replace H := Option.bind_eq_some_iff.mp H
  obtain ⟨⟨t167, t168⟩, A30, H⟩ := H
  replace H : ((flow_Get.f t165).bind fun bt169 => ((flow_Get.f t167).bind fun bt176 => (if bt169.2.2.2.2.1 = 2 then (if bt169.2.2.2.2.2 = 0 then (some (bt176.2.2.2.2.2 == 5)) else (some false)) else (some false)))) = some r := H
  have A3 := mA A30
  clear A30
  replace H := Option.bind_eq_some_iff.mp H
  obtain ⟨⟨t169, t170, t171, t172, t173, t174⟩, A40, H⟩ := H
  replace H : ((flow_Get.f t167).bind fun bt176 => (if t173 = 2 then (if t174 = 0 then (some (bt176.2.2.2.2.2 == 5)) else (some false)) else (some false))) = some r := H
  have A4 := mA A40
  clear A40
  replace H := Option.bind_eq_some_iff.mp H
  obtain ⟨⟨t176, t177, t178, t179, t180, t181⟩, A50, H⟩ := H
  replace H : (if t173 = 2 then (if t174 = 0 then (some (t181 == 5)) else (some false)) else (some false)) = some r := H
  have A5 := mA A50
  clear A50
  by_cases c6 : t173 = 2
  ·rw [if_pos c6] at H
   have c6b0 : (t173 == 2) = true := beq_iff_eq.mpr c6
   have c6b1 : (t173 != 2) = false := bne_eq_false_iff_eq.mpr c6
   clear c6
   by_cases c7 : t174 = 0
   ·rw [if_pos c7] at H
    have c7b0 : (t174 == 0) = true := beq_iff_eq.mpr c7
    have c7b1 : (t174 != 0) = false := bne_eq_false_iff_eq.mpr c7
    clear c7
    obtain rfl := Option.some.inj H
    go_enter Try.func10, Try.ntmps10
    go_wp2_with (first | ((with_reducible refine gate_dst (N := 11) rfl ?_); refine Kd.R_make (Kd.int .u8) _ 5 rfl (N := 11) rfl 31 _ _ rfl 16 rfl rfl Try.underlying31 (.int .u8 0) 1 info5 rfl (by decide) (by omega) 0 (ok := fun _ => True) (okp := fun _ => True) rfl (fun _ hk => hk) trivial (by omega) (by omega) (Below.refl _ _) (Nat.le_refl _) ?_; intro v163 w8 ho9 hb hg_ hnew_; clear hg_ hnew_; (first | rw [← Ny162.out] at ho9 | (simp only [Int.reduceToNat] at ho9; rw [← Ny162.out] at ho9)); have n0_ := mA (Kd.R_lower ho9 (below_size (by repeat (first | (with_reducible first | exact HB.out | apply bA | apply bN | apply bD) | exact HB.out)))); have n1_ := mA (bP (by repeat (first | (with_reducible first | exact HB.out | apply bA | apply bN | apply bD) | exact HB.out)) hb); clear HB; have HO164 := n0_; have HB := n1_; clear n0_ n1_; clear hb ho9; have hcv10 := own_string (P := Try.prog) Try.underlying31 Try.underlying5 Try.underlying9 (Kd.own_of_R HO164.out)) | ((with_reducible refine gate_callee (f := 23) rfl ?_); refine goesL_ (some 16) rfl rfl Try.func23 (by kernel_rfl) rfl #[.agg #[.int .i64 0, .int .i64 0, .int .i64 0, .int .i64 0, .int .i64 17, .bool false, .bool false, .string (⟨#[97, 98, 99, 100]⟩ : ByteArray), .string (⟨#[101, 102, 103, 104]⟩ : ByteArray), .string (⟨#[]⟩ : ByteArray)], .string (⟨#[0, 1, 0, 2, 0, 8, 0, 0]⟩ : ByteArray)] rfl (by (try simp only [List.map_toArray, List.map_cons, List.map_nil]); first | done | rfl | (simp only [List.length_drop, List.length_take]; rfl)) ?_; (with_reducible refine (palanquinref05_Put.calls k 0 0 0 0 17 false false (⟨#[97, 98, 99, 100]⟩ : ByteArray) (⟨#[101, 102, 103, 104]⟩ : ByteArray) (⟨#[]⟩ : ByteArray) (⟨#[0, 1, 0, 2, 0, 8, 0, 0]⟩ : ByteArray) t165 t166 _ A2.out).mono ?_); rintro e w11 ⟨rfl, hb⟩; refine ⟨_, rfl, ?_⟩; have n0_ := mA (Kd.R_below (by (with_reducible repeat (first | apply Kd.R_alloc | apply Kd.R_drewN | apply Kd.R_drew)); exact HO164.out) hb); have n1_ := mA (bP (by repeat (first | (with_reducible first | exact HB.out | apply bA | apply bN | apply bD) | exact HB.out)) hb); clear HO164; clear HB; have HO164 := n0_; have HB := n1_; clear n0_ n1_; (try clear hb); (try clear hb2); (try clear hk); (try clear hi)) | ((with_reducible refine gate_callee (f := 24) rfl ?_); refine goesL_ (some 24) rfl rfl Try.func24 (by kernel_rfl) rfl #[.agg #[.int .i64 0, .int .i64 0, .int .i64 17, .int .i64 0, .string (strOfNums y162), .string (strOfNums y162)], .string (⟨#[0, 1, 0, 2, 0, 8, 0, 0]⟩ : ByteArray)] rfl (by (try simp only [List.map_toArray, List.map_cons, List.map_nil]); first | done | rfl | (simp only [List.length_drop, List.length_take]; rfl)) ?_; (with_reducible refine (palanquinref06_Put.calls k 0 0 17 0 (strOfNums y162) (strOfNums y162) (⟨#[0, 1, 0, 2, 0, 8, 0, 0]⟩ : ByteArray) t167 t168 _ A3.out).mono ?_); rintro e w12 ⟨rfl, hb⟩; refine ⟨_, rfl, ?_⟩; have n0_ := mA (Kd.R_below (by (with_reducible repeat (first | apply Kd.R_alloc | apply Kd.R_drewN | apply Kd.R_drew)); exact HO164.out) hb); have n1_ := mA (bP (by repeat (first | (with_reducible first | exact HB.out | apply bA | apply bN | apply bD) | exact HB.out)) hb); clear HO164; clear HB; have HO164 := n0_; have HB := n1_; clear n0_ n1_; (try clear hb); (try clear hb2); (try clear hk); (try clear hi)) | ((with_reducible refine gate_callee (f := 11) rfl ?_); refine goesL_ (some 29) rfl rfl Try.func11 (by kernel_rfl) rfl #[.string t165] rfl (by (try simp only [List.map_toArray, List.map_cons, List.map_nil]); first | done | rfl | (simp only [List.length_drop, List.length_take]; rfl)) ?_; (with_reducible refine (flow_Get.calls t165 t169 t170 t171 t172 t173 t174 _ A4.out).mono ?_); rintro e w13 ⟨rfl, hb⟩; refine ⟨_, rfl, ?_⟩; have n0_ := mA (Kd.R_below (by (with_reducible repeat (first | apply Kd.R_alloc | apply Kd.R_drewN | apply Kd.R_drew)); exact HO164.out) hb); have n1_ := mA (bP (by repeat (first | (with_reducible first | exact HB.out | apply bA | apply bN | apply bD) | exact HB.out)) hb); clear HO164; clear HB; have HO164 := n0_; have HB := n1_; clear n0_ n1_; (try clear hb); (try clear hb2); (try clear hk); (try clear hi)) | ((with_reducible refine gate_dst (N := 7) rfl ?_); refine box_event ?hg (N := 7) ?hd (cs := #[.int .i64 0, .string (⟨#[]⟩ : ByteArray), .string (⟨#[]⟩ : ByteArray), .int .i64 0, .int .i64 0]) (t := 24) ?hr ?_; (case hd => rfl); (case hg => rfl); (case hr => first | (go_simp; done) | (go_simp; rfl)); intro gb175 hg w14 hbox hb; have n0_ := mA (Kd.R_below (by (with_reducible repeat (first | apply Kd.R_alloc | apply Kd.R_drewN | apply Kd.R_drew)); exact HO164.out) hb); obtain ⟨n1_, nq_⟩ := bpr (by repeat (first | (with_reducible first | exact HB.out | apply bA | apply bN | apply bD) | exact HB.out)) hb; have n2_ := mA (hbox); have n3_ := mA ((by rw [hg]; exact nq_ : w.heap.size ≤ gb175)); have n4_ := mA ((by rw [hg]; exact nq_ : w.heap.size ≤ gb175)); clear HO164; clear HB; have HO164 := n0_; have HB := n1_; have BK175 := n2_; have GW175 := n3_; have GE175 := n4_; clear nq_; clear n0_ n1_ n2_ n3_ n4_; clear hb hbox hg; obtain ⟨hcz15_0, hcz15_1, hcz15_2, hcz15_3, hcz15_4⟩ := bc5 BK175.out; obtain ⟨hfz15_0, hfz15_1, hfz15_2, hfz15_3, hfz15_4⟩ := bf5 BK175.out) | ((with_reducible refine gate_callee (f := 11) rfl ?_); refine goesL_ (some 34) rfl rfl Try.func11 (by kernel_rfl) rfl #[.string t167] rfl (by (try simp only [List.map_toArray, List.map_cons, List.map_nil]); first | done | rfl | (simp only [List.length_drop, List.length_take]; rfl)) ?_; (with_reducible refine (flow_Get.calls t167 t176 t177 t178 t179 t180 t181 _ A5.out).mono ?_); rintro e w16 ⟨rfl, hb⟩; refine ⟨_, rfl, ?_⟩; have n0_ := mA (Kd.R_below (by (with_reducible repeat (first | apply Kd.R_alloc | apply Kd.R_drewN | apply Kd.R_drew)); exact (Kd.R_mono (Kd.R_far (p := ⟨gb175, 4, none⟩) (Kd.R_far (p := ⟨gb175, 3, none⟩) (Kd.R_far (p := ⟨gb175, 2, none⟩) (Kd.R_far (p := ⟨gb175, 1, none⟩) (Kd.R_far (p := ⟨gb175, 0, none⟩) (Kd.R_types HO164.out BK175.out (by decide)) (fun _ hk => hk.2) (.int .i64 t169)) (fun _ hk => hk.2) (.string t170)) (fun _ hk => hk.2) (.string t171)) (fun _ hk => hk.2) (.int .i64 t172)) (fun _ hk => hk.2) (.int .i64 t173)) (fun _ h_ => h_.1))) hb); have n1_ := mA (blk_below (g := gb175) (o := .cells #[.int .i64 t169, .string t170, .string t171, .int .i64 t172, .int .i64 t173] 24 (0, 0)) (by (with_reducible repeat (first | apply kN | apply kD | apply kA)); refine blk_put (cs := #[.int .i64 t169, .string t170, .string t171, .int .i64 t172, .int .i64 0]) ?_ 4 _ (by first | rfl | (simp [*]; done)); (with_reducible repeat (first | apply kN | apply kD | apply kA)); refine blk_put (cs := #[.int .i64 t169, .string t170, .string t171, .int .i64 0, .int .i64 0]) ?_ 3 _ (by first | rfl | (simp [*]; done)); (with_reducible repeat (first | apply kN | apply kD | apply kA)); refine blk_put (cs := #[.int .i64 t169, .string t170, .string (⟨#[]⟩ : ByteArray), .int .i64 0, .int .i64 0]) ?_ 2 _ (by first | rfl | (simp [*]; done)); (with_reducible repeat (first | apply kN | apply kD | apply kA)); refine blk_put (cs := #[.int .i64 t169, .string (⟨#[]⟩ : ByteArray), .string (⟨#[]⟩ : ByteArray), .int .i64 0, .int .i64 0]) ?_ 1 _ (by first | rfl | (simp [*]; done)); (with_reducible repeat (first | apply kN | apply kD | apply kA)); refine blk_put (cs := #[.int .i64 0, .string (⟨#[]⟩ : ByteArray), .string (⟨#[]⟩ : ByteArray), .int .i64 0, .int .i64 0]) ?_ 0 _ (by first | rfl | (simp [*]; done)); (with_reducible repeat (first | apply kN | apply kD | apply kA)); exact BK175.out) hb); have n2_ := mA (bP (by repeat (first | (with_reducible first | exact HB.out | apply bA | apply bN | apply bD | refine bS ?_ GE175.out) | exact HB.out)) hb); clear HO164; clear BK175; clear HB; have HO164 := n0_; have BK175 := n1_; have HB := n2_; clear n0_ n1_ n2_; (try clear hb); (try clear hb2); (try clear hk); (try clear hi)) | ((with_reducible refine gate_dst (N := 9) rfl ?_); refine box_event ?hg (N := 9) ?hd (cs := #[.int .i64 0, .string (⟨#[]⟩ : ByteArray), .string (⟨#[]⟩ : ByteArray), .int .i64 0, .int .i64 0]) (t := 24) ?hr ?_; (case hd => rfl); (case hg => rfl); (case hr => first | (go_simp; done) | (go_simp; rfl)); intro gb182 hg w17 hbox hb; have n0_ := mA (Kd.R_below (by (with_reducible repeat (first | apply Kd.R_alloc | apply Kd.R_drewN | apply Kd.R_drew)); exact HO164.out) hb); obtain ⟨n1_, nl175_⟩ := bt3 (g := gb175) (o := .cells #[.int .i64 t169, .string t170, .string t171, .int .i64 t172, .int .i64 t173] 24 (0, 0)) (by (with_reducible repeat (first | apply kN | apply kD | apply kA)); exact BK175.out) hb; obtain ⟨n2_, nq_⟩ := bpr (by repeat (first | (with_reducible first | exact HB.out | apply bA | apply bN | apply bD | refine bS ?_ GE175.out) | exact HB.out)) hb; have n3_ := mA (hbox); have n4_ := mA ((by rw [hg]; exact nq_ : w.heap.size ≤ gb182)); have n5_ := mA ((by rw [hg]; exact nq_ : w.heap.size ≤ gb182)); have n6_ := mA ((by rw [hg]; exact Nat.ne_of_lt nl175_ : gb175 ≠ gb182)); have n7_ := mA ((by rw [hg]; exact Nat.ne_of_gt nl175_ : gb182 ≠ gb175)); clear HO164; clear BK175; clear HB; have HO164 := n0_; have BK175 := n1_; have HB := n2_; have BK182 := n3_; have GW182 := n4_; have GE182 := n5_; have NB175_182 := n6_; have NB182_175 := n7_; clear nl175_; clear nq_; clear n0_ n1_ n2_ n3_ n4_ n5_ n6_ n7_; clear hb hbox hg; have hnb18 := NB182_175.out; have hnc18 := NB175_182.out; obtain ⟨hcz19_0, hcz19_1, hcz19_2, hcz19_3, hcz19_4⟩ := bc5 BK182.out; obtain ⟨hfz19_0, hfz19_1, hfz19_2, hfz19_3, hfz19_4⟩ := bf5 BK182.out; obtain ⟨hcz20_0, hcz20_1, hcz20_2, hcz20_3, hcz20_4⟩ := bc5 BK175.out; obtain ⟨hfz20_0, hfz20_1, hfz20_2, hfz20_3, hfz20_4⟩ := bf5 BK175.out))
    go_ret
    exact ⟨by first | rfl | (simp [errW_none, errW_some] <;> rfl) | (simp [*, errW_none, errW_some] <;> rfl), by repeat (first | (with_reducible first | exact HB.out | apply bA | apply bN | apply bD | refine bS ?_ GE175.out | refine bS ?_ GE182.out) | exact HB.out)⟩
   ·rw [if_neg c7] at H
    have c7b0 : (t174 == 0) = false := beq_eq_false_iff_ne.mpr c7
    have c7b1 : (t174 != 0) = true := bne_iff_ne.mpr c7
    obtain rfl := Option.some.inj H
    go_enter Try.func10, Try.ntmps10
    go_wp2_with (first | ((with_reducible refine gate_dst (N := 11) rfl ?_); refine Kd.R_make (Kd.int .u8) _ 5 rfl (N := 11) rfl 31 _ _ rfl 16 rfl rfl Try.underlying31 (.int .u8 0) 1 info5 rfl (by decide) (by omega) 0 (ok := fun _ => True) (okp := fun _ => True) rfl (fun _ hk => hk) trivial (by omega) (by omega) (Below.refl _ _) (Nat.le_refl _) ?_; intro v163 w21 ho22 hb hg_ hnew_; clear hg_ hnew_; (first | rw [← Ny162.out] at ho22 | (simp only [Int.reduceToNat] at ho22; rw [← Ny162.out] at ho22)); have n0_ := mA (Kd.R_lower ho22 (below_size (by repeat (first | (with_reducible first | exact HB.out | apply bA | apply bN | apply bD) | exact HB.out)))); have n1_ := mA (bP (by repeat (first | (with_reducible first | exact HB.out | apply bA | apply bN | apply bD) | exact HB.out)) hb); clear HB; have HO164 := n0_; have HB := n1_; clear n0_ n1_; clear hb ho22; have hcv23 := own_string (P := Try.prog) Try.underlying31 Try.underlying5 Try.underlying9 (Kd.own_of_R HO164.out)) | ((with_reducible refine gate_callee (f := 23) rfl ?_); refine goesL_ (some 16) rfl rfl Try.func23 (by kernel_rfl) rfl #[.agg #[.int .i64 0, .int .i64 0, .int .i64 0, .int .i64 0, .int .i64 17, .bool false, .bool false, .string (⟨#[97, 98, 99, 100]⟩ : ByteArray), .string (⟨#[101, 102, 103, 104]⟩ : ByteArray), .string (⟨#[]⟩ : ByteArray)], .string (⟨#[0, 1, 0, 2, 0, 8, 0, 0]⟩ : ByteArray)] rfl (by (try simp only [List.map_toArray, List.map_cons, List.map_nil]); first | done | rfl | (simp only [List.length_drop, List.length_take]; rfl)) ?_; (with_reducible refine (palanquinref05_Put.calls k 0 0 0 0 17 false false (⟨#[97, 98, 99, 100]⟩ : ByteArray) (⟨#[101, 102, 103, 104]⟩ : ByteArray) (⟨#[]⟩ : ByteArray) (⟨#[0, 1, 0, 2, 0, 8, 0, 0]⟩ : ByteArray) t165 t166 _ A2.out).mono ?_); rintro e w24 ⟨rfl, hb⟩; refine ⟨_, rfl, ?_⟩; have n0_ := mA (Kd.R_below (by (with_reducible repeat (first | apply Kd.R_alloc | apply Kd.R_drewN | apply Kd.R_drew)); exact HO164.out) hb); have n1_ := mA (bP (by repeat (first | (with_reducible first | exact HB.out | apply bA | apply bN | apply bD) | exact HB.out)) hb); clear HO164; clear HB; have HO164 := n0_; have HB := n1_; clear n0_ n1_; (try clear hb); (try clear hb2); (try clear hk); (try clear hi)) | ((with_reducible refine gate_callee (f := 24) rfl ?_); refine goesL_ (some 24) rfl rfl Try.func24 (by kernel_rfl) rfl #[.agg #[.int .i64 0, .int .i64 0, .int .i64 17, .int .i64 0, .string (strOfNums y162), .string (strOfNums y162)], .string (⟨#[0, 1, 0, 2, 0, 8, 0, 0]⟩ : ByteArray)] rfl (by (try simp only [List.map_toArray, List.map_cons, List.map_nil]); first | done | rfl | (simp only [List.length_drop, List.length_take]; rfl)) ?_; (with_reducible refine (palanquinref06_Put.calls k 0 0 17 0 (strOfNums y162) (strOfNums y162) (⟨#[0, 1, 0, 2, 0, 8, 0, 0]⟩ : ByteArray) t167 t168 _ A3.out).mono ?_); rintro e w25 ⟨rfl, hb⟩; refine ⟨_, rfl, ?_⟩; have n0_ := mA (Kd.R_below (by (with_reducible repeat (first | apply Kd.R_alloc | apply Kd.R_drewN | apply Kd.R_drew)); exact HO164.out) hb); have n1_ := mA (bP (by repeat (first | (with_reducible first | exact HB.out | apply bA | apply bN | apply bD) | exact HB.out)) hb); clear HO164; clear HB; have HO164 := n0_; have HB := n1_; clear n0_ n1_; (try clear hb); (try clear hb2); (try clear hk); (try clear hi)) | ((with_reducible refine gate_callee (f := 11) rfl ?_); refine goesL_ (some 29) rfl rfl Try.func11 (by kernel_rfl) rfl #[.string t165] rfl (by (try simp only [List.map_toArray, List.map_cons, List.map_nil]); first | done | rfl | (simp only [List.length_drop, List.length_take]; rfl)) ?_; (with_reducible refine (flow_Get.calls t165 t169 t170 t171 t172 t173 t174 _ A4.out).mono ?_); rintro e w26 ⟨rfl, hb⟩; refine ⟨_, rfl, ?_⟩; have n0_ := mA (Kd.R_below (by (with_reducible repeat (first | apply Kd.R_alloc | apply Kd.R_drewN | apply Kd.R_drew)); exact HO164.out) hb); have n1_ := mA (bP (by repeat (first | (with_reducible first | exact HB.out | apply bA | apply bN | apply bD) | exact HB.out)) hb); clear HO164; clear HB; have HO164 := n0_; have HB := n1_; clear n0_ n1_; (try clear hb); (try clear hb2); (try clear hk); (try clear hi)) | ((with_reducible refine gate_dst (N := 7) rfl ?_); refine box_event ?hg (N := 7) ?hd (cs := #[.int .i64 0, .string (⟨#[]⟩ : ByteArray), .string (⟨#[]⟩ : ByteArray), .int .i64 0, .int .i64 0]) (t := 24) ?hr ?_; (case hd => rfl); (case hg => rfl); (case hr => first | (go_simp; done) | (go_simp; rfl)); intro gb175 hg w27 hbox hb; have n0_ := mA (Kd.R_below (by (with_reducible repeat (first | apply Kd.R_alloc | apply Kd.R_drewN | apply Kd.R_drew)); exact HO164.out) hb); obtain ⟨n1_, nq_⟩ := bpr (by repeat (first | (with_reducible first | exact HB.out | apply bA | apply bN | apply bD) | exact HB.out)) hb; have n2_ := mA (hbox); have n3_ := mA ((by rw [hg]; exact nq_ : w.heap.size ≤ gb175)); have n4_ := mA ((by rw [hg]; exact nq_ : w.heap.size ≤ gb175)); clear HO164; clear HB; have HO164 := n0_; have HB := n1_; have BK175 := n2_; have GW175 := n3_; have GE175 := n4_; clear nq_; clear n0_ n1_ n2_ n3_ n4_; clear hb hbox hg; obtain ⟨hcz28_0, hcz28_1, hcz28_2, hcz28_3, hcz28_4⟩ := bc5 BK175.out; obtain ⟨hfz28_0, hfz28_1, hfz28_2, hfz28_3, hfz28_4⟩ := bf5 BK175.out) | ((with_reducible refine gate_callee (f := 11) rfl ?_); refine goesL_ (some 34) rfl rfl Try.func11 (by kernel_rfl) rfl #[.string t167] rfl (by (try simp only [List.map_toArray, List.map_cons, List.map_nil]); first | done | rfl | (simp only [List.length_drop, List.length_take]; rfl)) ?_; (with_reducible refine (flow_Get.calls t167 t176 t177 t178 t179 t180 t181 _ A5.out).mono ?_); rintro e w29 ⟨rfl, hb⟩; refine ⟨_, rfl, ?_⟩; have n0_ := mA (Kd.R_below (by (with_reducible repeat (first | apply Kd.R_alloc | apply Kd.R_drewN | apply Kd.R_drew)); exact (Kd.R_mono (Kd.R_far (p := ⟨gb175, 4, none⟩) (Kd.R_far (p := ⟨gb175, 3, none⟩) (Kd.R_far (p := ⟨gb175, 2, none⟩) (Kd.R_far (p := ⟨gb175, 1, none⟩) (Kd.R_far (p := ⟨gb175, 0, none⟩) (Kd.R_types HO164.out BK175.out (by decide)) (fun _ hk => hk.2) (.int .i64 t169)) (fun _ hk => hk.2) (.string t170)) (fun _ hk => hk.2) (.string t171)) (fun _ hk => hk.2) (.int .i64 t172)) (fun _ hk => hk.2) (.int .i64 t173)) (fun _ h_ => h_.1))) hb); have n1_ := mA (blk_below (g := gb175) (o := .cells #[.int .i64 t169, .string t170, .string t171, .int .i64 t172, .int .i64 t173] 24 (0, 0)) (by (with_reducible repeat (first | apply kN | apply kD | apply kA)); refine blk_put (cs := #[.int .i64 t169, .string t170, .string t171, .int .i64 t172, .int .i64 0]) ?_ 4 _ (by first | rfl | (simp [*]; done)); (with_reducible repeat (first | apply kN | apply kD | apply kA)); refine blk_put (cs := #[.int .i64 t169, .string t170, .string t171, .int .i64 0, .int .i64 0]) ?_ 3 _ (by first | rfl | (simp [*]; done)); (with_reducible repeat (first | apply kN | apply kD | apply kA)); refine blk_put (cs := #[.int .i64 t169, .string t170, .string (⟨#[]⟩ : ByteArray), .int .i64 0, .int .i64 0]) ?_ 2 _ (by first | rfl | (simp [*]; done)); (with_reducible repeat (first | apply kN | apply kD | apply kA)); refine blk_put (cs := #[.int .i64 t169, .string (⟨#[]⟩ : ByteArray), .string (⟨#[]⟩ : ByteArray), .int .i64 0, .int .i64 0]) ?_ 1 _ (by first | rfl | (simp [*]; done)); (with_reducible repeat (first | apply kN | apply kD | apply kA)); refine blk_put (cs := #[.int .i64 0, .string (⟨#[]⟩ : ByteArray), .string (⟨#[]⟩ : ByteArray), .int .i64 0, .int .i64 0]) ?_ 0 _ (by first | rfl | (simp [*]; done)); (with_reducible repeat (first | apply kN | apply kD | apply kA)); exact BK175.out) hb); have n2_ := mA (bP (by repeat (first | (with_reducible first | exact HB.out | apply bA | apply bN | apply bD | refine bS ?_ GE175.out) | exact HB.out)) hb); clear HO164; clear BK175; clear HB; have HO164 := n0_; have BK175 := n1_; have HB := n2_; clear n0_ n1_ n2_; (try clear hb); (try clear hb2); (try clear hk); (try clear hi)) | ((with_reducible refine gate_dst (N := 9) rfl ?_); refine box_event ?hg (N := 9) ?hd (cs := #[.int .i64 0, .string (⟨#[]⟩ : ByteArray), .string (⟨#[]⟩ : ByteArray), .int .i64 0, .int .i64 0]) (t := 24) ?hr ?_; (case hd => rfl); (case hg => rfl); (case hr => first | (go_simp; done) | (go_simp; rfl)); intro gb182 hg w30 hbox hb; have n0_ := mA (Kd.R_below (by (with_reducible repeat (first | apply Kd.R_alloc | apply Kd.R_drewN | apply Kd.R_drew)); exact HO164.out) hb); obtain ⟨n1_, nl175_⟩ := bt3 (g := gb175) (o := .cells #[.int .i64 t169, .string t170, .string t171, .int .i64 t172, .int .i64 t173] 24 (0, 0)) (by (with_reducible repeat (first | apply kN | apply kD | apply kA)); exact BK175.out) hb; obtain ⟨n2_, nq_⟩ := bpr (by repeat (first | (with_reducible first | exact HB.out | apply bA | apply bN | apply bD | refine bS ?_ GE175.out) | exact HB.out)) hb; have n3_ := mA (hbox); have n4_ := mA ((by rw [hg]; exact nq_ : w.heap.size ≤ gb182)); have n5_ := mA ((by rw [hg]; exact nq_ : w.heap.size ≤ gb182)); have n6_ := mA ((by rw [hg]; exact Nat.ne_of_lt nl175_ : gb175 ≠ gb182)); have n7_ := mA ((by rw [hg]; exact Nat.ne_of_gt nl175_ : gb182 ≠ gb175)); clear HO164; clear BK175; clear HB; have HO164 := n0_; have BK175 := n1_; have HB := n2_; have BK182 := n3_; have GW182 := n4_; have GE182 := n5_; have NB175_182 := n6_; have NB182_175 := n7_; clear nl175_; clear nq_; clear n0_ n1_ n2_ n3_ n4_ n5_ n6_ n7_; clear hb hbox hg; have hnb31 := NB182_175.out; have hnc31 := NB175_182.out; obtain ⟨hcz32_0, hcz32_1, hcz32_2, hcz32_3, hcz32_4⟩ := bc5 BK182.out; obtain ⟨hfz32_0, hfz32_1, hfz32_2, hfz32_3, hfz32_4⟩ := bf5 BK182.out; obtain ⟨hcz33_0, hcz33_1, hcz33_2, hcz33_3, hcz33_4⟩ := bc5 BK175.out; obtain ⟨hfz33_0, hfz33_1, hfz33_2, hfz33_3, hfz33_4⟩ := bf5 BK175.out))
    go_ret
    exact ⟨by first | rfl | (simp [errW_none, errW_some] <;> rfl) | (simp [*, errW_none, errW_some] <;> rfl), by repeat (first | (with_reducible first | exact HB.out | apply bA | apply bN | apply bD | refine bS ?_ GE175.out | refine bS ?_ GE182.out) | exact HB.out)⟩
  ·rw [if_neg c6] at H
   have c6b0 : (t173 == 2) = false := beq_eq_false_iff_ne.mpr c6
   have c6b1 : (t173 != 2) = true := bne_iff_ne.mpr c6
   obtain rfl := Option.some.inj H
   go_enter Try.func10, Try.ntmps10
   go_wp2_with (first | ((with_reducible refine gate_dst (N := 11) rfl ?_); refine Kd.R_make (Kd.int .u8) _ 5 rfl (N := 11) rfl 31 _ _ rfl 16 rfl rfl Try.underlying31 (.int .u8 0) 1 info5 rfl (by decide) (by omega) 0 (ok := fun _ => True) (okp := fun _ => True) rfl (fun _ hk => hk) trivial (by omega) (by omega) (Below.refl _ _) (Nat.le_refl _) ?_; intro v163 w34 ho35 hb hg_ hnew_; clear hg_ hnew_; (first | rw [← Ny162.out] at ho35 | (simp only [Int.reduceToNat] at ho35; rw [← Ny162.out] at ho35)); have n0_ := mA (Kd.R_lower ho35 (below_size (by repeat (first | (with_reducible first | exact HB.out | apply bA | apply bN | apply bD) | exact HB.out)))); have n1_ := mA (bP (by repeat (first | (with_reducible first | exact HB.out | apply bA | apply bN | apply bD) | exact HB.out)) hb); clear HB; have HO164 := n0_; have HB := n1_; clear n0_ n1_; clear hb ho35; have hcv36 := own_string (P := Try.prog) Try.underlying31 Try.underlying5 Try.underlying9 (Kd.own_of_R HO164.out)) | ((with_reducible refine gate_callee (f := 23) rfl ?_); refine goesL_ (some 16) rfl rfl Try.func23 (by kernel_rfl) rfl #[.agg #[.int .i64 0, .int .i64 0, .int .i64 0, .int .i64 0, .int .i64 17, .bool false, .bool false, .string (⟨#[97, 98, 99, 100]⟩ : ByteArray), .string (⟨#[101, 102, 103, 104]⟩ : ByteArray), .string (⟨#[]⟩ : ByteArray)], .string (⟨#[0, 1, 0, 2, 0, 8, 0, 0]⟩ : ByteArray)] rfl (by (try simp only [List.map_toArray, List.map_cons, List.map_nil]); first | done | rfl | (simp only [List.length_drop, List.length_take]; rfl)) ?_; (with_reducible refine (palanquinref05_Put.calls k 0 0 0 0 17 false false (⟨#[97, 98, 99, 100]⟩ : ByteArray) (⟨#[101, 102, 103, 104]⟩ : ByteArray) (⟨#[]⟩ : ByteArray) (⟨#[0, 1, 0, 2, 0, 8, 0, 0]⟩ : ByteArray) t165 t166 _ A2.out).mono ?_); rintro e w37 ⟨rfl, hb⟩; refine ⟨_, rfl, ?_⟩; have n0_ := mA (Kd.R_below (by (with_reducible repeat (first | apply Kd.R_alloc | apply Kd.R_drewN | apply Kd.R_drew)); exact HO164.out) hb); have n1_ := mA (bP (by repeat (first | (with_reducible first | exact HB.out | apply bA | apply bN | apply bD) | exact HB.out)) hb); clear HO164; clear HB; have HO164 := n0_; have HB := n1_; clear n0_ n1_; (try clear hb); (try clear hb2); (try clear hk); (try clear hi)) | ((with_reducible refine gate_callee (f := 24) rfl ?_); refine goesL_ (some 24) rfl rfl Try.func24 (by kernel_rfl) rfl #[.agg #[.int .i64 0, .int .i64 0, .int .i64 17, .int .i64 0, .string (strOfNums y162), .string (strOfNums y162)], .string (⟨#[0, 1, 0, 2, 0, 8, 0, 0]⟩ : ByteArray)] rfl (by (try simp only [List.map_toArray, List.map_cons, List.map_nil]); first | done | rfl | (simp only [List.length_drop, List.length_take]; rfl)) ?_; (with_reducible refine (palanquinref06_Put.calls k 0 0 17 0 (strOfNums y162) (strOfNums y162) (⟨#[0, 1, 0, 2, 0, 8, 0, 0]⟩ : ByteArray) t167 t168 _ A3.out).mono ?_); rintro e w38 ⟨rfl, hb⟩; refine ⟨_, rfl, ?_⟩; have n0_ := mA (Kd.R_below (by (with_reducible repeat (first | apply Kd.R_alloc | apply Kd.R_drewN | apply Kd.R_drew)); exact HO164.out) hb); have n1_ := mA (bP (by repeat (first | (with_reducible first | exact HB.out | apply bA | apply bN | apply bD) | exact HB.out)) hb); clear HO164; clear HB; have HO164 := n0_; have HB := n1_; clear n0_ n1_; (try clear hb); (try clear hb2); (try clear hk); (try clear hi)) | ((with_reducible refine gate_callee (f := 11) rfl ?_); refine goesL_ (some 29) rfl rfl Try.func11 (by kernel_rfl) rfl #[.string t165] rfl (by (try simp only [List.map_toArray, List.map_cons, List.map_nil]); first | done | rfl | (simp only [List.length_drop, List.length_take]; rfl)) ?_; (with_reducible refine (flow_Get.calls t165 t169 t170 t171 t172 t173 t174 _ A4.out).mono ?_); rintro e w39 ⟨rfl, hb⟩; refine ⟨_, rfl, ?_⟩; have n0_ := mA (Kd.R_below (by (with_reducible repeat (first | apply Kd.R_alloc | apply Kd.R_drewN | apply Kd.R_drew)); exact HO164.out) hb); have n1_ := mA (bP (by repeat (first | (with_reducible first | exact HB.out | apply bA | apply bN | apply bD) | exact HB.out)) hb); clear HO164; clear HB; have HO164 := n0_; have HB := n1_; clear n0_ n1_; (try clear hb); (try clear hb2); (try clear hk); (try clear hi)) | ((with_reducible refine gate_dst (N := 7) rfl ?_); refine box_event ?hg (N := 7) ?hd (cs := #[.int .i64 0, .string (⟨#[]⟩ : ByteArray), .string (⟨#[]⟩ : ByteArray), .int .i64 0, .int .i64 0]) (t := 24) ?hr ?_; (case hd => rfl); (case hg => rfl); (case hr => first | (go_simp; done) | (go_simp; rfl)); intro gb175 hg w40 hbox hb; have n0_ := mA (Kd.R_below (by (with_reducible repeat (first | apply Kd.R_alloc | apply Kd.R_drewN | apply Kd.R_drew)); exact HO164.out) hb); obtain ⟨n1_, nq_⟩ := bpr (by repeat (first | (with_reducible first | exact HB.out | apply bA | apply bN | apply bD) | exact HB.out)) hb; have n2_ := mA (hbox); have n3_ := mA ((by rw [hg]; exact nq_ : w.heap.size ≤ gb175)); have n4_ := mA ((by rw [hg]; exact nq_ : w.heap.size ≤ gb175)); clear HO164; clear HB; have HO164 := n0_; have HB := n1_; have BK175 := n2_; have GW175 := n3_; have GE175 := n4_; clear nq_; clear n0_ n1_ n2_ n3_ n4_; clear hb hbox hg; obtain ⟨hcz41_0, hcz41_1, hcz41_2, hcz41_3, hcz41_4⟩ := bc5 BK175.out; obtain ⟨hfz41_0, hfz41_1, hfz41_2, hfz41_3, hfz41_4⟩ := bf5 BK175.out) | ((with_reducible refine gate_callee (f := 11) rfl ?_); refine goesL_ (some 34) rfl rfl Try.func11 (by kernel_rfl) rfl #[.string t167] rfl (by (try simp only [List.map_toArray, List.map_cons, List.map_nil]); first | done | rfl | (simp only [List.length_drop, List.length_take]; rfl)) ?_; (with_reducible refine (flow_Get.calls t167 t176 t177 t178 t179 t180 t181 _ A5.out).mono ?_); rintro e w42 ⟨rfl, hb⟩; refine ⟨_, rfl, ?_⟩; have n0_ := mA (Kd.R_below (by (with_reducible repeat (first | apply Kd.R_alloc | apply Kd.R_drewN | apply Kd.R_drew)); exact (Kd.R_mono (Kd.R_far (p := ⟨gb175, 4, none⟩) (Kd.R_far (p := ⟨gb175, 3, none⟩) (Kd.R_far (p := ⟨gb175, 2, none⟩) (Kd.R_far (p := ⟨gb175, 1, none⟩) (Kd.R_far (p := ⟨gb175, 0, none⟩) (Kd.R_types HO164.out BK175.out (by decide)) (fun _ hk => hk.2) (.int .i64 t169)) (fun _ hk => hk.2) (.string t170)) (fun _ hk => hk.2) (.string t171)) (fun _ hk => hk.2) (.int .i64 t172)) (fun _ hk => hk.2) (.int .i64 t173)) (fun _ h_ => h_.1))) hb); have n1_ := mA (blk_below (g := gb175) (o := .cells #[.int .i64 t169, .string t170, .string t171, .int .i64 t172, .int .i64 t173] 24 (0, 0)) (by (with_reducible repeat (first | apply kN | apply kD | apply kA)); refine blk_put (cs := #[.int .i64 t169, .string t170, .string t171, .int .i64 t172, .int .i64 0]) ?_ 4 _ (by first | rfl | (simp [*]; done)); (with_reducible repeat (first | apply kN | apply kD | apply kA)); refine blk_put (cs := #[.int .i64 t169, .string t170, .string t171, .int .i64 0, .int .i64 0]) ?_ 3 _ (by first | rfl | (simp [*]; done)); (with_reducible repeat (first | apply kN | apply kD | apply kA)); refine blk_put (cs := #[.int .i64 t169, .string t170, .string (⟨#[]⟩ : ByteArray), .int .i64 0, .int .i64 0]) ?_ 2 _ (by first | rfl | (simp [*]; done)); (with_reducible repeat (first | apply kN | apply kD | apply kA)); refine blk_put (cs := #[.int .i64 t169, .string (⟨#[]⟩ : ByteArray), .string (⟨#[]⟩ : ByteArray), .int .i64 0, .int .i64 0]) ?_ 1 _ (by first | rfl | (simp [*]; done)); (with_reducible repeat (first | apply kN | apply kD | apply kA)); refine blk_put (cs := #[.int .i64 0, .string (⟨#[]⟩ : ByteArray), .string (⟨#[]⟩ : ByteArray), .int .i64 0, .int .i64 0]) ?_ 0 _ (by first | rfl | (simp [*]; done)); (with_reducible repeat (first | apply kN | apply kD | apply kA)); exact BK175.out) hb); have n2_ := mA (bP (by repeat (first | (with_reducible first | exact HB.out | apply bA | apply bN | apply bD | refine bS ?_ GE175.out) | exact HB.out)) hb); clear HO164; clear BK175; clear HB; have HO164 := n0_; have BK175 := n1_; have HB := n2_; clear n0_ n1_ n2_; (try clear hb); (try clear hb2); (try clear hk); (try clear hi)) | ((with_reducible refine gate_dst (N := 9) rfl ?_); refine box_event ?hg (N := 9) ?hd (cs := #[.int .i64 0, .string (⟨#[]⟩ : ByteArray), .string (⟨#[]⟩ : ByteArray), .int .i64 0, .int .i64 0]) (t := 24) ?hr ?_; (case hd => rfl); (case hg => rfl); (case hr => first | (go_simp; done) | (go_simp; rfl)); intro gb182 hg w43 hbox hb; have n0_ := mA (Kd.R_below (by (with_reducible repeat (first | apply Kd.R_alloc | apply Kd.R_drewN | apply Kd.R_drew)); exact HO164.out) hb); obtain ⟨n1_, nl175_⟩ := bt3 (g := gb175) (o := .cells #[.int .i64 t169, .string t170, .string t171, .int .i64 t172, .int .i64 t173] 24 (0, 0)) (by (with_reducible repeat (first | apply kN | apply kD | apply kA)); exact BK175.out) hb; obtain ⟨n2_, nq_⟩ := bpr (by repeat (first | (with_reducible first | exact HB.out | apply bA | apply bN | apply bD | refine bS ?_ GE175.out) | exact HB.out)) hb; have n3_ := mA (hbox); have n4_ := mA ((by rw [hg]; exact nq_ : w.heap.size ≤ gb182)); have n5_ := mA ((by rw [hg]; exact nq_ : w.heap.size ≤ gb182)); have n6_ := mA ((by rw [hg]; exact Nat.ne_of_lt nl175_ : gb175 ≠ gb182)); have n7_ := mA ((by rw [hg]; exact Nat.ne_of_gt nl175_ : gb182 ≠ gb175)); clear HO164; clear BK175; clear HB; have HO164 := n0_; have BK175 := n1_; have HB := n2_; have BK182 := n3_; have GW182 := n4_; have GE182 := n5_; have NB175_182 := n6_; have NB182_175 := n7_; clear nl175_; clear nq_; clear n0_ n1_ n2_ n3_ n4_ n5_ n6_ n7_; clear hb hbox hg; have hnb44 := NB182_175.out; have hnc44 := NB175_182.out; obtain ⟨hcz45_0, hcz45_1, hcz45_2, hcz45_3, hcz45_4⟩ := bc5 BK182.out; obtain ⟨hfz45_0, hfz45_1, hfz45_2, hfz45_3, hfz45_4⟩ := bf5 BK182.out; obtain ⟨hcz46_0, hcz46_1, hcz46_2, hcz46_3, hcz46_4⟩ := bc5 BK175.out; obtain ⟨hfz46_0, hfz46_1, hfz46_2, hfz46_3, hfz46_4⟩ := bf5 BK175.out))
   go_ret
   exact ⟨by first | rfl | (simp [errW_none, errW_some] <;> rfl) | (simp [*, errW_none, errW_some] <;> rfl), by repeat (first | (with_reducible first | exact HB.out | apply bA | apply bN | apply bD | refine bS ?_ GE175.out | refine bS ?_ GE182.out) | exact HB.out)⟩
 ·rw [if_neg c1] at H
  exact absurd H (by simp)

end Go.Proofs.Ytcmalglippmocaa.G
end
