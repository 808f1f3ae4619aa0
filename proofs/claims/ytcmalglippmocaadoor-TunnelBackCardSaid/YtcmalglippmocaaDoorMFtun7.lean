/- Texts of this session, joined: each is a section. -/
import Derived.Test.YtcmalglippmocaaDoorMFtun6
import Derived.Test.YtcmalglippmocaaDoorMFtun4
import Derived.Test.YtcmalglippmocaaDoorMFtun2
import Derived.WalkLawsBesides
import Derived.RegionTactic
import Derived.Deep.RegionWith
set_option linter.unusedVariables false
set_option linter.unusedSimpArgs false
section
namespace Go.Proofs.YtcmalglippmocaaDoor.G
open Go.RowKit Go.Proofs.YtcmalglippmocaaDoorW.PrintWords Go.Proofs.YtcmalglippmocaaDoorW.PrintLast Go.Proofs.YtcmalglippmocaaDoorW.PrintMore Go.Proofs.YtcmalglippmocaaDoor.Pal
def gx (s : ByteArray) : Int := ((be (bl (s.extract 0 2)) : Nat) : Int)
def gkd (s : ByteArray) : Int := ((be (bl (s.extract 2 4)) : Nat) : Int)
def gS (s : ByteArray) : Bool := Go.bits .and .i64 (gx s) 32768 != 0
def gK (s : ByteArray) : Bool := Go.bits .and .i64 (gx s) 8192 != 0
def gAt (s : ByteArray) : Nat := 4 + (if gS s then 4 else 0) + (if gK s then 4 else 0)
def gIn (s : ByteArray) : ByteArray := s.extract (gAt s) s.size
def gVal (s : ByteArray) : Int := if gK s then ((be (bl (s.extract (gAt s - 4) (gAt s))) : Nat) : Int) else 0
def greErr (s : ByteArray) : Int :=
  if s.size < 4 then 2 else if Go.bits .and .i64 (gx s) 7 ≠ 0 then 3 else if Go.bits .andNot .i64 (gx s) 40960 ≠ 0 then 9 else if s.size < gAt s then 2
  else if gS s = true ∧ be (bl (s.extract 6 8)) ≠ 0 then 9 else if gS s = true ∧ csum (bl s) ≠ 0 then 5 else if ¬ (gkd s == 2048 || gkd s == 34525) = true then 6
  else if (verOf (gIn s)).2.2.2 ≠ 0 then (verOf (gIn s)).2.2.2 else if (verOf (gIn s)).2.2.1 ≠ gkd s then 3 else 0
def gre_Get.f (s : ByteArray) : Option (Bool × Bool × Int × ByteArray × Int) :=
  if s.size ≤ 1099511627776 then some (if greErr s = 0 then (gS s, gK s, gVal s, gIn s, 0) else (false, false, 0, ⟨#[]⟩, greErr s)) else none
theorem panicOutG {P : Program} {fn : Func} {R : Ending → World → Prop} {ch : List PanicEntry} {a : Act} {w : World} (h : wpAny P .any #[] (fun _ a w => bodyPost P fn R (.panic ch) a w) 0 #[] a w) : bodyPost P fn R (.panic ch) a w := h.2
theorem rightG (t : ByteArray) (h : t.size ≤ 1099511627776) : sum_Right.f [t] = some (csum (bl t) == 0) := by
  unfold sum_Right.f sum_Sum.f
  rw [show cat [t] = bl t by rw [cat_cons, cat_nil, List.append_nil], if_pos (by rw [bl_length]; exact h), Option.bind_some]
  congr 1
  by_cases h0 : csum (bl t) = 0
  · rw [h0]; rfl
  · rw [beq_eq_false_iff_ne.mpr h0, beq_eq_false_iff_ne]; omega
def GG (k : Nat) (s : ByteArray) (w w1 : World) (n : Nat) (cs : Array Value) (x : ByteArray) : Prop :=
  Rd w1 (k + 5) s n ∧ Hp w1 [(k, 9, #[.string s]), (k + 1, 40, #[.bool false, .bool false, .int .u32 0]), (k + 2, 40, cs), (k + 3, 9, #[.string x]), (k + 4, 24, #[.int .i64 0])] ∧ Below k w w1 ∧ w.heap.size = k
section
variable {k : Nat} {s : ByteArray} {w w1 w2 : World} {n m : Nat} {cs : Array Value} {x : ByteArray}
theorem GG.went (h : GG k s w w1 n cs x) (hw : Went w1 w2 (k + 5) s m) : GG k s w w2 m cs x :=
  ⟨hw.2, h.2.1.grown hw.1 (by simp), h.2.2.1.trans (below_of_grown hw.1 (by have := h.1.1.lt; omega) (by omega)), h.2.2.2⟩
theorem GG.below (h : GG k s w w1 n cs x) (hb : Below w1.heap.size w1 w2) : GG k s w w2 n cs x :=
  ⟨h.1.below hb, h.2.1.below hb (by have := h.1.1.lt; simp; omega), h.2.2.1.trans (hb.mono (by have := h.1.1.lt; omega)), h.2.2.2⟩
theorem GG.drew (h : GG k s w w1 n cs x) : GG k s w w1.drew n cs x := ⟨h.1, h.2.1, h.2.2.1.drew, h.2.2.2⟩
theorem GG.drewN (h : GG k s w w1 n cs x) (q : Nat) : GG k s w (w1.drewN q) n cs x := ⟨h.1, h.2.1, pw_below_drewN h.2.2.1 q, h.2.2.2⟩
theorem GG.put (h : GG k s w w1 n cs x) (j : Nat) (v : Value) : GG k s w (w1.setCell ⟨k + 2, j, none⟩ v) n (cs.setIfInBounds j v) x :=
  ⟨⟨h.1.1.other _ (by simp) _, h.1.2⟩, h.2.1.set (l1 := [_, _]) (l2 := [_, _]) j v (by simp) (by simp), h.2.2.1.setCell (by simp) _, h.2.2.2⟩
theorem GG.inner (h : GG k s w w1 n cs x) (y : ByteArray) : GG k s w (w1.setCell ⟨k + 3, 0, none⟩ (.string y)) n cs y :=
  ⟨⟨h.1.1.other _ (by simp) _, h.1.2⟩, h.2.1.set (l1 := [_, _, _]) (l2 := [_]) 0 (.string y) (by simp) (by simp), h.2.2.1.setCell (by simp) _, h.2.2.2⟩
theorem GG.facts (h : GG k s w w1 n cs x) :
    w1.cell? ⟨k, 0, none⟩ = some (.string s) ∧ (∀ j, w1.frozen? ⟨k + 2, j, none⟩ = false) ∧ (∀ j, w1.cell? ⟨k + 2, j, none⟩ = cs[j]?) ∧ w1.cell? ⟨k + 3, 0, none⟩ = some (.string x) ∧ w1.frozen? ⟨k + 3, 0, none⟩ = false :=
  ⟨h.2.1.head.cell 0 _ rfl, h.2.1.tail.tail.head.frees, h.2.1.tail.tail.head.cells, h.2.1.tail.tail.tail.head.cell 0 _ rfl, h.2.1.tail.tail.tail.head.free 0⟩
theorem GG.gv (h : GG k s w w1 n cs x) (hV : GV w) : GV w1 := hV.below (by rw [h.2.2.2]; exact h.2.2.1)
end
set_option maxHeartbeats 8000000 in
set_option maxRecDepth 100000 in
theorem gre_Get1 (k : Nat) (s : ByteArray) (w w1 : World) (hs : s.size ≤ 1099511627776) (hV : GV w) (h : GG k s w w1 0 #[.bool false, .bool false, .int .u32 0] ⟨#[]⟩) :
    Calls Tryd.prog 64 #[.pointer (some ⟨k + 5, 0, none⟩), .pointer (some ⟨k, 0, none⟩), .pointer (some ⟨k + 2, 0, none⟩), .pointer (some ⟨k + 3, 0, none⟩)] w1 fun e w2 => e = did (greErr s) ∧
      ∃ n cs x, GG k s w w2 n cs x ∧ (greErr s = 0 → cs = #[.bool (gS s), .bool (gK s), .int .u32 (gVal s)] ∧ x = gIn s) := by
  have HG := Aside0.mk h
  have HV := Aside0.mk hV
  have HS := Aside0.mk hs
  obtain ⟨c0, c1, c2, c3, c4⟩ := h.facts
  clear c1 c2 c3 c4 h hV hs
  by_cases h4 : s.size < 4
  · as_aux_lemma =>
    have d1 : decide ((4 : Int) ≤ (s.size : Int)) = false := decide_eq_false (by omega)
    have d2 : decide (4 ≤ s.size) = false := decide_eq_false (by omega)
    have he : greErr s = 2 := if_pos h4
    have HE := Aside0.mk he
    clear h4 he
    go_enter Tryd.func64, Tryd.ntmps64
    go_wp2_with fail
    refine (Reader_Need.no _ _ _).mono ?_
    rintro e w2 ⟨rfl, rfl⟩
    exact ⟨rfl, by rw [HE.out]; rfl, _, _, _, HG.out, fun h0 => absurd (HE.out.symm.trans h0) (by decide)⟩
  have d1 : decide ((4 : Int) ≤ (s.size : Int)) = true := decide_eq_true (by omega)
  have d2 : decide (4 ≤ s.size) = true := decide_eq_true (by omega)
  have H4 := Aside0.mk h4
  clear h4
  go_enter Tryd.func64, Tryd.ntmps64
  go_wp2_with fail
  refine (Reader_Need.yes _ _ _).mono ?_
  rintro e w2 ⟨rfl, rfl⟩
  clear d1 d2 c0
  go_wp2_with fail
  refine (Reader_U16.yes _ _ _ _ HG.out.1 (by have := H4.out; omega)).mono ?_
  rintro e w2 ⟨rfl, g1⟩
  replace HG := Aside0.mk (HG.out.went g1)
  clear g1
  go_wp2_with fail
  refine (Reader_U16.yes _ _ _ _ HG.out.1 (by have := H4.out; omega)).mono ?_
  rintro e w3 ⟨rfl, g1⟩
  replace HG := Aside0.mk (HG.out.went g1)
  clear g1
  have HX := Aside0.mk (show ((be (bl (s.extract 0 2)) : Nat) : Int) = gx s from rfl)
  have HKD := Aside0.mk (show ((be (bl (s.extract 2 4)) : Nat) : Int) = gkd s from rfl)
  have HSS := Aside0.mk (show (Go.bits .and .i64 (gx s) 32768 != 0) = gS s from rfl)
  have HKK := Aside0.mk (show (Go.bits .and .i64 (gx s) 8192 != 0) = gK s from rfl)
  have e1 := HX.out
  have e2 := HKD.out
  rw [show (0 + 2 : Nat) = 2 from rfl, show (2 + 2 : Nat) = 4 from rfl] at *
  rw [e1, e2]
  clear e1 e2
  by_cases h7 : Go.bits .and .i64 (gx s) 7 = 0
  case neg =>
    as_aux_lemma =>
    have d1 : (Go.bits .and .i64 (gx s) 7 == 0) = false := beq_eq_false_iff_ne.mpr h7
    have HE := Aside0.mk (show greErr s = 3 by unfold greErr; rw [if_neg H4.out, if_pos h7])
    clear h7
    go_wp2_with fail
    refine (Reader_Need.no _ _ _).mono ?_
    rintro e w4 ⟨rfl, rfl⟩
    exact ⟨rfl, by rw [HE.out]; rfl, _, _, _, HG.out, fun h0 => absurd (HE.out.symm.trans h0) (by decide)⟩
  have d1 : (Go.bits .and .i64 (gx s) 7 == 0) = true := beq_iff_eq.mpr h7
  have H7 := Aside0.mk (show ¬ Go.bits .and .i64 (gx s) 7 ≠ 0 from fun h => h h7)
  clear h7
  go_wp2_with fail
  refine (Reader_Need.yes _ _ _).mono ?_
  rintro e w4 ⟨rfl, rfl⟩
  clear d1
  as_aux_lemma =>
  by_cases hA : Go.bits .andNot .i64 (gx s) 40960 = 0
  case neg =>
    as_aux_lemma =>
    have d1 : (Go.bits .andNot .i64 (gx s) 40960 == 0) = false := beq_eq_false_iff_ne.mpr hA
    have HE := Aside0.mk (show greErr s = 9 by unfold greErr; rw [if_neg H4.out, if_neg H7.out, if_pos hA])
    clear hA
    go_wp2_with fail
    refine (Reader_Need.no _ _ _).mono ?_
    rintro e w5 ⟨rfl, rfl⟩
    exact ⟨rfl, by rw [HE.out]; rfl, _, _, _, HG.out, fun h0 => absurd (HE.out.symm.trans h0) (by decide)⟩
  have d1 : (Go.bits .andNot .i64 (gx s) 40960 == 0) = true := beq_iff_eq.mpr hA
  have HA := Aside0.mk (show ¬ Go.bits .andNot .i64 (gx s) 40960 ≠ 0 from fun h => h hA)
  clear hA
  go_wp2_with fail
  refine (Reader_Need.yes _ _ _).mono ?_
  rintro e w5 ⟨rfl, rfl⟩
  clear d1
  have e1 := HSS.out
  have e2 := HKK.out
  obtain ⟨c0, c1, c2, c3, c4⟩ := HG.out.facts
  clear c3 c4
  go_upto_region 5 with (fail)
  clear c0 c1 c2
  have HW := Aside0.mk ((HG.out.put 0 (.bool (gS s))).put 1 (.bool (gK s)))
  simp only [List.setIfInBounds_toArray, List.set_cons_zero, List.set_cons_succ] at HW
  generalize (w5.setCell ⟨k + 2, 0, none⟩ (.bool (gS s))).setCell ⟨k + 2, 1, none⟩ (.bool (gK s)) = wa at HW ⊢
  clear HG e1 e2 HSS HKK HX HKD
  have HG := HW
  clear HW
  as_aux_lemma =>
  have hz : gre_Size.f (gS s) (gK s) 0 = some ((gAt s : Nat) : Int) := by unfold gre_Size.f gAt; cases gS s <;> cases gK s <;> rfl
  have HZ := Aside0.mk hz
  clear hz
  obtain ⟨c0, c1, c2, c3, c4⟩ := HG.out.facts
  clear c1 c3 c4
  by_cases hm : s.size < gAt s
  · as_aux_lemma =>
    have d1 : decide (((gAt s : Nat) : Int) ≤ (s.size : Int)) = false := decide_eq_false (by omega)
    have d2 : decide (gAt s ≤ s.size) = false := decide_eq_false (by omega)
    have HE := Aside0.mk (show greErr s = 2 by unfold greErr; rw [if_neg H4.out, if_neg H7.out, if_neg HA.out, if_pos hm])
    clear hm
    go_region_with ((first
      | (go_at_call 33; refine (gre_Size.calls (gS s) (gK s) 0 _ _ HZ.out).mono ?_; rintro e w6 ⟨rfl, hb⟩; have HG6 := Aside0.mk (show GG k s w w6 4 #[.bool (gS s), .bool (gK s), .int .u32 0] ⟨#[]⟩ from by first | exact HG.out.drew.below hb | exact HG.out.below hb | exact (HG.out.drewN _).below hb); have c6 := HG6.out.facts.1; clear hb)
      | (go_at_call 65; refine (Reader_Need.no _ _ _).mono ?_; rintro e w7 ⟨rfl, rfl⟩; refine panicOutG ?_)))
    all_goals exact ⟨rfl, by rw [HE.out]; rfl, _, _, _, by first | exact HG6.out | exact HG6.out.drew | exact HG6.out.drewN _, fun h0 => absurd (HE.out.symm.trans h0) (by decide)⟩
  have d1 : decide (((gAt s : Nat) : Int) ≤ (s.size : Int)) = true := decide_eq_true (by omega)
  have d2 : decide (gAt s ≤ s.size) = true := decide_eq_true (by omega)
  have HM := Aside0.mk hm
  clear hm
  go_cut [36] from 36 to 42 (fun v36 wc => Aside0 (GG k s w wc 4 #[.bool (gS s), .bool (gK s), .int .u32 0] ⟨#[]⟩))
  case first =>
    as_aux_lemma =>
    go_region_with ((first
        | (go_at_call 33; refine (gre_Size.calls (gS s) (gK s) 0 _ _ HZ.out).mono ?_; rintro e w6 ⟨rfl, hb⟩; have HG6 := Aside0.mk (show GG k s w w6 4 #[.bool (gS s), .bool (gK s), .int .u32 0] ⟨#[]⟩ from by first | exact HG.out.drew.below hb | exact HG.out.below hb | exact (HG.out.drewN _).below hb); have c6 := HG6.out.facts.1; clear hb)
        | (go_at_call 65; refine (Reader_Need.yes _ _ _).mono ?_; rintro e w7 ⟨rfl, rfl⟩)))
    all_goals
      go_wp2_with fail
      go_meet
      case rel => first | exact HG6 | exact ⟨HG6.out.drew⟩ | exact ⟨HG6.out.drewN _⟩
  case rest =>
  as_aux_lemma =>
  clear c0 c2 d1 d2 HG
  have HG := hcut
  clear hcut
  have HM2 := Aside0.mk (show gAt s ≤ s.size by have := HM.out; omega)
  cases hS : gS s <;> cases hK : gK s
  · as_aux_lemma =>
      rw [hS, hK] at HG
      have HN := Aside0.mk (show gAt s = 4 by unfold gAt; rw [hS, hK]; rfl)
      have HF := Aside0.mk (And.intro hS hK)
      have HN2 := Aside0.mk (show 4 ≤ s.size by have := HM2.out; have := HN.out; omega)
      clear hS hK
      obtain ⟨c0, c1, c2, c3, c4⟩ := HG.out.facts
      clear c0 c1 c3 c4
      have H9 := Aside0.mk (show ¬ (gS s = true ∧ be (bl (s.extract 6 8)) ≠ 0) from fun h => by rw [HF.out.1] at h; exact absurd h.1 (by decide))
      have H5 := Aside0.mk (show ¬ (gS s = true ∧ csum (bl s) ≠ 0) from fun h => by rw [HF.out.1] at h; exact absurd h.1 (by decide))
      go_wp2_with fail
      refine (gre_known.calls (gkd s) _ _ rfl (HG.out.gv HV.out)).mono ?_
      rintro e w12a ⟨rfl, g1⟩
      replace HG := Aside0.mk (HG.out.below g1)
      clear g1 c2
      cases h6 : (gkd s == 2048 || gkd s == 34525) with
      | false =>
        have HE := Aside0.mk (show greErr s = 6 by unfold greErr; rw [if_neg H4.out, if_neg H7.out, if_neg HA.out, if_neg HM.out, if_neg H9.out, if_neg H5.out, h6, if_pos (by decide)])
        clear h6
        go_wp2_with fail
        refine (Reader_Need.no _ _ _).mono ?_
        rintro e w12b ⟨rfl, rfl⟩
        exact ⟨rfl, by rw [HE.out]; rfl, _, _, _, HG.out, fun h0 => absurd (HE.out.symm.trans h0) (by decide)⟩
      | true =>
      have H6 := Aside0.mk (show ¬ ¬ (gkd s == 2048 || gkd s == 34525) = true from fun h => h h6)
      clear h6
      go_wp2_with fail
      refine (Reader_Need.yes _ _ _).mono ?_
      rintro e w12b ⟨rfl, rfl⟩
      go_wp2_with fail
      refine (Reader_Rest.calls _ _ _ _ HG.out.1).mono ?_
      rintro e w12 ⟨rfl, g1⟩
      replace HG := Aside0.mk (HG.out.went g1)
      clear g1
      rw [show s.extract 4 s.size = gIn s by unfold gIn; rw [HN.out]]
      obtain ⟨c0, c1, c2, c3, c4⟩ := HG.out.facts
      clear c0 c1 c2
      go_upto_region 14 with (fail)
      clear c3 c4
      replace HG := Aside0.mk (HG.out.inner (gIn s))
      generalize w12.setCell ⟨k + 3, 0, none⟩ (.string (gIn s)) = w13 at HG ⊢
      obtain ⟨c0, c1, c2, c3, c4⟩ := HG.out.facts
      clear c0 c1 c2 c4
      go_wp2_with fail
      refine (ipip_Kind.calls _ (verOf (gIn s)).2.2.1 (verOf (gIn s)).2.2.2 _ rfl (HG.out.gv HV.out)).mono ?_
      rintro e w14 ⟨rfl, g1⟩
      replace HG := Aside0.mk (HG.out.below g1)
      clear g1 c3
      generalize hq : (verOf (gIn s)).2.2.1 = q
      generalize hp : (verOf (gIn s)).2.2.2 = p
      have HQ := Aside0.mk (And.intro hq hp)
      clear hq hp
      by_cases he : p = 0
      case neg =>
        have HE := Aside0.mk (show greErr s = p by unfold greErr; rw [if_neg H4.out, if_neg H7.out, if_neg HA.out, if_neg HM.out, if_neg H9.out, if_neg H5.out, if_neg H6.out, HQ.out.2, if_pos he])
        have HP := Aside0.mk he
        clear he
        go_wp2_with fail
        refine (gre_fail.no _ _ HP.out _).mono ?_
        rintro e w15 ⟨rfl, rfl⟩
        exact ⟨rfl, by rw [HE.out]; exact (if_neg HP.out).symm, _, _, _, HG.out, fun h0 => absurd (HE.out.symm.trans h0) HP.out⟩
      subst he
      go_wp2_with fail
      refine (gre_fail.yes _ _).mono ?_
      rintro e w15 ⟨rfl, rfl⟩
      by_cases hk : q = gkd s
      case neg =>
        have d1 : (q == gkd s) = false := beq_eq_false_iff_ne.mpr hk
        have HE := Aside0.mk (show greErr s = 3 by unfold greErr; rw [if_neg H4.out, if_neg H7.out, if_neg HA.out, if_neg HM.out, if_neg H9.out, if_neg H5.out, if_neg H6.out, HQ.out.2, if_neg (by decide), HQ.out.1, if_pos hk])
        clear hk
        go_wp2_with fail
        refine (Reader_Need.no _ _ _).mono ?_
        rintro e w16 ⟨rfl, rfl⟩
        exact ⟨rfl, by rw [HE.out]; rfl, _, _, _, HG.out, fun h0 => absurd (HE.out.symm.trans h0) (by decide)⟩
      have d1 : (q == gkd s) = true := beq_iff_eq.mpr hk
      have HE := Aside0.mk (show greErr s = 0 by unfold greErr; rw [if_neg H4.out, if_neg H7.out, if_neg HA.out, if_neg HM.out, if_neg H9.out, if_neg H5.out, if_neg H6.out, HQ.out.2, if_neg (by decide), HQ.out.1, if_neg (fun h => h hk)])
      clear hk
      go_wp2_with fail
      refine (Reader_Need.yes _ _ _).mono ?_
      rintro e w16 ⟨rfl, rfl⟩
      go_wp2
      go_end0
      exact ⟨by rw [HE.out]; rfl, _, _, _, HG.out, fun _ => ⟨by rw [HF.out.1, HF.out.2]; unfold gVal; rw [HF.out.2]; rfl, rfl⟩⟩
  · as_aux_lemma =>
      rw [hS, hK] at HG
      have HN := Aside0.mk (show gAt s = 8 by unfold gAt; rw [hS, hK]; rfl)
      have HF := Aside0.mk (And.intro hS hK)
      have HN2 := Aside0.mk (show 8 ≤ s.size by have := HM2.out; have := HN.out; omega)
      clear hS hK
      obtain ⟨c0, c1, c2, c3, c4⟩ := HG.out.facts
      clear c0 c1 c3 c4
      have H9 := Aside0.mk (show ¬ (gS s = true ∧ be (bl (s.extract 6 8)) ≠ 0) from fun h => by rw [HF.out.1] at h; exact absurd h.1 (by decide))
      have H5 := Aside0.mk (show ¬ (gS s = true ∧ csum (bl s) ≠ 0) from fun h => by rw [HF.out.1] at h; exact absurd h.1 (by decide))
      go_wp2_with fail
      refine (Reader_U32.yes _ _ _ _ HG.out.1 (by have := HN2.out; omega)).mono ?_
      rintro e w11 ⟨rfl, g1⟩
      replace HG := Aside0.mk (HG.out.went g1)
      clear g1 c2
      obtain ⟨c0, c1, c2, c3, c4⟩ := HG.out.facts
      clear c0 c3 c4
      rw [show s.extract 4 (4 + 4) = s.extract (gAt s - 4) (gAt s) by rw [HN.out]]
      go_upto_region 12 with (fail)
      clear c1 c2
      replace HG := Aside0.mk (HG.out.put 2 (.int .u32 (be (bl (s.extract (gAt s - 4) (gAt s))) : Nat)))
      simp only [List.setIfInBounds_toArray, List.set_cons_zero, List.set_cons_succ] at HG
      generalize w11.setCell ⟨k + 2, 2, none⟩ (.int .u32 (be (bl (s.extract (gAt s - 4) (gAt s))) : Nat)) = w11b at HG ⊢
      go_wp2_with fail
      refine (gre_known.calls (gkd s) _ _ rfl (HG.out.gv HV.out)).mono ?_
      rintro e w12a ⟨rfl, g1⟩
      replace HG := Aside0.mk (HG.out.below g1)
      clear g1 
      cases h6 : (gkd s == 2048 || gkd s == 34525) with
      | false =>
        have HE := Aside0.mk (show greErr s = 6 by unfold greErr; rw [if_neg H4.out, if_neg H7.out, if_neg HA.out, if_neg HM.out, if_neg H9.out, if_neg H5.out, h6, if_pos (by decide)])
        clear h6
        go_wp2_with fail
        refine (Reader_Need.no _ _ _).mono ?_
        rintro e w12b ⟨rfl, rfl⟩
        exact ⟨rfl, by rw [HE.out]; rfl, _, _, _, HG.out, fun h0 => absurd (HE.out.symm.trans h0) (by decide)⟩
      | true =>
      have H6 := Aside0.mk (show ¬ ¬ (gkd s == 2048 || gkd s == 34525) = true from fun h => h h6)
      clear h6
      go_wp2_with fail
      refine (Reader_Need.yes _ _ _).mono ?_
      rintro e w12b ⟨rfl, rfl⟩
      go_wp2_with fail
      refine (Reader_Rest.calls _ _ _ _ HG.out.1).mono ?_
      rintro e w12 ⟨rfl, g1⟩
      replace HG := Aside0.mk (HG.out.went g1)
      clear g1
      rw [show s.extract 8 s.size = gIn s by unfold gIn; rw [HN.out]]
      obtain ⟨c0, c1, c2, c3, c4⟩ := HG.out.facts
      clear c0 c1 c2
      go_upto_region 14 with (fail)
      clear c3 c4
      replace HG := Aside0.mk (HG.out.inner (gIn s))
      generalize w12.setCell ⟨k + 3, 0, none⟩ (.string (gIn s)) = w13 at HG ⊢
      obtain ⟨c0, c1, c2, c3, c4⟩ := HG.out.facts
      clear c0 c1 c2 c4
      go_wp2_with fail
      refine (ipip_Kind.calls _ (verOf (gIn s)).2.2.1 (verOf (gIn s)).2.2.2 _ rfl (HG.out.gv HV.out)).mono ?_
      rintro e w14 ⟨rfl, g1⟩
      replace HG := Aside0.mk (HG.out.below g1)
      clear g1 c3
      generalize hq : (verOf (gIn s)).2.2.1 = q
      generalize hp : (verOf (gIn s)).2.2.2 = p
      have HQ := Aside0.mk (And.intro hq hp)
      clear hq hp
      by_cases he : p = 0
      case neg =>
        have HE := Aside0.mk (show greErr s = p by unfold greErr; rw [if_neg H4.out, if_neg H7.out, if_neg HA.out, if_neg HM.out, if_neg H9.out, if_neg H5.out, if_neg H6.out, HQ.out.2, if_pos he])
        have HP := Aside0.mk he
        clear he
        go_wp2_with fail
        refine (gre_fail.no _ _ HP.out _).mono ?_
        rintro e w15 ⟨rfl, rfl⟩
        exact ⟨rfl, by rw [HE.out]; exact (if_neg HP.out).symm, _, _, _, HG.out, fun h0 => absurd (HE.out.symm.trans h0) HP.out⟩
      subst he
      go_wp2_with fail
      refine (gre_fail.yes _ _).mono ?_
      rintro e w15 ⟨rfl, rfl⟩
      by_cases hk : q = gkd s
      case neg =>
        have d1 : (q == gkd s) = false := beq_eq_false_iff_ne.mpr hk
        have HE := Aside0.mk (show greErr s = 3 by unfold greErr; rw [if_neg H4.out, if_neg H7.out, if_neg HA.out, if_neg HM.out, if_neg H9.out, if_neg H5.out, if_neg H6.out, HQ.out.2, if_neg (by decide), HQ.out.1, if_pos hk])
        clear hk
        go_wp2_with fail
        refine (Reader_Need.no _ _ _).mono ?_
        rintro e w16 ⟨rfl, rfl⟩
        exact ⟨rfl, by rw [HE.out]; rfl, _, _, _, HG.out, fun h0 => absurd (HE.out.symm.trans h0) (by decide)⟩
      have d1 : (q == gkd s) = true := beq_iff_eq.mpr hk
      have HE := Aside0.mk (show greErr s = 0 by unfold greErr; rw [if_neg H4.out, if_neg H7.out, if_neg HA.out, if_neg HM.out, if_neg H9.out, if_neg H5.out, if_neg H6.out, HQ.out.2, if_neg (by decide), HQ.out.1, if_neg (fun h => h hk)])
      clear hk
      go_wp2_with fail
      refine (Reader_Need.yes _ _ _).mono ?_
      rintro e w16 ⟨rfl, rfl⟩
      go_wp2
      go_end0
      exact ⟨by rw [HE.out]; rfl, _, _, _, HG.out, fun _ => ⟨by rw [HF.out.1, HF.out.2]; unfold gVal; rw [HF.out.2]; rfl, rfl⟩⟩
  · as_aux_lemma =>
      rw [hS, hK] at HG
      have HN := Aside0.mk (show gAt s = 8 by unfold gAt; rw [hS, hK]; rfl)
      have HF := Aside0.mk (And.intro hS hK)
      have HN2 := Aside0.mk (show 8 ≤ s.size by have := HM2.out; have := HN.out; omega)
      clear hS hK
      obtain ⟨c0, c1, c2, c3, c4⟩ := HG.out.facts
      clear c0 c1 c3 c4
      go_wp2_with fail
      refine (Reader_U16.yes _ _ _ _ HG.out.1 (by have := HN2.out; omega)).mono ?_
      rintro e w6 ⟨rfl, g1⟩
      replace HG := Aside0.mk (HG.out.went g1)
      clear g1 c2
      go_wp2_with fail
      refine (Reader_U16.yes _ _ _ _ HG.out.1 (by have := HN2.out; omega)).mono ?_
      rintro e w7 ⟨rfl, g1⟩
      replace HG := Aside0.mk (HG.out.went g1)
      clear g1
      rw [show (4 + 2 : Nat) = 6 from rfl, show (6 + 2 : Nat) = 8 from rfl] at *
      by_cases h9 : be (bl (s.extract 6 8)) = 0
      case neg =>
        have d1 : (((be (bl (s.extract 6 8)) : Nat) : Int) == 0) = false := by rw [beq_eq_false_iff_ne]; omega
        have d2 : (be (bl (s.extract 6 8)) == 0) = false := by rw [beq_eq_false_iff_ne]; exact h9
        have HE := Aside0.mk (show greErr s = 9 by unfold greErr; rw [if_neg H4.out, if_neg H7.out, if_neg HA.out, if_neg HM.out, if_pos ⟨HF.out.1, h9⟩])
        have HH := Aside0.mk h9
        clear h9
        go_wp2_with fail
        refine (Reader_Need.no _ _ _).mono ?_
        rintro e w8 ⟨rfl, rfl⟩
        exact ⟨rfl, by rw [HE.out]; rfl, _, _, _, HG.out, fun h0 => absurd (HE.out.symm.trans h0) (by decide)⟩
      have H9 := Aside0.mk (show ¬ (gS s = true ∧ be (bl (s.extract 6 8)) ≠ 0) from fun h => h.2 h9)
      rw [h9]
      clear h9
      go_wp2_with fail
      refine (Reader_Need.yes _ _ _).mono ?_
      rintro e w8 ⟨rfl, rfl⟩
      obtain ⟨c0, c1, c2, c3, c4⟩ := HG.out.facts
      clear c1 c2 c3 c4
      go_wp2_with fail
      refine (sum_Right.calls _ _ [s] (csum (bl s) == 0) _ (C_one _ _ _) (by simp) (rightG _ HS.out)).mono ?_
      rintro e w9 ⟨rfl, g1⟩
      replace HG := Aside0.mk (HG.out.below (((Below.refl _ _).alloc (Nat.le_refl _) _).trans (g1.mono (by simp))))
      clear g1 c0
      by_cases h5 : csum (bl s) = 0
      case neg =>
        have z1 : (csum (bl s) == 0) = false := by rw [beq_eq_false_iff_ne]; exact h5
        have HE := Aside0.mk (show greErr s = 5 by unfold greErr; rw [if_neg H4.out, if_neg H7.out, if_neg HA.out, if_neg HM.out, if_neg H9.out, if_pos ⟨HF.out.1, h5⟩])
        rw [z1]
        clear h5 z1
        go_wp2_with fail
        refine (Reader_Need.no _ _ _).mono ?_
        rintro e w10 ⟨rfl, rfl⟩
        exact ⟨rfl, by rw [HE.out]; rfl, _, _, _, HG.out, fun h0 => absurd (HE.out.symm.trans h0) (by decide)⟩
      have z1 : (csum (bl s) == 0) = true := by rw [beq_iff_eq]; exact h5
      have H5 := Aside0.mk (show ¬ (gS s = true ∧ csum (bl s) ≠ 0) from fun h => h.2 h5)
      rw [z1]
      clear h5 z1
      go_wp2_with fail
      refine (Reader_Need.yes _ _ _).mono ?_
      rintro e w10 ⟨rfl, rfl⟩
      obtain ⟨c0, c1, c2, c3, c4⟩ := HG.out.facts
      clear c0 c1 c3 c4
      go_wp2_with fail
      refine (gre_known.calls (gkd s) _ _ rfl (HG.out.gv HV.out)).mono ?_
      rintro e w12a ⟨rfl, g1⟩
      replace HG := Aside0.mk (HG.out.below g1)
      clear g1 c2
      cases h6 : (gkd s == 2048 || gkd s == 34525) with
      | false =>
        have HE := Aside0.mk (show greErr s = 6 by unfold greErr; rw [if_neg H4.out, if_neg H7.out, if_neg HA.out, if_neg HM.out, if_neg H9.out, if_neg H5.out, h6, if_pos (by decide)])
        clear h6
        go_wp2_with fail
        refine (Reader_Need.no _ _ _).mono ?_
        rintro e w12b ⟨rfl, rfl⟩
        exact ⟨rfl, by rw [HE.out]; rfl, _, _, _, HG.out, fun h0 => absurd (HE.out.symm.trans h0) (by decide)⟩
      | true =>
      have H6 := Aside0.mk (show ¬ ¬ (gkd s == 2048 || gkd s == 34525) = true from fun h => h h6)
      clear h6
      go_wp2_with fail
      refine (Reader_Need.yes _ _ _).mono ?_
      rintro e w12b ⟨rfl, rfl⟩
      go_wp2_with fail
      refine (Reader_Rest.calls _ _ _ _ HG.out.1).mono ?_
      rintro e w12 ⟨rfl, g1⟩
      replace HG := Aside0.mk (HG.out.went g1)
      clear g1
      rw [show s.extract 8 s.size = gIn s by unfold gIn; rw [HN.out]]
      obtain ⟨c0, c1, c2, c3, c4⟩ := HG.out.facts
      clear c0 c1 c2
      go_upto_region 14 with (fail)
      clear c3 c4
      replace HG := Aside0.mk (HG.out.inner (gIn s))
      generalize w12.setCell ⟨k + 3, 0, none⟩ (.string (gIn s)) = w13 at HG ⊢
      obtain ⟨c0, c1, c2, c3, c4⟩ := HG.out.facts
      clear c0 c1 c2 c4
      go_wp2_with fail
      refine (ipip_Kind.calls _ (verOf (gIn s)).2.2.1 (verOf (gIn s)).2.2.2 _ rfl (HG.out.gv HV.out)).mono ?_
      rintro e w14 ⟨rfl, g1⟩
      replace HG := Aside0.mk (HG.out.below g1)
      clear g1 c3
      generalize hq : (verOf (gIn s)).2.2.1 = q
      generalize hp : (verOf (gIn s)).2.2.2 = p
      have HQ := Aside0.mk (And.intro hq hp)
      clear hq hp
      by_cases he : p = 0
      case neg =>
        have HE := Aside0.mk (show greErr s = p by unfold greErr; rw [if_neg H4.out, if_neg H7.out, if_neg HA.out, if_neg HM.out, if_neg H9.out, if_neg H5.out, if_neg H6.out, HQ.out.2, if_pos he])
        have HP := Aside0.mk he
        clear he
        go_wp2_with fail
        refine (gre_fail.no _ _ HP.out _).mono ?_
        rintro e w15 ⟨rfl, rfl⟩
        exact ⟨rfl, by rw [HE.out]; exact (if_neg HP.out).symm, _, _, _, HG.out, fun h0 => absurd (HE.out.symm.trans h0) HP.out⟩
      subst he
      go_wp2_with fail
      refine (gre_fail.yes _ _).mono ?_
      rintro e w15 ⟨rfl, rfl⟩
      by_cases hk : q = gkd s
      case neg =>
        have d1 : (q == gkd s) = false := beq_eq_false_iff_ne.mpr hk
        have HE := Aside0.mk (show greErr s = 3 by unfold greErr; rw [if_neg H4.out, if_neg H7.out, if_neg HA.out, if_neg HM.out, if_neg H9.out, if_neg H5.out, if_neg H6.out, HQ.out.2, if_neg (by decide), HQ.out.1, if_pos hk])
        clear hk
        go_wp2_with fail
        refine (Reader_Need.no _ _ _).mono ?_
        rintro e w16 ⟨rfl, rfl⟩
        exact ⟨rfl, by rw [HE.out]; rfl, _, _, _, HG.out, fun h0 => absurd (HE.out.symm.trans h0) (by decide)⟩
      have d1 : (q == gkd s) = true := beq_iff_eq.mpr hk
      have HE := Aside0.mk (show greErr s = 0 by unfold greErr; rw [if_neg H4.out, if_neg H7.out, if_neg HA.out, if_neg HM.out, if_neg H9.out, if_neg H5.out, if_neg H6.out, HQ.out.2, if_neg (by decide), HQ.out.1, if_neg (fun h => h hk)])
      clear hk
      go_wp2_with fail
      refine (Reader_Need.yes _ _ _).mono ?_
      rintro e w16 ⟨rfl, rfl⟩
      go_wp2
      go_end0
      exact ⟨by rw [HE.out]; rfl, _, _, _, HG.out, fun _ => ⟨by rw [HF.out.1, HF.out.2]; unfold gVal; rw [HF.out.2]; rfl, rfl⟩⟩
  · as_aux_lemma =>
      rw [hS, hK] at HG
      have HN := Aside0.mk (show gAt s = 12 by unfold gAt; rw [hS, hK]; rfl)
      have HF := Aside0.mk (And.intro hS hK)
      have HN2 := Aside0.mk (show 12 ≤ s.size by have := HM2.out; have := HN.out; omega)
      clear hS hK
      obtain ⟨c0, c1, c2, c3, c4⟩ := HG.out.facts
      clear c0 c1 c3 c4
      go_wp2_with fail
      refine (Reader_U16.yes _ _ _ _ HG.out.1 (by have := HN2.out; omega)).mono ?_
      rintro e w6 ⟨rfl, g1⟩
      replace HG := Aside0.mk (HG.out.went g1)
      clear g1 c2
      go_wp2_with fail
      refine (Reader_U16.yes _ _ _ _ HG.out.1 (by have := HN2.out; omega)).mono ?_
      rintro e w7 ⟨rfl, g1⟩
      replace HG := Aside0.mk (HG.out.went g1)
      clear g1
      rw [show (4 + 2 : Nat) = 6 from rfl, show (6 + 2 : Nat) = 8 from rfl] at *
      by_cases h9 : be (bl (s.extract 6 8)) = 0
      case neg =>
        have d1 : (((be (bl (s.extract 6 8)) : Nat) : Int) == 0) = false := by rw [beq_eq_false_iff_ne]; omega
        have d2 : (be (bl (s.extract 6 8)) == 0) = false := by rw [beq_eq_false_iff_ne]; exact h9
        have HE := Aside0.mk (show greErr s = 9 by unfold greErr; rw [if_neg H4.out, if_neg H7.out, if_neg HA.out, if_neg HM.out, if_pos ⟨HF.out.1, h9⟩])
        have HH := Aside0.mk h9
        clear h9
        go_wp2_with fail
        refine (Reader_Need.no _ _ _).mono ?_
        rintro e w8 ⟨rfl, rfl⟩
        exact ⟨rfl, by rw [HE.out]; rfl, _, _, _, HG.out, fun h0 => absurd (HE.out.symm.trans h0) (by decide)⟩
      have H9 := Aside0.mk (show ¬ (gS s = true ∧ be (bl (s.extract 6 8)) ≠ 0) from fun h => h.2 h9)
      rw [h9]
      clear h9
      go_wp2_with fail
      refine (Reader_Need.yes _ _ _).mono ?_
      rintro e w8 ⟨rfl, rfl⟩
      obtain ⟨c0, c1, c2, c3, c4⟩ := HG.out.facts
      clear c1 c2 c3 c4
      go_wp2_with fail
      refine (sum_Right.calls _ _ [s] (csum (bl s) == 0) _ (C_one _ _ _) (by simp) (rightG _ HS.out)).mono ?_
      rintro e w9 ⟨rfl, g1⟩
      replace HG := Aside0.mk (HG.out.below (((Below.refl _ _).alloc (Nat.le_refl _) _).trans (g1.mono (by simp))))
      clear g1 c0
      by_cases h5 : csum (bl s) = 0
      case neg =>
        have z1 : (csum (bl s) == 0) = false := by rw [beq_eq_false_iff_ne]; exact h5
        have HE := Aside0.mk (show greErr s = 5 by unfold greErr; rw [if_neg H4.out, if_neg H7.out, if_neg HA.out, if_neg HM.out, if_neg H9.out, if_pos ⟨HF.out.1, h5⟩])
        rw [z1]
        clear h5 z1
        go_wp2_with fail
        refine (Reader_Need.no _ _ _).mono ?_
        rintro e w10 ⟨rfl, rfl⟩
        exact ⟨rfl, by rw [HE.out]; rfl, _, _, _, HG.out, fun h0 => absurd (HE.out.symm.trans h0) (by decide)⟩
      have z1 : (csum (bl s) == 0) = true := by rw [beq_iff_eq]; exact h5
      have H5 := Aside0.mk (show ¬ (gS s = true ∧ csum (bl s) ≠ 0) from fun h => h.2 h5)
      rw [z1]
      clear h5 z1
      go_wp2_with fail
      refine (Reader_Need.yes _ _ _).mono ?_
      rintro e w10 ⟨rfl, rfl⟩
      obtain ⟨c0, c1, c2, c3, c4⟩ := HG.out.facts
      clear c0 c1 c3 c4
      go_wp2_with fail
      refine (Reader_U32.yes _ _ _ _ HG.out.1 (by have := HN2.out; omega)).mono ?_
      rintro e w11 ⟨rfl, g1⟩
      replace HG := Aside0.mk (HG.out.went g1)
      clear g1 c2
      obtain ⟨c0, c1, c2, c3, c4⟩ := HG.out.facts
      clear c0 c3 c4
      rw [show s.extract 8 (8 + 4) = s.extract (gAt s - 4) (gAt s) by rw [HN.out]]
      go_upto_region 12 with (fail)
      clear c1 c2
      replace HG := Aside0.mk (HG.out.put 2 (.int .u32 (be (bl (s.extract (gAt s - 4) (gAt s))) : Nat)))
      simp only [List.setIfInBounds_toArray, List.set_cons_zero, List.set_cons_succ] at HG
      generalize w11.setCell ⟨k + 2, 2, none⟩ (.int .u32 (be (bl (s.extract (gAt s - 4) (gAt s))) : Nat)) = w11b at HG ⊢
      go_wp2_with fail
      refine (gre_known.calls (gkd s) _ _ rfl (HG.out.gv HV.out)).mono ?_
      rintro e w12a ⟨rfl, g1⟩
      replace HG := Aside0.mk (HG.out.below g1)
      clear g1 
      cases h6 : (gkd s == 2048 || gkd s == 34525) with
      | false =>
        have HE := Aside0.mk (show greErr s = 6 by unfold greErr; rw [if_neg H4.out, if_neg H7.out, if_neg HA.out, if_neg HM.out, if_neg H9.out, if_neg H5.out, h6, if_pos (by decide)])
        clear h6
        go_wp2_with fail
        refine (Reader_Need.no _ _ _).mono ?_
        rintro e w12b ⟨rfl, rfl⟩
        exact ⟨rfl, by rw [HE.out]; rfl, _, _, _, HG.out, fun h0 => absurd (HE.out.symm.trans h0) (by decide)⟩
      | true =>
      have H6 := Aside0.mk (show ¬ ¬ (gkd s == 2048 || gkd s == 34525) = true from fun h => h h6)
      clear h6
      go_wp2_with fail
      refine (Reader_Need.yes _ _ _).mono ?_
      rintro e w12b ⟨rfl, rfl⟩
      go_wp2_with fail
      refine (Reader_Rest.calls _ _ _ _ HG.out.1).mono ?_
      rintro e w12 ⟨rfl, g1⟩
      replace HG := Aside0.mk (HG.out.went g1)
      clear g1
      rw [show s.extract 12 s.size = gIn s by unfold gIn; rw [HN.out]]
      obtain ⟨c0, c1, c2, c3, c4⟩ := HG.out.facts
      clear c0 c1 c2
      go_upto_region 14 with (fail)
      clear c3 c4
      replace HG := Aside0.mk (HG.out.inner (gIn s))
      generalize w12.setCell ⟨k + 3, 0, none⟩ (.string (gIn s)) = w13 at HG ⊢
      obtain ⟨c0, c1, c2, c3, c4⟩ := HG.out.facts
      clear c0 c1 c2 c4
      go_wp2_with fail
      refine (ipip_Kind.calls _ (verOf (gIn s)).2.2.1 (verOf (gIn s)).2.2.2 _ rfl (HG.out.gv HV.out)).mono ?_
      rintro e w14 ⟨rfl, g1⟩
      replace HG := Aside0.mk (HG.out.below g1)
      clear g1 c3
      generalize hq : (verOf (gIn s)).2.2.1 = q
      generalize hp : (verOf (gIn s)).2.2.2 = p
      have HQ := Aside0.mk (And.intro hq hp)
      clear hq hp
      by_cases he : p = 0
      case neg =>
        have HE := Aside0.mk (show greErr s = p by unfold greErr; rw [if_neg H4.out, if_neg H7.out, if_neg HA.out, if_neg HM.out, if_neg H9.out, if_neg H5.out, if_neg H6.out, HQ.out.2, if_pos he])
        have HP := Aside0.mk he
        clear he
        go_wp2_with fail
        refine (gre_fail.no _ _ HP.out _).mono ?_
        rintro e w15 ⟨rfl, rfl⟩
        exact ⟨rfl, by rw [HE.out]; exact (if_neg HP.out).symm, _, _, _, HG.out, fun h0 => absurd (HE.out.symm.trans h0) HP.out⟩
      subst he
      go_wp2_with fail
      refine (gre_fail.yes _ _).mono ?_
      rintro e w15 ⟨rfl, rfl⟩
      by_cases hk : q = gkd s
      case neg =>
        have d1 : (q == gkd s) = false := beq_eq_false_iff_ne.mpr hk
        have HE := Aside0.mk (show greErr s = 3 by unfold greErr; rw [if_neg H4.out, if_neg H7.out, if_neg HA.out, if_neg HM.out, if_neg H9.out, if_neg H5.out, if_neg H6.out, HQ.out.2, if_neg (by decide), HQ.out.1, if_pos hk])
        clear hk
        go_wp2_with fail
        refine (Reader_Need.no _ _ _).mono ?_
        rintro e w16 ⟨rfl, rfl⟩
        exact ⟨rfl, by rw [HE.out]; rfl, _, _, _, HG.out, fun h0 => absurd (HE.out.symm.trans h0) (by decide)⟩
      have d1 : (q == gkd s) = true := beq_iff_eq.mpr hk
      have HE := Aside0.mk (show greErr s = 0 by unfold greErr; rw [if_neg H4.out, if_neg H7.out, if_neg HA.out, if_neg HM.out, if_neg H9.out, if_neg H5.out, if_neg H6.out, HQ.out.2, if_neg (by decide), HQ.out.1, if_neg (fun h => h hk)])
      clear hk
      go_wp2_with fail
      refine (Reader_Need.yes _ _ _).mono ?_
      rintro e w16 ⟨rfl, rfl⟩
      go_wp2
      go_end0
      exact ⟨by rw [HE.out]; rfl, _, _, _, HG.out, fun _ => ⟨by rw [HF.out.1, HF.out.2]; unfold gVal; rw [HF.out.2]; rfl, rfl⟩⟩
end Go.Proofs.YtcmalglippmocaaDoor.G
end
