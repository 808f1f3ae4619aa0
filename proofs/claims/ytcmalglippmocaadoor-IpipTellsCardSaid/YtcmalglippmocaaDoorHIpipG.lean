/- By hand: ipip.Get, which reads the package-level table of versions itself. -/
import Derived.Test.YtcmalglippmocaaDoorGipip
namespace Go.Proofs.YtcmalglippmocaaDoor.G
open Go.RowKit Go.Proofs.YtcmalglippmocaaDoorW.PrintWords Go.Proofs.YtcmalglippmocaaDoorW.PrintLast Go.Proofs.YtcmalglippmocaaDoorW.PrintMore Go.Proofs.YtcmalglippmocaaDoor.Pal
set_option linter.unusedVariables false
set_option linter.unusedSimpArgs false
theorem ipip_Proto_is (s : ByteArray) : ipip_Proto.f s = some ((verOf s).2.1, (verOf s).2.2.2) := rfl
def ipip_Get.f (a0 : Int) (a1 : ByteArray) : Option (ByteArray × Int) :=
  some (if a0 ≠ 4 ∧ a0 ≠ 41 then (⟨#[]⟩, 6) else if (verOf a1).2.2.2 ≠ 0 then (⟨#[]⟩, (verOf a1).2.2.2) else if (verOf a1).2.1 ≠ a0 then (⟨#[]⟩, 3) else (a1, 0))
set_option maxHeartbeats 2000000 in
set_option maxRecDepth 100000 in
theorem ipip_Get.calls (a0 : Int) (a1 : ByteArray) (r1 : ByteArray) (r2 : Int) (w : World) (h : ipip_Get.f a0 a1 = some (r1, r2)) (hG : GV w) :
    Calls Tryd.prog 23 #[.int .i64 a0, .string a1] w fun e w' => e = .returned (.tuple #[.string r1, .int .i64 r2]) ∧ Below w.heap.size w w' := by
  have HV := Aside0.mk (Option.some.inj h)
  have HG := Aside0.mk hG
  clear h
  obtain ⟨g0, g1, g2, g3, g4, g5⟩ := hG.cells
  clear g0 g2 g3 g5 hG
  by_cases h0 : a0 ≠ 4 ∧ a0 ≠ 41
  · have hr : (r1, r2) = (⟨#[]⟩, 6) := by rw [← HV.out, if_pos h0]
    simp only [Prod.mk.injEq] at hr
    obtain ⟨rfl, rfl⟩ := hr
    have d0 : (a0 != 4) = true := bne_iff_ne.mpr h0.1
    have d1 : (a0 != 41) = true := bne_iff_ne.mpr h0.2
    clear h0 HV
    go_enter Tryd.func23, Tryd.ntmps23
    go_wp2
    go_ret2
    exact ⟨rfl, Below.refl _ _⟩
  have HX := Aside0.mk h0
  have HE := Aside0.mk (show (verOf a1).2.2.2 ≠ 0 → (r1, r2) = (⟨#[]⟩, (verOf a1).2.2.2) from fun hx => by rw [← HV.out, if_neg h0, if_pos hx])
  have HN := Aside0.mk (show (verOf a1).2.2.2 = 0 → (verOf a1).2.1 ≠ a0 → (r1, r2) = (⟨#[]⟩, 3) from fun hx hy => by rw [← HV.out, if_neg h0, if_neg (by simpa using hx), if_pos hy])
  have HY := Aside0.mk (show (verOf a1).2.2.2 = 0 → (verOf a1).2.1 = a0 → (r1, r2) = (a1, 0) from fun hx hy => by rw [← HV.out, if_neg h0, if_neg (by simpa using hx), if_neg (by simpa using hy)])
  have HP := Aside0.mk (ipip_Proto_is a1)
  generalize (verOf a1).2.1 = p at HE HN HY HP
  generalize (verOf a1).2.2.2 = e at HE HN HY HP
  clear HV
  have hp : (a0 != 4) = false ∨ ((a0 != 4) = true ∧ (a0 != 41) = false) := by
    by_cases h4 : a0 = 4
    · left; simp [h4]
    · right; exact ⟨bne_iff_ne.mpr h4, by simp only [bne_eq_false_iff_eq]; exact Classical.not_not.1 fun h41 => h0 ⟨h4, h41⟩⟩
  clear h0
  by_cases he : e = 0
  · subst he
    by_cases hy : p = a0
    · subst hy
      have hr := HY.out rfl rfl
      simp only [Prod.mk.injEq] at hr
      obtain ⟨rfl, rfl⟩ := hr
      have k1 : (p != p) = false := bne_self_eq_false p
      clear HE HN HY HX
      rcases hp with d0 | ⟨d0, d1⟩
      all_goals
        go_enter Tryd.func23, Tryd.ntmps23
        go_wp2_with fail
        refine (ipip_Proto.calls _ _ _ _ HP.out HG.out).mono ?_
        rintro e' w2 ⟨rfl, hb⟩
        have HB := Aside0.mk hb
        clear hb g1 g4
        go_wp2
        go_ret2
        exact ⟨rfl, HB.out⟩
    · have hr := HN.out rfl hy
      simp only [Prod.mk.injEq] at hr
      obtain ⟨rfl, rfl⟩ := hr
      have k1 : (p != a0) = true := bne_iff_ne.mpr hy
      clear HE HN HY HX hy
      rcases hp with d0 | ⟨d0, d1⟩
      all_goals
        go_enter Tryd.func23, Tryd.ntmps23
        go_wp2_with fail
        refine (ipip_Proto.calls _ _ _ _ HP.out HG.out).mono ?_
        rintro e' w2 ⟨rfl, hb⟩
        have HB := Aside0.mk hb
        clear hb g1 g4
        go_wp2
        go_ret2
        exact ⟨rfl, HB.out⟩
  · have hr := HE.out he
    simp only [Prod.mk.injEq] at hr
    obtain ⟨rfl, rfl⟩ := hr
    have k1 : (r2 != 0) = true := bne_iff_ne.mpr he
    clear HE HN HY HX he
    rcases hp with d0 | ⟨d0, d1⟩
    all_goals
      go_enter Tryd.func23, Tryd.ntmps23
      go_wp2_with fail
      refine (ipip_Proto.calls _ _ _ _ HP.out HG.out).mono ?_
      rintro e' w2 ⟨rfl, hb⟩
      have HB := Aside0.mk hb
      clear hb g1 g4
      go_wp2
      go_ret2
      exact ⟨rfl, HB.out⟩
end Go.Proofs.YtcmalglippmocaaDoor.G
