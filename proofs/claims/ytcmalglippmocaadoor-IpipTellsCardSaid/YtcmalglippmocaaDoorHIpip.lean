/- By hand: ipip.of and ipip.Get, which read the package-level table of versions. -/
import Derived.Test.YtcmalglippmocaaDoorPGlob
import Derived.WalkLawsBesides
import Derived.BigQuiet
namespace Go.Proofs.YtcmalglippmocaaDoor.G
open Go.RowKit Go.Proofs.YtcmalglippmocaaDoorW.PrintWords Go.Proofs.YtcmalglippmocaaDoorW.PrintLast Go.Proofs.YtcmalglippmocaaDoorW.PrintMore Go.Proofs.YtcmalglippmocaaDoor.Pal
set_option linter.unusedVariables false
set_option linter.unusedSimpArgs false
/-- What a packet is told to be: its version's row, and an error. -/
def verOf (s : ByteArray) : Int × Int × Int × Int := if s.size = 0 then (0, 0, 0, 2) else if bt s 0 / 16 = 4 then (4, 4, 2048, 0) else if bt s 0 / 16 = 6 then (6, 41, 34525, 0) else (0, 0, 0, 3)
theorem ver_ix0 (wx : World) : (Instr.index 110 (.agg #[.int .i64 4, .int .i64 4, .int .i64 2048, .int .i64 6, .int .i64 41, .int .i64 34525]) (.int .i64 0)).run Tryd.prog wx = .ok (.agg #[.int .i64 4, .int .i64 4, .int .i64 2048]) wx := by kernel_rfl
theorem ver_ix1 (wx : World) : (Instr.index 110 (.agg #[.int .i64 4, .int .i64 4, .int .i64 2048, .int .i64 6, .int .i64 41, .int .i64 34525]) (.int .i64 1)).run Tryd.prog wx = .ok (.agg #[.int .i64 6, .int .i64 41, .int .i64 34525]) wx := by kernel_rfl
def ipip_of.f (a0 : ByteArray) : Option (Int × Int × Int × Int) := some (verOf a0)
set_option maxHeartbeats 2000000 in
set_option maxRecDepth 100000 in
theorem ipip_of.calls (a0 : ByteArray) (r1 r2 r3 r4 : Int) (w : World) (h : ipip_of.f a0 = some (r1, r2, r3, r4)) (hG : GV w) :
    Calls Tryd.prog 58 #[.string a0] w fun e w' => e = .returned (.tuple #[.agg #[.int .i64 r1, .int .i64 r2, .int .i64 r3], .int .i64 r4]) ∧ Below w.heap.size w w' := by
  have hv := Option.some.inj h
  have HV := Aside0.mk hv
  have HG := Aside0.mk hG
  clear h hv hG
  go_enter Tryd.func58, Tryd.ntmps58
  go_upto_region 1 with (fail)
  have HK := Aside0.mk (Blk.new w 107 #[.int .i64 0, .int .i64 0, .int .i64 0])
  have HB := Aside0.mk ((Below.refl w.heap.size w).alloc (Nat.le_refl _) (.cells #[.int .i64 0, .int .i64 0, .int .i64 0] 107))
  replace HG := Aside0.mk (HG.out.below HB.out)
  generalize hk : w.heap.size = k at HK HB ⊢
  generalize w.alloc (.cells #[.int .i64 0, .int .i64 0, .int .i64 0] 107) = W at HK HB HG ⊢
  have HKK := Aside0.mk hk
  clear hk
  by_cases h0 : a0.size = 0
  · have e0 : a0.toList.isEmpty = true := isEmpty_of h0
    have hv : (r1, r2, r3, r4) = (0, 0, 0, 2) := by rw [← HV.out, verOf, if_pos h0]
    simp only [Prod.mk.injEq] at hv
    obtain ⟨rfl, rfl, rfl, rfl⟩ := hv
    clear h0 HV
    have f0 := HK.out.free 0
    have f1 := HK.out.free 1
    have f2 := HK.out.free 2
    have c0 := HK.out.cell 0 _ rfl
    have c1 := HK.out.cell 1 _ rfl
    have c2 := HK.out.cell 2 _ rfl
    go_wp2
    have HK1 := Aside0.mk (((HK.out.set 0 (.int .i64 0)).set 1 (.int .i64 0)).set 2 (.int .i64 0))
    refine bodyPost_ret (results_cell_tmp rfl _ _ k _ _ rfl HK1.out Tryd.underlying107 rfl (by kernel_rfl)) rfl ?_
    exact ⟨rfl, by rw [HKK.out]; exact ((HB.out.setCell (p := ⟨k, 0, none⟩) (Nat.le_refl _) _).setCell (p := ⟨k, 1, none⟩) (Nat.le_refl _) _).setCell (p := ⟨k, 2, none⟩) (Nat.le_refl _) _⟩
  obtain ⟨g0, g1, g2, g3, g4, g5⟩ := HG.out.cells
  have HZ := Aside0.mk h0
  have e0 : a0.toList.isEmpty = false := isEmpty_not h0
  clear h0
  go_wp2
  clear g0 g1 g2 g3 g4 g5 e0
  go_loopg [10] 2 (fun kq v10 wr => ∃ i : Nat, v10 = .int .i64 (i : Int) ∧ Aside0 (i + kq = 2) ∧ Aside0 (1 ≤ i → ¬ bt a0 0 / 16 = 4) ∧ Aside0 (2 ≤ i → ¬ bt a0 0 / 16 = 6) ∧ Aside0 (Blk wr k 107 #[.int .i64 0, .int .i64 0, .int .i64 0]) ∧ Aside0 (Below k w wr))
  case atStart => exact ⟨0, rfl, ⟨by omega⟩, ⟨by omega⟩, ⟨by omega⟩, HK, HB⟩
  case round =>
    clear HK HB
    obtain ⟨i, rfl, HI, H4, H6, HK, HB⟩ := hrel
    have h012 : i = 0 ∨ i = 1 ∨ i = 2 := by have := HI.out; omega
    rcases h012 with rfl | rfl | rfl
    · have ix := ver_ix0
      have hx : ∀ h : 0 < a0.size, ((a0[0]'h).toNat : Int) = bt a0 0 := bt_at a0 0
      have q4 : (0 < a0.size) = True := eq_true (by have := HZ.out; omega)
      have hw : wrap64 (bt a0 0 / 16) = bt a0 0 / 16 := by have := bt_range a0 0; unfold wrap64; omega
      by_cases hv : bt a0 0 / 16 = 4
      · have hd : (bt a0 0 / 16 == 4) = true := beq_iff_eq.mpr hv
        have hr : (r1, r2, r3, r4) = (4, 4, 2048, 0) := by rw [← HV.out, verOf, if_neg HZ.out, if_pos hv]
        simp only [Prod.mk.injEq] at hr
        obtain ⟨rfl, rfl, rfl, rfl⟩ := hr
        clear hv
        go_upto_region 6 with (fail)
        go_quiet (fail)
        replace HK := Aside0.mk ((HK.out.alloc (.cells #[.int .i64 4, .int .i64 4, .int .i64 2048] 107)).drewN nq)
        have HN := Aside0.mk ((Blk.new wr 107 #[.int .i64 4, .int .i64 4, .int .i64 2048]).drewN nq)
        replace HB := Aside0.mk (pw_below_drewN (HB.out.alloc (by have := HB.out.size; have := HKK.out; omega) (.cells #[.int .i64 4, .int .i64 4, .int .i64 2048] 107)) nq)
        generalize wr.heap.size = g at HN ⊢
        generalize (wr.alloc (.cells #[.int .i64 4, .int .i64 4, .int .i64 2048] 107)).drewN nq = w2 at HK HN HB ⊢
        clear hx q4 hw hd ix
        have f0 := HK.out.free 0
        have f1 := HK.out.free 1
        have f2 := HK.out.free 2
        have c0 := HK.out.cell 0 _ rfl
        have c1 := HK.out.cell 1 _ rfl
        have c2 := HK.out.cell 2 _ rfl
        have n0 := HN.out.cell 0 _ rfl
        have n1 := HN.out.cell 1 _ rfl
        have n2 := HN.out.cell 2 _ rfl
        go_wp2
        have HK1 := Aside0.mk (((HK.out.set 0 (.int .i64 4)).set 1 (.int .i64 4)).set 2 (.int .i64 2048))
        refine bodyPost_ret (results_cell_tmp rfl _ _ k _ _ rfl HK1.out Tryd.underlying107 rfl (by kernel_rfl)) rfl ?_
        exact ⟨rfl, by rw [HKK.out]; exact ((HB.out.setCell (p := ⟨k, 0, none⟩) (Nat.le_refl _) _).setCell (p := ⟨k, 1, none⟩) (Nat.le_refl _) _).setCell (p := ⟨k, 2, none⟩) (Nat.le_refl _) _⟩
      · have hd : (bt a0 0 / 16 == 4) = false := beq_eq_false_iff_ne.mpr hv
        have HX := Aside0.mk hv
        clear hv
        go_upto_region 6 with (fail)
        go_quiet (fail)
        replace HK := Aside0.mk ((HK.out.alloc (.cells #[.int .i64 4, .int .i64 4, .int .i64 2048] 107)).drewN nq)
        replace HB := Aside0.mk (pw_below_drewN (HB.out.alloc (by have := HB.out.size; have := HKK.out; omega) (.cells #[.int .i64 4, .int .i64 4, .int .i64 2048] 107)) nq)
        generalize (wr.alloc (.cells #[.int .i64 4, .int .i64 4, .int .i64 2048] 107)).drewN nq = w2 at HK HB ⊢
        clear hx q4 hw ix
        go_wp2
        go_roundg 1
        case measure => have := HI.out; omega
        case rel => exact ⟨1, by first | rfl | (simp; done) | (unfold wrap64; simp; done), ⟨by omega⟩, ⟨fun _ => HX.out⟩, ⟨fun h => by omega⟩, HK, HB⟩
    · have ix := ver_ix1
      have hx : ∀ h : 0 < a0.size, ((a0[0]'h).toNat : Int) = bt a0 0 := bt_at a0 0
      have q4 : (0 < a0.size) = True := eq_true (by have := HZ.out; omega)
      have hw : wrap64 (bt a0 0 / 16) = bt a0 0 / 16 := by have := bt_range a0 0; unfold wrap64; omega
      by_cases hv : bt a0 0 / 16 = 6
      · have hd : (bt a0 0 / 16 == 6) = true := beq_iff_eq.mpr hv
        have hr : (r1, r2, r3, r4) = (6, 41, 34525, 0) := by rw [← HV.out, verOf, if_neg HZ.out, if_neg (H4.out (by omega)), if_pos hv]
        simp only [Prod.mk.injEq] at hr
        obtain ⟨rfl, rfl, rfl, rfl⟩ := hr
        clear hv
        go_upto_region 6 with (fail)
        go_quiet (fail)
        replace HK := Aside0.mk ((HK.out.alloc (.cells #[.int .i64 6, .int .i64 41, .int .i64 34525] 107)).drewN nq)
        have HN := Aside0.mk ((Blk.new wr 107 #[.int .i64 6, .int .i64 41, .int .i64 34525]).drewN nq)
        replace HB := Aside0.mk (pw_below_drewN (HB.out.alloc (by have := HB.out.size; have := HKK.out; omega) (.cells #[.int .i64 6, .int .i64 41, .int .i64 34525] 107)) nq)
        generalize wr.heap.size = g at HN ⊢
        generalize (wr.alloc (.cells #[.int .i64 6, .int .i64 41, .int .i64 34525] 107)).drewN nq = w2 at HK HN HB ⊢
        clear hx q4 hw hd ix
        have f0 := HK.out.free 0
        have f1 := HK.out.free 1
        have f2 := HK.out.free 2
        have c0 := HK.out.cell 0 _ rfl
        have c1 := HK.out.cell 1 _ rfl
        have c2 := HK.out.cell 2 _ rfl
        have n0 := HN.out.cell 0 _ rfl
        have n1 := HN.out.cell 1 _ rfl
        have n2 := HN.out.cell 2 _ rfl
        go_wp2
        have HK1 := Aside0.mk (((HK.out.set 0 (.int .i64 6)).set 1 (.int .i64 41)).set 2 (.int .i64 34525))
        refine bodyPost_ret (results_cell_tmp rfl _ _ k _ _ rfl HK1.out Tryd.underlying107 rfl (by kernel_rfl)) rfl ?_
        exact ⟨rfl, by rw [HKK.out]; exact ((HB.out.setCell (p := ⟨k, 0, none⟩) (Nat.le_refl _) _).setCell (p := ⟨k, 1, none⟩) (Nat.le_refl _) _).setCell (p := ⟨k, 2, none⟩) (Nat.le_refl _) _⟩
      · have hd : (bt a0 0 / 16 == 6) = false := beq_eq_false_iff_ne.mpr hv
        have HX := Aside0.mk hv
        clear hv
        go_upto_region 6 with (fail)
        go_quiet (fail)
        replace HK := Aside0.mk ((HK.out.alloc (.cells #[.int .i64 6, .int .i64 41, .int .i64 34525] 107)).drewN nq)
        replace HB := Aside0.mk (pw_below_drewN (HB.out.alloc (by have := HB.out.size; have := HKK.out; omega) (.cells #[.int .i64 6, .int .i64 41, .int .i64 34525] 107)) nq)
        generalize (wr.alloc (.cells #[.int .i64 6, .int .i64 41, .int .i64 34525] 107)).drewN nq = w2 at HK HB ⊢
        clear hx q4 hw ix
        go_wp2
        go_roundg 0
        case measure => have := HI.out; omega
        case rel => exact ⟨2, by first | rfl | (simp; done) | (unfold wrap64; simp; done), ⟨by omega⟩, ⟨fun _ => H4.out (by omega)⟩, ⟨fun _ => HX.out⟩, HK, HB⟩
    · have hv : (r1, r2, r3, r4) = (0, 0, 0, 3) := by rw [← HV.out, verOf, if_neg HZ.out, if_neg (H4.out (by omega)), if_neg (H6.out (by omega))]
      simp only [Prod.mk.injEq] at hv
      obtain ⟨rfl, rfl, rfl, rfl⟩ := hv
      have f0 := HK.out.free 0
      have f1 := HK.out.free 1
      have f2 := HK.out.free 2
      have c0 := HK.out.cell 0 _ rfl
      have c1 := HK.out.cell 1 _ rfl
      have c2 := HK.out.cell 2 _ rfl
      go_wp2
      have HK1 := Aside0.mk (((HK.out.set 0 (.int .i64 0)).set 1 (.int .i64 0)).set 2 (.int .i64 0))
      refine bodyPost_ret (results_cell_tmp rfl _ _ k _ _ rfl HK1.out Tryd.underlying107 rfl (by kernel_rfl)) rfl ?_
      exact ⟨rfl, by rw [HKK.out]; exact ((HB.out.setCell (p := ⟨k, 0, none⟩) (Nat.le_refl _) _).setCell (p := ⟨k, 1, none⟩) (Nat.le_refl _) _).setCell (p := ⟨k, 2, none⟩) (Nat.le_refl _) _⟩
end Go.Proofs.YtcmalglippmocaaDoor.G
