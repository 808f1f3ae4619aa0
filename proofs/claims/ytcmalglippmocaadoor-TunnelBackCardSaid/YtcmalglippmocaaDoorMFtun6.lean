/- Texts of this session, joined: each is a section. -/
import Derived.Test.YtcmalglippmocaaDoorMFtun2
import Derived.WalkLawsBesides
import Derived.BigQuiet
import Derived.Test.YtcmalglippmocaaDoorMFtun1
import Derived.Test.YtcmalglippmocaaDoorMFtun4
import Derived.Test.YtcmalglippmocaaDoorMFtun5
import Derived.RegionTactic
import Derived.Deep.RegionWith
set_option linter.unusedVariables false
set_option linter.unusedSimpArgs false
section
namespace Go.Proofs.YtcmalglippmocaaDoor.G
open Go.RowKit Go.Proofs.YtcmalglippmocaaDoorW.PrintWords Go.Proofs.YtcmalglippmocaaDoorW.PrintLast Go.Proofs.YtcmalglippmocaaDoorW.PrintMore Go.Proofs.YtcmalglippmocaaDoor.Pal
def verOf (s : ByteArray) : Int × Int × Int × Int := if s.size = 0 then (0, 0, 0, 2) else if bt s 0 / 16 = 4 then (4, 4, 2048, 0) else if bt s 0 / 16 = 6 then (6, 41, 34525, 0) else (0, 0, 0, 3)
theorem ver_ix0 (wx : World) : (Instr.index 110 (.agg #[.int .i64 4, .int .i64 4, .int .i64 2048, .int .i64 6, .int .i64 41, .int .i64 34525]) (.int .i64 0)).run Tryd.prog wx = .ok (.agg #[.int .i64 4, .int .i64 4, .int .i64 2048]) wx := by kernel_rfl
theorem ver_ix1 (wx : World) : (Instr.index 110 (.agg #[.int .i64 4, .int .i64 4, .int .i64 2048, .int .i64 6, .int .i64 41, .int .i64 34525]) (.int .i64 1)).run Tryd.prog wx = .ok (.agg #[.int .i64 6, .int .i64 41, .int .i64 34525]) wx := by kernel_rfl
def ipip_of.f (a0 : ByteArray) : Option (Int × Int × Int × Int) := some (verOf a0)
set_option maxHeartbeats 2000000 in
set_option maxRecDepth 100000 in
theorem ipip_of.calls (a0 : ByteArray) (r1 r2 r3 r4 : Int) (w : World) (h : ipip_of.f a0 = some (r1, r2, r3, r4)) (hG : GV w) :
    Calls Tryd.prog 58 #[.string a0] w fun e w' => e = .returned (.tuple #[.agg #[.int .i64 r1, .int .i64 r2, .int .i64 r3], .int .i64 r4]) ∧ Below w.heap.size w w' := by
  have hv := Option.some.inj h
  have HV := Aside0.mk hv
  have HG := Aside0.mk hG
  clear h hv hG
  go_enter Tryd.func58, Tryd.ntmps58
  go_upto_region 1 with (fail)
  have HK := Aside0.mk (Blk.new w 107 #[.int .i64 0, .int .i64 0, .int .i64 0])
  have HB := Aside0.mk ((Below.refl w.heap.size w).alloc (Nat.le_refl _) (.cells #[.int .i64 0, .int .i64 0, .int .i64 0] 107))
  replace HG := Aside0.mk (HG.out.below HB.out)
  generalize hk : w.heap.size = k at HK HB ⊢
  generalize w.alloc (.cells #[.int .i64 0, .int .i64 0, .int .i64 0] 107) = W at HK HB HG ⊢
  have HKK := Aside0.mk hk
  clear hk
  by_cases h0 : a0.size = 0
  · have e0 : a0.toList.isEmpty = true := isEmpty_of h0
    have hv : (r1, r2, r3, r4) = (0, 0, 0, 2) := by rw [← HV.out, verOf, if_pos h0]
    simp only [Prod.mk.injEq] at hv
    obtain ⟨rfl, rfl, rfl, rfl⟩ := hv
    clear h0 HV
    have f0 := HK.out.free 0
    have f1 := HK.out.free 1
    have f2 := HK.out.free 2
    have c0 := HK.out.cell 0 _ rfl
    have c1 := HK.out.cell 1 _ rfl
    have c2 := HK.out.cell 2 _ rfl
    go_wp2
    have HK1 := Aside0.mk (((HK.out.set 0 (.int .i64 0)).set 1 (.int .i64 0)).set 2 (.int .i64 0))
    refine bodyPost_ret (results_cell_tmp rfl _ _ k _ _ rfl HK1.out Tryd.underlying107 rfl (by kernel_rfl)) rfl ?_
    exact ⟨rfl, by rw [HKK.out]; exact ((HB.out.setCell (p := ⟨k, 0, none⟩) (Nat.le_refl _) _).setCell (p := ⟨k, 1, none⟩) (Nat.le_refl _) _).setCell (p := ⟨k, 2, none⟩) (Nat.le_refl _) _⟩
  obtain ⟨g0, g1, g2, g3, g4, g5⟩ := HG.out.cells
  have HZ := Aside0.mk h0
  have e0 : a0.toList.isEmpty = false := isEmpty_not h0
  clear h0
  go_wp2
  clear g0 g1 g2 g3 g4 g5 e0
  go_loopg [10] 2 (fun kq v10 wr => ∃ i : Nat, v10 = .int .i64 (i : Int) ∧ Aside0 (i + kq = 2) ∧ Aside0 (1 ≤ i → ¬ bt a0 0 / 16 = 4) ∧ Aside0 (2 ≤ i → ¬ bt a0 0 / 16 = 6) ∧ Aside0 (Blk wr k 107 #[.int .i64 0, .int .i64 0, .int .i64 0]) ∧ Aside0 (Below k w wr))
  case atStart => exact ⟨0, rfl, ⟨by omega⟩, ⟨by omega⟩, ⟨by omega⟩, HK, HB⟩
  case round =>
    clear HK HB
    obtain ⟨i, rfl, HI, H4, H6, HK, HB⟩ := hrel
    have h012 : i = 0 ∨ i = 1 ∨ i = 2 := by have := HI.out; omega
    rcases h012 with rfl | rfl | rfl
    · have ix := ver_ix0
      have hx : ∀ h : 0 < a0.size, ((a0[0]'h).toNat : Int) = bt a0 0 := bt_at a0 0
      have q4 : (0 < a0.size) = True := eq_true (by have := HZ.out; omega)
      have hw : wrap64 (bt a0 0 / 16) = bt a0 0 / 16 := by have := bt_range a0 0; unfold wrap64; omega
      by_cases hv : bt a0 0 / 16 = 4
      · have hd : (bt a0 0 / 16 == 4) = true := beq_iff_eq.mpr hv
        have hr : (r1, r2, r3, r4) = (4, 4, 2048, 0) := by rw [← HV.out, verOf, if_neg HZ.out, if_pos hv]
        simp only [Prod.mk.injEq] at hr
        obtain ⟨rfl, rfl, rfl, rfl⟩ := hr
        clear hv
        go_upto_region 6 with (fail)
        go_quiet (fail)
        replace HK := Aside0.mk ((HK.out.alloc (.cells #[.int .i64 4, .int .i64 4, .int .i64 2048] 107)).drewN nq)
        have HN := Aside0.mk ((Blk.new wr 107 #[.int .i64 4, .int .i64 4, .int .i64 2048]).drewN nq)
        replace HB := Aside0.mk (pw_below_drewN (HB.out.alloc (by have := HB.out.size; have := HKK.out; omega) (.cells #[.int .i64 4, .int .i64 4, .int .i64 2048] 107)) nq)
        generalize wr.heap.size = g at HN ⊢
        generalize (wr.alloc (.cells #[.int .i64 4, .int .i64 4, .int .i64 2048] 107)).drewN nq = w2 at HK HN HB ⊢
        clear hx q4 hw hd ix
        have f0 := HK.out.free 0
        have f1 := HK.out.free 1
        have f2 := HK.out.free 2
        have c0 := HK.out.cell 0 _ rfl
        have c1 := HK.out.cell 1 _ rfl
        have c2 := HK.out.cell 2 _ rfl
        have n0 := HN.out.cell 0 _ rfl
        have n1 := HN.out.cell 1 _ rfl
        have n2 := HN.out.cell 2 _ rfl
        go_wp2
        have HK1 := Aside0.mk (((HK.out.set 0 (.int .i64 4)).set 1 (.int .i64 4)).set 2 (.int .i64 2048))
        refine bodyPost_ret (results_cell_tmp rfl _ _ k _ _ rfl HK1.out Tryd.underlying107 rfl (by kernel_rfl)) rfl ?_
        exact ⟨rfl, by rw [HKK.out]; exact ((HB.out.setCell (p := ⟨k, 0, none⟩) (Nat.le_refl _) _).setCell (p := ⟨k, 1, none⟩) (Nat.le_refl _) _).setCell (p := ⟨k, 2, none⟩) (Nat.le_refl _) _⟩
      · have hd : (bt a0 0 / 16 == 4) = false := beq_eq_false_iff_ne.mpr hv
        have HX := Aside0.mk hv
        clear hv
        go_upto_region 6 with (fail)
        go_quiet (fail)
        replace HK := Aside0.mk ((HK.out.alloc (.cells #[.int .i64 4, .int .i64 4, .int .i64 2048] 107)).drewN nq)
        replace HB := Aside0.mk (pw_below_drewN (HB.out.alloc (by have := HB.out.size; have := HKK.out; omega) (.cells #[.int .i64 4, .int .i64 4, .int .i64 2048] 107)) nq)
        generalize (wr.alloc (.cells #[.int .i64 4, .int .i64 4, .int .i64 2048] 107)).drewN nq = w2 at HK HB ⊢
        clear hx q4 hw ix
        go_wp2
        go_roundg 1
        case measure => have := HI.out; omega
        case rel => exact ⟨1, by first | rfl | (simp; done) | (unfold wrap64; simp; done), ⟨by omega⟩, ⟨fun _ => HX.out⟩, ⟨fun h => by omega⟩, HK, HB⟩
    · have ix := ver_ix1
      have hx : ∀ h : 0 < a0.size, ((a0[0]'h).toNat : Int) = bt a0 0 := bt_at a0 0
      have q4 : (0 < a0.size) = True := eq_true (by have := HZ.out; omega)
      have hw : wrap64 (bt a0 0 / 16) = bt a0 0 / 16 := by have := bt_range a0 0; unfold wrap64; omega
      by_cases hv : bt a0 0 / 16 = 6
      · have hd : (bt a0 0 / 16 == 6) = true := beq_iff_eq.mpr hv
        have hr : (r1, r2, r3, r4) = (6, 41, 34525, 0) := by rw [← HV.out, verOf, if_neg HZ.out, if_neg (H4.out (by omega)), if_pos hv]
        simp only [Prod.mk.injEq] at hr
        obtain ⟨rfl, rfl, rfl, rfl⟩ := hr
        clear hv
        go_upto_region 6 with (fail)
        go_quiet (fail)
        replace HK := Aside0.mk ((HK.out.alloc (.cells #[.int .i64 6, .int .i64 41, .int .i64 34525] 107)).drewN nq)
        have HN := Aside0.mk ((Blk.new wr 107 #[.int .i64 6, .int .i64 41, .int .i64 34525]).drewN nq)
        replace HB := Aside0.mk (pw_below_drewN (HB.out.alloc (by have := HB.out.size; have := HKK.out; omega) (.cells #[.int .i64 6, .int .i64 41, .int .i64 34525] 107)) nq)
        generalize wr.heap.size = g at HN ⊢
        generalize (wr.alloc (.cells #[.int .i64 6, .int .i64 41, .int .i64 34525] 107)).drewN nq = w2 at HK HN HB ⊢
        clear hx q4 hw hd ix
        have f0 := HK.out.free 0
        have f1 := HK.out.free 1
        have f2 := HK.out.free 2
        have c0 := HK.out.cell 0 _ rfl
        have c1 := HK.out.cell 1 _ rfl
        have c2 := HK.out.cell 2 _ rfl
        have n0 := HN.out.cell 0 _ rfl
        have n1 := HN.out.cell 1 _ rfl
        have n2 := HN.out.cell 2 _ rfl
        go_wp2
        have HK1 := Aside0.mk (((HK.out.set 0 (.int .i64 6)).set 1 (.int .i64 41)).set 2 (.int .i64 34525))
        refine bodyPost_ret (results_cell_tmp rfl _ _ k _ _ rfl HK1.out Tryd.underlying107 rfl (by kernel_rfl)) rfl ?_
        exact ⟨rfl, by rw [HKK.out]; exact ((HB.out.setCell (p := ⟨k, 0, none⟩) (Nat.le_refl _) _).setCell (p := ⟨k, 1, none⟩) (Nat.le_refl _) _).setCell (p := ⟨k, 2, none⟩) (Nat.le_refl _) _⟩
      · have hd : (bt a0 0 / 16 == 6) = false := beq_eq_false_iff_ne.mpr hv
        have HX := Aside0.mk hv
        clear hv
        go_upto_region 6 with (fail)
        go_quiet (fail)
        replace HK := Aside0.mk ((HK.out.alloc (.cells #[.int .i64 6, .int .i64 41, .int .i64 34525] 107)).drewN nq)
        replace HB := Aside0.mk (pw_below_drewN (HB.out.alloc (by have := HB.out.size; have := HKK.out; omega) (.cells #[.int .i64 6, .int .i64 41, .int .i64 34525] 107)) nq)
        generalize (wr.alloc (.cells #[.int .i64 6, .int .i64 41, .int .i64 34525] 107)).drewN nq = w2 at HK HB ⊢
        clear hx q4 hw ix
        go_wp2
        go_roundg 0
        case measure => have := HI.out; omega
        case rel => exact ⟨2, by first | rfl | (simp; done) | (unfold wrap64; simp; done), ⟨by omega⟩, ⟨fun _ => H4.out (by omega)⟩, ⟨fun _ => HX.out⟩, HK, HB⟩
    · have hv : (r1, r2, r3, r4) = (0, 0, 0, 3) := by rw [← HV.out, verOf, if_neg HZ.out, if_neg (H4.out (by omega)), if_neg (H6.out (by omega))]
      simp only [Prod.mk.injEq] at hv
      obtain ⟨rfl, rfl, rfl, rfl⟩ := hv
      have f0 := HK.out.free 0
      have f1 := HK.out.free 1
      have f2 := HK.out.free 2
      have c0 := HK.out.cell 0 _ rfl
      have c1 := HK.out.cell 1 _ rfl
      have c2 := HK.out.cell 2 _ rfl
      go_wp2
      have HK1 := Aside0.mk (((HK.out.set 0 (.int .i64 0)).set 1 (.int .i64 0)).set 2 (.int .i64 0))
      refine bodyPost_ret (results_cell_tmp rfl _ _ k _ _ rfl HK1.out Tryd.underlying107 rfl (by kernel_rfl)) rfl ?_
      exact ⟨rfl, by rw [HKK.out]; exact ((HB.out.setCell (p := ⟨k, 0, none⟩) (Nat.le_refl _) _).setCell (p := ⟨k, 1, none⟩) (Nat.le_refl _) _).setCell (p := ⟨k, 2, none⟩) (Nat.le_refl _) _⟩
end Go.Proofs.YtcmalglippmocaaDoor.G
end

section
namespace Go.Proofs.YtcmalglippmocaaDoor.G
open Go.RowKit Go.Proofs.YtcmalglippmocaaDoorW.PrintWords Go.Proofs.YtcmalglippmocaaDoorW.PrintLast Go.Proofs.YtcmalglippmocaaDoorW.PrintMore
attribute [local go_sem] max2_int min2_int max_two min_two max_three min_three max_four min_four

def ipip_Proto.f (a0 : ByteArray) : Option (Int × Int) := (ipip_of.f a0).bind fun bt101 => (some (bt101.2.1, bt101.2.2.2))
set_option maxHeartbeats 8000000 in
set_option maxRecDepth 100000 in
theorem ipip_Proto.calls (a0 : ByteArray) (r1 : Int) (r2 : Int) (w : World) (h : ipip_Proto.f a0 = some (r1, r2)) (hgV_ : GV w) :
  Calls Tryd.prog 21 #[.string a0] w fun e w' => e = .returned (.tuple #[.int .i64 r1, .int .i64 r2]) ∧ Below w.heap.size w w' := by
 have HgV_ := mA hgV_
 clear hgV_
 have hu107 := Tryd.underlying107
 have HB := mA (Below.refl w.heap.size w)
 have H : ((ipip_of.f a0).bind fun bt101 => (some (bt101.2.1, bt101.2.2.2))) = some (r1, r2) := h
 clear h
 replace H := Option.bind_eq_some_iff.mp H
 obtain ⟨⟨t101, t102, t103, t104⟩, A20, H⟩ := H
 try dsimp +instances only at H
 have A2 := mA A20
 clear A20
 simp only [Option.some.injEq, Prod.mk.injEq] at H
 obtain ⟨rfl, rfl⟩ := H
 go_enter Tryd.func21, Tryd.ntmps21
 go_wp2_with (first | ((with_reducible refine gate_callee (f := 58) rfl ?_); refine goesL_ (some 8) rfl rfl Tryd.func58 (by kernel_rfl) rfl #[.string a0] rfl (by (try simp only [List.map_toArray, List.map_cons, List.map_nil]); first | done | rfl | (simp only [List.length_drop, List.length_take]; rfl)) ?_; (with_reducible refine (ipip_of.calls a0 t101 t102 t103 t104 _ A2.out (GV.below HgV_.out (by repeat (first | (with_reducible first | exact HB.out | apply bA | apply bN | apply bD | refine bS ?_ GE105.out) | exact HB.out)))).mono ?_); rintro e w3 ⟨rfl, hb⟩; refine ⟨_, rfl, ?_⟩; have n0_ := mA (bP (by repeat (first | (with_reducible first | exact HB.out | apply bA | apply bN | apply bD) | exact HB.out)) hb); clear HB; have HB := n0_; clear n0_; (try clear hb); (try clear hb2); (try clear hk); (try clear hi)) | ((with_reducible refine gate_dst (N := 4) rfl ?_); refine box_event ?hg (N := 4) ?hd (cs := #[.int .i64 0, .int .i64 0, .int .i64 0]) (t := 107) ?hr ?_; (case hd => rfl); (case hg => rfl); (case hr => first | (go_simp; done) | (go_simp; rfl)); intro gb105 hg w4 hbox hb; obtain ⟨n0_, nq_⟩ := bpr (by repeat (first | (with_reducible first | exact HB.out | apply bA | apply bN | apply bD) | exact HB.out)) hb; have n1_ := mA (hbox); have n2_ := mA ((by rw [hg]; exact nq_ : w.heap.size ≤ gb105)); have n3_ := mA ((by rw [hg]; exact nq_ : w.heap.size ≤ gb105)); clear HB; have HB := n0_; have BK105 := n1_; have GW105 := n2_; have GE105 := n3_; clear nq_; clear n0_ n1_ n2_ n3_; clear hb hbox hg; obtain ⟨hcz5_0, hcz5_1, hcz5_2⟩ := bc3 BK105.out; obtain ⟨hfz5_0, hfz5_1, hfz5_2⟩ := bf3 BK105.out))
 go_ret2
 exact ⟨by first | rfl | (simp [errW_none, errW_some] <;> rfl) | (simp [*, errW_none, errW_some] <;> rfl), by repeat (first | (with_reducible first | exact HB.out | apply bA | apply bN | apply bD | refine bS ?_ GE105.out) | exact HB.out)⟩

def ipip_Kind.f (a0 : ByteArray) : Option (Int × Int) := (ipip_of.f a0).bind fun bt110 => (some (bt110.2.2.1, bt110.2.2.2))
set_option maxHeartbeats 8000000 in
set_option maxRecDepth 100000 in
theorem ipip_Kind.calls (a0 : ByteArray) (r1 : Int) (r2 : Int) (w : World) (h : ipip_Kind.f a0 = some (r1, r2)) (hgV_ : GV w) :
  Calls Tryd.prog 22 #[.string a0] w fun e w' => e = .returned (.tuple #[.int .i64 r1, .int .i64 r2]) ∧ Below w.heap.size w w' := by
 have HgV_ := mA hgV_
 clear hgV_
 have hu107 := Tryd.underlying107
 have HB := mA (Below.refl w.heap.size w)
 have H : ((ipip_of.f a0).bind fun bt110 => (some (bt110.2.2.1, bt110.2.2.2))) = some (r1, r2) := h
 clear h
 replace H := Option.bind_eq_some_iff.mp H
 obtain ⟨⟨t110, t111, t112, t113⟩, A20, H⟩ := H
 try dsimp +instances only at H
 have A2 := mA A20
 clear A20
 simp only [Option.some.injEq, Prod.mk.injEq] at H
 obtain ⟨rfl, rfl⟩ := H
 go_enter Tryd.func22, Tryd.ntmps22
 go_wp2_with (first | ((with_reducible refine gate_callee (f := 58) rfl ?_); refine goesL_ (some 8) rfl rfl Tryd.func58 (by kernel_rfl) rfl #[.string a0] rfl (by (try simp only [List.map_toArray, List.map_cons, List.map_nil]); first | done | rfl | (simp only [List.length_drop, List.length_take]; rfl)) ?_; (with_reducible refine (ipip_of.calls a0 t110 t111 t112 t113 _ A2.out (GV.below HgV_.out (by repeat (first | (with_reducible first | exact HB.out | apply bA | apply bN | apply bD | refine bS ?_ GE114.out) | exact HB.out)))).mono ?_); rintro e w3 ⟨rfl, hb⟩; refine ⟨_, rfl, ?_⟩; have n0_ := mA (bP (by repeat (first | (with_reducible first | exact HB.out | apply bA | apply bN | apply bD) | exact HB.out)) hb); clear HB; have HB := n0_; clear n0_; (try clear hb); (try clear hb2); (try clear hk); (try clear hi)) | ((with_reducible refine gate_dst (N := 4) rfl ?_); refine box_event ?hg (N := 4) ?hd (cs := #[.int .i64 0, .int .i64 0, .int .i64 0]) (t := 107) ?hr ?_; (case hd => rfl); (case hg => rfl); (case hr => first | (go_simp; done) | (go_simp; rfl)); intro gb114 hg w4 hbox hb; obtain ⟨n0_, nq_⟩ := bpr (by repeat (first | (with_reducible first | exact HB.out | apply bA | apply bN | apply bD) | exact HB.out)) hb; have n1_ := mA (hbox); have n2_ := mA ((by rw [hg]; exact nq_ : w.heap.size ≤ gb114)); have n3_ := mA ((by rw [hg]; exact nq_ : w.heap.size ≤ gb114)); clear HB; have HB := n0_; have BK114 := n1_; have GW114 := n2_; have GE114 := n3_; clear nq_; clear n0_ n1_ n2_ n3_; clear hb hbox hg; obtain ⟨hcz5_0, hcz5_1, hcz5_2⟩ := bc3 BK114.out; obtain ⟨hfz5_0, hfz5_1, hfz5_2⟩ := bf3 BK114.out))
 go_ret2
 exact ⟨by first | rfl | (simp [errW_none, errW_some] <;> rfl) | (simp [*, errW_none, errW_some] <;> rfl), by repeat (first | (with_reducible first | exact HB.out | apply bA | apply bN | apply bD | refine bS ?_ GE114.out) | exact HB.out)⟩

def ipip_Put.f (a0 : ByteArray) : Option (Int × ByteArray × Int) := (ipip_Proto.f a0).bind fun bt129 => (if bt129.2 = 0 then (some (bt129.1, a0, 0)) else (some (0, (⟨#[]⟩ : ByteArray), bt129.2)))
set_option maxHeartbeats 8000000 in
set_option maxRecDepth 100000 in
theorem ipip_Put.calls (a0 : ByteArray) (r1 : Int) (r2 : ByteArray) (r3 : Int) (w : World) (h : ipip_Put.f a0 = some (r1, r2, r3)) (hgV_ : GV w) :
  Calls Tryd.prog 24 #[.string a0] w fun e w' => e = .returned (.tuple #[.int .i64 r1, .string r2, .int .i64 r3]) ∧ Below w.heap.size w w' := by
 have HgV_ := mA hgV_
 clear hgV_
 have HB := mA (Below.refl w.heap.size w)
 have H : ((ipip_Proto.f a0).bind fun bt129 => (if bt129.2 = 0 then (some (bt129.1, a0, 0)) else (some (0, (⟨#[]⟩ : ByteArray), bt129.2)))) = some (r1, r2, r3) := h
 clear h
 replace H := Option.bind_eq_some_iff.mp H
 obtain ⟨⟨t129, t130⟩, A20, H⟩ := H
 try dsimp +instances only at H
 have A2 := mA A20
 clear A20
 by_cases c3 : t130 = 0
 ·rw [if_pos c3] at H
  have c3b0 : (t130 == 0) = true := beq_iff_eq.mpr c3
  have c3b1 : (t130 != 0) = false := bne_eq_false_iff_eq.mpr c3
  clear c3
  simp only [Option.some.injEq, Prod.mk.injEq] at H
  obtain ⟨rfl, rfl, rfl⟩ := H
  go_enter Tryd.func24, Tryd.ntmps24
  go_wp2_with (first | ((with_reducible refine gate_callee (f := 21) rfl ?_); refine goesL_ (some 9) rfl rfl Tryd.func21 (by kernel_rfl) rfl #[.string a0] rfl (by (try simp only [List.map_toArray, List.map_cons, List.map_nil]); first | done | rfl | (simp only [List.length_drop, List.length_take]; rfl)) ?_; (with_reducible refine (ipip_Proto.calls a0 t129 t130 _ A2.out (GV.below HgV_.out (by repeat (first | (with_reducible first | exact HB.out | apply bA | apply bN | apply bD) | exact HB.out)))).mono ?_); rintro e w4 ⟨rfl, hb⟩; refine ⟨_, rfl, ?_⟩; have n0_ := mA (bP (by repeat (first | (with_reducible first | exact HB.out | apply bA | apply bN | apply bD) | exact HB.out)) hb); clear HB; have HB := n0_; clear n0_; (try clear hb); (try clear hb2); (try clear hk); (try clear hi)))
  go_ret3
  exact ⟨by first | rfl | (simp [errW_none, errW_some] <;> rfl) | (simp [*, errW_none, errW_some] <;> rfl), by repeat (first | (with_reducible first | exact HB.out | apply bA | apply bN | apply bD) | exact HB.out)⟩
 ·rw [if_neg c3] at H
  have c3b0 : (t130 == 0) = false := beq_eq_false_iff_ne.mpr c3
  have c3b1 : (t130 != 0) = true := bne_iff_ne.mpr c3
  simp only [Option.some.injEq, Prod.mk.injEq] at H
  obtain ⟨rfl, rfl, rfl⟩ := H
  go_enter Tryd.func24, Tryd.ntmps24
  go_wp2_with (first | ((with_reducible refine gate_callee (f := 21) rfl ?_); refine goesL_ (some 9) rfl rfl Tryd.func21 (by kernel_rfl) rfl #[.string a0] rfl (by (try simp only [List.map_toArray, List.map_cons, List.map_nil]); first | done | rfl | (simp only [List.length_drop, List.length_take]; rfl)) ?_; (with_reducible refine (ipip_Proto.calls a0 t129 t130 _ A2.out (GV.below HgV_.out (by repeat (first | (with_reducible first | exact HB.out | apply bA | apply bN | apply bD) | exact HB.out)))).mono ?_); rintro e w5 ⟨rfl, hb⟩; refine ⟨_, rfl, ?_⟩; have n0_ := mA (bP (by repeat (first | (with_reducible first | exact HB.out | apply bA | apply bN | apply bD) | exact HB.out)) hb); clear HB; have HB := n0_; clear n0_; (try clear hb); (try clear hb2); (try clear hk); (try clear hi)))
  go_ret3
  exact ⟨by first | rfl | (simp [errW_none, errW_some] <;> rfl) | (simp [*, errW_none, errW_some] <;> rfl), by repeat (first | (with_reducible first | exact HB.out | apply bA | apply bN | apply bD) | exact HB.out)⟩

end Go.Proofs.YtcmalglippmocaaDoor.G
end

section
namespace Go.Proofs.YtcmalglippmocaaDoor.G
open Go.RowKit Go.Proofs.YtcmalglippmocaaDoorW.PrintWords Go.Proofs.YtcmalglippmocaaDoorW.PrintLast Go.Proofs.YtcmalglippmocaaDoorW.PrintMore Go.Proofs.YtcmalglippmocaaDoor.Pal
theorem ipip_Proto_is (s : ByteArray) : ipip_Proto.f s = some ((verOf s).2.1, (verOf s).2.2.2) := rfl
def ipip_Get.f (a0 : Int) (a1 : ByteArray) : Option (ByteArray × Int) :=
  some (if a0 ≠ 4 ∧ a0 ≠ 41 then (⟨#[]⟩, 6) else if (verOf a1).2.2.2 ≠ 0 then (⟨#[]⟩, (verOf a1).2.2.2) else if (verOf a1).2.1 ≠ a0 then (⟨#[]⟩, 3) else (a1, 0))
set_option maxHeartbeats 2000000 in
set_option maxRecDepth 100000 in
theorem ipip_Get.calls (a0 : Int) (a1 : ByteArray) (r1 : ByteArray) (r2 : Int) (w : World) (h : ipip_Get.f a0 a1 = some (r1, r2)) (hG : GV w) :
    Calls Tryd.prog 23 #[.int .i64 a0, .string a1] w fun e w' => e = .returned (.tuple #[.string r1, .int .i64 r2]) ∧ Below w.heap.size w w' := by
  have HV := Aside0.mk (Option.some.inj h)
  have HG := Aside0.mk hG
  clear h
  obtain ⟨g0, g1, g2, g3, g4, g5⟩ := hG.cells
  clear g0 g2 g3 g5 hG
  by_cases h0 : a0 ≠ 4 ∧ a0 ≠ 41
  · have hr : (r1, r2) = (⟨#[]⟩, 6) := by rw [← HV.out, if_pos h0]
    simp only [Prod.mk.injEq] at hr
    obtain ⟨rfl, rfl⟩ := hr
    have d0 : (a0 != 4) = true := bne_iff_ne.mpr h0.1
    have d1 : (a0 != 41) = true := bne_iff_ne.mpr h0.2
    clear h0 HV
    go_enter Tryd.func23, Tryd.ntmps23
    go_wp2
    go_ret2
    exact ⟨rfl, Below.refl _ _⟩
  have HX := Aside0.mk h0
  have HE := Aside0.mk (show (verOf a1).2.2.2 ≠ 0 → (r1, r2) = (⟨#[]⟩, (verOf a1).2.2.2) from fun hx => by rw [← HV.out, if_neg h0, if_pos hx])
  have HN := Aside0.mk (show (verOf a1).2.2.2 = 0 → (verOf a1).2.1 ≠ a0 → (r1, r2) = (⟨#[]⟩, 3) from fun hx hy => by rw [← HV.out, if_neg h0, if_neg (by simpa using hx), if_pos hy])
  have HY := Aside0.mk (show (verOf a1).2.2.2 = 0 → (verOf a1).2.1 = a0 → (r1, r2) = (a1, 0) from fun hx hy => by rw [← HV.out, if_neg h0, if_neg (by simpa using hx), if_neg (by simpa using hy)])
  have HP := Aside0.mk (ipip_Proto_is a1)
  generalize (verOf a1).2.1 = p at HE HN HY HP
  generalize (verOf a1).2.2.2 = e at HE HN HY HP
  clear HV
  have hp : (a0 != 4) = false ∨ ((a0 != 4) = true ∧ (a0 != 41) = false) := by
    by_cases h4 : a0 = 4
    · left; simp [h4]
    · right; exact ⟨bne_iff_ne.mpr h4, by simp only [bne_eq_false_iff_eq]; exact Classical.not_not.1 fun h41 => h0 ⟨h4, h41⟩⟩
  clear h0
  by_cases he : e = 0
  · subst he
    by_cases hy : p = a0
    · subst hy
      have hr := HY.out rfl rfl
      simp only [Prod.mk.injEq] at hr
      obtain ⟨rfl, rfl⟩ := hr
      have k1 : (p != p) = false := bne_self_eq_false p
      clear HE HN HY HX
      rcases hp with d0 | ⟨d0, d1⟩
      all_goals
        go_enter Tryd.func23, Tryd.ntmps23
        go_wp2_with fail
        refine (ipip_Proto.calls _ _ _ _ HP.out HG.out).mono ?_
        rintro e' w2 ⟨rfl, hb⟩
        have HB := Aside0.mk hb
        clear hb g1 g4
        go_wp2
        go_ret2
        exact ⟨rfl, HB.out⟩
    · have hr := HN.out rfl hy
      simp only [Prod.mk.injEq] at hr
      obtain ⟨rfl, rfl⟩ := hr
      have k1 : (p != a0) = true := bne_iff_ne.mpr hy
      clear HE HN HY HX hy
      rcases hp with d0 | ⟨d0, d1⟩
      all_goals
        go_enter Tryd.func23, Tryd.ntmps23
        go_wp2_with fail
        refine (ipip_Proto.calls _ _ _ _ HP.out HG.out).mono ?_
        rintro e' w2 ⟨rfl, hb⟩
        have HB := Aside0.mk hb
        clear hb g1 g4
        go_wp2
        go_ret2
        exact ⟨rfl, HB.out⟩
  · have hr := HE.out he
    simp only [Prod.mk.injEq] at hr
    obtain ⟨rfl, rfl⟩ := hr
    have k1 : (r2 != 0) = true := bne_iff_ne.mpr he
    clear HE HN HY HX he
    rcases hp with d0 | ⟨d0, d1⟩
    all_goals
      go_enter Tryd.func23, Tryd.ntmps23
      go_wp2_with fail
      refine (ipip_Proto.calls _ _ _ _ HP.out HG.out).mono ?_
      rintro e' w2 ⟨rfl, hb⟩
      have HB := Aside0.mk hb
      clear hb g1 g4
      go_wp2
      go_ret2
      exact ⟨rfl, HB.out⟩
end Go.Proofs.YtcmalglippmocaaDoor.G
end

section
namespace Go.Proofs.YtcmalglippmocaaDoor.G
open Go.RowKit Go.Proofs.YtcmalglippmocaaDoorW.PrintWords Go.Proofs.YtcmalglippmocaaDoorW.PrintLast Go.Proofs.YtcmalglippmocaaDoorW.PrintMore Go.Proofs.YtcmalglippmocaaDoor.Pal
def gue1_T0 : Bool × List (List Nat × List Nat) := (true, [([], []), ([0], [0]), ([1], [1]), ([2], [2]), ([2], [2]), ([2], [2]), ([5, 2], [2, 5]), ([3, 4, 6, 2, 2], [2, 3, 4, 6]), ([2], [2]), ([7, 8, 2], [2, 7, 8]), ([9, 7, 2], [2, 9]), ([2, 10], [2, 10]), ([11, 10, 0, 1, 2, 3, 4, 5, 6, 7, 8, 9, 10, 11], [11])])
def gue1_B0 : List Nat := [0, 1, 3, 7, 7, 7, 39, 127, 7, 511, 1023, 2047, 4095]
theorem gue1_tab0 : rtab .any (opsOf Tryd.f76 0) = gue1_T0 := by kernel_rfl
theorem gue1_bits0 : waitsOk gue1_T0.2 gue1_B0 = true := by kernel_rfl
def ue0 (s : ByteArray) : Int := ((be (bl (s.extract 0 1)) : Nat) : Int)
def ue1 (s : ByteArray) : Int := ((be (bl (s.extract 1 2)) : Nat) : Int)
def ue2 (s : ByteArray) : Int := ((be (bl (s.extract 2 4)) : Nat) : Int)
def ipipR (a0 : Int) (a1 : ByteArray) : ByteArray × Int := if a0 ≠ 4 ∧ a0 ≠ 41 then (⟨#[]⟩, 6) else if (verOf a1).2.2.2 ≠ 0 then (⟨#[]⟩, (verOf a1).2.2.2) else if (verOf a1).2.1 ≠ a0 then (⟨#[]⟩, 3) else (a1, 0)
def gueIn (P : ByteArray) : ByteArray × Int := ipipR (ue1 P) (P.extract 4 P.size)
def gueErr (q : Int) (right : Bool) (P : ByteArray) : Int :=
  if q ≠ 6080 then 6 else if right = false then 5 else if P.size < 4 then 2 else if ue0 P / 64 ≠ 0 then 3 else if ¬ (ue0 P = 0 ∧ ue2 P = 0) then 9 else (gueIn P).2
theorem be_small1 (s : ByteArray) (n : Nat) : be (bl (s.extract n (n + 1))) < 256 := by
  have := be_lt_of (bl (s.extract n (n + 1))) 1 (by rw [bl_length, ByteArray.size_extract]; omega)
  simpa using this
def GU (k g : Nat) (src dst b : ByteArray) (sp q : Int) (P : ByteArray) (nn : Int) (w w1 : World) (m : Nat) (x : ByteArray) : Prop :=
  Rd w1 (g + 4) P m ∧ Hp w1 [(k, 9, #[.string src]), (k + 1, 9, #[.string dst]), (k + 2, 9, #[.string b]), (k + 3, 55, #[.int .i64 0, .bool false]), (g, 81, #[.int .i64 sp, .int .i64 q, .string P]), (g + 1, 3, #[.int .i64 nn]), (g + 2, 9, #[.string x]), (g + 3, 24, #[.int .i64 0])] ∧ Below k w w1 ∧ w.heap.size = k ∧ k + 4 ≤ g
section
variable {k g : Nat} {src dst b P : ByteArray} {sp q nn : Int} {w w1 w2 : World} {n m : Nat} {x : ByteArray}
theorem GU.went (h : GU k g src dst b sp q P nn w w1 n x) (hw : Went w1 w2 (g + 4) P m) : GU k g src dst b sp q P nn w w2 m x :=
  ⟨hw.2, h.2.1.grown hw.1 (by have := h.2.2.2.2; simp; omega), h.2.2.1.trans (below_of_grown hw.1 (by have := h.1.1.lt; have := h.2.2.2.2; omega) (by have := h.2.2.2.2; omega)), h.2.2.2⟩
theorem GU.below (h : GU k g src dst b sp q P nn w w1 n x) (hb : Below w1.heap.size w1 w2) : GU k g src dst b sp q P nn w w2 n x :=
  ⟨h.1.below hb, h.2.1.below hb (by have := h.1.1.lt; have := h.2.2.2.2; simp; omega), h.2.2.1.trans (hb.mono (by have := h.1.1.lt; have := h.2.2.2.2; omega)), h.2.2.2⟩
theorem GU.drew (h : GU k g src dst b sp q P nn w w1 n x) : GU k g src dst b sp q P nn w w1.drew n x := ⟨h.1, h.2.1, h.2.2.1.drew, h.2.2.2⟩
theorem GU.drewN (h : GU k g src dst b sp q P nn w w1 n x) (j : Nat) : GU k g src dst b sp q P nn w (w1.drewN j) n x := ⟨h.1, h.2.1, pw_below_drewN h.2.2.1 j, h.2.2.2⟩
theorem GU.alloc (h : GU k g src dst b sp q P nn w w1 n x) (o : Obj) : GU k g src dst b sp q P nn w (w1.alloc o) n x := h.below ((Below.refl w1.heap.size w1).alloc (Nat.le_refl _) o)
theorem GU.inner (h : GU k g src dst b sp q P nn w w1 n x) (y : ByteArray) : GU k g src dst b sp q P nn w (w1.setCell ⟨g + 2, 0, none⟩ (.string y)) n y :=
  ⟨⟨h.1.1.other _ (by simp) _, h.1.2⟩, h.2.1.set (l1 := [_, _, _, _, _, _]) (l2 := [_]) 0 (.string y) (by have := h.2.2.2.2; simp; omega) (by simp), h.2.2.1.setCell (by have := h.2.2.2.2; simp; omega) _, h.2.2.2⟩
theorem GU.facts (h : GU k g src dst b sp q P nn w w1 n x) :
    (w1.cell? ⟨k, 0, none⟩ = some (.string src) ∧ w1.cell? ⟨k + 1, 0, none⟩ = some (.string dst) ∧ w1.cell? ⟨k + 2, 0, none⟩ = some (.string b)) ∧ w1.cell? ⟨g, 1, none⟩ = some (.int .i64 q) ∧ w1.cell? ⟨g + 1, 0, none⟩ = some (.int .i64 nn) ∧ w1.cell? ⟨g + 2, 0, none⟩ = some (.string x) ∧ w1.frozen? ⟨g + 2, 0, none⟩ = false :=
  ⟨⟨h.2.1.head.cell 0 _ rfl, h.2.1.tail.head.cell 0 _ rfl, h.2.1.tail.tail.head.cell 0 _ rfl⟩, h.2.1.tail.tail.tail.tail.head.cell 1 _ rfl, h.2.1.tail.tail.tail.tail.tail.head.cell 0 _ rfl, h.2.1.tail.tail.tail.tail.tail.tail.head.cell 0 _ rfl, h.2.1.tail.tail.tail.tail.tail.tail.head.free 0⟩
theorem GU.gv (h : GU k g src dst b sp q P nn w w1 n x) (hV : GV w) : GV w1 := hV.below (by rw [h.2.2.2.1]; exact h.2.2.1)
end
set_option maxHeartbeats 4000000 in
set_option maxRecDepth 100000 in
theorem gue_Get1 (k g : Nat) (src dst b P : ByteArray) (sp q nn : Int) (right : Bool) (w w1 : World) (hV : GV w)
    (hR : nn = 0 ∧ right = true ∨ nn ≠ 0 ∧ ∃ ps, sum_Pseudo.f src dst 17 b.size = some ps ∧ sum_Right.f [ps, b] = some right)
    (h : GU k g src dst b sp q P nn w w1 0 ⟨#[]⟩) :
    Calls Tryd.prog 76 #[.pointer (some ⟨g + 4, 0, none⟩), .pointer (some ⟨g + 1, 0, none⟩), .pointer (some ⟨k, 0, none⟩), .pointer (some ⟨k + 1, 0, none⟩), .pointer (some ⟨k + 2, 0, none⟩), .pointer (some ⟨g, 0, none⟩), .pointer (some ⟨g + 2, 0, none⟩)] w1 fun e w2 => e = did (gueErr q right P) ∧
      ∃ n x, GU k g src dst b sp q P nn w w2 n x ∧ (gueErr q right P = 0 → x = (gueIn P).1) := by
  have HG := Aside0.mk h
  have HV := Aside0.mk hV
  clear h hV
  go_enter Tryd.func76, Tryd.ntmps76
  obtain ⟨⟨c0, c1, c2⟩, c3, c4, c5, c6⟩ := HG.out.facts
  clear c3 c5 c6
  go_upto_region 0 with (fail)
  go_cut [8] from 14 to 25 (fun v8 wc => v8 = .bool right ∧ Aside0 (GU k g src dst b sp q P nn w wc 0 ⟨#[]⟩))
  case first =>
    as_aux_lemma =>
    rcases hR with ⟨hn, rfl⟩ | ⟨hn, ps, hps, hrt⟩
    · subst hn
      replace HG := Aside0.mk HG.out.drew
      refine start_ (n := 13) (S := fun w' => w'.cell? ⟨g + 1, 0, none⟩ = some (.int .i64 0) ∧ w'.cell? ⟨k, 0, none⟩ = some (.string src) ∧ w'.cell? ⟨k + 1, 0, none⟩ = some (.string dst) ∧ w'.cell? ⟨k + 2, 0, none⟩ = some (.string b)) (ds := []) #[false, false, false, false, false, false, false, false, false, false, false, false, false] (by kernel_rfl) rfl rfl ⟨c4, c0, c1, c2⟩ (fun hHeld => ?_); refine with_tabW gue1_tab0 gue1_bits0 (fun HT_ HW_ => ?_)
      clear c0 c1 c2 c4
      generalize w1.drew = w5 at HG hHeld ⊢
      refine take_ (i := 0) (N := some 14) (v := ?_) (a' := ?_) #[true, false, false, false, false, false, false, false, false, false, false, false, false] rfl rfl (take_ofW HT_.out HW_.out (by kernel_rfl)) (fun _ _ _ h => h) (Or.inl ⟨by rfl, ?_⟩) hHeld ?_ ?_
      rotate_left
      · rintro w' ⟨s0, s1, s2, s3⟩
        go_simp
        with_reducible rfl
      rotate_left
      · simp only [Act.put, List.setIfInBounds_toArray, List.set_cons_zero, List.set_cons_succ, i64_w, i32_w]
        rfl
      refine pure_ (i := 1) (N := some 15) (v := ?_) (a' := ?_) #[true, true, false, false, false, false, false, false, false, false, false, false, false] rfl rfl (any_of HT_.out (by kernel_rfl)) (fun _ _ _ h => h) (Or.inl ⟨by rfl, ?_⟩) ?_ ?_
      rotate_left
      · intro w'
        go_simp
        with_reducible rfl
      rotate_left
      · simp only [Act.put, List.setIfInBounds_toArray, List.set_cons_zero, List.set_cons_succ, i64_w, i32_w]
        rfl
      refine pure_ (i := 2) (N := some 16) (v := ?_) (a' := ?_) #[true, true, true, false, false, false, false, false, false, false, false, false, false] rfl rfl (any_of HT_.out (by kernel_rfl)) (fun _ _ _ h => h) (Or.inl ⟨by rfl, ?_⟩) ?_ ?_
      rotate_left
      · intro w'
        go_simp
        with_reducible rfl
      rotate_left
      · simp only [Act.put, List.setIfInBounds_toArray, List.set_cons_zero, List.set_cons_succ, i64_w, i32_w]
        rfl
      refine pure_ (i := 3) (N := some 17) (v := undef) (a' := ?_) #[true, true, true, true, false, false, false, false, false, false, false, false, false] rfl rfl (any_of HT_.out (by kernel_rfl)) (fun _ _ _ h => h) (Or.inr ⟨by rfl, rfl⟩) ?_ ?_
      rotate_left
      · simp only [Act.put, List.setIfInBounds_toArray, List.set_cons_zero, List.set_cons_succ, i64_w, i32_w]
        rfl
      refine pure_ (i := 4) (N := some 18) (v := undef) (a' := ?_) #[true, true, true, true, true, false, false, false, false, false, false, false, false] rfl rfl (any_of HT_.out (by kernel_rfl)) (fun _ _ _ h => h) (Or.inr ⟨by rfl, rfl⟩) ?_ ?_
      rotate_left
      · simp only [Act.put, List.setIfInBounds_toArray, List.set_cons_zero, List.set_cons_succ, i64_w, i32_w]
        rfl
      refine pure_ (i := 5) (N := some 19) (v := undef) (a' := ?_) #[true, true, true, true, true, true, false, false, false, false, false, false, false] rfl rfl (any_of HT_.out (by kernel_rfl)) (fun _ _ _ h => h) (Or.inr ⟨by rfl, rfl⟩) ?_ ?_
      rotate_left
      · simp only [Act.put, List.setIfInBounds_toArray, List.set_cons_zero, List.set_cons_succ, i64_w, i32_w]
        rfl
      refine pure_ (i := 6) (N := some 20) (v := undef) (a' := ?_) #[true, true, true, true, true, true, true, false, false, false, false, false, false] rfl rfl (any_of HT_.out (by kernel_rfl)) (fun _ _ _ h => h) (Or.inr ⟨by rfl, rfl⟩) ?_ ?_
      rotate_left
      · simp only [Act.put, List.setIfInBounds_toArray, List.set_cons_zero, List.set_cons_succ, i64_w, i32_w]
        rfl
      refine pure_ (i := 8) (N := some 22) (v := undef) (a' := ?_) #[true, true, true, true, true, true, true, false, true, false, false, false, false] rfl rfl (any_of HT_.out (by kernel_rfl)) (fun _ _ _ h => h) (Or.inr ⟨by rfl, rfl⟩) ?_ ?_
      rotate_left
      · simp only [Act.put, List.setIfInBounds_toArray, List.set_cons_zero, List.set_cons_succ, i64_w, i32_w]
        rfl
      refine pure_ (i := 7) (N := some 21) (v := undef) (a' := ?_) #[true, true, true, true, true, true, true, true, true, false, false, false, false] rfl rfl (any_of HT_.out (by kernel_rfl)) (fun _ _ _ h => h) (Or.inr ⟨by rfl, rfl⟩) ?_ ?_
      rotate_left
      · simp only [Act.put, List.setIfInBounds_toArray, List.set_cons_zero, List.set_cons_succ, i64_w, i32_w]
        rfl
      refine pure_ (i := 9) (N := some 23) (v := undef) (a' := ?_) #[true, true, true, true, true, true, true, true, true, true, false, false, false] rfl rfl (any_of HT_.out (by kernel_rfl)) (fun _ _ _ h => h) (Or.inr ⟨by rfl, rfl⟩) ?_ ?_
      rotate_left
      · simp only [Act.put, List.setIfInBounds_toArray, List.set_cons_zero, List.set_cons_succ, i64_w, i32_w]
        rfl
      refine pure_ (i := 10) (N := some 24) (v := undef) (a' := ?_) #[true, true, true, true, true, true, true, true, true, true, true, false, false] rfl rfl (any_of HT_.out (by kernel_rfl)) (fun _ _ _ h => h) (Or.inr ⟨by rfl, rfl⟩) ?_ ?_
      rotate_left
      · simp only [Act.put, List.setIfInBounds_toArray, List.set_cons_zero, List.set_cons_succ, i64_w, i32_w]
        rfl
      refine pure_ (i := 11) (N := some 25) (v := ?_) (a' := ?_) #[true, true, true, true, true, true, true, true, true, true, true, true, false] rfl rfl (any_of HT_.out (by kernel_rfl)) (fun _ _ _ h => h) (Or.inl ⟨by rfl, ?_⟩) ?_ ?_
      rotate_left
      · intro w'
        go_simp
        with_reducible rfl
      rotate_left
      · simp only [Act.put, List.setIfInBounds_toArray, List.set_cons_zero, List.set_cons_succ, i64_w, i32_w]
        rfl
      refine pure_ (i := 12) (N := some 8) (v := ?_) (a' := ?_) #[true, true, true, true, true, true, true, true, true, true, true, true, true] rfl rfl (any_of HT_.out (by kernel_rfl)) (fun _ _ _ h => h) (Or.inl ⟨by rfl, ?_⟩) ?_ ?_
      rotate_left
      · intro w'
        go_simp
        with_reducible rfl
      rotate_left
      · simp only [Act.put, List.setIfInBounds_toArray, List.set_cons_zero, List.set_cons_succ, i64_w, i32_w]
        rfl
      refine done_ (done_of HT_.out (by kernel_rfl)) ?_
      go_wp2_with fail
      go_meet
      case rel => exact ⟨rfl, HG⟩
    · have e1 : (nn == 0) = false := beq_eq_false_iff_ne.mpr hn
      have HP := Aside0.mk hps
      have HRT := Aside0.mk hrt
      clear hn hps hrt
      replace HG := Aside0.mk HG.out.drew
      refine start_ (n := 13) (S := fun w' => w'.cell? ⟨g + 1, 0, none⟩ = some (.int .i64 nn) ∧ w'.cell? ⟨k, 0, none⟩ = some (.string src) ∧ w'.cell? ⟨k + 1, 0, none⟩ = some (.string dst) ∧ w'.cell? ⟨k + 2, 0, none⟩ = some (.string b)) (ds := []) #[false, false, false, false, false, false, false, false, false, false, false, false, false] (by kernel_rfl) rfl rfl ⟨c4, c0, c1, c2⟩ (fun hHeld => ?_); refine with_tabW gue1_tab0 gue1_bits0 (fun HT_ HW_ => ?_)
      clear c0 c1 c2 c4
      generalize w1.drew = w5 at HG hHeld ⊢
      refine take_ (i := 0) (N := some 14) (v := ?_) (a' := ?_) #[true, false, false, false, false, false, false, false, false, false, false, false, false] rfl rfl (take_ofW HT_.out HW_.out (by kernel_rfl)) (fun _ _ _ h => h) (Or.inl ⟨by rfl, ?_⟩) hHeld ?_ ?_
      rotate_left
      · rintro w' ⟨s0, s1, s2, s3⟩
        go_simp
        with_reducible rfl
      rotate_left
      · simp only [Act.put, List.setIfInBounds_toArray, List.set_cons_zero, List.set_cons_succ, i64_w, i32_w]
        rfl
      refine pure_ (i := 1) (N := some 15) (v := ?_) (a' := ?_) #[true, true, false, false, false, false, false, false, false, false, false, false, false] rfl rfl (any_of HT_.out (by kernel_rfl)) (fun _ _ _ h => h) (Or.inl ⟨by rfl, ?_⟩) ?_ ?_
      rotate_left
      · intro w'
        go_simp
        with_reducible rfl
      rotate_left
      · simp only [Act.put, List.setIfInBounds_toArray, List.set_cons_zero, List.set_cons_succ, i64_w, i32_w]
        rfl
      refine pure_ (i := 2) (N := some 16) (v := ?_) (a' := ?_) #[true, true, true, false, false, false, false, false, false, false, false, false, false] rfl rfl (any_of HT_.out (by kernel_rfl)) (fun _ _ _ h => h) (Or.inl ⟨by rfl, ?_⟩) ?_ ?_
      rotate_left
      · intro w'
        go_simp
        with_reducible rfl
      rotate_left
      · simp only [Act.put, List.setIfInBounds_toArray, List.set_cons_zero, List.set_cons_succ, i64_w, i32_w]
        rfl
      refine take_ (i := 3) (N := some 17) (v := ?_) (a' := ?_) #[true, true, true, true, false, false, false, false, false, false, false, false, false] rfl rfl (take_ofW HT_.out HW_.out (by kernel_rfl)) (fun _ _ _ h => h) (Or.inl ⟨by rfl, ?_⟩) hHeld ?_ ?_
      rotate_left
      · rintro w' ⟨s0, s1, s2, s3⟩
        go_simp
        with_reducible rfl
      rotate_left
      · simp only [Act.put, List.setIfInBounds_toArray, List.set_cons_zero, List.set_cons_succ, i64_w, i32_w]
        rfl
      refine take_ (i := 4) (N := some 18) (v := ?_) (a' := ?_) #[true, true, true, true, true, false, false, false, false, false, false, false, false] rfl rfl (take_ofW HT_.out HW_.out (by kernel_rfl)) (fun _ _ _ h => h) (Or.inl ⟨by rfl, ?_⟩) hHeld ?_ ?_
      rotate_left
      · rintro w' ⟨s0, s1, s2, s3⟩
        go_simp
        with_reducible rfl
      rotate_left
      · simp only [Act.put, List.setIfInBounds_toArray, List.set_cons_zero, List.set_cons_succ, i64_w, i32_w]
        rfl
      refine take_ (i := 5) (N := some 19) (v := ?_) (a' := ?_) #[true, true, true, true, true, true, false, false, false, false, false, false, false] rfl rfl (take_ofW HT_.out HW_.out (by kernel_rfl)) (fun _ _ _ h => h) (Or.inl ⟨by rfl, ?_⟩) hHeld ?_ ?_
      rotate_left
      · rintro w' ⟨s0, s1, s2, s3⟩
        go_simp
        with_reducible rfl
      rotate_left
      · simp only [Act.put, List.setIfInBounds_toArray, List.set_cons_zero, List.set_cons_succ, i64_w, i32_w]
        rfl
      refine pure_ (i := 6) (N := some 20) (v := ?_) (a' := ?_) #[true, true, true, true, true, true, true, false, false, false, false, false, false] rfl rfl (any_of HT_.out (by kernel_rfl)) (fun _ _ _ h => h) (Or.inl ⟨by rfl, ?_⟩) ?_ ?_
      rotate_left
      · intro w'
        go_simp
        with_reducible rfl
      rotate_left
      · simp only [Act.put, List.setIfInBounds_toArray, List.set_cons_zero, List.set_cons_succ, i64_w, i32_w]
        rfl
      refine take_ (i := 8) (N := some 22) (v := ?_) (a' := ?_) #[true, true, true, true, true, true, true, false, true, false, false, false, false] rfl rfl (take_ofW HT_.out HW_.out (by kernel_rfl)) (fun _ _ _ h => h) (Or.inl ⟨by rfl, ?_⟩) hHeld ?_ ?_
      rotate_left
      · rintro w' ⟨s0, s1, s2, s3⟩
        go_simp
        with_reducible rfl
      rotate_left
      · simp only [Act.put, List.setIfInBounds_toArray, List.set_cons_zero, List.set_cons_succ, i64_w, i32_w]
        rfl
      refine one_ (i := 7) (N := some 21) #[true, true, true, true, true, true, true, true, true, false, false, false, false] rfl rfl (one_of HT_.out (by kernel_rfl)) (by decide) (fun K hK => ?_)
      refine goes_ Tryd.func77 (by kernel_rfl) rfl #[.string src, .string dst, .int .i64 17, .int .i64 (b.size : Int)] (by rfl) rfl rfl (by (try simp only [List.map_toArray, List.map_cons, List.map_nil]); first | done | rfl) ?_
      with_reducible refine (sum_Pseudo.calls src dst 17 (b.size : Int) ps _ HP.out).mono ?_
      rintro e w6 ⟨rfl, hb⟩
      refine ⟨_, rfl, ?_⟩
      replace HG := Aside0.mk (HG.out.below hb)
      clear hb
      refine hK.out _ _ ⟨HG.out.facts.2.2.1, HG.out.facts.1⟩ (fun hHeld => ?_)
      clear hK K
      refine norm_ (a' := ?_) ?_ ?_
      rotate_left
      · show Act.put _ (some 21) _ = _
        simp only [Act.put, List.setIfInBounds_toArray, List.set_cons_zero, List.set_cons_succ, i64_w, i32_w]
        rfl
      obtain ⟨y, hy⟩ : ∃ y : List ByteArray, y = [ps, b] := ⟨_, rfl⟩
      rw [← hy] at HRT
      have NY := Aside0.mk hy
      clear hy
      refine one_ (i := 9) (N := some 23) #[true, true, true, true, true, true, true, true, true, true, false, false, false] rfl rfl (one_of HT_.out (by kernel_rfl)) (by decide) (fun K hK => ?_)
      refine Kd.R_lit_step Kd.string _ 9 ?hg (N := 23) ?hd (xs := ([ps, b] : List ByteArray)) (inner := [.string ps, .string b]) (ok := fun _ => True) (okp := fun _ => True) ?hr ?hp (fun _ hk => hk) trivial (Below.refl _ _) (Nat.le_refl _) (by simp) ?_; (case hd => rfl); (case hg => rfl); (case hr => first | (go_simp; done) | (go_simp; rfl)); (case hp => exact (Reps.one (show Kd.M Kd.string _ _ _ ps [.string ps] from rfl) (Reps.one (show Kd.M Kd.string _ _ _ b [.string b] from rfl) (Reps.none _ _))))
      intro v47 w7 ho hb hg_ hnew_
      clear hg_ hnew_
      rw [← NY.out] at ho
      have HO := Aside0.mk ho
      replace HG := Aside0.mk (HG.out.below hb)
      clear hb ho
      obtain ⟨Ao, co, eo⟩ := Kd.R_slice HO.out
      (first | subst eo | (injection eo with f1_ f2_ f3_; have f4_ := f1_.symm; have f5_ := f3_.symm; clear f1_ f2_ f3_; subst f4_; subst f5_))
      refine hK.out _ _ ⟨HG.out.facts.2.2.1, HG.out.facts.1⟩ (fun hHeld => ?_)
      clear hK K
      refine norm_ (a' := ?_) ?_ ?_
      rotate_left
      · show Act.put _ (some 23) _ = _
        simp only [Act.put, List.setIfInBounds_toArray, List.set_cons_zero, List.set_cons_succ, i64_w, i32_w]
        rfl
      refine one_ (i := 10) (N := some 24) #[true, true, true, true, true, true, true, true, true, true, true, false, false] rfl rfl (one_of HT_.out (by kernel_rfl)) (by decide) (fun K hK => ?_)
      refine goes_ Tryd.func67 (by kernel_rfl) rfl #[.slice Ao y.length co] (by rfl) rfl rfl (by (try simp only [List.map_toArray, List.map_cons, List.map_nil]); first | done | rfl) ?_
      with_reducible refine (sum_Right.calls _ _ y right _ ?side1 ?side2 HRT.out).mono ?_
      (case side1 => exact (Kd.R_reads' HO.out).2.2)
      (case side2 => exact (Kd.R_reads' HO.out).2.1)
      rintro e w8 ⟨rfl, hb⟩
      refine ⟨_, rfl, ?_⟩
      clear HO
      replace HG := Aside0.mk (HG.out.below hb)
      clear hb
      refine hK.out _ _ ⟨HG.out.facts.2.2.1, HG.out.facts.1⟩ (fun hHeld => ?_)
      clear hK K
      refine norm_ (a' := ?_) ?_ ?_
      rotate_left
      · show Act.put _ (some 24) _ = _
        simp only [Act.put, List.setIfInBounds_toArray, List.set_cons_zero, List.set_cons_succ, i64_w, i32_w]
        rfl
      refine pure_ (i := 11) (N := some 25) (v := ?_) (a' := ?_) #[true, true, true, true, true, true, true, true, true, true, true, true, false] rfl rfl (any_of HT_.out (by kernel_rfl)) (fun _ _ _ h => h) (Or.inl ⟨by rfl, ?_⟩) ?_ ?_
      rotate_left
      · intro w'
        go_simp
        with_reducible rfl
      rotate_left
      · simp only [Act.put, List.setIfInBounds_toArray, List.set_cons_zero, List.set_cons_succ, i64_w, i32_w]
        rfl
      refine pure_ (i := 12) (N := some 8) (v := ?_) (a' := ?_) #[true, true, true, true, true, true, true, true, true, true, true, true, true] rfl rfl (any_of HT_.out (by kernel_rfl)) (fun _ _ _ h => h) (Or.inl ⟨by rfl, ?_⟩) ?_ ?_
      rotate_left
      · intro w'
        go_simp
        with_reducible rfl
      rotate_left
      · simp only [Act.put, List.setIfInBounds_toArray, List.set_cons_zero, List.set_cons_succ, i64_w, i32_w]
        rfl
      refine done_ (done_of HT_.out (by kernel_rfl)) ?_
      go_wp2_with fail
      go_meet
      case rel => exact ⟨rfl, HG⟩
  case rest =>
  as_aux_lemma =>
  clear c0 c1 c2 c4 HG hR
  obtain ⟨rfl, HG⟩ := hcut
  obtain ⟨_, c3, _⟩ := HG.out.facts
  by_cases hc : q ≠ 6080
  · as_aux_lemma =>
    have d1 : (q == 6080) = false := beq_eq_false_iff_ne.mpr hc
    have HE := Aside0.mk (show gueErr q right P = 6 by unfold gueErr; rw [if_pos hc])
    clear hc
    go_wp2_with fail
    refine (Reader_Need.no _ _ _).mono ?_
    rintro e w2 ⟨rfl, rfl⟩
    exact ⟨rfl, by rw [HE.out]; rfl, _, _, HG.out, fun h0 => absurd (HE.out.symm.trans h0) (by decide)⟩
  have d1 : (q == 6080) = true := beq_iff_eq.mpr (Classical.not_not.1 hc)
  have H1 := Aside0.mk hc
  clear hc
  go_wp2_with fail
  refine (Reader_Need.yes _ _ _).mono ?_
  rintro e w2 ⟨rfl, rfl⟩
  clear d1 c3
  cases right with
  | false =>
    as_aux_lemma =>
    have HE := Aside0.mk (show gueErr q false P = 5 by unfold gueErr; rw [if_neg H1.out, if_pos rfl])
    go_wp2_with fail
    refine (Reader_Need.no _ _ _).mono ?_
    rintro e w2 ⟨rfl, rfl⟩
    exact ⟨rfl, by rw [HE.out]; rfl, _, _, HG.out, fun h0 => absurd (HE.out.symm.trans h0) (by decide)⟩
  | true =>
  as_aux_lemma =>
  have H2 := Aside0.mk (show ¬ true = false by decide)
  go_wp2_with fail
  refine (Reader_Need.yes _ _ _).mono ?_
  rintro e w3 ⟨rfl, rfl⟩
  go_wp2_with fail
  refine (Reader_Left.calls _ _ _ _ HG.out.1).mono ?_
  rintro e w4 ⟨rfl, j, rfl⟩
  replace HG := Aside0.mk (HG.out.drewN j)
  have z0 : ((P.size : Int) - ((0 : Nat) : Int)) = (P.size : Int) := by omega
  rw [z0]
  clear z0
  by_cases hc : P.size < 4
  · as_aux_lemma =>
    have d1 : decide ((4 : Int) ≤ (P.size : Int)) = false := decide_eq_false (by omega)
    have d2 : decide (4 ≤ P.size) = false := decide_eq_false (by omega)
    have HE := Aside0.mk (show gueErr q true P = 2 by unfold gueErr; rw [if_neg H1.out, if_neg H2.out, if_pos hc])
    clear hc
    go_wp2_with fail
    refine (Reader_Need.no _ _ _).mono ?_
    rintro e w5 ⟨rfl, rfl⟩
    exact ⟨rfl, by rw [HE.out]; rfl, _, _, HG.out, fun h0 => absurd (HE.out.symm.trans h0) (by decide)⟩
  have d1 : decide ((4 : Int) ≤ (P.size : Int)) = true := decide_eq_true (by omega)
  have d2 : decide (4 ≤ P.size) = true := decide_eq_true (by omega)
  have H3 := Aside0.mk hc
  clear hc
  go_wp2_with fail
  refine (Reader_Need.yes _ _ _).mono ?_
  rintro e w5 ⟨rfl, rfl⟩
  clear d1 d2
  go_wp2_with fail
  refine (Reader_U8.yes _ _ _ _ HG.out.1 (by have := H3.out; omega)).mono ?_
  rintro e w6 ⟨rfl, g1⟩
  replace HG := Aside0.mk (HG.out.went g1)
  clear g1
  go_wp2_with fail
  refine (Reader_U8.yes _ _ _ _ HG.out.1 (by have := H3.out; omega)).mono ?_
  rintro e w7 ⟨rfl, g1⟩
  replace HG := Aside0.mk (HG.out.went g1)
  clear g1
  go_wp2_with fail
  refine (Reader_U16.yes _ _ _ _ HG.out.1 (by have := H3.out; omega)).mono ?_
  rintro e w8 ⟨rfl, g1⟩
  replace HG := Aside0.mk (HG.out.went g1)
  clear g1
  have hu0 : ((be (bl (P.extract 0 (0 + 1))) : Nat) : Int) = ue0 P := rfl
  have hu1 : ((be (bl (P.extract (0 + 1) (0 + 1 + 1))) : Nat) : Int) = ue1 P := rfl
  have hu2 : ((be (bl (P.extract (0 + 1 + 1) (0 + 1 + 1 + 2))) : Nat) : Int) = ue2 P := rfl
  rw [hu0, hu1, hu2]
  clear hu0 hu1 hu2
  have hlt : 0 ≤ ue0 P ∧ ue0 P < 256 := by have := be_small1 P 0; unfold ue0; rw [show (0 + 1 : Nat) = 1 from rfl] at this; omega
  have hsh : wrap64 (ue0 P / 64) = ue0 P / 64 := by unfold wrap64; omega
  by_cases hc : ue0 P / 64 ≠ 0
  · as_aux_lemma =>
    have d1 : (ue0 P / 64 == 0) = false := beq_eq_false_iff_ne.mpr hc
    have HE := Aside0.mk (show gueErr q true P = 3 by unfold gueErr; rw [if_neg H1.out, if_neg H2.out, if_neg H3.out, if_pos hc])
    clear hc
    go_wp2_with fail
    refine (Reader_Need.no _ _ _).mono ?_
    rintro e w9 ⟨rfl, rfl⟩
    exact ⟨rfl, by rw [HE.out]; rfl, _, _, HG.out, fun h0 => absurd (HE.out.symm.trans h0) (by decide)⟩
  have d1 : (ue0 P / 64 == 0) = true := beq_iff_eq.mpr (Classical.not_not.1 hc)
  have H4 := Aside0.mk hc
  clear hc
  go_wp2_with fail
  refine (Reader_Need.yes _ _ _).mono ?_
  rintro e w9 ⟨rfl, rfl⟩
  clear d1 hlt hsh
  as_aux_lemma =>
  by_cases hc : ue0 P = 0 ∧ ue2 P = 0
  case neg =>
    as_aux_lemma =>
    have HE := Aside0.mk (show gueErr q true P = 9 by unfold gueErr; rw [if_neg H1.out, if_neg H2.out, if_neg H3.out, if_neg H4.out, if_pos hc])
    by_cases h00 : ue0 P = 0
    · have d1 : (ue0 P == 0) = true := beq_iff_eq.mpr h00
      have d2 : (ue2 P == 0) = false := beq_eq_false_iff_ne.mpr (fun h => hc ⟨h00, h⟩)
      clear hc h00
      go_wp2_with fail
      refine (Reader_Need.no _ _ _).mono ?_
      rintro e w10 ⟨rfl, rfl⟩
      exact ⟨rfl, by rw [HE.out]; rfl, _, _, HG.out, fun h0 => absurd (HE.out.symm.trans h0) (by decide)⟩
    · have d1 : (ue0 P == 0) = false := beq_eq_false_iff_ne.mpr h00
      clear hc h00
      go_wp2_with fail
      refine (Reader_Need.no _ _ _).mono ?_
      rintro e w10 ⟨rfl, rfl⟩
      exact ⟨rfl, by rw [HE.out]; rfl, _, _, HG.out, fun h0 => absurd (HE.out.symm.trans h0) (by decide)⟩
  have d1 : (ue0 P == 0) = true := beq_iff_eq.mpr hc.1
  have d2 : (ue2 P == 0) = true := beq_iff_eq.mpr hc.2
  have HE := Aside0.mk (show gueErr q true P = (gueIn P).2 by unfold gueErr; rw [if_neg H1.out, if_neg H2.out, if_neg H3.out, if_neg H4.out, if_neg (fun h => h hc)])
  clear hc
  go_wp2_with fail
  refine (Reader_Need.yes _ _ _).mono ?_
  rintro e w10 ⟨rfl, rfl⟩
  clear d1 d2
  go_wp2_with fail
  refine (Reader_Rest.calls _ _ _ _ HG.out.1).mono ?_
  rintro e w11 ⟨rfl, g1⟩
  replace HG := Aside0.mk (HG.out.went g1)
  clear g1
  go_wp2_with fail
  refine (ipip_Get.calls (ue1 P) (P.extract 4 P.size) (gueIn P).1 (gueIn P).2 _ rfl (HG.out.gv HV.out)).mono ?_
  rintro e w12 ⟨rfl, g1⟩
  replace HG := Aside0.mk (HG.out.below g1)
  clear g1
  by_cases h0 : (gueIn P).2 = 0
  case neg =>
    as_aux_lemma =>
    have d1 : ((gueIn P).2 == 0) = false := beq_eq_false_iff_ne.mpr h0
    have HX := Aside0.mk h0
    clear h0
    go_wp2_with fail
    refine (Reader_Need.no _ _ _).mono ?_
    rintro e w13 ⟨rfl, rfl⟩
    exact ⟨rfl, by rw [HE.out]; unfold did; rw [if_neg HX.out]; rfl, _, _, HG.out, fun h0 => absurd (HE.out.symm.trans h0) HX.out⟩
  have d1 : ((gueIn P).2 == 0) = true := beq_iff_eq.mpr h0
  have HX := Aside0.mk h0
  clear h0
  go_wp2_with fail
  refine (Reader_Need.yes _ _ _).mono ?_
  rintro e w13 ⟨rfl, rfl⟩
  clear d1
  obtain ⟨_, _, _, c5, c6⟩ := HG.out.facts
  go_wp2
  go_end0
  exact ⟨by rw [HE.out, HX.out]; rfl, _, _, HG.out.inner _, fun _ => rfl⟩
end Go.Proofs.YtcmalglippmocaaDoor.G
end

section
namespace Go.Proofs.YtcmalglippmocaaDoor.G
open Go.RowKit Go.Proofs.YtcmalglippmocaaDoorW.PrintWords Go.Proofs.YtcmalglippmocaaDoorW.PrintLast Go.Proofs.YtcmalglippmocaaDoorW.PrintMore Go.Proofs.YtcmalglippmocaaDoor.Pal
def greBits (s k : Bool) : Nat := (if s then 32768 else 0) + (if k then 8192 else 0)
def greBytes (s k : Bool) (v kind check : Int) : List UInt8 := nb 2 (greBits s k) ++ nb 2 (u64n kind) ++ (if s then nb 2 (u64n check) ++ nb 2 0 else []) ++ (if k then nb 4 (u64n v) else [])
def gre_bytes.f (a0_0 a0_1 : Bool) (a0_2 a1 a2 : Int) : Option ByteArray := if 0 ≤ a0_2 ∧ a0_2 < 4294967296 then some ⟨(greBytes a0_0 a0_1 a0_2 a1 a2).toArray⟩ else none
theorem or_hs : Go.bits .or .i64 0 32768 = 32768 := by decide +kernel
theorem or_hk : Go.bits .or .i64 0 8192 = 8192 := by decide +kernel
theorem or_hsk : Go.bits .or .i64 32768 8192 = 40960 := by decide +kernel
theorem wrapn0 : IntKind.u64.wrap 0 = 0 := by decide +kernel
theorem wrapn8192 : IntKind.u64.wrap 8192 = 8192 := by decide +kernel
theorem wrapn32768 : IntKind.u64.wrap 32768 = 32768 := by decide +kernel
theorem wrapn40960 : IntKind.u64.wrap 40960 = 40960 := by decide +kernel
set_option maxHeartbeats 2000000 in
set_option maxRecDepth 100000 in
theorem gre_bytes.calls (a0_0 a0_1 : Bool) (a0_2 a1 a2 : Int) (r : ByteArray) (w : World) (h : gre_bytes.f a0_0 a0_1 a0_2 a1 a2 = some r) :
    Calls Tryd.prog 59 #[.agg #[.bool a0_0, .bool a0_1, .int .u32 a0_2], .int .i64 a1, .int .i64 a2] w fun e w' => e = .returned (.string r) ∧ Below w.heap.size w w' := by
  unfold gre_bytes.f at h
  split at h
  case isFalse => exact absurd h (by simp)
  rename_i hv
  obtain rfl := Option.some.inj h
  clear h
  have HV := Aside0.mk hv
  have hu := Tryd.underlying40
  have HS := Aside0.mk (WS.start w 40 #[.bool a0_0, .bool a0_1, .int .u32 a0_2])
  have b1 := or_hs
  have b2 := or_hk
  have b3 := or_hsk
  clear hv
  have c1 := HS.out.1.2.1.cells
  cases a0_0 <;> cases a0_1
  · as_aux_lemma =>
    go_enter Tryd.func59, Tryd.ntmps59
    go_wp2_with fail
    refine (Writer_U16.calls _ _ _ _ HS.out.1.1 (by simp)).mono ?_
    rintro e w3 ⟨rfl, g1, g2⟩
    replace HS := Aside0.mk (HS.out.next g1 g2)
    clear g1 g2
    go_wp2_with fail
    refine (Writer_U16.calls _ _ _ _ HS.out.1.1 (by simp [nb_length])).mono ?_
    rintro e w4 ⟨rfl, g1, g2⟩
    replace HS := Aside0.mk (HS.out.next g1 g2)
    clear g1 g2 c1
    have c1 := HS.out.1.2.1.cells
    go_wp2_with fail
    refine (Writer_String.calls _ _ _ HS.out.1.1).mono ?_
    rintro e w5 ⟨rfl, g1, g2⟩
    replace HS := Aside0.mk (HS.out.next g1 g2)
    clear g1 g2 c1
    go_wp2
    go_ret
    exact ⟨by simp [greBytes, greBits, u64n, wrapn0, wrapn8192, wrapn32768, wrapn40960], HS.out.1.2.2⟩
  · as_aux_lemma =>
    go_enter Tryd.func59, Tryd.ntmps59
    go_wp2_with fail
    refine (Writer_U16.calls _ _ _ _ HS.out.1.1 (by simp)).mono ?_
    rintro e w3 ⟨rfl, g1, g2⟩
    replace HS := Aside0.mk (HS.out.next g1 g2)
    clear g1 g2
    go_wp2_with fail
    refine (Writer_U16.calls _ _ _ _ HS.out.1.1 (by simp [nb_length])).mono ?_
    rintro e w4 ⟨rfl, g1, g2⟩
    replace HS := Aside0.mk (HS.out.next g1 g2)
    clear g1 g2 c1
    have c1 := HS.out.1.2.1.cells
    go_wp2_with fail
    refine (Writer_U32.calls _ _ _ _ HS.out.1.1 HV.out.1 HV.out.2 (by simp [nb_length])).mono ?_
    rintro e w5 ⟨rfl, g1, g2⟩
    replace HS := Aside0.mk (HS.out.next g1 g2)
    clear g1 g2
    go_wp2_with fail
    refine (Writer_String.calls _ _ _ HS.out.1.1).mono ?_
    rintro e w6 ⟨rfl, g1, g2⟩
    replace HS := Aside0.mk (HS.out.next g1 g2)
    clear g1 g2 c1
    go_wp2
    go_ret
    exact ⟨by simp [greBytes, greBits, u64n, wrapn0, wrapn8192, wrapn32768, wrapn40960], HS.out.1.2.2⟩
  · as_aux_lemma =>
    go_enter Tryd.func59, Tryd.ntmps59
    go_wp2_with fail
    refine (Writer_U16.calls _ _ _ _ HS.out.1.1 (by simp)).mono ?_
    rintro e w3 ⟨rfl, g1, g2⟩
    replace HS := Aside0.mk (HS.out.next g1 g2)
    clear g1 g2
    go_wp2_with fail
    refine (Writer_U16.calls _ _ _ _ HS.out.1.1 (by simp [nb_length])).mono ?_
    rintro e w4 ⟨rfl, g1, g2⟩
    replace HS := Aside0.mk (HS.out.next g1 g2)
    clear g1 g2 c1
    have c1 := HS.out.1.2.1.cells
    go_wp2_with fail
    refine (Writer_U16.calls _ _ _ _ HS.out.1.1 (by simp [nb_length])).mono ?_
    rintro e w5 ⟨rfl, g1, g2⟩
    replace HS := Aside0.mk (HS.out.next g1 g2)
    clear g1 g2
    go_wp2_with fail
    refine (Writer_U16.calls _ _ _ _ HS.out.1.1 (by simp [nb_length])).mono ?_
    rintro e w6 ⟨rfl, g1, g2⟩
    replace HS := Aside0.mk (HS.out.next g1 g2)
    clear g1 g2
    clear c1
    have c1 := HS.out.1.2.1.cells
    go_wp2_with fail
    refine (Writer_String.calls _ _ _ HS.out.1.1).mono ?_
    rintro e w7 ⟨rfl, g1, g2⟩
    replace HS := Aside0.mk (HS.out.next g1 g2)
    clear g1 g2 c1
    go_wp2
    go_ret
    exact ⟨by simp [greBytes, greBits, u64n, wrapn0, wrapn8192, wrapn32768, wrapn40960], HS.out.1.2.2⟩
  · as_aux_lemma =>
    go_enter Tryd.func59, Tryd.ntmps59
    go_wp2_with fail
    refine (Writer_U16.calls _ _ _ _ HS.out.1.1 (by simp)).mono ?_
    rintro e w3 ⟨rfl, g1, g2⟩
    replace HS := Aside0.mk (HS.out.next g1 g2)
    clear g1 g2
    go_wp2_with fail
    refine (Writer_U16.calls _ _ _ _ HS.out.1.1 (by simp [nb_length])).mono ?_
    rintro e w4 ⟨rfl, g1, g2⟩
    replace HS := Aside0.mk (HS.out.next g1 g2)
    clear g1 g2 c1
    have c1 := HS.out.1.2.1.cells
    go_wp2_with fail
    refine (Writer_U16.calls _ _ _ _ HS.out.1.1 (by simp [nb_length])).mono ?_
    rintro e w5 ⟨rfl, g1, g2⟩
    replace HS := Aside0.mk (HS.out.next g1 g2)
    clear g1 g2
    go_wp2_with fail
    refine (Writer_U16.calls _ _ _ _ HS.out.1.1 (by simp [nb_length])).mono ?_
    rintro e w6 ⟨rfl, g1, g2⟩
    replace HS := Aside0.mk (HS.out.next g1 g2)
    clear g1 g2
    clear c1
    have c1 := HS.out.1.2.1.cells
    go_wp2_with fail
    refine (Writer_U32.calls _ _ _ _ HS.out.1.1 HV.out.1 HV.out.2 (by simp [nb_length])).mono ?_
    rintro e w7 ⟨rfl, g1, g2⟩
    replace HS := Aside0.mk (HS.out.next g1 g2)
    clear g1 g2
    go_wp2_with fail
    refine (Writer_String.calls _ _ _ HS.out.1.1).mono ?_
    rintro e w8 ⟨rfl, g1, g2⟩
    replace HS := Aside0.mk (HS.out.next g1 g2)
    clear g1 g2 c1
    go_wp2
    go_ret
    exact ⟨by simp [greBytes, greBits, u64n, wrapn0, wrapn8192, wrapn32768, wrapn40960], HS.out.1.2.2⟩

def gre_known.f (a0 : Int) : Option Bool := some (a0 == 2048 || a0 == 34525)
theorem known_ix0 (wx : World) : (Instr.index 179 (.agg #[.string ⟨#[64]⟩, .string ⟨#[96]⟩]) (.int .i64 0)).run Tryd.prog wx = .ok (.string ⟨#[64]⟩) wx := by kernel_rfl
theorem known_ix1 (wx : World) : (Instr.index 179 (.agg #[.string ⟨#[64]⟩, .string ⟨#[96]⟩]) (.int .i64 1)).run Tryd.prog wx = .ok (.string ⟨#[96]⟩) wx := by kernel_rfl
theorem kind64 : ipip_Kind.f ⟨#[64]⟩ = some (2048, 0) := by decide +kernel
theorem kind96 : ipip_Kind.f ⟨#[96]⟩ = some (34525, 0) := by decide +kernel
set_option maxHeartbeats 2000000 in
set_option maxRecDepth 100000 in
theorem gre_known.calls (a0 : Int) (r : Bool) (w : World) (h : gre_known.f a0 = some r) (hG : GV w) :
    Calls Tryd.prog 69 #[.int .i64 a0] w fun e w' => e = .returned (.bool r) ∧ Below w.heap.size w w' := by
  obtain rfl := Option.some.inj h
  have HG := Aside0.mk hG
  have HB := Aside0.mk (Below.refl w.heap.size w)
  clear h hG
  go_enter Tryd.func69, Tryd.ntmps69
  go_wp2
  go_loopg [8] 2 (fun kq v8 wr => ∃ i : Nat, v8 = .int .i64 (i : Int) ∧ Aside0 (i + kq = 2) ∧ Aside0 (1 ≤ i → ¬ a0 = 2048) ∧ Aside0 (2 ≤ i → ¬ a0 = 34525) ∧ Aside0 (Below w.heap.size w wr))
  case atStart => exact ⟨0, rfl, ⟨by omega⟩, ⟨by omega⟩, ⟨by omega⟩, HB⟩
  case round =>
    clear HB
    obtain ⟨i, rfl, HI, H4, H6, HB⟩ := hrel
    have h012 : i = 0 ∨ i = 1 ∨ i = 2 := by have := HI.out; omega
    rcases h012 with rfl | rfl | rfl
    · have ix := known_ix0
      go_wp2_with fail
      refine (ipip_Kind.calls _ _ _ _ kind64 (HG.out.below HB.out)).mono ?_
      rintro e w2 ⟨rfl, hb⟩
      replace HB := Aside0.mk (HB.out.trans (hb.mono HB.out.size))
      clear hb ix
      by_cases hv : a0 = 2048
      · subst hv
        go_wp2
        go_ret
        exact ⟨rfl, HB.out⟩
      · have hd : ((2048 : Int) == a0) = false := beq_eq_false_iff_ne.mpr (fun e => hv e.symm)
        have HX := Aside0.mk hv
        clear hv
        go_wp2
        go_roundg 1
        case measure => have := HI.out; omega
        case rel => exact ⟨1, by first | rfl | (simp; done) | (unfold wrap64; simp; done), ⟨by omega⟩, ⟨fun _ => HX.out⟩, ⟨fun h => by omega⟩, HB⟩
    · have ix := known_ix1
      go_wp2_with fail
      refine (ipip_Kind.calls _ _ _ _ kind96 (HG.out.below HB.out)).mono ?_
      rintro e w2 ⟨rfl, hb⟩
      replace HB := Aside0.mk (HB.out.trans (hb.mono HB.out.size))
      clear hb ix
      by_cases hv : a0 = 34525
      · subst hv
        go_wp2
        go_ret
        exact ⟨rfl, HB.out⟩
      · have hd : ((34525 : Int) == a0) = false := beq_eq_false_iff_ne.mpr (fun e => hv e.symm)
        have HX := Aside0.mk hv
        clear hv
        go_wp2
        go_roundg 0
        case measure => have := HI.out; omega
        case rel => exact ⟨2, by first | rfl | (simp; done) | (unfold wrap64; simp; done), ⟨by omega⟩, ⟨fun _ => H4.out (by omega)⟩, ⟨fun _ => HX.out⟩, HB⟩
    · have h1 := H4.out (by omega)
      have h2 := H6.out (by omega)
      have hr : (a0 == 2048 || a0 == 34525) = false := by simp [h1, h2]
      have HR := Aside0.mk hr
      clear h1 h2 hr
      go_wp2
      go_ret
      exact ⟨by rw [HR.out]; rfl, HB.out⟩
set_option maxHeartbeats 1000000 in
theorem gre_fail.yes (R : Nat) (w : World) :
    Calls Tryd.prog 71 #[.pointer (some ⟨R, 0, none⟩), .int .i64 0] w fun e w' => e = .returned (.tuple #[]) ∧ w' = w := by
  go_enter Tryd.func71, Tryd.ntmps71
  go_wp2_with fail
  refine (Reader_Need.yes _ _ _).mono ?_
  rintro e w2 ⟨rfl, rfl⟩
  go_wp2
  go_end0
  exact ⟨rfl, rfl⟩
set_option maxHeartbeats 1000000 in
theorem gre_fail.no (R : Nat) (e : Int) (he : e ≠ 0) (w : World) :
    Calls Tryd.prog 71 #[.pointer (some ⟨R, 0, none⟩), .int .i64 e] w fun e1 w' => e1 = stopped e ∧ w' = w := by
  have hd : (e == 0) = false := beq_eq_false_iff_ne.mpr he
  clear he
  go_enter Tryd.func71, Tryd.ntmps71
  go_wp2_with fail
  refine (Reader_Need.no _ _ _).mono ?_
  rintro e w2 ⟨rfl, rfl⟩
  exact ⟨rfl, rfl, rfl⟩
end Go.Proofs.YtcmalglippmocaaDoor.G
end

section
namespace Go.Proofs.YtcmalglippmocaaDoor.G
open Go.RowKit Go.Proofs.YtcmalglippmocaaDoorW.PrintWords Go.Proofs.YtcmalglippmocaaDoorW.PrintLast Go.Proofs.YtcmalglippmocaaDoorW.PrintMore
attribute [local go_sem] max2_int min2_int max_two min_two max_three min_three max_four min_four

def gre_Put.f (a0_0 : Bool) (a0_1 : Bool) (a0_2 : Int) (a1 : ByteArray) : Option (ByteArray × Int) := (ipip_Kind.f a1).bind fun bt160 => (if bt160.2 = 0 then ((gre_bytes.f a0_0 a0_1 a0_2 bt160.1 0).bind fun t162 => ((sum_Sum.f (([t162, a1] : List ByteArray))).bind fun t166 => ((gre_bytes.f a0_0 a0_1 a0_2 bt160.1 t166).bind fun t167 => (if t167.size + a1.size ≤ 9223372036854775807 then (some (t167 ++ a1, 0)) else (none))))) else (some ((⟨#[]⟩ : ByteArray), bt160.2)))
def gre_Put.T4 : Bool × List (List Nat × List Nat) := (true, [([], []), ([], []), ([], []), ([], []), ([2, 3], [2, 3]), ([], []), ([4, 5], [4, 5]), ([6, 4], [6]), ([0, 1, 7, 7], [0, 1, 7]), ([], []), ([8, 9], [8, 9]), ([10, 8, 0, 1, 2, 3, 4, 5, 6, 7, 8, 9, 10], [10]), ([11, 0, 1, 2, 3, 4, 5, 6, 7, 8, 9, 10, 11], [])])
def gre_Put.B4 : List Nat := [0, 0, 0, 0, 12, 0, 60, 124, 255, 0, 1023, 2047, 4095]
theorem gre_Put.tab4 : rtab .any (opsOf Tryd.f29 4) = gre_Put.T4 := by kernel_rfl
theorem gre_Put.bits4 : waitsOk gre_Put.T4.2 gre_Put.B4 = true := by kernel_rfl
set_option maxHeartbeats 8000000 in
set_option maxRecDepth 100000 in
theorem gre_Put.calls (a0_0 : Bool) (a0_1 : Bool) (a0_2 : Int) (a1 : ByteArray) (r1 : ByteArray) (r2 : Int) (w : World) (h : gre_Put.f a0_0 a0_1 a0_2 a1 = some (r1, r2)) (hgV_ : GV w) :
  Calls Tryd.prog 29 #[.agg #[.bool a0_0, .bool a0_1, .int .u32 a0_2], .string a1] w fun e w' => e = .returned (.tuple #[.string r1, .int .i64 r2]) ∧ Below w.heap.size w w' := by
 have HgV_ := mA hgV_
 clear hgV_
 have hu40 := Tryd.underlying40
 have HB := mA (Below.refl w.heap.size w)
 have H : ((ipip_Kind.f a1).bind fun bt160 => (if bt160.2 = 0 then ((gre_bytes.f a0_0 a0_1 a0_2 bt160.1 0).bind fun t162 => ((sum_Sum.f (([t162, a1] : List ByteArray))).bind fun t166 => ((gre_bytes.f a0_0 a0_1 a0_2 bt160.1 t166).bind fun t167 => (if t167.size + a1.size ≤ 9223372036854775807 then (some (t167 ++ a1, 0)) else (none))))) else (some ((⟨#[]⟩ : ByteArray), bt160.2)))) = some (r1, r2) := h
 clear h
 replace H := Option.bind_eq_some_iff.mp H
 obtain ⟨⟨t160, t161⟩, A30, H⟩ := H
 try dsimp +instances only at H
 have A3 := mA A30
 clear A30
 by_cases c4 : t161 = 0
 ·rw [if_pos c4] at H
  have c4b0 : (t161 == 0) = true := beq_iff_eq.mpr c4
  have c4b1 : (t161 != 0) = false := bne_eq_false_iff_eq.mpr c4
  clear c4
  replace H := Option.bind_eq_some_iff.mp H
  obtain ⟨t162, A50, H⟩ := H
  try dsimp +instances only at H
  have A5 := mA A50
  clear A50
  obtain ⟨y163, hy163⟩ : ∃ y_ : List ByteArray, y_ = (([t162, a1] : List ByteArray)) := ⟨_, rfl⟩
  replace H : ((sum_Sum.f y163).bind fun t166 => ((gre_bytes.f a0_0 a0_1 a0_2 t160 t166).bind fun t167 => (if t167.size + a1.size ≤ 9223372036854775807 then (some (t167 ++ a1, 0)) else (none)))) = some (r1, r2) := by first | (rw [hy163]; with_reducible exact H) | (have H2_ := (Option.bind_some _ _).symm.trans H; rw [hy163]; with_reducible exact H2_) | (have H2_ := (Option.bind_some _ _).symm.trans H; with_reducible exact H2_) | with_reducible exact H | (rw [hy163]; exact H) | exact H
  have Ny163 := mA hy163
  clear hy163
  replace H := Option.bind_eq_some_iff.mp H
  obtain ⟨t166, A60, H⟩ := H
  try dsimp +instances only at H
  have A6 := mA A60
  clear A60
  replace H := Option.bind_eq_some_iff.mp H
  obtain ⟨t167, A70, H⟩ := H
  try dsimp +instances only at H
  have A7 := mA A70
  clear A70
  by_cases c8 : t167.size + a1.size ≤ 9223372036854775807
  ·rw [if_pos c8] at H
   have c8b0 := eq_true c8
   have c8b1 : decide (t167.size + a1.size ≤ 9223372036854775807) = true := decide_eq_true c8
   try have c8b2 : (9223372036854775807 < t167.size + a1.size) = False := eq_false (Nat.not_lt.2 c8)
   simp only [Option.some.injEq, Prod.mk.injEq] at H
   obtain ⟨rfl, rfl⟩ := H
   go_enter Tryd.func29, Tryd.ntmps29
   try go_wp2_with (first | ((with_reducible refine gate_dst (N := 2) rfl ?_); refine box_event ?hg (N := 2) ?hd (cs := #[.bool a0_0, .bool a0_1, .int .u32 a0_2]) (t := 40) ?hr ?_; (case hd => rfl); (case hg => rfl); (case hr => first | (go_simp; done) | (go_simp; rfl)); intro gb159 hg w9 hbox hb; obtain ⟨n0_, nq_⟩ := bpr (by repeat (first | (with_reducible first | exact HB.out | apply bA | apply bN | apply bD) | exact HB.out)) hb; have n1_ := mA (hbox); have n2_ := mA ((by rw [hg]; exact nq_ : w.heap.size ≤ gb159)); have n3_ := mA ((by rw [hg]; exact nq_ : w.heap.size ≤ gb159)); clear HB; have HB := n0_; have BK159 := n1_; have GW159 := n2_; have GE159 := n3_; clear nq_; clear n0_ n1_ n2_ n3_; clear hb hbox hg) | ((with_reducible refine gate_callee (f := 22) rfl ?_); refine goesL_ (some 10) rfl rfl Tryd.func22 (by kernel_rfl) rfl #[.string a1] rfl (by (try simp only [List.map_toArray, List.map_cons, List.map_nil]); first | done | rfl | (simp only [List.length_drop, List.length_take]; rfl)) ?_; (with_reducible refine (ipip_Kind.calls a1 t160 t161 _ A3.out (GV.below HgV_.out (by repeat (first | (with_reducible first | exact HB.out | apply bA | apply bN | apply bD | refine bS ?_ GE159.out) | exact HB.out)))).mono ?_); rintro e w10 ⟨rfl, hb⟩; refine ⟨_, rfl, ?_⟩; have n0_ := mA (blk_below (g := gb159) (o := .cells #[.bool a0_0, .bool a0_1, .int .u32 a0_2] 40 (0, 0)) (by (with_reducible repeat (first | apply kN | apply kD | apply kA)); exact BK159.out) hb); have n1_ := mA (bP (by repeat (first | (with_reducible first | exact HB.out | apply bA | apply bN | apply bD | refine bS ?_ GE159.out) | exact HB.out)) hb); clear BK159; clear HB; have BK159 := n0_; have HB := n1_; clear n0_ n1_; (try clear hb); (try clear hb2); (try clear hk); (try clear hi)))
   have n0_ := mA (kD BK159.out)
   have n1_ := mA (bD HB.out)
   clear BK159
   clear HB
   have BK159 := n0_
   have HB := n1_
   clear n0_ n1_
   refine start_ (n := 13) (S := fun w' => w'.cell? ⟨gb159, 0, none⟩ = some (.bool a0_0) ∧ w'.cell? ⟨gb159, 1, none⟩ = some (.bool a0_1) ∧ w'.cell? ⟨gb159, 2, none⟩ = some (.int .u32 a0_2)) (ds := []) (bv 13 0) (by kernel_rfl) rfl rfl ⟨(zC BK159.out 0).trans rfl, (zC BK159.out 1).trans rfl, (zC BK159.out 2).trans rfl⟩ (fun hHeld => ?_); refine with_tabW gre_Put.tab4 gre_Put.bits4 (fun HT_ HW_ => ?_)
   generalize w10.drew = w11 at BK159 HB hHeld ⊢
   refine pure_ (i := 1) (N := some 17) (v := ?_) (a' := ?_) (bv 13 2) rfl rfl (any_of HT_.out (by kernel_rfl)) (fun _ _ _ h => h) (Or.inl ⟨by rfl, ?_⟩) ?_ ?_; rotate_left; (intro w'; go_simp; with_reducible rfl); rotate_left; (simp only [Act.put, List.setIfInBounds_toArray, List.set_cons_zero, List.set_cons_succ, i64_w, i32_w]; rfl)
   refine pure_ (i := 3) (N := some 19) (v := ?_) (a' := ?_) (bv 13 10) rfl rfl (any_of HT_.out (by kernel_rfl)) (fun _ _ _ h => h) (Or.inl ⟨by rfl, ?_⟩) ?_ ?_; rotate_left; (intro w'; go_simp; with_reducible rfl); rotate_left; (simp only [Act.put, List.setIfInBounds_toArray, List.set_cons_zero, List.set_cons_succ, i64_w, i32_w]; rfl)
   refine pure_ (i := 5) (N := some 21) (v := ?_) (a' := ?_) (bv 13 42) rfl rfl (any_of HT_.out (by kernel_rfl)) (fun _ _ _ h => h) (Or.inl ⟨by rfl, ?_⟩) ?_ ?_; rotate_left; (intro w'; go_simp; with_reducible rfl); rotate_left; (simp only [Act.put, List.setIfInBounds_toArray, List.set_cons_zero, List.set_cons_succ, i64_w, i32_w]; rfl)
   refine pure_ (i := 9) (N := some 25) (v := ?_) (a' := ?_) (bv 13 554) rfl rfl (any_of HT_.out (by kernel_rfl)) (fun _ _ _ h => h) (Or.inl ⟨by rfl, ?_⟩) ?_ ?_; rotate_left; (intro w'; go_simp; with_reducible rfl); rotate_left; (simp only [Act.put, List.setIfInBounds_toArray, List.set_cons_zero, List.set_cons_succ, i64_w, i32_w]; rfl)
   refine take_ (i := 0) (N := some 16) (v := ?_) (a' := ?_) (bv 13 555) rfl rfl (take_ofW HT_.out HW_.out (by kernel_rfl)) (fun _ _ _ h => h) (Or.inl ⟨by rfl, ?_⟩) hHeld ?_ ?_; rotate_left; (rintro w' ⟨s0, s1, s2⟩; go_simp; with_reducible rfl); rotate_left; (simp only [Act.put, List.setIfInBounds_toArray, List.set_cons_zero, List.set_cons_succ, i64_w, i32_w]; rfl)
   refine take_ (i := 2) (N := some 18) (v := ?_) (a' := ?_) (bv 13 559) rfl rfl (take_ofW HT_.out HW_.out (by kernel_rfl)) (fun _ _ _ h => h) (Or.inl ⟨by rfl, ?_⟩) hHeld ?_ ?_; rotate_left; (rintro w' ⟨s0, s1, s2⟩; go_simp; with_reducible rfl); rotate_left; (simp only [Act.put, List.setIfInBounds_toArray, List.set_cons_zero, List.set_cons_succ, i64_w, i32_w]; rfl)
   refine one_ (i := 4) (N := some 20) (bv 13 575) rfl rfl (one_of HT_.out (by kernel_rfl)) (by decide) (fun K hK => ?_)
   refine goes_ Tryd.func59 (by kernel_rfl) rfl #[.agg #[.bool a0_0, .bool a0_1, .int .u32 a0_2], .int .i64 t160, .int .i64 0] (by rfl) rfl rfl (by (try simp only [List.map_toArray, List.map_cons, List.map_nil]); first | done | rfl | (simp only [List.length_drop, List.length_take]; rfl)) ?_
   with_reducible refine (gre_bytes.calls a0_0 a0_1 a0_2 t160 0 t162 _ A5.out).mono ?_
   rintro e w12 ⟨rfl, hb⟩
   refine ⟨_, rfl, ?_⟩
   have n0_ := mA (blk_below (g := gb159) (o := .cells #[.bool a0_0, .bool a0_1, .int .u32 a0_2] 40 (0, 0)) (by (with_reducible repeat (first | apply kN | apply kD | apply kA)); exact BK159.out) hb)
   have n1_ := mA (bP (by repeat (first | (with_reducible first | exact HB.out | apply bA | apply bN | apply bD | refine bS ?_ GE159.out) | exact HB.out)) hb)
   clear BK159
   clear HB
   have BK159 := n0_
   have HB := n1_
   clear n0_ n1_
   (try clear hb)
   (try clear hb2)
   (try clear hk)
   (try clear hi)
   refine hK.out _ _ ⟨(zC BK159.out 0).trans rfl, (zC BK159.out 1).trans rfl, (zC BK159.out 2).trans rfl⟩ (fun hHeld => ?_)
   clear hK K
   refine norm_ (a' := ?_) ?_ ?_
   rotate_left
   ·show Act.put _ (some 20) _ = _
    simp only [Act.put, List.setIfInBounds_toArray, List.set_cons_zero, List.set_cons_succ, i64_w, i32_w]
    rfl
   refine one_ (i := 6) (N := some 22) (bv 13 639) rfl rfl (one_of HT_.out (by kernel_rfl)) (by decide) (fun K hK => ?_)
   refine Kd.R_lit_step Kd.string _ 9 ?hg (N := 22) ?hd (xs := ([t162, a1] : List ByteArray)) (inner := [.string t162, .string a1]) (ok := fun _ => True) (okp := fun _ => True) ?hr ?hp (fun _ hk => hk) trivial (Below.refl _ _) (Nat.le_refl _) (by simp) ?_; (case hd => rfl); (case hg => rfl); (case hr => first | (go_simp; done) | (go_simp; rfl)); (case hp => exact (Reps.one (show Kd.M Kd.string _ _ _ t162 [.string t162] from rfl) (Reps.one (show Kd.M Kd.string _ _ _ a1 [.string a1] from rfl) (Reps.none _ _))))
   intro v164 w13 ho14 hb hg_ hnew_
   clear hg_ hnew_
   (first | rw [← Ny163.out] at ho14 | (simp only [Int.reduceToNat] at ho14; rw [← Ny163.out] at ho14))
   have n0_ := mA (Kd.R_lower ho14 (below_size (by repeat (first | (with_reducible first | exact HB.out | apply bA | apply bN | apply bD | refine bS ?_ GE159.out) | exact HB.out))))
   have n1_ := mA (blk_below (g := gb159) (o := .cells #[.bool a0_0, .bool a0_1, .int .u32 a0_2] 40 (0, 0)) (by (with_reducible repeat (first | apply kN | apply kD | apply kA)); exact BK159.out) hb)
   have n2_ := mA (bP (by repeat (first | (with_reducible first | exact HB.out | apply bA | apply bN | apply bD | refine bS ?_ GE159.out) | exact HB.out)) hb)
   clear BK159
   clear HB
   have HO165 := n0_
   have BK159 := n1_
   have HB := n2_
   clear n0_ n1_ n2_
   clear hb ho14
   obtain ⟨Ao15, co15, eo15⟩ := Kd.R_slice HO165.out
   (first | subst eo15 | (injection eo15 with f1_ f2_ f3_; have f4_ := f1_.symm; have f5_ := f3_.symm; clear f1_ f2_ f3_; subst f4_; subst f5_))
   refine hK.out _ _ ⟨(zC BK159.out 0).trans rfl, (zC BK159.out 1).trans rfl, (zC BK159.out 2).trans rfl⟩ (fun hHeld => ?_)
   clear hK K
   refine norm_ (a' := ?_) ?_ ?_
   rotate_left
   ·show Act.put _ (some 22) _ = _
    simp only [Act.put, List.setIfInBounds_toArray, List.set_cons_zero, List.set_cons_succ, i64_w, i32_w]
    rfl
   refine one_ (i := 7) (N := some 23) (bv 13 767) rfl rfl (one_of HT_.out (by kernel_rfl)) (by decide) (fun K hK => ?_)
   refine goes_ Tryd.func60 (by kernel_rfl) rfl #[.slice Ao15 y163.length co15] (by rfl) rfl rfl (by (try simp only [List.map_toArray, List.map_cons, List.map_nil]); first | done | rfl | (simp only [List.length_drop, List.length_take]; rfl)) ?_
   with_reducible refine (sum_Sum.calls _ _ y163 t166 _ ?side1 ?side2 A6.out).mono ?_
   (case side1 => repeat (first | exact (Kd.R_reads' HO165.out).2.2 | (with_reducible refine Kd.C_alloc ?_ _) | (with_reducible refine Kd.C_drewN ?_ _) | (with_reducible refine Kd.C_drew ?_)))
   (case side2 => exact (Kd.R_reads' HO165.out).2.1)
   rintro e w16 ⟨rfl, hb⟩
   refine ⟨_, rfl, ?_⟩
   have n0_ := mA (Kd.R_below (by (with_reducible repeat (first | apply Kd.R_alloc | apply Kd.R_drewN | apply Kd.R_drew)); exact HO165.out) hb)
   have n1_ := mA (blk_below (g := gb159) (o := .cells #[.bool a0_0, .bool a0_1, .int .u32 a0_2] 40 (0, 0)) (by (with_reducible repeat (first | apply kN | apply kD | apply kA)); exact BK159.out) hb)
   have n2_ := mA (bP (by repeat (first | (with_reducible first | exact HB.out | apply bA | apply bN | apply bD | refine bS ?_ GE159.out) | exact HB.out)) hb)
   clear HO165
   clear BK159
   clear HB
   have HO165 := n0_
   have BK159 := n1_
   have HB := n2_
   clear n0_ n1_ n2_
   (try clear hb)
   (try clear hb2)
   (try clear hk)
   (try clear hi)
   refine hK.out _ _ ⟨(zC BK159.out 0).trans rfl, (zC BK159.out 1).trans rfl, (zC BK159.out 2).trans rfl⟩ (fun hHeld => ?_)
   clear hK K
   refine norm_ (a' := ?_) ?_ ?_
   rotate_left
   ·show Act.put _ (some 23) _ = _
    simp only [Act.put, List.setIfInBounds_toArray, List.set_cons_zero, List.set_cons_succ, i64_w, i32_w]
    rfl
   refine one_ (i := 8) (N := some 24) (bv 13 1023) rfl rfl (one_of HT_.out (by kernel_rfl)) (by decide) (fun K hK => ?_)
   refine goes_ Tryd.func59 (by kernel_rfl) rfl #[.agg #[.bool a0_0, .bool a0_1, .int .u32 a0_2], .int .i64 t160, .int .i64 t166] (by rfl) rfl rfl (by (try simp only [List.map_toArray, List.map_cons, List.map_nil]); first | done | rfl | (simp only [List.length_drop, List.length_take]; rfl)) ?_
   with_reducible refine (gre_bytes.calls a0_0 a0_1 a0_2 t160 t166 t167 _ A7.out).mono ?_
   rintro e w17 ⟨rfl, hb⟩
   refine ⟨_, rfl, ?_⟩
   have n0_ := mA (Kd.R_below (by (with_reducible repeat (first | apply Kd.R_alloc | apply Kd.R_drewN | apply Kd.R_drew)); exact HO165.out) hb)
   have n1_ := mA (blk_below (g := gb159) (o := .cells #[.bool a0_0, .bool a0_1, .int .u32 a0_2] 40 (0, 0)) (by (with_reducible repeat (first | apply kN | apply kD | apply kA)); exact BK159.out) hb)
   have n2_ := mA (bP (by repeat (first | (with_reducible first | exact HB.out | apply bA | apply bN | apply bD | refine bS ?_ GE159.out) | exact HB.out)) hb)
   clear HO165
   clear BK159
   clear HB
   have HO165 := n0_
   have BK159 := n1_
   have HB := n2_
   clear n0_ n1_ n2_
   (try clear hb)
   (try clear hb2)
   (try clear hk)
   (try clear hi)
   refine hK.out _ _ ⟨(zC BK159.out 0).trans rfl, (zC BK159.out 1).trans rfl, (zC BK159.out 2).trans rfl⟩ (fun hHeld => ?_)
   clear hK K
   refine norm_ (a' := ?_) ?_ ?_
   rotate_left
   ·show Act.put _ (some 24) _ = _
    simp only [Act.put, List.setIfInBounds_toArray, List.set_cons_zero, List.set_cons_succ, i64_w, i32_w]
    rfl
   refine pure_ (i := 10) (N := some 26) (v := ?_) (a' := ?_) (bv 13 2047) rfl rfl (any_of HT_.out (by kernel_rfl)) (fun _ _ _ h => h) (Or.inl ⟨by rfl, ?_⟩) ?_ ?_; rotate_left; (intro w'; go_simp; with_reducible rfl); rotate_left; (simp only [Act.put, List.setIfInBounds_toArray, List.set_cons_zero, List.set_cons_succ, i64_w, i32_w]; rfl)
   refine pure_ (i := 11) (N := some 4) (v := ?_) (a' := ?_) (bv 13 4095) rfl rfl (any_of HT_.out (by kernel_rfl)) (fun _ _ _ h => h) (Or.inl ⟨by rfl, ?_⟩) ?_ ?_; rotate_left; (intro w'; go_simp; with_reducible rfl); rotate_left; (simp only [Act.put, List.setIfInBounds_toArray, List.set_cons_zero, List.set_cons_succ, i64_w, i32_w]; rfl)
   refine pure_ (i := 12) (N := some 5) (v := ?_) (a' := ?_) (bv 13 8191) rfl rfl (any_of HT_.out (by kernel_rfl)) (fun _ _ _ h => h) (Or.inl ⟨by rfl, ?_⟩) ?_ ?_; rotate_left; (intro w'; go_simp; with_reducible rfl); rotate_left; (simp only [Act.put, List.setIfInBounds_toArray, List.set_cons_zero, List.set_cons_succ, i64_w, i32_w]; rfl)
   refine done_ (done_of HT_.out (by kernel_rfl)) ?_
   try go_wp2
   go_ret2
   exact ⟨by first | rfl | (simp [errW_none, errW_some] <;> rfl) | (simp [*, errW_none, errW_some] <;> rfl), by repeat (first | (with_reducible first | exact HB.out | apply bA | apply bN | apply bD | refine bS ?_ GE159.out) | exact HB.out)⟩
  ·rw [if_neg c8] at H
   exact absurd H (by simp)
 ·rw [if_neg c4] at H
  have c4b0 : (t161 == 0) = false := beq_eq_false_iff_ne.mpr c4
  have c4b1 : (t161 != 0) = true := bne_iff_ne.mpr c4
  simp only [Option.some.injEq, Prod.mk.injEq] at H
  obtain ⟨rfl, rfl⟩ := H
  go_enter Tryd.func29, Tryd.ntmps29
  go_wp2_with (first | ((with_reducible refine gate_dst (N := 2) rfl ?_); refine box_event ?hg (N := 2) ?hd (cs := #[.bool a0_0, .bool a0_1, .int .u32 a0_2]) (t := 40) ?hr ?_; (case hd => rfl); (case hg => rfl); (case hr => first | (go_simp; done) | (go_simp; rfl)); intro gb159 hg w18 hbox hb; obtain ⟨n0_, nq_⟩ := bpr (by repeat (first | (with_reducible first | exact HB.out | apply bA | apply bN | apply bD) | exact HB.out)) hb; have n1_ := mA (hbox); have n2_ := mA ((by rw [hg]; exact nq_ : w.heap.size ≤ gb159)); have n3_ := mA ((by rw [hg]; exact nq_ : w.heap.size ≤ gb159)); clear HB; have HB := n0_; have BK159 := n1_; have GW159 := n2_; have GE159 := n3_; clear nq_; clear n0_ n1_ n2_ n3_; clear hb hbox hg) | ((with_reducible refine gate_callee (f := 22) rfl ?_); refine goesL_ (some 10) rfl rfl Tryd.func22 (by kernel_rfl) rfl #[.string a1] rfl (by (try simp only [List.map_toArray, List.map_cons, List.map_nil]); first | done | rfl | (simp only [List.length_drop, List.length_take]; rfl)) ?_; (with_reducible refine (ipip_Kind.calls a1 t160 t161 _ A3.out (GV.below HgV_.out (by repeat (first | (with_reducible first | exact HB.out | apply bA | apply bN | apply bD | refine bS ?_ GE159.out) | exact HB.out)))).mono ?_); rintro e w19 ⟨rfl, hb⟩; refine ⟨_, rfl, ?_⟩; have n0_ := mA (blk_below (g := gb159) (o := .cells #[.bool a0_0, .bool a0_1, .int .u32 a0_2] 40 (0, 0)) (by (with_reducible repeat (first | apply kN | apply kD | apply kA)); exact BK159.out) hb); have n1_ := mA (bP (by repeat (first | (with_reducible first | exact HB.out | apply bA | apply bN | apply bD | refine bS ?_ GE159.out) | exact HB.out)) hb); clear BK159; clear HB; have BK159 := n0_; have HB := n1_; clear n0_ n1_; (try clear hb); (try clear hb2); (try clear hk); (try clear hi)))
  go_ret2
  exact ⟨by first | rfl | (simp [errW_none, errW_some] <;> rfl) | (simp [*, errW_none, errW_some] <;> rfl), by repeat (first | (with_reducible first | exact HB.out | apply bA | apply bN | apply bD | refine bS ?_ GE159.out) | exact HB.out)⟩

def gre_Size.f (a0_0 : Bool) (a0_1 : Bool) (a0_2 : Int) : Option (Int) := if a0_0 = true then (if a0_1 = true then (some (((4 : Int) + 4) + 4)) else (some (4 + 4))) else (if a0_1 = true then (some (4 + 4)) else (some 4))
set_option maxHeartbeats 8000000 in
set_option maxRecDepth 100000 in
theorem gre_Size.calls (a0_0 : Bool) (a0_1 : Bool) (a0_2 : Int) (r : Int) (w : World) (h : gre_Size.f a0_0 a0_1 a0_2 = some r) :
  Calls Tryd.prog 33 #[.agg #[.bool a0_0, .bool a0_1, .int .u32 a0_2]] w fun e w' => e = .returned (.int .i64 r) ∧ Below w.heap.size w w' := by
 have hu40 := Tryd.underlying40
 have HB := mA (Below.refl w.heap.size w)
 have H : (if a0_0 = true then (if a0_1 = true then (some (((4 : Int) + 4) + 4)) else (some (4 + 4))) else (if a0_1 = true then (some (4 + 4)) else (some 4))) = some r := h
 clear h
 by_cases c2 : a0_0 = true
 ·subst c2
  rw [if_pos rfl] at H
  by_cases c3 : a0_1 = true
  ·subst c3
   rw [if_pos rfl] at H
   obtain rfl := Option.some.inj H
   go_enter Tryd.func33, Tryd.ntmps33
   go_wp2_with (first | ((with_reducible refine gate_dst (N := 1) rfl ?_); refine box_event ?hg (N := 1) ?hd (cs := #[.bool true, .bool true, .int .u32 a0_2]) (t := 40) ?hr ?_; (case hd => rfl); (case hg => rfl); (case hr => first | (go_simp; done) | (go_simp; rfl)); intro gb168 hg w4 hbox hb; obtain ⟨n0_, nq_⟩ := bpr (by repeat (first | (with_reducible first | exact HB.out | apply bA | apply bN | apply bD) | exact HB.out)) hb; have n1_ := mA (hbox); have n2_ := mA ((by rw [hg]; exact nq_ : w.heap.size ≤ gb168)); have n3_ := mA ((by rw [hg]; exact nq_ : w.heap.size ≤ gb168)); clear HB; have HB := n0_; have BK168 := n1_; have GW168 := n2_; have GE168 := n3_; clear nq_; clear n0_ n1_ n2_ n3_; clear hb hbox hg; obtain ⟨hcz5_0, hcz5_1, hcz5_2⟩ := bc3 BK168.out; obtain ⟨hfz5_0, hfz5_1, hfz5_2⟩ := bf3 BK168.out))
   go_ret
   exact ⟨by first | rfl | (simp [errW_none, errW_some] <;> rfl) | (simp [*, errW_none, errW_some] <;> rfl), by repeat (first | (with_reducible first | exact HB.out | apply bA | apply bN | apply bD | refine bS ?_ GE168.out) | exact HB.out)⟩
  ·replace c3 := Bool.eq_false_iff.mpr c3
   subst c3
   rw [if_neg (show ¬ (false = true) by decide)] at H
   obtain rfl := Option.some.inj H
   go_enter Tryd.func33, Tryd.ntmps33
   go_wp2_with (first | ((with_reducible refine gate_dst (N := 1) rfl ?_); refine box_event ?hg (N := 1) ?hd (cs := #[.bool true, .bool false, .int .u32 a0_2]) (t := 40) ?hr ?_; (case hd => rfl); (case hg => rfl); (case hr => first | (go_simp; done) | (go_simp; rfl)); intro gb168 hg w6 hbox hb; obtain ⟨n0_, nq_⟩ := bpr (by repeat (first | (with_reducible first | exact HB.out | apply bA | apply bN | apply bD) | exact HB.out)) hb; have n1_ := mA (hbox); have n2_ := mA ((by rw [hg]; exact nq_ : w.heap.size ≤ gb168)); have n3_ := mA ((by rw [hg]; exact nq_ : w.heap.size ≤ gb168)); clear HB; have HB := n0_; have BK168 := n1_; have GW168 := n2_; have GE168 := n3_; clear nq_; clear n0_ n1_ n2_ n3_; clear hb hbox hg; obtain ⟨hcz7_0, hcz7_1, hcz7_2⟩ := bc3 BK168.out; obtain ⟨hfz7_0, hfz7_1, hfz7_2⟩ := bf3 BK168.out))
   go_ret
   exact ⟨by first | rfl | (simp [errW_none, errW_some] <;> rfl) | (simp [*, errW_none, errW_some] <;> rfl), by repeat (first | (with_reducible first | exact HB.out | apply bA | apply bN | apply bD | refine bS ?_ GE168.out) | exact HB.out)⟩
 ·replace c2 := Bool.eq_false_iff.mpr c2
  subst c2
  rw [if_neg (show ¬ (false = true) by decide)] at H
  by_cases c8 : a0_1 = true
  ·subst c8
   rw [if_pos rfl] at H
   obtain rfl := Option.some.inj H
   go_enter Tryd.func33, Tryd.ntmps33
   go_wp2_with (first | ((with_reducible refine gate_dst (N := 1) rfl ?_); refine box_event ?hg (N := 1) ?hd (cs := #[.bool false, .bool true, .int .u32 a0_2]) (t := 40) ?hr ?_; (case hd => rfl); (case hg => rfl); (case hr => first | (go_simp; done) | (go_simp; rfl)); intro gb168 hg w9 hbox hb; obtain ⟨n0_, nq_⟩ := bpr (by repeat (first | (with_reducible first | exact HB.out | apply bA | apply bN | apply bD) | exact HB.out)) hb; have n1_ := mA (hbox); have n2_ := mA ((by rw [hg]; exact nq_ : w.heap.size ≤ gb168)); have n3_ := mA ((by rw [hg]; exact nq_ : w.heap.size ≤ gb168)); clear HB; have HB := n0_; have BK168 := n1_; have GW168 := n2_; have GE168 := n3_; clear nq_; clear n0_ n1_ n2_ n3_; clear hb hbox hg; obtain ⟨hcz10_0, hcz10_1, hcz10_2⟩ := bc3 BK168.out; obtain ⟨hfz10_0, hfz10_1, hfz10_2⟩ := bf3 BK168.out))
   go_ret
   exact ⟨by first | rfl | (simp [errW_none, errW_some] <;> rfl) | (simp [*, errW_none, errW_some] <;> rfl), by repeat (first | (with_reducible first | exact HB.out | apply bA | apply bN | apply bD | refine bS ?_ GE168.out) | exact HB.out)⟩
  ·replace c8 := Bool.eq_false_iff.mpr c8
   subst c8
   rw [if_neg (show ¬ (false = true) by decide)] at H
   obtain rfl := Option.some.inj H
   go_enter Tryd.func33, Tryd.ntmps33
   go_wp2_with (first | ((with_reducible refine gate_dst (N := 1) rfl ?_); refine box_event ?hg (N := 1) ?hd (cs := #[.bool false, .bool false, .int .u32 a0_2]) (t := 40) ?hr ?_; (case hd => rfl); (case hg => rfl); (case hr => first | (go_simp; done) | (go_simp; rfl)); intro gb168 hg w11 hbox hb; obtain ⟨n0_, nq_⟩ := bpr (by repeat (first | (with_reducible first | exact HB.out | apply bA | apply bN | apply bD) | exact HB.out)) hb; have n1_ := mA (hbox); have n2_ := mA ((by rw [hg]; exact nq_ : w.heap.size ≤ gb168)); have n3_ := mA ((by rw [hg]; exact nq_ : w.heap.size ≤ gb168)); clear HB; have HB := n0_; have BK168 := n1_; have GW168 := n2_; have GE168 := n3_; clear nq_; clear n0_ n1_ n2_ n3_; clear hb hbox hg; obtain ⟨hcz12_0, hcz12_1, hcz12_2⟩ := bc3 BK168.out; obtain ⟨hfz12_0, hfz12_1, hfz12_2⟩ := bf3 BK168.out))
   go_ret
   exact ⟨by first | rfl | (simp [errW_none, errW_some] <;> rfl) | (simp [*, errW_none, errW_some] <;> rfl), by repeat (first | (with_reducible first | exact HB.out | apply bA | apply bN | apply bD | refine bS ?_ GE168.out) | exact HB.out)⟩

end Go.Proofs.YtcmalglippmocaaDoor.G
end
