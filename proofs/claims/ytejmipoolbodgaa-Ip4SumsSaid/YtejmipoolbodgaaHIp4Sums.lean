/- By hand: the law Ip4Sums: its walk, for the answer true alone. -/
import Derived.Test.YtejmipoolbodgaaGlaw05
import Derived.Test.YtejmipoolbodgaaHIp4R
import Derived.Test.YtejmipoolbodgaaPIp4S
import Derived.Test.YtejmipoolbodgaaPRef4
import Derived.Test.YtejmipoolbodgaaPHeap
import Derived.Lib.ConvBytes
import Derived.Laws.IdiomStrings
import Derived.RegionTactic
import Derived.WalkLawsBesides
namespace Go.Proofs.Ytejmipoolbodgaa.G
open Go.RowKit Go.Proofs.YtejmipoolbodgaaW.PrintWords Go.Proofs.YtejmipoolbodgaaW.PrintLast Go.Proofs.YtejmipoolbodgaaW.PrintMore Go.Proofs.Ytejmipoolbodgaa.Pal
set_option linter.unusedVariables false
set_option linter.unusedSimpArgs false
def palanquinlaw05_Ip4Sums.f (a0_0 a0_1 a0_2 a0_3 a0_4 : Int) (a0_5 a0_6 : Bool) (a0_7 a0_8 a0_9 : ByteArray) (a1 : ByteArray) (a2 : Int) : Option Bool :=
  some true

set_option maxHeartbeats 8000000 in
set_option maxRecDepth 100000 in
theorem ip4sums_main (a0_0 a0_1 a0_2 a0_3 a0_4 : Int) (a0_5 a0_6 : Bool) (a0_7 a0_8 a0_9 : ByteArray) (a1 : ByteArray) (a2 : Int) (w : World) :
    Calls Try.prog 30 #[.agg #[.int .i64 a0_0, .int .i64 a0_1, .int .i64 a0_2, .int .i64 a0_3, .int .i64 a0_4, .bool a0_5, .bool a0_6, .string a0_7, .string a0_8, .string a0_9], .string a1, .int .i64 a2] w fun e w' => e = .returned (.bool true) ∧ Below w.heap.size w w' := by
  have hu := Try.underlying93
  have HB := Aside0.mk ((Below.refl w.heap.size w).alloc (Nat.le_refl _) (.cells #[.int .i64 a0_0, .int .i64 a0_1, .int .i64 a0_2, .int .i64 a0_3, .int .i64 a0_4, .bool a0_5, .bool a0_6, .string a0_7, .string a0_8, .string a0_9] 93))
  have HK := Aside0.mk (Blk.new w 93 #[.int .i64 a0_0, .int .i64 a0_1, .int .i64 a0_2, .int .i64 a0_3, .int .i64 a0_4, .bool a0_5, .bool a0_6, .string a0_7, .string a0_8, .string a0_9])
  go_enter Try.func30, Try.ntmps30
  go_wp2_with fail
  refine (palanquinlaw05_awake.calls true _ Pure.awake05).mono ?_
  rintro e w2 ⟨rfl, g1⟩
  replace HB := Aside0.mk (HB.out.trans (g1.mono HB.out.size))
  replace HK := Aside0.mk (HK.out.below g1 (by simp))
  clear g1
  obtain ⟨t, ht, hfew⟩ := Pure.few05 a0_0 a0_1 a0_2 a0_3 a0_4 a0_5 a0_6 a0_7 a0_8 a0_9
  have HF := Aside0.mk hfew
  have HT := Aside0.mk ht
  clear hfew ht
  have hc := HK.out.cells
  go_wp2_with fail
  refine (palanquinlaw05_few.calls _ _ _ _ _ _ _ _ _ _ t _ HT.out).mono ?_
  rintro e w3 ⟨rfl, g1⟩
  replace HB := Aside0.mk (HB.out.trans (g1.mono HB.out.size))
  replace HK := Aside0.mk (HK.out.below g1 HK.out.lt)
  clear g1 hc
  cases t
  case false =>
    go_wp2
    go_ret
    exact ⟨rfl, HB.out⟩
  replace HF := Aside0.mk (HF.out rfl)
  by_cases hp : 2000 < a1.size
  · have d1 : decide ((2000 : Int) < (a1.size : Int)) = true := decide_eq_true (by omega)
    have d2 : decide (2000 < a1.size) = true := decide_eq_true hp
    clear hp
    go_wp2
    go_ret
    exact ⟨rfl, HB.out⟩
  have d1 : decide ((2000 : Int) < (a1.size : Int)) = false := decide_eq_false (by omega)
  have d2 : decide (2000 < a1.size) = false := decide_eq_false hp
  have HP := Aside0.mk (show a1.size ≤ 2000 by omega)
  clear hp
  have hc := HK.out.cells
  go_wp2_with fail
  clear d1 d2
  by_cases hok : ok4 a0_0 a0_1 a0_2 a0_3 a0_4 a0_7 a0_8 a0_9
  case neg =>
    refine (ip4_Put.calls _ _ _ _ _ _ _ _ _ _ _ _ _ _ (Pure.put4_no (df := a0_5) (mf := a0_6) (p := a1) hok (by have := HF.out; omega) (by have := HF.out; omega) (by have := HF.out; omega))).mono ?_
    rintro e w4 ⟨rfl, g1⟩
    replace HB := Aside0.mk (HB.out.trans (g1.mono HB.out.size))
    clear g1 hok hc
    go_wp2
    go_ret
    exact ⟨rfl, HB.out⟩
  obtain ⟨tos, id, off, ttl, proto, rfl, rfl, rfl, rfl, rfl⟩ := Pure.ok4_nat hok
  have HO := Aside0.mk hok
  clear hok
  have hb := HO.out.2.2.2.2.2
  have hput := Pure.put4_ok (df := a0_5) (mf := a0_6) (p := a1) HO.out (by have := HP.out; omega)
  obtain ⟨x, hx⟩ : ∃ x : ByteArray, x = ⟨(Pure.put4 tos id off ttl proto a0_5 a0_6 a0_7 a0_8 a0_9 a1).toArray⟩ := ⟨_, rfl⟩
  rw [← hx] at hput
  have HX := Aside0.mk (Pure.put4_err (df := a0_5) (mf := a0_6) (x := x) (p := a1) HO.out (by have := HP.out; omega) (by rw [hx]; exact Pure.bl4_mk _))
  refine (ip4_Put.calls _ _ _ _ _ _ _ _ _ _ _ x 0 _ hput).mono ?_
  clear hput hx
  have HZ := Aside0.mk hb
  clear hb
  rintro e w4 ⟨rfl, g1⟩
  replace HB := Aside0.mk (HB.out.trans (g1.mono HB.out.size))
  replace HK := Aside0.mk (HK.out.below g1 HK.out.lt)
  clear g1 hc
  have hc := HK.out.cells
  have l1 : wrap64 (wrap64 (20 + (a0_9.size : Int)) + (a1.size : Int)) = (x.size : Int) := by have := HX.out.2.2; have := HZ.out; have := HP.out; unfold wrap64; omega
  have l2 : 20 + (a0_9.size : Int) + (a1.size : Int) = (x.size : Int) := by have := HX.out.2.2; omega
  by_cases c1 : a2 < 4
  · have b1 : decide (a2 < 4) = true := decide_eq_true c1
    have l3 : ((x.size : Int) == (x.size : Int)) = true := beq_self_eq_true _
    clear c1
    go_wp2
    go_ret
    exact ⟨rfl, HB.out⟩
  have b1 : decide (a2 < 4) = false := decide_eq_false c1
  obtain ⟨i, rfl⟩ := Int.eq_ofNat_of_zero_le (show 0 ≤ a2 by omega)
  have H4 := Aside0.mk (show 4 ≤ i by omega)
  clear c1
  by_cases c2 : 8 * (20 + a0_9.size) ≤ i
  · have b2 : decide (8 * (20 + (a0_9.size : Int)) ≤ (i : Int)) = true := decide_eq_true (by omega)
    have b3 : decide (8 * (20 + a0_9.size) ≤ i) = true := decide_eq_true c2
    have b4 : wrap64 (8 * wrap64 (20 + (a0_9.size : Int))) = 8 * (20 + (a0_9.size : Int)) := by unfold wrap64; have := HZ.out; omega
    have l3 : ((x.size : Int) == (x.size : Int)) = true := beq_self_eq_true _
    clear c2
    go_wp2
    go_ret
    exact ⟨rfl, HB.out⟩
  have b2 : decide (8 * (20 + (a0_9.size : Int)) ≤ (i : Int)) = false := decide_eq_false (by omega)
  have b3 : decide (8 * (20 + a0_9.size) ≤ i) = false := decide_eq_false c2
  have b4 : wrap64 (8 * wrap64 (20 + (a0_9.size : Int))) = 8 * (20 + (a0_9.size : Int)) := by unfold wrap64; have := HZ.out; omega
  have HI := Aside0.mk (show i / 8 < hl4 x by have := HX.out.2.1; omega)
  clear c2 l1 l2
  have hcv := fun (wx : World) => Lib.run_convert_string_bytes (P := Try.prog) wx 9 25 5 x Try.underlying9 Try.underlying25 Try.underlying5
  go_wp2
  clear hcv hc b1 b2 b3 b4
  have hcell : ∀ j, j < x.size → (Lib.bytesWorld w4 5 x).cell? ⟨w4.heap.size, j, none⟩ = some (.int .u8 ((bl x).getD j 0).toNat) := fun j hj => Lib.bytesWorld_cell _ _ _ _ hj
  have hfree : ∀ j, j < x.size → (Lib.bytesWorld w4 5 x).frozen? ⟨w4.heap.size, j, none⟩ = false := fun j hj => by
    have h := Lib.bytesWorld_at_new w4 5 x
    have hz : j < (Lib.bytesCells w4 5 x).size := by unfold Lib.bytesCells; rw [Array.size_append, Array.size_map]; exact Nat.lt_of_lt_of_le hj (Nat.le_add_right _ _)
    simp [World.frozen?, h]; omega
  have HW := Aside0.mk (show w.heap.size ≤ w4.heap.size from HB.out.size)
  replace HB := Aside0.mk (HB.out.trans (show Below w.heap.size w4 (Lib.bytesWorld w4 5 x) from ⟨rfl, rfl, rfl, by rw [Lib.bytesWorld_size]; omega, fun k hk => Lib.bytesWorld_at_old _ _ _ _ (Nat.lt_of_lt_of_le hk HB.out.size)⟩))
  generalize grownCap w4 x.size 0 5 = cap
  generalize Lib.bytesWorld w4 5 x = w7 at hcell hfree HB ⊢
  generalize w4.heap.size = b at hcell hfree HW ⊢
  have HJ := Aside0.mk (show i < 9223372036854775808 by have := HI.out; have := HX.out; have := HZ.out; have := HP.out; omega)
  obtain ⟨j, hj⟩ : ∃ j, j = i / 8 := ⟨_, rfl⟩
  have HI2 := Aside0.mk (show j < x.size by have := HI.out; have := HX.out; omega)
  have q0 : wrap64 ((i : Int) / 8) = (j : Int) := by unfold wrap64; have := HJ.out; omega
  have q1 : IntKind.i64.wrap ((i : Int) / 8) = (j : Int) := by rw [IntKind.wrap_i64]; have := HJ.out; omega
  have q2 : ((j : Int) < (x.size : Int)) = True := eq_true (by have := HI2.out; omega)
  have q3 : (j < x.size) = True := eq_true HI2.out
  have f0 := hcell j HI2.out
  have f1 := hfree j HI2.out
  have HH := Aside0.mk hcell
  have HQ := Aside0.mk hj
  clear hcell hfree hj
  go_region
  have hv := flip_bits ((bl x).getD j 0) i
  rw [List.getD_eq_getElem?_getD] at hv
  rw [hv]
  have hfc := flip_cells (l := bl x) (fun k hk => HH.out k (by rwa [bl_length] at hk)) i (by rw [bl_length, ← HQ.out]; exact HI2.out)
  rw [← HQ.out, List.getD_eq_getElem?_getD] at hfc
  have hcb := run_convert_bytes_back (P := Try.prog) ((w7.setCell ⟨b, j, none⟩ (.int .u8 ((flipByte ((bl x)[j]?.getD 0) i).toNat : Int))).drew) 25 9 5 ⟨b, 0, none⟩ cap (flip (bl x) i) Try.underlying25 Try.underlying5 Try.underlying9 hfc
  rw [flip_length, bl_length] at hcb
  replace HB := Aside0.mk ((HB.out.setCell (p := ⟨b, j, none⟩) HW.out (.int .u8 ((flipByte ((bl x)[j]?.getD 0) i).toNat : Int))).drew)
  clear hfc hv q0 q1 q2 q3 f0 f1
  generalize (w7.setCell ⟨b, j, none⟩ (.int .u8 ((flipByte ((bl x)[j]?.getD 0) i).toNat : Int))).drew = w8 at HB hcb ⊢
  obtain ⟨z, hz⟩ : ∃ z : ByteArray, z = ⟨(flip (bl x) i).toArray⟩ := ⟨_, rfl⟩
  rw [← hz] at hcb
  have HY := Aside0.mk (show ip4Err z ≠ 0 ∧ z.size ≤ 140737488351232 by
    have e : bl z = flip (bl x) i := by rw [hz]; simp [bl]
    refine ⟨Pure.err4_flip HX.out.1 e H4.out HI.out, ?_⟩
    rw [← bl_length, e, flip_length, bl_length]; have := HX.out.2.2; have := HZ.out; have := HP.out; omega)
  clear hz
  go_wp2_with fail
  clear hcb
  refine (ip4_Get.calls z _ _ _ _ _ _ _ _ _ _ _ _ _ (Pure.get4_bad HY.out.2 HY.out.1)).mono ?_
  rintro e w9 ⟨rfl, g1⟩
  replace HB := Aside0.mk (HB.out.trans (g1.mono HB.out.size))
  clear g1
  have k1 : (ip4Err z != 0) = true := bne_iff_ne.mpr HY.out.1
  go_wp2
  go_ret
  exact ⟨rfl, HB.out.alloc HB.out.size _⟩

theorem palanquinlaw05_Ip4Sums.calls (a0_0 a0_1 a0_2 a0_3 a0_4 : Int) (a0_5 a0_6 : Bool) (a0_7 a0_8 a0_9 : ByteArray) (a1 : ByteArray) (a2 : Int) (r : Bool) (w : World) (h : palanquinlaw05_Ip4Sums.f a0_0 a0_1 a0_2 a0_3 a0_4 a0_5 a0_6 a0_7 a0_8 a0_9 a1 a2 = some r) :
    Calls Try.prog 30 #[.agg #[.int .i64 a0_0, .int .i64 a0_1, .int .i64 a0_2, .int .i64 a0_3, .int .i64 a0_4, .bool a0_5, .bool a0_6, .string a0_7, .string a0_8, .string a0_9], .string a1, .int .i64 a2] w fun e w' => e = .returned (.bool r) ∧ Below w.heap.size w w' := by
  obtain rfl := Option.some.inj h
  exact ip4sums_main _ _ _ _ _ _ _ _ _ _ _ _ w
end Go.Proofs.Ytejmipoolbodgaa.G
