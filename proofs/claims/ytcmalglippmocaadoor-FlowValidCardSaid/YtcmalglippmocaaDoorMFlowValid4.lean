/- Texts of this session, joined: each is a section. -/
import Derived.Test.YtcmalglippmocaaDoorMFlowValid2
import Derived.Test.YtcmalglippmocaaDoorMFlowValid3
import Derived.WalkLawsBesides
import Derived.Deep.RegionWith
import Derived.Laws.Rows
set_option linter.unusedVariables false
set_option linter.unusedSimpArgs false
section
namespace Go.Proofs.YtcmalglippmocaaDoor.G
open Go.RowKit Go.Proofs.YtcmalglippmocaaDoorW.PrintWords Go.Proofs.YtcmalglippmocaaDoorW.PrintLast Go.Proofs.YtcmalglippmocaaDoorW.PrintMore
attribute [local go_sem] max2_int min2_int max_two min_two max_three min_three max_four min_four

attribute [local go_sem high] eqA71
def ip6_Check.f (a0_0 : Int) (a0_1 : Int) (a0_2 : Int) (a0_3 : Int) (a0_4 : ByteArray) (a0_5 : ByteArray) : Option (Int) := if (!((Go.bits .and .i64 a0_0 255) == a0_0) || (!((Go.bits .and .i64 a0_1 1048575) == a0_1) || (!((Go.bits .and .i64 a0_2 255) == a0_2) || (!((Go.bits .and .i64 a0_3 255) == a0_3))))) = true then (some 1) else (if (a0_4.size : Int) = 16 then (if (a0_5.size : Int) = 16 then (some 0) else (some 1)) else (some 1))
def ip6_Check.T2 : Bool × List (List Nat × List Nat) := (true, [([], []), ([0], [0]), ([1], [1]), ([], []), ([3], [3]), ([4], [4]), ([], []), ([6], [6]), ([7], [7]), ([], []), ([9], [9]), ([10], [10]), ([0, 1, 2], []), ([12, 2, 0, 1, 2], [2, 12]), ([0, 1, 2, 3, 4, 5, 12, 13], []), ([14, 5, 13, 0, 1, 2, 3, 4, 5, 12, 13], [5, 14]), ([0, 1, 2, 3, 4, 5, 6, 7, 8, 12, 13, 14, 15], []), ([16, 8, 15, 0, 1, 2, 3, 4, 5, 6, 7, 8, 12, 13, 14, 15], [8, 16]), ([0, 1, 2, 3, 4, 5, 6, 7, 8, 9, 10, 11, 12, 13, 14, 15, 16, 17], []), ([18, 11, 17, 0, 1, 2, 3, 4, 5, 6, 7, 8, 9, 10, 11, 12, 13, 14, 15, 16, 17], [11, 18])])
def ip6_Check.B2 : List Nat := [0, 1, 3, 0, 8, 24, 0, 64, 192, 0, 512, 1536, 7, 4103, 12351, 28735, 61951, 127487, 262143, 524287]
theorem ip6_Check.tab2 : rtab .any (opsOf Tryd.f118 2) = ip6_Check.T2 := by kernel_rfl
theorem ip6_Check.bits2 : waitsOk ip6_Check.T2.2 ip6_Check.B2 = true := by kernel_rfl
set_option maxHeartbeats 8000000 in
set_option maxRecDepth 100000 in
theorem ip6_Check.calls (a0_0 : Int) (a0_1 : Int) (a0_2 : Int) (a0_3 : Int) (a0_4 : ByteArray) (a0_5 : ByteArray) (r : Int) (w : World) (h : ip6_Check.f a0_0 a0_1 a0_2 a0_3 a0_4 a0_5 = some r) :
  Calls Tryd.prog 118 #[.agg #[.int .i64 a0_0, .int .i64 a0_1, .int .i64 a0_2, .int .i64 a0_3, .string a0_4, .string a0_5]] w fun e w' => e = .returned (.int .i64 r) ∧ Below w.heap.size w w' := by
 have hu71 := Tryd.underlying71
 have HB := mA (Below.refl w.heap.size w)
 have H : (if (!((Go.bits .and .i64 a0_0 255) == a0_0) || (!((Go.bits .and .i64 a0_1 1048575) == a0_1) || (!((Go.bits .and .i64 a0_2 255) == a0_2) || (!((Go.bits .and .i64 a0_3 255) == a0_3))))) = true then (some 1) else (if (a0_4.size : Int) = 16 then (if (a0_5.size : Int) = 16 then (some 0) else (some 1)) else (some 1))) = some r := h
 clear h
 by_cases c2 : (!((Go.bits .and .i64 a0_0 255) == a0_0) || (!((Go.bits .and .i64 a0_1 1048575) == a0_1) || (!((Go.bits .and .i64 a0_2 255) == a0_2) || (!((Go.bits .and .i64 a0_3 255) == a0_3))))) = true
 ·rw [if_pos c2] at H
  have c2b0 : (!((Go.bits .and .i64 a0_0 255) == a0_0) || (!((Go.bits .and .i64 a0_1 1048575) == a0_1) || (!((Go.bits .and .i64 a0_2 255) == a0_2) || (!((Go.bits .and .i64 a0_3 255) == a0_3))))) = true := c2
  clear c2
  obtain rfl := Option.some.inj H
  go_enter Tryd.func118, Tryd.ntmps118
  try go_wp2_with (first | ((with_reducible refine gate_dst (N := 1) rfl ?_); (try (refine gate_guard (by rfl) ?_; dsimp only)); refine box_event ?hg (N := 1) ?hd (cs := #[.int .i64 a0_0, .int .i64 a0_1, .int .i64 a0_2, .int .i64 a0_3, .string a0_4, .string a0_5]) (t := 71) ?hr ?_; (case hd => rfl); (case hg => rfl); (case hr => first | (go_simp; done) | (go_simp; rfl)); intro gb432 hg w3 hbox hb; obtain ⟨n0_, nq_⟩ := bpr (by repeat (first | (with_reducible first | exact HB.out | apply bA | apply bN | apply bD) | exact HB.out)) hb; have n1_ := mA (hbox); have n2_ := mA ((by rw [hg]; exact nq_ : w.heap.size ≤ gb432)); have n3_ := mA ((by rw [hg]; exact nq_ : w.heap.size ≤ gb432)); clear HB; have HB := n0_; have BK432 := n1_; have GW432 := n2_; have GE432 := n3_; clear nq_; clear n0_ n1_ n2_ n3_; clear hb hbox hg; obtain ⟨hcz4_0, hcz4_1, hcz4_2, hcz4_3, hcz4_4, hcz4_5⟩ := bc6 BK432.out; obtain ⟨hfz4_0, hfz4_1, hfz4_2, hfz4_3, hfz4_4, hfz4_5⟩ := bf6 BK432.out) | ((with_reducible refine gate_dst (N := 3) rfl ?_); (try (refine gate_guard (by rfl) ?_; dsimp only)); refine box_event ?hg (N := 3) ?hd (cs := #[.int .i64 0, .int .i64 0, .int .i64 0, .int .i64 0, .string ⟨#[]⟩, .string ⟨#[]⟩]) (t := 71) ?hr ?_; (case hd => rfl); (case hg => rfl); (case hr => first | (go_simp; done) | (go_simp; rfl)); intro gb433 hg w5 hbox hb; obtain ⟨n0_, nl432_⟩ := bt3 (g := gb432) (o := .cells #[.int .i64 a0_0, .int .i64 a0_1, .int .i64 a0_2, .int .i64 a0_3, .string a0_4, .string a0_5] 71 (0, 0)) (by (with_reducible repeat (first | apply kN | apply kD | apply kA)); exact BK432.out) hb; obtain ⟨n1_, nq_⟩ := bpr (by repeat (first | (with_reducible first | exact HB.out | apply bA | apply bN | apply bD | refine bS ?_ GE432.out) | exact HB.out)) hb; have n2_ := mA (hbox); have n3_ := mA ((by rw [hg]; exact nq_ : w.heap.size ≤ gb433)); have n4_ := mA ((by rw [hg]; exact nq_ : w.heap.size ≤ gb433)); have n5_ := mA ((by rw [hg]; exact Nat.ne_of_lt nl432_ : gb432 ≠ gb433)); have n6_ := mA ((by rw [hg]; exact Nat.ne_of_gt nl432_ : gb433 ≠ gb432)); clear BK432; clear HB; have BK432 := n0_; have HB := n1_; have BK433 := n2_; have GW433 := n3_; have GE433 := n4_; have NB432_433 := n5_; have NB433_432 := n6_; clear nl432_; clear nq_; clear n0_ n1_ n2_ n3_ n4_ n5_ n6_; clear hb hbox hg; have hnb6 := NB433_432.out; have hnc6 := NB432_433.out; obtain ⟨hcz7_0, hcz7_1, hcz7_2, hcz7_3, hcz7_4, hcz7_5⟩ := bc6 BK433.out; obtain ⟨hfz7_0, hfz7_1, hfz7_2, hfz7_3, hfz7_4, hfz7_5⟩ := bf6 BK433.out))
  have n0_ : Aside0 (((((((w5.setCell ⟨gb433, 0, none⟩ (.int .i64 a0_0)).setCell ⟨gb433, 1, none⟩ (.int .i64 a0_1)).setCell ⟨gb433, 2, none⟩ (.int .i64 a0_2)).setCell ⟨gb433, 3, none⟩ (.int .i64 a0_3)).setCell ⟨gb433, 4, none⟩ (.string a0_4)).setCell ⟨gb433, 5, none⟩ (.string a0_5)).heap[gb432]? = some (.cells #[.int .i64 a0_0, .int .i64 a0_1, .int .i64 a0_2, .int .i64 a0_3, .string a0_4, .string a0_5] 71 (0, 0))) := ⟨by (with_reducible repeat (first | apply kN | apply kD | apply kA | refine blk_far ?_ NB432_433.out _)); exact BK432.out⟩
  have n1_ : Aside0 (((((((w5.setCell ⟨gb433, 0, none⟩ (.int .i64 a0_0)).setCell ⟨gb433, 1, none⟩ (.int .i64 a0_1)).setCell ⟨gb433, 2, none⟩ (.int .i64 a0_2)).setCell ⟨gb433, 3, none⟩ (.int .i64 a0_3)).setCell ⟨gb433, 4, none⟩ (.string a0_4)).setCell ⟨gb433, 5, none⟩ (.string a0_5)).heap[gb433]? = some (.cells #[.int .i64 a0_0, .int .i64 a0_1, .int .i64 a0_2, .int .i64 a0_3, .string a0_4, .string a0_5] 71 (0, 0))) := ⟨by (with_reducible repeat (first | apply kN | apply kD | apply kA)); refine blk_put (cs := #[.int .i64 a0_0, .int .i64 a0_1, .int .i64 a0_2, .int .i64 a0_3, .string a0_4, .string ⟨#[]⟩]) ?_ 5 _ (by first | rfl | (simp [*]; done)); (with_reducible repeat (first | apply kN | apply kD | apply kA)); refine blk_put (cs := #[.int .i64 a0_0, .int .i64 a0_1, .int .i64 a0_2, .int .i64 a0_3, .string ⟨#[]⟩, .string ⟨#[]⟩]) ?_ 4 _ (by first | rfl | (simp [*]; done)); (with_reducible repeat (first | apply kN | apply kD | apply kA)); refine blk_put (cs := #[.int .i64 a0_0, .int .i64 a0_1, .int .i64 a0_2, .int .i64 0, .string ⟨#[]⟩, .string ⟨#[]⟩]) ?_ 3 _ (by first | rfl | (simp [*]; done)); (with_reducible repeat (first | apply kN | apply kD | apply kA)); refine blk_put (cs := #[.int .i64 a0_0, .int .i64 a0_1, .int .i64 0, .int .i64 0, .string ⟨#[]⟩, .string ⟨#[]⟩]) ?_ 2 _ (by first | rfl | (simp [*]; done)); (with_reducible repeat (first | apply kN | apply kD | apply kA)); refine blk_put (cs := #[.int .i64 a0_0, .int .i64 0, .int .i64 0, .int .i64 0, .string ⟨#[]⟩, .string ⟨#[]⟩]) ?_ 1 _ (by first | rfl | (simp [*]; done)); (with_reducible repeat (first | apply kN | apply kD | apply kA)); refine blk_put (cs := #[.int .i64 0, .int .i64 0, .int .i64 0, .int .i64 0, .string ⟨#[]⟩, .string ⟨#[]⟩]) ?_ 0 _ (by first | rfl | (simp [*]; done)); (with_reducible repeat (first | apply kN | apply kD | apply kA)); exact BK433.out⟩
  have n2_ : Aside0 (Below w.heap.size w ((((((w5.setCell ⟨gb433, 0, none⟩ (.int .i64 a0_0)).setCell ⟨gb433, 1, none⟩ (.int .i64 a0_1)).setCell ⟨gb433, 2, none⟩ (.int .i64 a0_2)).setCell ⟨gb433, 3, none⟩ (.int .i64 a0_3)).setCell ⟨gb433, 4, none⟩ (.string a0_4)).setCell ⟨gb433, 5, none⟩ (.string a0_5))) := ⟨by repeat (first | (with_reducible first | exact HB.out | apply bA | apply bN | apply bD | refine bS ?_ GE432.out | refine bS ?_ GE433.out) | exact HB.out)⟩
  (try clear BK432)
  (try clear BK433)
  (try clear HB)
  generalize ((((((w5.setCell ⟨gb433, 0, none⟩ (.int .i64 a0_0)).setCell ⟨gb433, 1, none⟩ (.int .i64 a0_1)).setCell ⟨gb433, 2, none⟩ (.int .i64 a0_2)).setCell ⟨gb433, 3, none⟩ (.int .i64 a0_3)).setCell ⟨gb433, 4, none⟩ (.string a0_4)).setCell ⟨gb433, 5, none⟩ (.string a0_5)) = w8 at n0_ n1_ n2_ ⊢
  have BK432 := n0_
  have BK433 := n1_
  have HB := n2_
  clear n0_ n1_ n2_
  have n0_ := mA (kD BK432.out)
  have n1_ := mA (kD BK433.out)
  have n2_ := mA (bD HB.out)
  clear BK432
  clear BK433
  clear HB
  have BK432 := n0_
  have BK433 := n1_
  have HB := n2_
  clear n0_ n1_ n2_
  refine start_ (n := 20) (S := fun w' => w'.cell? ⟨gb432, 0, none⟩ = some (.int .i64 a0_0) ∧ w'.cell? ⟨gb432, 1, none⟩ = some (.int .i64 a0_1) ∧ w'.cell? ⟨gb432, 2, none⟩ = some (.int .i64 a0_2) ∧ w'.cell? ⟨gb432, 3, none⟩ = some (.int .i64 a0_3) ∧ w'.cell? ⟨gb432, 4, none⟩ = some (.string a0_4) ∧ w'.cell? ⟨gb432, 5, none⟩ = some (.string a0_5)) (ds := []) (bv 20 0) (by kernel_rfl) rfl rfl ⟨(zC BK432.out 0).trans rfl, (zC BK432.out 1).trans rfl, (zC BK432.out 2).trans rfl, (zC BK432.out 3).trans rfl, (zC BK432.out 4).trans rfl, (zC BK432.out 5).trans rfl⟩ (fun hHeld => ?_); refine with_tabW ip6_Check.tab2 ip6_Check.bits2 (fun HT_ HW_ => ?_)
  generalize w8.drew = w9 at BK432 BK433 HB hHeld ⊢
  refine pure_ (i := 0) (N := some 5) (v := ?_) (a' := ?_) (bv 20 1) rfl rfl (any_of HT_.out (by kernel_rfl)) (fun _ _ _ h => h) (Or.inl ⟨by rfl, ?_⟩) ?_ ?_; rotate_left; (intro w'; go_simp; with_reducible rfl); rotate_left; (simp only [Act.put, List.setIfInBounds_toArray, List.set_cons_zero, List.set_cons_succ, i64_w, i32_w]; rfl)
  refine pure_ (i := 3) (N := some 8) (v := ?_) (a' := ?_) (bv 20 9) rfl rfl (any_of HT_.out (by kernel_rfl)) (fun _ _ _ h => h) (Or.inl ⟨by rfl, ?_⟩) ?_ ?_; rotate_left; (intro w'; go_simp; with_reducible rfl); rotate_left; (simp only [Act.put, List.setIfInBounds_toArray, List.set_cons_zero, List.set_cons_succ, i64_w, i32_w]; rfl)
  refine pure_ (i := 6) (N := some 11) (v := ?_) (a' := ?_) (bv 20 73) rfl rfl (any_of HT_.out (by kernel_rfl)) (fun _ _ _ h => h) (Or.inl ⟨by rfl, ?_⟩) ?_ ?_; rotate_left; (intro w'; go_simp; with_reducible rfl); rotate_left; (simp only [Act.put, List.setIfInBounds_toArray, List.set_cons_zero, List.set_cons_succ, i64_w, i32_w]; rfl)
  refine pure_ (i := 9) (N := some 14) (v := ?_) (a' := ?_) (bv 20 585) rfl rfl (any_of HT_.out (by kernel_rfl)) (fun _ _ _ h => h) (Or.inl ⟨by rfl, ?_⟩) ?_ ?_; rotate_left; (intro w'; go_simp; with_reducible rfl); rotate_left; (simp only [Act.put, List.setIfInBounds_toArray, List.set_cons_zero, List.set_cons_succ, i64_w, i32_w]; rfl)
  refine take_ (i := 1) (N := some 6) (v := ?_) (a' := ?_) (bv 20 587) rfl rfl (take_ofW HT_.out HW_.out (by kernel_rfl)) (fun _ _ _ h => h) (Or.inl ⟨by rfl, ?_⟩) hHeld ?_ ?_; rotate_left; (rintro w' ⟨s0, s1, s2, s3, s4, s5⟩; go_simp; with_reducible rfl); rotate_left; (simp only [Act.put, List.setIfInBounds_toArray, List.set_cons_zero, List.set_cons_succ, i64_w, i32_w]; rfl)
  refine pure_ (i := 2) (N := some 7) (v := ?_) (a' := ?_) (bv 20 591) rfl rfl (any_of HT_.out (by kernel_rfl)) (fun _ _ _ h => h) (Or.inl ⟨by rfl, ?_⟩) ?_ ?_; rotate_left; (intro w'; go_simp; with_reducible rfl); rotate_left; (simp only [Act.put, List.setIfInBounds_toArray, List.set_cons_zero, List.set_cons_succ, i64_w, i32_w]; rfl)
  refine pure_ (i := 12) (N := some 17) (v := ?_) (a' := ?_) (bv 20 4687) rfl rfl (any_of HT_.out (by kernel_rfl)) (fun _ _ _ h => h) (Or.inl ⟨by rfl, ?_⟩) ?_ ?_; rotate_left; (intro w'; go_simp; with_reducible rfl); rotate_left; (simp only [Act.put, List.setIfInBounds_toArray, List.set_cons_zero, List.set_cons_succ, i64_w, i32_w]; rfl)
  refine take_ (i := 4) (N := some 9) (v := ?_) (a' := ?_) (bv 20 4703) rfl rfl (take_ofW HT_.out HW_.out (by kernel_rfl)) (fun _ _ _ h => h) (Or.inl ⟨by rfl, ?_⟩) hHeld ?_ ?_; rotate_left; (rintro w' ⟨s0, s1, s2, s3, s4, s5⟩; go_simp; with_reducible rfl); rotate_left; (simp only [Act.put, List.setIfInBounds_toArray, List.set_cons_zero, List.set_cons_succ, i64_w, i32_w]; rfl)
  refine pure_ (i := 5) (N := some 10) (v := ?_) (a' := ?_) (bv 20 4735) rfl rfl (any_of HT_.out (by kernel_rfl)) (fun _ _ _ h => h) (Or.inl ⟨by rfl, ?_⟩) ?_ ?_; rotate_left; (intro w'; go_simp; with_reducible rfl); rotate_left; (simp only [Act.put, List.setIfInBounds_toArray, List.set_cons_zero, List.set_cons_succ, i64_w, i32_w]; rfl)
  refine take_ (i := 7) (N := some 12) (v := ?_) (a' := ?_) (bv 20 4863) rfl rfl (take_ofW HT_.out HW_.out (by kernel_rfl)) (fun _ _ _ h => h) (Or.inl ⟨by rfl, ?_⟩) hHeld ?_ ?_; rotate_left; (rintro w' ⟨s0, s1, s2, s3, s4, s5⟩; go_simp; with_reducible rfl); rotate_left; (simp only [Act.put, List.setIfInBounds_toArray, List.set_cons_zero, List.set_cons_succ, i64_w, i32_w]; rfl)
  refine pure_ (i := 8) (N := some 13) (v := ?_) (a' := ?_) (bv 20 5119) rfl rfl (any_of HT_.out (by kernel_rfl)) (fun _ _ _ h => h) (Or.inl ⟨by rfl, ?_⟩) ?_ ?_; rotate_left; (intro w'; go_simp; with_reducible rfl); rotate_left; (simp only [Act.put, List.setIfInBounds_toArray, List.set_cons_zero, List.set_cons_succ, i64_w, i32_w]; rfl)
  refine take_ (i := 10) (N := some 15) (v := ?_) (a' := ?_) (bv 20 6143) rfl rfl (take_ofW HT_.out HW_.out (by kernel_rfl)) (fun _ _ _ h => h) (Or.inl ⟨by rfl, ?_⟩) hHeld ?_ ?_; rotate_left; (rintro w' ⟨s0, s1, s2, s3, s4, s5⟩; go_simp; with_reducible rfl); rotate_left; (simp only [Act.put, List.setIfInBounds_toArray, List.set_cons_zero, List.set_cons_succ, i64_w, i32_w]; rfl)
  refine pure_ (i := 11) (N := some 16) (v := ?_) (a' := ?_) (bv 20 8191) rfl rfl (any_of HT_.out (by kernel_rfl)) (fun _ _ _ h => h) (Or.inl ⟨by rfl, ?_⟩) ?_ ?_; rotate_left; (intro w'; go_simp; with_reducible rfl); rotate_left; (simp only [Act.put, List.setIfInBounds_toArray, List.set_cons_zero, List.set_cons_succ, i64_w, i32_w]; rfl)
  refine one_ (i := 13) (N := none) (bv 20 16383) rfl rfl (one_of HT_.out (by kernel_rfl)) (by decide) (fun K hK => ?_)
  have hs10 : w9.cell? ⟨gb433, 0, none⟩ = some (.int .i64 a0_0) := (zC BK433.out 0).trans rfl
  have hfs10 := zF BK433.out 0
  have hns10_0 := NB432_433.out
  have hms10_0 := NB433_432.out
  refine skip_ (w1 := ?_) (by rfl) rfl ?_ ?_
  rotate_left
  ·go_simp
   rfl
  refine hK.out _ _ ⟨((cell_far (p := ⟨gb433, _, none⟩) NB432_433.out _).trans (hHeld.1)), ((cell_far (p := ⟨gb433, _, none⟩) NB432_433.out _).trans (hHeld.2.1)), ((cell_far (p := ⟨gb433, _, none⟩) NB432_433.out _).trans (hHeld.2.2.1)), ((cell_far (p := ⟨gb433, _, none⟩) NB432_433.out _).trans (hHeld.2.2.2.1)), ((cell_far (p := ⟨gb433, _, none⟩) NB432_433.out _).trans (hHeld.2.2.2.2.1)), ((cell_far (p := ⟨gb433, _, none⟩) NB432_433.out _).trans (hHeld.2.2.2.2.2))⟩ (fun hHeld => ?_)
  clear hK K
  refine pure_ (i := 14) (N := some 18) (v := ?_) (a' := ?_) (bv 20 32767) rfl rfl (any_of HT_.out (by kernel_rfl)) (fun _ _ _ h => h) (Or.inl ⟨by rfl, ?_⟩) ?_ ?_; rotate_left; (intro w'; go_simp; with_reducible rfl); rotate_left; (simp only [Act.put, List.setIfInBounds_toArray, List.set_cons_zero, List.set_cons_succ, i64_w, i32_w]; rfl)
  refine one_ (i := 15) (N := none) (bv 20 65535) rfl rfl (one_of HT_.out (by kernel_rfl)) (by decide) (fun K hK => ?_)
  have hs11 : w9.cell? ⟨gb433, 2, none⟩ = some (.int .i64 a0_2) := (zC BK433.out 2).trans rfl
  have hfs11 := zF BK433.out 2
  have hns11_0 := NB432_433.out
  have hms11_0 := NB433_432.out
  refine skip_ (w1 := ?_) (by rfl) rfl ?_ ?_
  rotate_left
  ·go_simp
   rfl
  refine hK.out _ _ ⟨((cell_far (p := ⟨gb433, _, none⟩) NB432_433.out _).trans (hHeld.1)), ((cell_far (p := ⟨gb433, _, none⟩) NB432_433.out _).trans (hHeld.2.1)), ((cell_far (p := ⟨gb433, _, none⟩) NB432_433.out _).trans (hHeld.2.2.1)), ((cell_far (p := ⟨gb433, _, none⟩) NB432_433.out _).trans (hHeld.2.2.2.1)), ((cell_far (p := ⟨gb433, _, none⟩) NB432_433.out _).trans (hHeld.2.2.2.2.1)), ((cell_far (p := ⟨gb433, _, none⟩) NB432_433.out _).trans (hHeld.2.2.2.2.2))⟩ (fun hHeld => ?_)
  clear hK K
  refine pure_ (i := 16) (N := some 19) (v := ?_) (a' := ?_) (bv 20 131071) rfl rfl (any_of HT_.out (by kernel_rfl)) (fun _ _ _ h => h) (Or.inl ⟨by rfl, ?_⟩) ?_ ?_; rotate_left; (intro w'; go_simp; with_reducible rfl); rotate_left; (simp only [Act.put, List.setIfInBounds_toArray, List.set_cons_zero, List.set_cons_succ, i64_w, i32_w]; rfl)
  refine one_ (i := 17) (N := none) (bv 20 262143) rfl rfl (one_of HT_.out (by kernel_rfl)) (by decide) (fun K hK => ?_)
  have hs12 : w9.cell? ⟨gb433, 3, none⟩ = some (.int .i64 a0_3) := (zC BK433.out 3).trans rfl
  have hfs12 := zF BK433.out 3
  have hns12_0 := NB432_433.out
  have hms12_0 := NB433_432.out
  refine skip_ (w1 := ?_) (by rfl) rfl ?_ ?_
  rotate_left
  ·go_simp
   rfl
  refine hK.out _ _ ⟨((cell_far (p := ⟨gb433, _, none⟩) NB432_433.out _).trans (hHeld.1)), ((cell_far (p := ⟨gb433, _, none⟩) NB432_433.out _).trans (hHeld.2.1)), ((cell_far (p := ⟨gb433, _, none⟩) NB432_433.out _).trans (hHeld.2.2.1)), ((cell_far (p := ⟨gb433, _, none⟩) NB432_433.out _).trans (hHeld.2.2.2.1)), ((cell_far (p := ⟨gb433, _, none⟩) NB432_433.out _).trans (hHeld.2.2.2.2.1)), ((cell_far (p := ⟨gb433, _, none⟩) NB432_433.out _).trans (hHeld.2.2.2.2.2))⟩ (fun hHeld => ?_)
  clear hK K
  refine pure_ (i := 18) (N := some 20) (v := ?_) (a' := ?_) (bv 20 524287) rfl rfl (any_of HT_.out (by kernel_rfl)) (fun _ _ _ h => h) (Or.inl ⟨by rfl, ?_⟩) ?_ ?_; rotate_left; (intro w'; go_simp; with_reducible rfl); rotate_left; (simp only [Act.put, List.setIfInBounds_toArray, List.set_cons_zero, List.set_cons_succ, i64_w, i32_w]; rfl)
  refine one_ (i := 19) (N := none) (bv 20 1048575) rfl rfl (one_of HT_.out (by kernel_rfl)) (by decide) (fun K hK => ?_)
  have hs13 : w9.cell? ⟨gb433, 1, none⟩ = some (.int .i64 a0_1) := (zC BK433.out 1).trans rfl
  have hfs13 := zF BK433.out 1
  have hns13_0 := NB432_433.out
  have hms13_0 := NB433_432.out
  refine skip_ (w1 := ?_) (by rfl) rfl ?_ ?_
  rotate_left
  ·go_simp
   rfl
  refine hK.out _ _ ⟨((cell_far (p := ⟨gb433, _, none⟩) NB432_433.out _).trans (hHeld.1)), ((cell_far (p := ⟨gb433, _, none⟩) NB432_433.out _).trans (hHeld.2.1)), ((cell_far (p := ⟨gb433, _, none⟩) NB432_433.out _).trans (hHeld.2.2.1)), ((cell_far (p := ⟨gb433, _, none⟩) NB432_433.out _).trans (hHeld.2.2.2.1)), ((cell_far (p := ⟨gb433, _, none⟩) NB432_433.out _).trans (hHeld.2.2.2.2.1)), ((cell_far (p := ⟨gb433, _, none⟩) NB432_433.out _).trans (hHeld.2.2.2.2.2))⟩ (fun hHeld => ?_)
  clear hK K
  refine done_ (done_of HT_.out (by kernel_rfl)) ?_
  obtain ⟨hcz14_0, hcz14_1, hcz14_2, hcz14_3, hcz14_4, hcz14_5⟩ := bc6 BK433.out
  obtain ⟨hfz14_0, hfz14_1, hfz14_2, hfz14_3, hfz14_4, hfz14_5⟩ := bf6 BK433.out
  obtain ⟨hcz15_0, hcz15_1, hcz15_2, hcz15_3, hcz15_4, hcz15_5⟩ := bc6 BK432.out
  obtain ⟨hfz15_0, hfz15_1, hfz15_2, hfz15_3, hfz15_4, hfz15_5⟩ := bf6 BK432.out
  try go_wp2
  go_ret
  exact ⟨by first | rfl | (simp [errW_none, errW_some] <;> rfl) | (simp [*, errW_none, errW_some] <;> rfl), by repeat (first | (with_reducible first | exact HB.out | apply bA | apply bN | apply bD | refine bS ?_ GE432.out | refine bS ?_ GE433.out) | exact HB.out)⟩
 ·rw [if_neg c2] at H
  have c2b0 : (!((Go.bits .and .i64 a0_0 255) == a0_0) || (!((Go.bits .and .i64 a0_1 1048575) == a0_1) || (!((Go.bits .and .i64 a0_2 255) == a0_2) || (!((Go.bits .and .i64 a0_3 255) == a0_3))))) = false := by simpa using c2
  clear c2
  by_cases c16 : (a0_4.size : Int) = 16
  ·rw [if_pos c16] at H
   have c16b0 : ((a0_4.size : Int) == 16) = true := beq_iff_eq.mpr c16
   have c16b1 : ((a0_4.size : Int) != 16) = false := bne_eq_false_iff_eq.mpr c16
   clear c16
   by_cases c17 : (a0_5.size : Int) = 16
   ·rw [if_pos c17] at H
    have c17b0 : ((a0_5.size : Int) == 16) = true := beq_iff_eq.mpr c17
    have c17b1 : ((a0_5.size : Int) != 16) = false := bne_eq_false_iff_eq.mpr c17
    clear c17
    obtain rfl := Option.some.inj H
    go_enter Tryd.func118, Tryd.ntmps118
    try go_wp2_with (first | ((with_reducible refine gate_dst (N := 1) rfl ?_); (try (refine gate_guard (by rfl) ?_; dsimp only)); refine box_event ?hg (N := 1) ?hd (cs := #[.int .i64 a0_0, .int .i64 a0_1, .int .i64 a0_2, .int .i64 a0_3, .string a0_4, .string a0_5]) (t := 71) ?hr ?_; (case hd => rfl); (case hg => rfl); (case hr => first | (go_simp; done) | (go_simp; rfl)); intro gb432 hg w18 hbox hb; obtain ⟨n0_, nq_⟩ := bpr (by repeat (first | (with_reducible first | exact HB.out | apply bA | apply bN | apply bD) | exact HB.out)) hb; have n1_ := mA (hbox); have n2_ := mA ((by rw [hg]; exact nq_ : w.heap.size ≤ gb432)); have n3_ := mA ((by rw [hg]; exact nq_ : w.heap.size ≤ gb432)); clear HB; have HB := n0_; have BK432 := n1_; have GW432 := n2_; have GE432 := n3_; clear nq_; clear n0_ n1_ n2_ n3_; clear hb hbox hg; obtain ⟨hcz19_0, hcz19_1, hcz19_2, hcz19_3, hcz19_4, hcz19_5⟩ := bc6 BK432.out; obtain ⟨hfz19_0, hfz19_1, hfz19_2, hfz19_3, hfz19_4, hfz19_5⟩ := bf6 BK432.out) | ((with_reducible refine gate_dst (N := 3) rfl ?_); (try (refine gate_guard (by rfl) ?_; dsimp only)); refine box_event ?hg (N := 3) ?hd (cs := #[.int .i64 0, .int .i64 0, .int .i64 0, .int .i64 0, .string ⟨#[]⟩, .string ⟨#[]⟩]) (t := 71) ?hr ?_; (case hd => rfl); (case hg => rfl); (case hr => first | (go_simp; done) | (go_simp; rfl)); intro gb433 hg w20 hbox hb; obtain ⟨n0_, nl432_⟩ := bt3 (g := gb432) (o := .cells #[.int .i64 a0_0, .int .i64 a0_1, .int .i64 a0_2, .int .i64 a0_3, .string a0_4, .string a0_5] 71 (0, 0)) (by (with_reducible repeat (first | apply kN | apply kD | apply kA)); exact BK432.out) hb; obtain ⟨n1_, nq_⟩ := bpr (by repeat (first | (with_reducible first | exact HB.out | apply bA | apply bN | apply bD | refine bS ?_ GE432.out) | exact HB.out)) hb; have n2_ := mA (hbox); have n3_ := mA ((by rw [hg]; exact nq_ : w.heap.size ≤ gb433)); have n4_ := mA ((by rw [hg]; exact nq_ : w.heap.size ≤ gb433)); have n5_ := mA ((by rw [hg]; exact Nat.ne_of_lt nl432_ : gb432 ≠ gb433)); have n6_ := mA ((by rw [hg]; exact Nat.ne_of_gt nl432_ : gb433 ≠ gb432)); clear BK432; clear HB; have BK432 := n0_; have HB := n1_; have BK433 := n2_; have GW433 := n3_; have GE433 := n4_; have NB432_433 := n5_; have NB433_432 := n6_; clear nl432_; clear nq_; clear n0_ n1_ n2_ n3_ n4_ n5_ n6_; clear hb hbox hg; have hnb21 := NB433_432.out; have hnc21 := NB432_433.out; obtain ⟨hcz22_0, hcz22_1, hcz22_2, hcz22_3, hcz22_4, hcz22_5⟩ := bc6 BK433.out; obtain ⟨hfz22_0, hfz22_1, hfz22_2, hfz22_3, hfz22_4, hfz22_5⟩ := bf6 BK433.out))
    have n0_ : Aside0 (((((((w20.setCell ⟨gb433, 0, none⟩ (.int .i64 a0_0)).setCell ⟨gb433, 1, none⟩ (.int .i64 a0_1)).setCell ⟨gb433, 2, none⟩ (.int .i64 a0_2)).setCell ⟨gb433, 3, none⟩ (.int .i64 a0_3)).setCell ⟨gb433, 4, none⟩ (.string a0_4)).setCell ⟨gb433, 5, none⟩ (.string a0_5)).heap[gb432]? = some (.cells #[.int .i64 a0_0, .int .i64 a0_1, .int .i64 a0_2, .int .i64 a0_3, .string a0_4, .string a0_5] 71 (0, 0))) := ⟨by (with_reducible repeat (first | apply kN | apply kD | apply kA | refine blk_far ?_ NB432_433.out _)); exact BK432.out⟩
    have n1_ : Aside0 (((((((w20.setCell ⟨gb433, 0, none⟩ (.int .i64 a0_0)).setCell ⟨gb433, 1, none⟩ (.int .i64 a0_1)).setCell ⟨gb433, 2, none⟩ (.int .i64 a0_2)).setCell ⟨gb433, 3, none⟩ (.int .i64 a0_3)).setCell ⟨gb433, 4, none⟩ (.string a0_4)).setCell ⟨gb433, 5, none⟩ (.string a0_5)).heap[gb433]? = some (.cells #[.int .i64 a0_0, .int .i64 a0_1, .int .i64 a0_2, .int .i64 a0_3, .string a0_4, .string a0_5] 71 (0, 0))) := ⟨by (with_reducible repeat (first | apply kN | apply kD | apply kA)); refine blk_put (cs := #[.int .i64 a0_0, .int .i64 a0_1, .int .i64 a0_2, .int .i64 a0_3, .string a0_4, .string ⟨#[]⟩]) ?_ 5 _ (by first | rfl | (simp [*]; done)); (with_reducible repeat (first | apply kN | apply kD | apply kA)); refine blk_put (cs := #[.int .i64 a0_0, .int .i64 a0_1, .int .i64 a0_2, .int .i64 a0_3, .string ⟨#[]⟩, .string ⟨#[]⟩]) ?_ 4 _ (by first | rfl | (simp [*]; done)); (with_reducible repeat (first | apply kN | apply kD | apply kA)); refine blk_put (cs := #[.int .i64 a0_0, .int .i64 a0_1, .int .i64 a0_2, .int .i64 0, .string ⟨#[]⟩, .string ⟨#[]⟩]) ?_ 3 _ (by first | rfl | (simp [*]; done)); (with_reducible repeat (first | apply kN | apply kD | apply kA)); refine blk_put (cs := #[.int .i64 a0_0, .int .i64 a0_1, .int .i64 0, .int .i64 0, .string ⟨#[]⟩, .string ⟨#[]⟩]) ?_ 2 _ (by first | rfl | (simp [*]; done)); (with_reducible repeat (first | apply kN | apply kD | apply kA)); refine blk_put (cs := #[.int .i64 a0_0, .int .i64 0, .int .i64 0, .int .i64 0, .string ⟨#[]⟩, .string ⟨#[]⟩]) ?_ 1 _ (by first | rfl | (simp [*]; done)); (with_reducible repeat (first | apply kN | apply kD | apply kA)); refine blk_put (cs := #[.int .i64 0, .int .i64 0, .int .i64 0, .int .i64 0, .string ⟨#[]⟩, .string ⟨#[]⟩]) ?_ 0 _ (by first | rfl | (simp [*]; done)); (with_reducible repeat (first | apply kN | apply kD | apply kA)); exact BK433.out⟩
    have n2_ : Aside0 (Below w.heap.size w ((((((w20.setCell ⟨gb433, 0, none⟩ (.int .i64 a0_0)).setCell ⟨gb433, 1, none⟩ (.int .i64 a0_1)).setCell ⟨gb433, 2, none⟩ (.int .i64 a0_2)).setCell ⟨gb433, 3, none⟩ (.int .i64 a0_3)).setCell ⟨gb433, 4, none⟩ (.string a0_4)).setCell ⟨gb433, 5, none⟩ (.string a0_5))) := ⟨by repeat (first | (with_reducible first | exact HB.out | apply bA | apply bN | apply bD | refine bS ?_ GE432.out | refine bS ?_ GE433.out) | exact HB.out)⟩
    (try clear BK432)
    (try clear BK433)
    (try clear HB)
    generalize ((((((w20.setCell ⟨gb433, 0, none⟩ (.int .i64 a0_0)).setCell ⟨gb433, 1, none⟩ (.int .i64 a0_1)).setCell ⟨gb433, 2, none⟩ (.int .i64 a0_2)).setCell ⟨gb433, 3, none⟩ (.int .i64 a0_3)).setCell ⟨gb433, 4, none⟩ (.string a0_4)).setCell ⟨gb433, 5, none⟩ (.string a0_5)) = w23 at n0_ n1_ n2_ ⊢
    have BK432 := n0_
    have BK433 := n1_
    have HB := n2_
    clear n0_ n1_ n2_
    have n0_ := mA (kD BK432.out)
    have n1_ := mA (kD BK433.out)
    have n2_ := mA (bD HB.out)
    clear BK432
    clear BK433
    clear HB
    have BK432 := n0_
    have BK433 := n1_
    have HB := n2_
    clear n0_ n1_ n2_
    refine start_ (n := 20) (S := fun w' => w'.cell? ⟨gb432, 0, none⟩ = some (.int .i64 a0_0) ∧ w'.cell? ⟨gb432, 1, none⟩ = some (.int .i64 a0_1) ∧ w'.cell? ⟨gb432, 2, none⟩ = some (.int .i64 a0_2) ∧ w'.cell? ⟨gb432, 3, none⟩ = some (.int .i64 a0_3) ∧ w'.cell? ⟨gb432, 4, none⟩ = some (.string a0_4) ∧ w'.cell? ⟨gb432, 5, none⟩ = some (.string a0_5)) (ds := []) (bv 20 0) (by kernel_rfl) rfl rfl ⟨(zC BK432.out 0).trans rfl, (zC BK432.out 1).trans rfl, (zC BK432.out 2).trans rfl, (zC BK432.out 3).trans rfl, (zC BK432.out 4).trans rfl, (zC BK432.out 5).trans rfl⟩ (fun hHeld => ?_); refine with_tabW ip6_Check.tab2 ip6_Check.bits2 (fun HT_ HW_ => ?_)
    generalize w23.drew = w24 at BK432 BK433 HB hHeld ⊢
    refine pure_ (i := 0) (N := some 5) (v := ?_) (a' := ?_) (bv 20 1) rfl rfl (any_of HT_.out (by kernel_rfl)) (fun _ _ _ h => h) (Or.inl ⟨by rfl, ?_⟩) ?_ ?_; rotate_left; (intro w'; go_simp; with_reducible rfl); rotate_left; (simp only [Act.put, List.setIfInBounds_toArray, List.set_cons_zero, List.set_cons_succ, i64_w, i32_w]; rfl)
    refine pure_ (i := 3) (N := some 8) (v := ?_) (a' := ?_) (bv 20 9) rfl rfl (any_of HT_.out (by kernel_rfl)) (fun _ _ _ h => h) (Or.inl ⟨by rfl, ?_⟩) ?_ ?_; rotate_left; (intro w'; go_simp; with_reducible rfl); rotate_left; (simp only [Act.put, List.setIfInBounds_toArray, List.set_cons_zero, List.set_cons_succ, i64_w, i32_w]; rfl)
    refine pure_ (i := 6) (N := some 11) (v := ?_) (a' := ?_) (bv 20 73) rfl rfl (any_of HT_.out (by kernel_rfl)) (fun _ _ _ h => h) (Or.inl ⟨by rfl, ?_⟩) ?_ ?_; rotate_left; (intro w'; go_simp; with_reducible rfl); rotate_left; (simp only [Act.put, List.setIfInBounds_toArray, List.set_cons_zero, List.set_cons_succ, i64_w, i32_w]; rfl)
    refine pure_ (i := 9) (N := some 14) (v := ?_) (a' := ?_) (bv 20 585) rfl rfl (any_of HT_.out (by kernel_rfl)) (fun _ _ _ h => h) (Or.inl ⟨by rfl, ?_⟩) ?_ ?_; rotate_left; (intro w'; go_simp; with_reducible rfl); rotate_left; (simp only [Act.put, List.setIfInBounds_toArray, List.set_cons_zero, List.set_cons_succ, i64_w, i32_w]; rfl)
    refine take_ (i := 1) (N := some 6) (v := ?_) (a' := ?_) (bv 20 587) rfl rfl (take_ofW HT_.out HW_.out (by kernel_rfl)) (fun _ _ _ h => h) (Or.inl ⟨by rfl, ?_⟩) hHeld ?_ ?_; rotate_left; (rintro w' ⟨s0, s1, s2, s3, s4, s5⟩; go_simp; with_reducible rfl); rotate_left; (simp only [Act.put, List.setIfInBounds_toArray, List.set_cons_zero, List.set_cons_succ, i64_w, i32_w]; rfl)
    refine pure_ (i := 2) (N := some 7) (v := ?_) (a' := ?_) (bv 20 591) rfl rfl (any_of HT_.out (by kernel_rfl)) (fun _ _ _ h => h) (Or.inl ⟨by rfl, ?_⟩) ?_ ?_; rotate_left; (intro w'; go_simp; with_reducible rfl); rotate_left; (simp only [Act.put, List.setIfInBounds_toArray, List.set_cons_zero, List.set_cons_succ, i64_w, i32_w]; rfl)
    refine pure_ (i := 12) (N := some 17) (v := ?_) (a' := ?_) (bv 20 4687) rfl rfl (any_of HT_.out (by kernel_rfl)) (fun _ _ _ h => h) (Or.inl ⟨by rfl, ?_⟩) ?_ ?_; rotate_left; (intro w'; go_simp; with_reducible rfl); rotate_left; (simp only [Act.put, List.setIfInBounds_toArray, List.set_cons_zero, List.set_cons_succ, i64_w, i32_w]; rfl)
    refine take_ (i := 4) (N := some 9) (v := ?_) (a' := ?_) (bv 20 4703) rfl rfl (take_ofW HT_.out HW_.out (by kernel_rfl)) (fun _ _ _ h => h) (Or.inl ⟨by rfl, ?_⟩) hHeld ?_ ?_; rotate_left; (rintro w' ⟨s0, s1, s2, s3, s4, s5⟩; go_simp; with_reducible rfl); rotate_left; (simp only [Act.put, List.setIfInBounds_toArray, List.set_cons_zero, List.set_cons_succ, i64_w, i32_w]; rfl)
    refine pure_ (i := 5) (N := some 10) (v := ?_) (a' := ?_) (bv 20 4735) rfl rfl (any_of HT_.out (by kernel_rfl)) (fun _ _ _ h => h) (Or.inl ⟨by rfl, ?_⟩) ?_ ?_; rotate_left; (intro w'; go_simp; with_reducible rfl); rotate_left; (simp only [Act.put, List.setIfInBounds_toArray, List.set_cons_zero, List.set_cons_succ, i64_w, i32_w]; rfl)
    refine take_ (i := 7) (N := some 12) (v := ?_) (a' := ?_) (bv 20 4863) rfl rfl (take_ofW HT_.out HW_.out (by kernel_rfl)) (fun _ _ _ h => h) (Or.inl ⟨by rfl, ?_⟩) hHeld ?_ ?_; rotate_left; (rintro w' ⟨s0, s1, s2, s3, s4, s5⟩; go_simp; with_reducible rfl); rotate_left; (simp only [Act.put, List.setIfInBounds_toArray, List.set_cons_zero, List.set_cons_succ, i64_w, i32_w]; rfl)
    refine pure_ (i := 8) (N := some 13) (v := ?_) (a' := ?_) (bv 20 5119) rfl rfl (any_of HT_.out (by kernel_rfl)) (fun _ _ _ h => h) (Or.inl ⟨by rfl, ?_⟩) ?_ ?_; rotate_left; (intro w'; go_simp; with_reducible rfl); rotate_left; (simp only [Act.put, List.setIfInBounds_toArray, List.set_cons_zero, List.set_cons_succ, i64_w, i32_w]; rfl)
    refine take_ (i := 10) (N := some 15) (v := ?_) (a' := ?_) (bv 20 6143) rfl rfl (take_ofW HT_.out HW_.out (by kernel_rfl)) (fun _ _ _ h => h) (Or.inl ⟨by rfl, ?_⟩) hHeld ?_ ?_; rotate_left; (rintro w' ⟨s0, s1, s2, s3, s4, s5⟩; go_simp; with_reducible rfl); rotate_left; (simp only [Act.put, List.setIfInBounds_toArray, List.set_cons_zero, List.set_cons_succ, i64_w, i32_w]; rfl)
    refine pure_ (i := 11) (N := some 16) (v := ?_) (a' := ?_) (bv 20 8191) rfl rfl (any_of HT_.out (by kernel_rfl)) (fun _ _ _ h => h) (Or.inl ⟨by rfl, ?_⟩) ?_ ?_; rotate_left; (intro w'; go_simp; with_reducible rfl); rotate_left; (simp only [Act.put, List.setIfInBounds_toArray, List.set_cons_zero, List.set_cons_succ, i64_w, i32_w]; rfl)
    refine one_ (i := 13) (N := none) (bv 20 16383) rfl rfl (one_of HT_.out (by kernel_rfl)) (by decide) (fun K hK => ?_)
    have hs25 : w24.cell? ⟨gb433, 0, none⟩ = some (.int .i64 a0_0) := (zC BK433.out 0).trans rfl
    have hfs25 := zF BK433.out 0
    have hns25_0 := NB432_433.out
    have hms25_0 := NB433_432.out
    refine skip_ (w1 := ?_) (by rfl) rfl ?_ ?_
    rotate_left
    ·go_simp
     rfl
    refine hK.out _ _ ⟨((cell_far (p := ⟨gb433, _, none⟩) NB432_433.out _).trans (hHeld.1)), ((cell_far (p := ⟨gb433, _, none⟩) NB432_433.out _).trans (hHeld.2.1)), ((cell_far (p := ⟨gb433, _, none⟩) NB432_433.out _).trans (hHeld.2.2.1)), ((cell_far (p := ⟨gb433, _, none⟩) NB432_433.out _).trans (hHeld.2.2.2.1)), ((cell_far (p := ⟨gb433, _, none⟩) NB432_433.out _).trans (hHeld.2.2.2.2.1)), ((cell_far (p := ⟨gb433, _, none⟩) NB432_433.out _).trans (hHeld.2.2.2.2.2))⟩ (fun hHeld => ?_)
    clear hK K
    refine pure_ (i := 14) (N := some 18) (v := ?_) (a' := ?_) (bv 20 32767) rfl rfl (any_of HT_.out (by kernel_rfl)) (fun _ _ _ h => h) (Or.inl ⟨by rfl, ?_⟩) ?_ ?_; rotate_left; (intro w'; go_simp; with_reducible rfl); rotate_left; (simp only [Act.put, List.setIfInBounds_toArray, List.set_cons_zero, List.set_cons_succ, i64_w, i32_w]; rfl)
    refine one_ (i := 15) (N := none) (bv 20 65535) rfl rfl (one_of HT_.out (by kernel_rfl)) (by decide) (fun K hK => ?_)
    have hs26 : w24.cell? ⟨gb433, 2, none⟩ = some (.int .i64 a0_2) := (zC BK433.out 2).trans rfl
    have hfs26 := zF BK433.out 2
    have hns26_0 := NB432_433.out
    have hms26_0 := NB433_432.out
    refine skip_ (w1 := ?_) (by rfl) rfl ?_ ?_
    rotate_left
    ·go_simp
     rfl
    refine hK.out _ _ ⟨((cell_far (p := ⟨gb433, _, none⟩) NB432_433.out _).trans (hHeld.1)), ((cell_far (p := ⟨gb433, _, none⟩) NB432_433.out _).trans (hHeld.2.1)), ((cell_far (p := ⟨gb433, _, none⟩) NB432_433.out _).trans (hHeld.2.2.1)), ((cell_far (p := ⟨gb433, _, none⟩) NB432_433.out _).trans (hHeld.2.2.2.1)), ((cell_far (p := ⟨gb433, _, none⟩) NB432_433.out _).trans (hHeld.2.2.2.2.1)), ((cell_far (p := ⟨gb433, _, none⟩) NB432_433.out _).trans (hHeld.2.2.2.2.2))⟩ (fun hHeld => ?_)
    clear hK K
    refine pure_ (i := 16) (N := some 19) (v := ?_) (a' := ?_) (bv 20 131071) rfl rfl (any_of HT_.out (by kernel_rfl)) (fun _ _ _ h => h) (Or.inl ⟨by rfl, ?_⟩) ?_ ?_; rotate_left; (intro w'; go_simp; with_reducible rfl); rotate_left; (simp only [Act.put, List.setIfInBounds_toArray, List.set_cons_zero, List.set_cons_succ, i64_w, i32_w]; rfl)
    refine one_ (i := 17) (N := none) (bv 20 262143) rfl rfl (one_of HT_.out (by kernel_rfl)) (by decide) (fun K hK => ?_)
    have hs27 : w24.cell? ⟨gb433, 3, none⟩ = some (.int .i64 a0_3) := (zC BK433.out 3).trans rfl
    have hfs27 := zF BK433.out 3
    have hns27_0 := NB432_433.out
    have hms27_0 := NB433_432.out
    refine skip_ (w1 := ?_) (by rfl) rfl ?_ ?_
    rotate_left
    ·go_simp
     rfl
    refine hK.out _ _ ⟨((cell_far (p := ⟨gb433, _, none⟩) NB432_433.out _).trans (hHeld.1)), ((cell_far (p := ⟨gb433, _, none⟩) NB432_433.out _).trans (hHeld.2.1)), ((cell_far (p := ⟨gb433, _, none⟩) NB432_433.out _).trans (hHeld.2.2.1)), ((cell_far (p := ⟨gb433, _, none⟩) NB432_433.out _).trans (hHeld.2.2.2.1)), ((cell_far (p := ⟨gb433, _, none⟩) NB432_433.out _).trans (hHeld.2.2.2.2.1)), ((cell_far (p := ⟨gb433, _, none⟩) NB432_433.out _).trans (hHeld.2.2.2.2.2))⟩ (fun hHeld => ?_)
    clear hK K
    refine pure_ (i := 18) (N := some 20) (v := ?_) (a' := ?_) (bv 20 524287) rfl rfl (any_of HT_.out (by kernel_rfl)) (fun _ _ _ h => h) (Or.inl ⟨by rfl, ?_⟩) ?_ ?_; rotate_left; (intro w'; go_simp; with_reducible rfl); rotate_left; (simp only [Act.put, List.setIfInBounds_toArray, List.set_cons_zero, List.set_cons_succ, i64_w, i32_w]; rfl)
    refine one_ (i := 19) (N := none) (bv 20 1048575) rfl rfl (one_of HT_.out (by kernel_rfl)) (by decide) (fun K hK => ?_)
    have hs28 : w24.cell? ⟨gb433, 1, none⟩ = some (.int .i64 a0_1) := (zC BK433.out 1).trans rfl
    have hfs28 := zF BK433.out 1
    have hns28_0 := NB432_433.out
    have hms28_0 := NB433_432.out
    refine skip_ (w1 := ?_) (by rfl) rfl ?_ ?_
    rotate_left
    ·go_simp
     rfl
    refine hK.out _ _ ⟨((cell_far (p := ⟨gb433, _, none⟩) NB432_433.out _).trans (hHeld.1)), ((cell_far (p := ⟨gb433, _, none⟩) NB432_433.out _).trans (hHeld.2.1)), ((cell_far (p := ⟨gb433, _, none⟩) NB432_433.out _).trans (hHeld.2.2.1)), ((cell_far (p := ⟨gb433, _, none⟩) NB432_433.out _).trans (hHeld.2.2.2.1)), ((cell_far (p := ⟨gb433, _, none⟩) NB432_433.out _).trans (hHeld.2.2.2.2.1)), ((cell_far (p := ⟨gb433, _, none⟩) NB432_433.out _).trans (hHeld.2.2.2.2.2))⟩ (fun hHeld => ?_)
    clear hK K
    refine done_ (done_of HT_.out (by kernel_rfl)) ?_
    obtain ⟨hcz29_0, hcz29_1, hcz29_2, hcz29_3, hcz29_4, hcz29_5⟩ := bc6 BK433.out
    obtain ⟨hfz29_0, hfz29_1, hfz29_2, hfz29_3, hfz29_4, hfz29_5⟩ := bf6 BK433.out
    obtain ⟨hcz30_0, hcz30_1, hcz30_2, hcz30_3, hcz30_4, hcz30_5⟩ := bc6 BK432.out
    obtain ⟨hfz30_0, hfz30_1, hfz30_2, hfz30_3, hfz30_4, hfz30_5⟩ := bf6 BK432.out
    try go_wp2
    go_ret
    exact ⟨by first | rfl | (simp [errW_none, errW_some] <;> rfl) | (simp [*, errW_none, errW_some] <;> rfl), by repeat (first | (with_reducible first | exact HB.out | apply bA | apply bN | apply bD | refine bS ?_ GE432.out | refine bS ?_ GE433.out) | exact HB.out)⟩
   ·rw [if_neg c17] at H
    have c17b0 : ((a0_5.size : Int) == 16) = false := beq_eq_false_iff_ne.mpr c17
    have c17b1 : ((a0_5.size : Int) != 16) = true := bne_iff_ne.mpr c17
    obtain rfl := Option.some.inj H
    go_enter Tryd.func118, Tryd.ntmps118
    try go_wp2_with (first | ((with_reducible refine gate_dst (N := 1) rfl ?_); (try (refine gate_guard (by rfl) ?_; dsimp only)); refine box_event ?hg (N := 1) ?hd (cs := #[.int .i64 a0_0, .int .i64 a0_1, .int .i64 a0_2, .int .i64 a0_3, .string a0_4, .string a0_5]) (t := 71) ?hr ?_; (case hd => rfl); (case hg => rfl); (case hr => first | (go_simp; done) | (go_simp; rfl)); intro gb432 hg w31 hbox hb; obtain ⟨n0_, nq_⟩ := bpr (by repeat (first | (with_reducible first | exact HB.out | apply bA | apply bN | apply bD) | exact HB.out)) hb; have n1_ := mA (hbox); have n2_ := mA ((by rw [hg]; exact nq_ : w.heap.size ≤ gb432)); have n3_ := mA ((by rw [hg]; exact nq_ : w.heap.size ≤ gb432)); clear HB; have HB := n0_; have BK432 := n1_; have GW432 := n2_; have GE432 := n3_; clear nq_; clear n0_ n1_ n2_ n3_; clear hb hbox hg; obtain ⟨hcz32_0, hcz32_1, hcz32_2, hcz32_3, hcz32_4, hcz32_5⟩ := bc6 BK432.out; obtain ⟨hfz32_0, hfz32_1, hfz32_2, hfz32_3, hfz32_4, hfz32_5⟩ := bf6 BK432.out) | ((with_reducible refine gate_dst (N := 3) rfl ?_); (try (refine gate_guard (by rfl) ?_; dsimp only)); refine box_event ?hg (N := 3) ?hd (cs := #[.int .i64 0, .int .i64 0, .int .i64 0, .int .i64 0, .string ⟨#[]⟩, .string ⟨#[]⟩]) (t := 71) ?hr ?_; (case hd => rfl); (case hg => rfl); (case hr => first | (go_simp; done) | (go_simp; rfl)); intro gb433 hg w33 hbox hb; obtain ⟨n0_, nl432_⟩ := bt3 (g := gb432) (o := .cells #[.int .i64 a0_0, .int .i64 a0_1, .int .i64 a0_2, .int .i64 a0_3, .string a0_4, .string a0_5] 71 (0, 0)) (by (with_reducible repeat (first | apply kN | apply kD | apply kA)); exact BK432.out) hb; obtain ⟨n1_, nq_⟩ := bpr (by repeat (first | (with_reducible first | exact HB.out | apply bA | apply bN | apply bD | refine bS ?_ GE432.out) | exact HB.out)) hb; have n2_ := mA (hbox); have n3_ := mA ((by rw [hg]; exact nq_ : w.heap.size ≤ gb433)); have n4_ := mA ((by rw [hg]; exact nq_ : w.heap.size ≤ gb433)); have n5_ := mA ((by rw [hg]; exact Nat.ne_of_lt nl432_ : gb432 ≠ gb433)); have n6_ := mA ((by rw [hg]; exact Nat.ne_of_gt nl432_ : gb433 ≠ gb432)); clear BK432; clear HB; have BK432 := n0_; have HB := n1_; have BK433 := n2_; have GW433 := n3_; have GE433 := n4_; have NB432_433 := n5_; have NB433_432 := n6_; clear nl432_; clear nq_; clear n0_ n1_ n2_ n3_ n4_ n5_ n6_; clear hb hbox hg; have hnb34 := NB433_432.out; have hnc34 := NB432_433.out; obtain ⟨hcz35_0, hcz35_1, hcz35_2, hcz35_3, hcz35_4, hcz35_5⟩ := bc6 BK433.out; obtain ⟨hfz35_0, hfz35_1, hfz35_2, hfz35_3, hfz35_4, hfz35_5⟩ := bf6 BK433.out))
    have n0_ : Aside0 (((((((w33.setCell ⟨gb433, 0, none⟩ (.int .i64 a0_0)).setCell ⟨gb433, 1, none⟩ (.int .i64 a0_1)).setCell ⟨gb433, 2, none⟩ (.int .i64 a0_2)).setCell ⟨gb433, 3, none⟩ (.int .i64 a0_3)).setCell ⟨gb433, 4, none⟩ (.string a0_4)).setCell ⟨gb433, 5, none⟩ (.string a0_5)).heap[gb432]? = some (.cells #[.int .i64 a0_0, .int .i64 a0_1, .int .i64 a0_2, .int .i64 a0_3, .string a0_4, .string a0_5] 71 (0, 0))) := ⟨by (with_reducible repeat (first | apply kN | apply kD | apply kA | refine blk_far ?_ NB432_433.out _)); exact BK432.out⟩
    have n1_ : Aside0 (((((((w33.setCell ⟨gb433, 0, none⟩ (.int .i64 a0_0)).setCell ⟨gb433, 1, none⟩ (.int .i64 a0_1)).setCell ⟨gb433, 2, none⟩ (.int .i64 a0_2)).setCell ⟨gb433, 3, none⟩ (.int .i64 a0_3)).setCell ⟨gb433, 4, none⟩ (.string a0_4)).setCell ⟨gb433, 5, none⟩ (.string a0_5)).heap[gb433]? = some (.cells #[.int .i64 a0_0, .int .i64 a0_1, .int .i64 a0_2, .int .i64 a0_3, .string a0_4, .string a0_5] 71 (0, 0))) := ⟨by (with_reducible repeat (first | apply kN | apply kD | apply kA)); refine blk_put (cs := #[.int .i64 a0_0, .int .i64 a0_1, .int .i64 a0_2, .int .i64 a0_3, .string a0_4, .string ⟨#[]⟩]) ?_ 5 _ (by first | rfl | (simp [*]; done)); (with_reducible repeat (first | apply kN | apply kD | apply kA)); refine blk_put (cs := #[.int .i64 a0_0, .int .i64 a0_1, .int .i64 a0_2, .int .i64 a0_3, .string ⟨#[]⟩, .string ⟨#[]⟩]) ?_ 4 _ (by first | rfl | (simp [*]; done)); (with_reducible repeat (first | apply kN | apply kD | apply kA)); refine blk_put (cs := #[.int .i64 a0_0, .int .i64 a0_1, .int .i64 a0_2, .int .i64 0, .string ⟨#[]⟩, .string ⟨#[]⟩]) ?_ 3 _ (by first | rfl | (simp [*]; done)); (with_reducible repeat (first | apply kN | apply kD | apply kA)); refine blk_put (cs := #[.int .i64 a0_0, .int .i64 a0_1, .int .i64 0, .int .i64 0, .string ⟨#[]⟩, .string ⟨#[]⟩]) ?_ 2 _ (by first | rfl | (simp [*]; done)); (with_reducible repeat (first | apply kN | apply kD | apply kA)); refine blk_put (cs := #[.int .i64 a0_0, .int .i64 0, .int .i64 0, .int .i64 0, .string ⟨#[]⟩, .string ⟨#[]⟩]) ?_ 1 _ (by first | rfl | (simp [*]; done)); (with_reducible repeat (first | apply kN | apply kD | apply kA)); refine blk_put (cs := #[.int .i64 0, .int .i64 0, .int .i64 0, .int .i64 0, .string ⟨#[]⟩, .string ⟨#[]⟩]) ?_ 0 _ (by first | rfl | (simp [*]; done)); (with_reducible repeat (first | apply kN | apply kD | apply kA)); exact BK433.out⟩
    have n2_ : Aside0 (Below w.heap.size w ((((((w33.setCell ⟨gb433, 0, none⟩ (.int .i64 a0_0)).setCell ⟨gb433, 1, none⟩ (.int .i64 a0_1)).setCell ⟨gb433, 2, none⟩ (.int .i64 a0_2)).setCell ⟨gb433, 3, none⟩ (.int .i64 a0_3)).setCell ⟨gb433, 4, none⟩ (.string a0_4)).setCell ⟨gb433, 5, none⟩ (.string a0_5))) := ⟨by repeat (first | (with_reducible first | exact HB.out | apply bA | apply bN | apply bD | refine bS ?_ GE432.out | refine bS ?_ GE433.out) | exact HB.out)⟩
    (try clear BK432)
    (try clear BK433)
    (try clear HB)
    generalize ((((((w33.setCell ⟨gb433, 0, none⟩ (.int .i64 a0_0)).setCell ⟨gb433, 1, none⟩ (.int .i64 a0_1)).setCell ⟨gb433, 2, none⟩ (.int .i64 a0_2)).setCell ⟨gb433, 3, none⟩ (.int .i64 a0_3)).setCell ⟨gb433, 4, none⟩ (.string a0_4)).setCell ⟨gb433, 5, none⟩ (.string a0_5)) = w36 at n0_ n1_ n2_ ⊢
    have BK432 := n0_
    have BK433 := n1_
    have HB := n2_
    clear n0_ n1_ n2_
    have n0_ := mA (kD BK432.out)
    have n1_ := mA (kD BK433.out)
    have n2_ := mA (bD HB.out)
    clear BK432
    clear BK433
    clear HB
    have BK432 := n0_
    have BK433 := n1_
    have HB := n2_
    clear n0_ n1_ n2_
    refine start_ (n := 20) (S := fun w' => w'.cell? ⟨gb432, 0, none⟩ = some (.int .i64 a0_0) ∧ w'.cell? ⟨gb432, 1, none⟩ = some (.int .i64 a0_1) ∧ w'.cell? ⟨gb432, 2, none⟩ = some (.int .i64 a0_2) ∧ w'.cell? ⟨gb432, 3, none⟩ = some (.int .i64 a0_3) ∧ w'.cell? ⟨gb432, 4, none⟩ = some (.string a0_4) ∧ w'.cell? ⟨gb432, 5, none⟩ = some (.string a0_5)) (ds := []) (bv 20 0) (by kernel_rfl) rfl rfl ⟨(zC BK432.out 0).trans rfl, (zC BK432.out 1).trans rfl, (zC BK432.out 2).trans rfl, (zC BK432.out 3).trans rfl, (zC BK432.out 4).trans rfl, (zC BK432.out 5).trans rfl⟩ (fun hHeld => ?_); refine with_tabW ip6_Check.tab2 ip6_Check.bits2 (fun HT_ HW_ => ?_)
    generalize w36.drew = w37 at BK432 BK433 HB hHeld ⊢
    refine pure_ (i := 0) (N := some 5) (v := ?_) (a' := ?_) (bv 20 1) rfl rfl (any_of HT_.out (by kernel_rfl)) (fun _ _ _ h => h) (Or.inl ⟨by rfl, ?_⟩) ?_ ?_; rotate_left; (intro w'; go_simp; with_reducible rfl); rotate_left; (simp only [Act.put, List.setIfInBounds_toArray, List.set_cons_zero, List.set_cons_succ, i64_w, i32_w]; rfl)
    refine pure_ (i := 3) (N := some 8) (v := ?_) (a' := ?_) (bv 20 9) rfl rfl (any_of HT_.out (by kernel_rfl)) (fun _ _ _ h => h) (Or.inl ⟨by rfl, ?_⟩) ?_ ?_; rotate_left; (intro w'; go_simp; with_reducible rfl); rotate_left; (simp only [Act.put, List.setIfInBounds_toArray, List.set_cons_zero, List.set_cons_succ, i64_w, i32_w]; rfl)
    refine pure_ (i := 6) (N := some 11) (v := ?_) (a' := ?_) (bv 20 73) rfl rfl (any_of HT_.out (by kernel_rfl)) (fun _ _ _ h => h) (Or.inl ⟨by rfl, ?_⟩) ?_ ?_; rotate_left; (intro w'; go_simp; with_reducible rfl); rotate_left; (simp only [Act.put, List.setIfInBounds_toArray, List.set_cons_zero, List.set_cons_succ, i64_w, i32_w]; rfl)
    refine pure_ (i := 9) (N := some 14) (v := ?_) (a' := ?_) (bv 20 585) rfl rfl (any_of HT_.out (by kernel_rfl)) (fun _ _ _ h => h) (Or.inl ⟨by rfl, ?_⟩) ?_ ?_; rotate_left; (intro w'; go_simp; with_reducible rfl); rotate_left; (simp only [Act.put, List.setIfInBounds_toArray, List.set_cons_zero, List.set_cons_succ, i64_w, i32_w]; rfl)
    refine take_ (i := 1) (N := some 6) (v := ?_) (a' := ?_) (bv 20 587) rfl rfl (take_ofW HT_.out HW_.out (by kernel_rfl)) (fun _ _ _ h => h) (Or.inl ⟨by rfl, ?_⟩) hHeld ?_ ?_; rotate_left; (rintro w' ⟨s0, s1, s2, s3, s4, s5⟩; go_simp; with_reducible rfl); rotate_left; (simp only [Act.put, List.setIfInBounds_toArray, List.set_cons_zero, List.set_cons_succ, i64_w, i32_w]; rfl)
    refine pure_ (i := 2) (N := some 7) (v := ?_) (a' := ?_) (bv 20 591) rfl rfl (any_of HT_.out (by kernel_rfl)) (fun _ _ _ h => h) (Or.inl ⟨by rfl, ?_⟩) ?_ ?_; rotate_left; (intro w'; go_simp; with_reducible rfl); rotate_left; (simp only [Act.put, List.setIfInBounds_toArray, List.set_cons_zero, List.set_cons_succ, i64_w, i32_w]; rfl)
    refine pure_ (i := 12) (N := some 17) (v := ?_) (a' := ?_) (bv 20 4687) rfl rfl (any_of HT_.out (by kernel_rfl)) (fun _ _ _ h => h) (Or.inl ⟨by rfl, ?_⟩) ?_ ?_; rotate_left; (intro w'; go_simp; with_reducible rfl); rotate_left; (simp only [Act.put, List.setIfInBounds_toArray, List.set_cons_zero, List.set_cons_succ, i64_w, i32_w]; rfl)
    refine take_ (i := 4) (N := some 9) (v := ?_) (a' := ?_) (bv 20 4703) rfl rfl (take_ofW HT_.out HW_.out (by kernel_rfl)) (fun _ _ _ h => h) (Or.inl ⟨by rfl, ?_⟩) hHeld ?_ ?_; rotate_left; (rintro w' ⟨s0, s1, s2, s3, s4, s5⟩; go_simp; with_reducible rfl); rotate_left; (simp only [Act.put, List.setIfInBounds_toArray, List.set_cons_zero, List.set_cons_succ, i64_w, i32_w]; rfl)
    refine pure_ (i := 5) (N := some 10) (v := ?_) (a' := ?_) (bv 20 4735) rfl rfl (any_of HT_.out (by kernel_rfl)) (fun _ _ _ h => h) (Or.inl ⟨by rfl, ?_⟩) ?_ ?_; rotate_left; (intro w'; go_simp; with_reducible rfl); rotate_left; (simp only [Act.put, List.setIfInBounds_toArray, List.set_cons_zero, List.set_cons_succ, i64_w, i32_w]; rfl)
    refine take_ (i := 7) (N := some 12) (v := ?_) (a' := ?_) (bv 20 4863) rfl rfl (take_ofW HT_.out HW_.out (by kernel_rfl)) (fun _ _ _ h => h) (Or.inl ⟨by rfl, ?_⟩) hHeld ?_ ?_; rotate_left; (rintro w' ⟨s0, s1, s2, s3, s4, s5⟩; go_simp; with_reducible rfl); rotate_left; (simp only [Act.put, List.setIfInBounds_toArray, List.set_cons_zero, List.set_cons_succ, i64_w, i32_w]; rfl)
    refine pure_ (i := 8) (N := some 13) (v := ?_) (a' := ?_) (bv 20 5119) rfl rfl (any_of HT_.out (by kernel_rfl)) (fun _ _ _ h => h) (Or.inl ⟨by rfl, ?_⟩) ?_ ?_; rotate_left; (intro w'; go_simp; with_reducible rfl); rotate_left; (simp only [Act.put, List.setIfInBounds_toArray, List.set_cons_zero, List.set_cons_succ, i64_w, i32_w]; rfl)
    refine take_ (i := 10) (N := some 15) (v := ?_) (a' := ?_) (bv 20 6143) rfl rfl (take_ofW HT_.out HW_.out (by kernel_rfl)) (fun _ _ _ h => h) (Or.inl ⟨by rfl, ?_⟩) hHeld ?_ ?_; rotate_left; (rintro w' ⟨s0, s1, s2, s3, s4, s5⟩; go_simp; with_reducible rfl); rotate_left; (simp only [Act.put, List.setIfInBounds_toArray, List.set_cons_zero, List.set_cons_succ, i64_w, i32_w]; rfl)
    refine pure_ (i := 11) (N := some 16) (v := ?_) (a' := ?_) (bv 20 8191) rfl rfl (any_of HT_.out (by kernel_rfl)) (fun _ _ _ h => h) (Or.inl ⟨by rfl, ?_⟩) ?_ ?_; rotate_left; (intro w'; go_simp; with_reducible rfl); rotate_left; (simp only [Act.put, List.setIfInBounds_toArray, List.set_cons_zero, List.set_cons_succ, i64_w, i32_w]; rfl)
    refine one_ (i := 13) (N := none) (bv 20 16383) rfl rfl (one_of HT_.out (by kernel_rfl)) (by decide) (fun K hK => ?_)
    have hs38 : w37.cell? ⟨gb433, 0, none⟩ = some (.int .i64 a0_0) := (zC BK433.out 0).trans rfl
    have hfs38 := zF BK433.out 0
    have hns38_0 := NB432_433.out
    have hms38_0 := NB433_432.out
    refine skip_ (w1 := ?_) (by rfl) rfl ?_ ?_
    rotate_left
    ·go_simp
     rfl
    refine hK.out _ _ ⟨((cell_far (p := ⟨gb433, _, none⟩) NB432_433.out _).trans (hHeld.1)), ((cell_far (p := ⟨gb433, _, none⟩) NB432_433.out _).trans (hHeld.2.1)), ((cell_far (p := ⟨gb433, _, none⟩) NB432_433.out _).trans (hHeld.2.2.1)), ((cell_far (p := ⟨gb433, _, none⟩) NB432_433.out _).trans (hHeld.2.2.2.1)), ((cell_far (p := ⟨gb433, _, none⟩) NB432_433.out _).trans (hHeld.2.2.2.2.1)), ((cell_far (p := ⟨gb433, _, none⟩) NB432_433.out _).trans (hHeld.2.2.2.2.2))⟩ (fun hHeld => ?_)
    clear hK K
    refine pure_ (i := 14) (N := some 18) (v := ?_) (a' := ?_) (bv 20 32767) rfl rfl (any_of HT_.out (by kernel_rfl)) (fun _ _ _ h => h) (Or.inl ⟨by rfl, ?_⟩) ?_ ?_; rotate_left; (intro w'; go_simp; with_reducible rfl); rotate_left; (simp only [Act.put, List.setIfInBounds_toArray, List.set_cons_zero, List.set_cons_succ, i64_w, i32_w]; rfl)
    refine one_ (i := 15) (N := none) (bv 20 65535) rfl rfl (one_of HT_.out (by kernel_rfl)) (by decide) (fun K hK => ?_)
    have hs39 : w37.cell? ⟨gb433, 2, none⟩ = some (.int .i64 a0_2) := (zC BK433.out 2).trans rfl
    have hfs39 := zF BK433.out 2
    have hns39_0 := NB432_433.out
    have hms39_0 := NB433_432.out
    refine skip_ (w1 := ?_) (by rfl) rfl ?_ ?_
    rotate_left
    ·go_simp
     rfl
    refine hK.out _ _ ⟨((cell_far (p := ⟨gb433, _, none⟩) NB432_433.out _).trans (hHeld.1)), ((cell_far (p := ⟨gb433, _, none⟩) NB432_433.out _).trans (hHeld.2.1)), ((cell_far (p := ⟨gb433, _, none⟩) NB432_433.out _).trans (hHeld.2.2.1)), ((cell_far (p := ⟨gb433, _, none⟩) NB432_433.out _).trans (hHeld.2.2.2.1)), ((cell_far (p := ⟨gb433, _, none⟩) NB432_433.out _).trans (hHeld.2.2.2.2.1)), ((cell_far (p := ⟨gb433, _, none⟩) NB432_433.out _).trans (hHeld.2.2.2.2.2))⟩ (fun hHeld => ?_)
    clear hK K
    refine pure_ (i := 16) (N := some 19) (v := ?_) (a' := ?_) (bv 20 131071) rfl rfl (any_of HT_.out (by kernel_rfl)) (fun _ _ _ h => h) (Or.inl ⟨by rfl, ?_⟩) ?_ ?_; rotate_left; (intro w'; go_simp; with_reducible rfl); rotate_left; (simp only [Act.put, List.setIfInBounds_toArray, List.set_cons_zero, List.set_cons_succ, i64_w, i32_w]; rfl)
    refine one_ (i := 17) (N := none) (bv 20 262143) rfl rfl (one_of HT_.out (by kernel_rfl)) (by decide) (fun K hK => ?_)
    have hs40 : w37.cell? ⟨gb433, 3, none⟩ = some (.int .i64 a0_3) := (zC BK433.out 3).trans rfl
    have hfs40 := zF BK433.out 3
    have hns40_0 := NB432_433.out
    have hms40_0 := NB433_432.out
    refine skip_ (w1 := ?_) (by rfl) rfl ?_ ?_
    rotate_left
    ·go_simp
     rfl
    refine hK.out _ _ ⟨((cell_far (p := ⟨gb433, _, none⟩) NB432_433.out _).trans (hHeld.1)), ((cell_far (p := ⟨gb433, _, none⟩) NB432_433.out _).trans (hHeld.2.1)), ((cell_far (p := ⟨gb433, _, none⟩) NB432_433.out _).trans (hHeld.2.2.1)), ((cell_far (p := ⟨gb433, _, none⟩) NB432_433.out _).trans (hHeld.2.2.2.1)), ((cell_far (p := ⟨gb433, _, none⟩) NB432_433.out _).trans (hHeld.2.2.2.2.1)), ((cell_far (p := ⟨gb433, _, none⟩) NB432_433.out _).trans (hHeld.2.2.2.2.2))⟩ (fun hHeld => ?_)
    clear hK K
    refine pure_ (i := 18) (N := some 20) (v := ?_) (a' := ?_) (bv 20 524287) rfl rfl (any_of HT_.out (by kernel_rfl)) (fun _ _ _ h => h) (Or.inl ⟨by rfl, ?_⟩) ?_ ?_; rotate_left; (intro w'; go_simp; with_reducible rfl); rotate_left; (simp only [Act.put, List.setIfInBounds_toArray, List.set_cons_zero, List.set_cons_succ, i64_w, i32_w]; rfl)
    refine one_ (i := 19) (N := none) (bv 20 1048575) rfl rfl (one_of HT_.out (by kernel_rfl)) (by decide) (fun K hK => ?_)
    have hs41 : w37.cell? ⟨gb433, 1, none⟩ = some (.int .i64 a0_1) := (zC BK433.out 1).trans rfl
    have hfs41 := zF BK433.out 1
    have hns41_0 := NB432_433.out
    have hms41_0 := NB433_432.out
    refine skip_ (w1 := ?_) (by rfl) rfl ?_ ?_
    rotate_left
    ·go_simp
     rfl
    refine hK.out _ _ ⟨((cell_far (p := ⟨gb433, _, none⟩) NB432_433.out _).trans (hHeld.1)), ((cell_far (p := ⟨gb433, _, none⟩) NB432_433.out _).trans (hHeld.2.1)), ((cell_far (p := ⟨gb433, _, none⟩) NB432_433.out _).trans (hHeld.2.2.1)), ((cell_far (p := ⟨gb433, _, none⟩) NB432_433.out _).trans (hHeld.2.2.2.1)), ((cell_far (p := ⟨gb433, _, none⟩) NB432_433.out _).trans (hHeld.2.2.2.2.1)), ((cell_far (p := ⟨gb433, _, none⟩) NB432_433.out _).trans (hHeld.2.2.2.2.2))⟩ (fun hHeld => ?_)
    clear hK K
    refine done_ (done_of HT_.out (by kernel_rfl)) ?_
    obtain ⟨hcz42_0, hcz42_1, hcz42_2, hcz42_3, hcz42_4, hcz42_5⟩ := bc6 BK433.out
    obtain ⟨hfz42_0, hfz42_1, hfz42_2, hfz42_3, hfz42_4, hfz42_5⟩ := bf6 BK433.out
    obtain ⟨hcz43_0, hcz43_1, hcz43_2, hcz43_3, hcz43_4, hcz43_5⟩ := bc6 BK432.out
    obtain ⟨hfz43_0, hfz43_1, hfz43_2, hfz43_3, hfz43_4, hfz43_5⟩ := bf6 BK432.out
    try go_wp2
    go_ret
    exact ⟨by first | rfl | (simp [errW_none, errW_some] <;> rfl) | (simp [*, errW_none, errW_some] <;> rfl), by repeat (first | (with_reducible first | exact HB.out | apply bA | apply bN | apply bD | refine bS ?_ GE432.out | refine bS ?_ GE433.out) | exact HB.out)⟩
  ·rw [if_neg c16] at H
   have c16b0 : ((a0_4.size : Int) == 16) = false := beq_eq_false_iff_ne.mpr c16
   have c16b1 : ((a0_4.size : Int) != 16) = true := bne_iff_ne.mpr c16
   obtain rfl := Option.some.inj H
   go_enter Tryd.func118, Tryd.ntmps118
   try go_wp2_with (first | ((with_reducible refine gate_dst (N := 1) rfl ?_); (try (refine gate_guard (by rfl) ?_; dsimp only)); refine box_event ?hg (N := 1) ?hd (cs := #[.int .i64 a0_0, .int .i64 a0_1, .int .i64 a0_2, .int .i64 a0_3, .string a0_4, .string a0_5]) (t := 71) ?hr ?_; (case hd => rfl); (case hg => rfl); (case hr => first | (go_simp; done) | (go_simp; rfl)); intro gb432 hg w44 hbox hb; obtain ⟨n0_, nq_⟩ := bpr (by repeat (first | (with_reducible first | exact HB.out | apply bA | apply bN | apply bD) | exact HB.out)) hb; have n1_ := mA (hbox); have n2_ := mA ((by rw [hg]; exact nq_ : w.heap.size ≤ gb432)); have n3_ := mA ((by rw [hg]; exact nq_ : w.heap.size ≤ gb432)); clear HB; have HB := n0_; have BK432 := n1_; have GW432 := n2_; have GE432 := n3_; clear nq_; clear n0_ n1_ n2_ n3_; clear hb hbox hg; obtain ⟨hcz45_0, hcz45_1, hcz45_2, hcz45_3, hcz45_4, hcz45_5⟩ := bc6 BK432.out; obtain ⟨hfz45_0, hfz45_1, hfz45_2, hfz45_3, hfz45_4, hfz45_5⟩ := bf6 BK432.out) | ((with_reducible refine gate_dst (N := 3) rfl ?_); (try (refine gate_guard (by rfl) ?_; dsimp only)); refine box_event ?hg (N := 3) ?hd (cs := #[.int .i64 0, .int .i64 0, .int .i64 0, .int .i64 0, .string ⟨#[]⟩, .string ⟨#[]⟩]) (t := 71) ?hr ?_; (case hd => rfl); (case hg => rfl); (case hr => first | (go_simp; done) | (go_simp; rfl)); intro gb433 hg w46 hbox hb; obtain ⟨n0_, nl432_⟩ := bt3 (g := gb432) (o := .cells #[.int .i64 a0_0, .int .i64 a0_1, .int .i64 a0_2, .int .i64 a0_3, .string a0_4, .string a0_5] 71 (0, 0)) (by (with_reducible repeat (first | apply kN | apply kD | apply kA)); exact BK432.out) hb; obtain ⟨n1_, nq_⟩ := bpr (by repeat (first | (with_reducible first | exact HB.out | apply bA | apply bN | apply bD | refine bS ?_ GE432.out) | exact HB.out)) hb; have n2_ := mA (hbox); have n3_ := mA ((by rw [hg]; exact nq_ : w.heap.size ≤ gb433)); have n4_ := mA ((by rw [hg]; exact nq_ : w.heap.size ≤ gb433)); have n5_ := mA ((by rw [hg]; exact Nat.ne_of_lt nl432_ : gb432 ≠ gb433)); have n6_ := mA ((by rw [hg]; exact Nat.ne_of_gt nl432_ : gb433 ≠ gb432)); clear BK432; clear HB; have BK432 := n0_; have HB := n1_; have BK433 := n2_; have GW433 := n3_; have GE433 := n4_; have NB432_433 := n5_; have NB433_432 := n6_; clear nl432_; clear nq_; clear n0_ n1_ n2_ n3_ n4_ n5_ n6_; clear hb hbox hg; have hnb47 := NB433_432.out; have hnc47 := NB432_433.out; obtain ⟨hcz48_0, hcz48_1, hcz48_2, hcz48_3, hcz48_4, hcz48_5⟩ := bc6 BK433.out; obtain ⟨hfz48_0, hfz48_1, hfz48_2, hfz48_3, hfz48_4, hfz48_5⟩ := bf6 BK433.out))
   have n0_ : Aside0 (((((((w46.setCell ⟨gb433, 0, none⟩ (.int .i64 a0_0)).setCell ⟨gb433, 1, none⟩ (.int .i64 a0_1)).setCell ⟨gb433, 2, none⟩ (.int .i64 a0_2)).setCell ⟨gb433, 3, none⟩ (.int .i64 a0_3)).setCell ⟨gb433, 4, none⟩ (.string a0_4)).setCell ⟨gb433, 5, none⟩ (.string a0_5)).heap[gb432]? = some (.cells #[.int .i64 a0_0, .int .i64 a0_1, .int .i64 a0_2, .int .i64 a0_3, .string a0_4, .string a0_5] 71 (0, 0))) := ⟨by (with_reducible repeat (first | apply kN | apply kD | apply kA | refine blk_far ?_ NB432_433.out _)); exact BK432.out⟩
   have n1_ : Aside0 (((((((w46.setCell ⟨gb433, 0, none⟩ (.int .i64 a0_0)).setCell ⟨gb433, 1, none⟩ (.int .i64 a0_1)).setCell ⟨gb433, 2, none⟩ (.int .i64 a0_2)).setCell ⟨gb433, 3, none⟩ (.int .i64 a0_3)).setCell ⟨gb433, 4, none⟩ (.string a0_4)).setCell ⟨gb433, 5, none⟩ (.string a0_5)).heap[gb433]? = some (.cells #[.int .i64 a0_0, .int .i64 a0_1, .int .i64 a0_2, .int .i64 a0_3, .string a0_4, .string a0_5] 71 (0, 0))) := ⟨by (with_reducible repeat (first | apply kN | apply kD | apply kA)); refine blk_put (cs := #[.int .i64 a0_0, .int .i64 a0_1, .int .i64 a0_2, .int .i64 a0_3, .string a0_4, .string ⟨#[]⟩]) ?_ 5 _ (by first | rfl | (simp [*]; done)); (with_reducible repeat (first | apply kN | apply kD | apply kA)); refine blk_put (cs := #[.int .i64 a0_0, .int .i64 a0_1, .int .i64 a0_2, .int .i64 a0_3, .string ⟨#[]⟩, .string ⟨#[]⟩]) ?_ 4 _ (by first | rfl | (simp [*]; done)); (with_reducible repeat (first | apply kN | apply kD | apply kA)); refine blk_put (cs := #[.int .i64 a0_0, .int .i64 a0_1, .int .i64 a0_2, .int .i64 0, .string ⟨#[]⟩, .string ⟨#[]⟩]) ?_ 3 _ (by first | rfl | (simp [*]; done)); (with_reducible repeat (first | apply kN | apply kD | apply kA)); refine blk_put (cs := #[.int .i64 a0_0, .int .i64 a0_1, .int .i64 0, .int .i64 0, .string ⟨#[]⟩, .string ⟨#[]⟩]) ?_ 2 _ (by first | rfl | (simp [*]; done)); (with_reducible repeat (first | apply kN | apply kD | apply kA)); refine blk_put (cs := #[.int .i64 a0_0, .int .i64 0, .int .i64 0, .int .i64 0, .string ⟨#[]⟩, .string ⟨#[]⟩]) ?_ 1 _ (by first | rfl | (simp [*]; done)); (with_reducible repeat (first | apply kN | apply kD | apply kA)); refine blk_put (cs := #[.int .i64 0, .int .i64 0, .int .i64 0, .int .i64 0, .string ⟨#[]⟩, .string ⟨#[]⟩]) ?_ 0 _ (by first | rfl | (simp [*]; done)); (with_reducible repeat (first | apply kN | apply kD | apply kA)); exact BK433.out⟩
   have n2_ : Aside0 (Below w.heap.size w ((((((w46.setCell ⟨gb433, 0, none⟩ (.int .i64 a0_0)).setCell ⟨gb433, 1, none⟩ (.int .i64 a0_1)).setCell ⟨gb433, 2, none⟩ (.int .i64 a0_2)).setCell ⟨gb433, 3, none⟩ (.int .i64 a0_3)).setCell ⟨gb433, 4, none⟩ (.string a0_4)).setCell ⟨gb433, 5, none⟩ (.string a0_5))) := ⟨by repeat (first | (with_reducible first | exact HB.out | apply bA | apply bN | apply bD | refine bS ?_ GE432.out | refine bS ?_ GE433.out) | exact HB.out)⟩
   (try clear BK432)
   (try clear BK433)
   (try clear HB)
   generalize ((((((w46.setCell ⟨gb433, 0, none⟩ (.int .i64 a0_0)).setCell ⟨gb433, 1, none⟩ (.int .i64 a0_1)).setCell ⟨gb433, 2, none⟩ (.int .i64 a0_2)).setCell ⟨gb433, 3, none⟩ (.int .i64 a0_3)).setCell ⟨gb433, 4, none⟩ (.string a0_4)).setCell ⟨gb433, 5, none⟩ (.string a0_5)) = w49 at n0_ n1_ n2_ ⊢
   have BK432 := n0_
   have BK433 := n1_
   have HB := n2_
   clear n0_ n1_ n2_
   have n0_ := mA (kD BK432.out)
   have n1_ := mA (kD BK433.out)
   have n2_ := mA (bD HB.out)
   clear BK432
   clear BK433
   clear HB
   have BK432 := n0_
   have BK433 := n1_
   have HB := n2_
   clear n0_ n1_ n2_
   refine start_ (n := 20) (S := fun w' => w'.cell? ⟨gb432, 0, none⟩ = some (.int .i64 a0_0) ∧ w'.cell? ⟨gb432, 1, none⟩ = some (.int .i64 a0_1) ∧ w'.cell? ⟨gb432, 2, none⟩ = some (.int .i64 a0_2) ∧ w'.cell? ⟨gb432, 3, none⟩ = some (.int .i64 a0_3) ∧ w'.cell? ⟨gb432, 4, none⟩ = some (.string a0_4) ∧ w'.cell? ⟨gb432, 5, none⟩ = some (.string a0_5)) (ds := []) (bv 20 0) (by kernel_rfl) rfl rfl ⟨(zC BK432.out 0).trans rfl, (zC BK432.out 1).trans rfl, (zC BK432.out 2).trans rfl, (zC BK432.out 3).trans rfl, (zC BK432.out 4).trans rfl, (zC BK432.out 5).trans rfl⟩ (fun hHeld => ?_); refine with_tabW ip6_Check.tab2 ip6_Check.bits2 (fun HT_ HW_ => ?_)
   generalize w49.drew = w50 at BK432 BK433 HB hHeld ⊢
   refine pure_ (i := 0) (N := some 5) (v := ?_) (a' := ?_) (bv 20 1) rfl rfl (any_of HT_.out (by kernel_rfl)) (fun _ _ _ h => h) (Or.inl ⟨by rfl, ?_⟩) ?_ ?_; rotate_left; (intro w'; go_simp; with_reducible rfl); rotate_left; (simp only [Act.put, List.setIfInBounds_toArray, List.set_cons_zero, List.set_cons_succ, i64_w, i32_w]; rfl)
   refine pure_ (i := 3) (N := some 8) (v := ?_) (a' := ?_) (bv 20 9) rfl rfl (any_of HT_.out (by kernel_rfl)) (fun _ _ _ h => h) (Or.inl ⟨by rfl, ?_⟩) ?_ ?_; rotate_left; (intro w'; go_simp; with_reducible rfl); rotate_left; (simp only [Act.put, List.setIfInBounds_toArray, List.set_cons_zero, List.set_cons_succ, i64_w, i32_w]; rfl)
   refine pure_ (i := 6) (N := some 11) (v := ?_) (a' := ?_) (bv 20 73) rfl rfl (any_of HT_.out (by kernel_rfl)) (fun _ _ _ h => h) (Or.inl ⟨by rfl, ?_⟩) ?_ ?_; rotate_left; (intro w'; go_simp; with_reducible rfl); rotate_left; (simp only [Act.put, List.setIfInBounds_toArray, List.set_cons_zero, List.set_cons_succ, i64_w, i32_w]; rfl)
   refine pure_ (i := 9) (N := some 14) (v := ?_) (a' := ?_) (bv 20 585) rfl rfl (any_of HT_.out (by kernel_rfl)) (fun _ _ _ h => h) (Or.inl ⟨by rfl, ?_⟩) ?_ ?_; rotate_left; (intro w'; go_simp; with_reducible rfl); rotate_left; (simp only [Act.put, List.setIfInBounds_toArray, List.set_cons_zero, List.set_cons_succ, i64_w, i32_w]; rfl)
   refine take_ (i := 1) (N := some 6) (v := ?_) (a' := ?_) (bv 20 587) rfl rfl (take_ofW HT_.out HW_.out (by kernel_rfl)) (fun _ _ _ h => h) (Or.inl ⟨by rfl, ?_⟩) hHeld ?_ ?_; rotate_left; (rintro w' ⟨s0, s1, s2, s3, s4, s5⟩; go_simp; with_reducible rfl); rotate_left; (simp only [Act.put, List.setIfInBounds_toArray, List.set_cons_zero, List.set_cons_succ, i64_w, i32_w]; rfl)
   refine pure_ (i := 2) (N := some 7) (v := ?_) (a' := ?_) (bv 20 591) rfl rfl (any_of HT_.out (by kernel_rfl)) (fun _ _ _ h => h) (Or.inl ⟨by rfl, ?_⟩) ?_ ?_; rotate_left; (intro w'; go_simp; with_reducible rfl); rotate_left; (simp only [Act.put, List.setIfInBounds_toArray, List.set_cons_zero, List.set_cons_succ, i64_w, i32_w]; rfl)
   refine pure_ (i := 12) (N := some 17) (v := ?_) (a' := ?_) (bv 20 4687) rfl rfl (any_of HT_.out (by kernel_rfl)) (fun _ _ _ h => h) (Or.inl ⟨by rfl, ?_⟩) ?_ ?_; rotate_left; (intro w'; go_simp; with_reducible rfl); rotate_left; (simp only [Act.put, List.setIfInBounds_toArray, List.set_cons_zero, List.set_cons_succ, i64_w, i32_w]; rfl)
   refine take_ (i := 4) (N := some 9) (v := ?_) (a' := ?_) (bv 20 4703) rfl rfl (take_ofW HT_.out HW_.out (by kernel_rfl)) (fun _ _ _ h => h) (Or.inl ⟨by rfl, ?_⟩) hHeld ?_ ?_; rotate_left; (rintro w' ⟨s0, s1, s2, s3, s4, s5⟩; go_simp; with_reducible rfl); rotate_left; (simp only [Act.put, List.setIfInBounds_toArray, List.set_cons_zero, List.set_cons_succ, i64_w, i32_w]; rfl)
   refine pure_ (i := 5) (N := some 10) (v := ?_) (a' := ?_) (bv 20 4735) rfl rfl (any_of HT_.out (by kernel_rfl)) (fun _ _ _ h => h) (Or.inl ⟨by rfl, ?_⟩) ?_ ?_; rotate_left; (intro w'; go_simp; with_reducible rfl); rotate_left; (simp only [Act.put, List.setIfInBounds_toArray, List.set_cons_zero, List.set_cons_succ, i64_w, i32_w]; rfl)
   refine take_ (i := 7) (N := some 12) (v := ?_) (a' := ?_) (bv 20 4863) rfl rfl (take_ofW HT_.out HW_.out (by kernel_rfl)) (fun _ _ _ h => h) (Or.inl ⟨by rfl, ?_⟩) hHeld ?_ ?_; rotate_left; (rintro w' ⟨s0, s1, s2, s3, s4, s5⟩; go_simp; with_reducible rfl); rotate_left; (simp only [Act.put, List.setIfInBounds_toArray, List.set_cons_zero, List.set_cons_succ, i64_w, i32_w]; rfl)
   refine pure_ (i := 8) (N := some 13) (v := ?_) (a' := ?_) (bv 20 5119) rfl rfl (any_of HT_.out (by kernel_rfl)) (fun _ _ _ h => h) (Or.inl ⟨by rfl, ?_⟩) ?_ ?_; rotate_left; (intro w'; go_simp; with_reducible rfl); rotate_left; (simp only [Act.put, List.setIfInBounds_toArray, List.set_cons_zero, List.set_cons_succ, i64_w, i32_w]; rfl)
   refine take_ (i := 10) (N := some 15) (v := ?_) (a' := ?_) (bv 20 6143) rfl rfl (take_ofW HT_.out HW_.out (by kernel_rfl)) (fun _ _ _ h => h) (Or.inl ⟨by rfl, ?_⟩) hHeld ?_ ?_; rotate_left; (rintro w' ⟨s0, s1, s2, s3, s4, s5⟩; go_simp; with_reducible rfl); rotate_left; (simp only [Act.put, List.setIfInBounds_toArray, List.set_cons_zero, List.set_cons_succ, i64_w, i32_w]; rfl)
   refine pure_ (i := 11) (N := some 16) (v := ?_) (a' := ?_) (bv 20 8191) rfl rfl (any_of HT_.out (by kernel_rfl)) (fun _ _ _ h => h) (Or.inl ⟨by rfl, ?_⟩) ?_ ?_; rotate_left; (intro w'; go_simp; with_reducible rfl); rotate_left; (simp only [Act.put, List.setIfInBounds_toArray, List.set_cons_zero, List.set_cons_succ, i64_w, i32_w]; rfl)
   refine one_ (i := 13) (N := none) (bv 20 16383) rfl rfl (one_of HT_.out (by kernel_rfl)) (by decide) (fun K hK => ?_)
   have hs51 : w50.cell? ⟨gb433, 0, none⟩ = some (.int .i64 a0_0) := (zC BK433.out 0).trans rfl
   have hfs51 := zF BK433.out 0
   have hns51_0 := NB432_433.out
   have hms51_0 := NB433_432.out
   refine skip_ (w1 := ?_) (by rfl) rfl ?_ ?_
   rotate_left
   ·go_simp
    rfl
   refine hK.out _ _ ⟨((cell_far (p := ⟨gb433, _, none⟩) NB432_433.out _).trans (hHeld.1)), ((cell_far (p := ⟨gb433, _, none⟩) NB432_433.out _).trans (hHeld.2.1)), ((cell_far (p := ⟨gb433, _, none⟩) NB432_433.out _).trans (hHeld.2.2.1)), ((cell_far (p := ⟨gb433, _, none⟩) NB432_433.out _).trans (hHeld.2.2.2.1)), ((cell_far (p := ⟨gb433, _, none⟩) NB432_433.out _).trans (hHeld.2.2.2.2.1)), ((cell_far (p := ⟨gb433, _, none⟩) NB432_433.out _).trans (hHeld.2.2.2.2.2))⟩ (fun hHeld => ?_)
   clear hK K
   refine pure_ (i := 14) (N := some 18) (v := ?_) (a' := ?_) (bv 20 32767) rfl rfl (any_of HT_.out (by kernel_rfl)) (fun _ _ _ h => h) (Or.inl ⟨by rfl, ?_⟩) ?_ ?_; rotate_left; (intro w'; go_simp; with_reducible rfl); rotate_left; (simp only [Act.put, List.setIfInBounds_toArray, List.set_cons_zero, List.set_cons_succ, i64_w, i32_w]; rfl)
   refine one_ (i := 15) (N := none) (bv 20 65535) rfl rfl (one_of HT_.out (by kernel_rfl)) (by decide) (fun K hK => ?_)
   have hs52 : w50.cell? ⟨gb433, 2, none⟩ = some (.int .i64 a0_2) := (zC BK433.out 2).trans rfl
   have hfs52 := zF BK433.out 2
   have hns52_0 := NB432_433.out
   have hms52_0 := NB433_432.out
   refine skip_ (w1 := ?_) (by rfl) rfl ?_ ?_
   rotate_left
   ·go_simp
    rfl
   refine hK.out _ _ ⟨((cell_far (p := ⟨gb433, _, none⟩) NB432_433.out _).trans (hHeld.1)), ((cell_far (p := ⟨gb433, _, none⟩) NB432_433.out _).trans (hHeld.2.1)), ((cell_far (p := ⟨gb433, _, none⟩) NB432_433.out _).trans (hHeld.2.2.1)), ((cell_far (p := ⟨gb433, _, none⟩) NB432_433.out _).trans (hHeld.2.2.2.1)), ((cell_far (p := ⟨gb433, _, none⟩) NB432_433.out _).trans (hHeld.2.2.2.2.1)), ((cell_far (p := ⟨gb433, _, none⟩) NB432_433.out _).trans (hHeld.2.2.2.2.2))⟩ (fun hHeld => ?_)
   clear hK K
   refine pure_ (i := 16) (N := some 19) (v := ?_) (a' := ?_) (bv 20 131071) rfl rfl (any_of HT_.out (by kernel_rfl)) (fun _ _ _ h => h) (Or.inl ⟨by rfl, ?_⟩) ?_ ?_; rotate_left; (intro w'; go_simp; with_reducible rfl); rotate_left; (simp only [Act.put, List.setIfInBounds_toArray, List.set_cons_zero, List.set_cons_succ, i64_w, i32_w]; rfl)
   refine one_ (i := 17) (N := none) (bv 20 262143) rfl rfl (one_of HT_.out (by kernel_rfl)) (by decide) (fun K hK => ?_)
   have hs53 : w50.cell? ⟨gb433, 3, none⟩ = some (.int .i64 a0_3) := (zC BK433.out 3).trans rfl
   have hfs53 := zF BK433.out 3
   have hns53_0 := NB432_433.out
   have hms53_0 := NB433_432.out
   refine skip_ (w1 := ?_) (by rfl) rfl ?_ ?_
   rotate_left
   ·go_simp
    rfl
   refine hK.out _ _ ⟨((cell_far (p := ⟨gb433, _, none⟩) NB432_433.out _).trans (hHeld.1)), ((cell_far (p := ⟨gb433, _, none⟩) NB432_433.out _).trans (hHeld.2.1)), ((cell_far (p := ⟨gb433, _, none⟩) NB432_433.out _).trans (hHeld.2.2.1)), ((cell_far (p := ⟨gb433, _, none⟩) NB432_433.out _).trans (hHeld.2.2.2.1)), ((cell_far (p := ⟨gb433, _, none⟩) NB432_433.out _).trans (hHeld.2.2.2.2.1)), ((cell_far (p := ⟨gb433, _, none⟩) NB432_433.out _).trans (hHeld.2.2.2.2.2))⟩ (fun hHeld => ?_)
   clear hK K
   refine pure_ (i := 18) (N := some 20) (v := ?_) (a' := ?_) (bv 20 524287) rfl rfl (any_of HT_.out (by kernel_rfl)) (fun _ _ _ h => h) (Or.inl ⟨by rfl, ?_⟩) ?_ ?_; rotate_left; (intro w'; go_simp; with_reducible rfl); rotate_left; (simp only [Act.put, List.setIfInBounds_toArray, List.set_cons_zero, List.set_cons_succ, i64_w, i32_w]; rfl)
   refine one_ (i := 19) (N := none) (bv 20 1048575) rfl rfl (one_of HT_.out (by kernel_rfl)) (by decide) (fun K hK => ?_)
   have hs54 : w50.cell? ⟨gb433, 1, none⟩ = some (.int .i64 a0_1) := (zC BK433.out 1).trans rfl
   have hfs54 := zF BK433.out 1
   have hns54_0 := NB432_433.out
   have hms54_0 := NB433_432.out
   refine skip_ (w1 := ?_) (by rfl) rfl ?_ ?_
   rotate_left
   ·go_simp
    rfl
   refine hK.out _ _ ⟨((cell_far (p := ⟨gb433, _, none⟩) NB432_433.out _).trans (hHeld.1)), ((cell_far (p := ⟨gb433, _, none⟩) NB432_433.out _).trans (hHeld.2.1)), ((cell_far (p := ⟨gb433, _, none⟩) NB432_433.out _).trans (hHeld.2.2.1)), ((cell_far (p := ⟨gb433, _, none⟩) NB432_433.out _).trans (hHeld.2.2.2.1)), ((cell_far (p := ⟨gb433, _, none⟩) NB432_433.out _).trans (hHeld.2.2.2.2.1)), ((cell_far (p := ⟨gb433, _, none⟩) NB432_433.out _).trans (hHeld.2.2.2.2.2))⟩ (fun hHeld => ?_)
   clear hK K
   refine done_ (done_of HT_.out (by kernel_rfl)) ?_
   obtain ⟨hcz55_0, hcz55_1, hcz55_2, hcz55_3, hcz55_4, hcz55_5⟩ := bc6 BK433.out
   obtain ⟨hfz55_0, hfz55_1, hfz55_2, hfz55_3, hfz55_4, hfz55_5⟩ := bf6 BK433.out
   obtain ⟨hcz56_0, hcz56_1, hcz56_2, hcz56_3, hcz56_4, hcz56_5⟩ := bc6 BK432.out
   obtain ⟨hfz56_0, hfz56_1, hfz56_2, hfz56_3, hfz56_4, hfz56_5⟩ := bf6 BK432.out
   try go_wp2
   go_ret
   exact ⟨by first | rfl | (simp [errW_none, errW_some] <;> rfl) | (simp [*, errW_none, errW_some] <;> rfl), by repeat (first | (with_reducible first | exact HB.out | apply bA | apply bN | apply bD | refine bS ?_ GE432.out | refine bS ?_ GE433.out) | exact HB.out)⟩

end Go.Proofs.YtcmalglippmocaaDoor.G
end

section
namespace Go.Proofs.YtcmalglippmocaaDoor.G
open Go.RowKit Go.Proofs.YtcmalglippmocaaDoorW.PrintWords Go.Proofs.YtcmalglippmocaaDoorW.PrintLast Go.Proofs.YtcmalglippmocaaDoorW.PrintMore Go.Proofs.YtcmalglippmocaaDoor.Pal

def ip6Word (c l : Int) : Int := Go.bits .or .i64 (Go.bits .or .i64 1610612736 (wrap64 (c * 1048576))) l % 4294967296
theorem ip6Word_range (c l : Int) : 0 ≤ ip6Word c l ∧ ip6Word c l < 4294967296 := by unfold ip6Word; omega
def ip6Bytes (c l n h : Int) (s d p : ByteArray) : List UInt8 := nb 4 (u64n (ip6Word c l)) ++ nb 2 (u64n (p.size : Int)) ++ nb 1 (u64n n) ++ nb 1 (u64n h) ++ bl (s ++ d ++ p)
def ip6_Put.f (a0_0 a0_1 a0_2 a0_3 : Int) (a0_4 a0_5 a1 : ByteArray) : Option (ByteArray × Int) :=
  (ip6_Check.f a0_0 a0_1 a0_2 a0_3 a0_4 a0_5).bind fun e => if e ≠ 0 then some (empty, e) else if a0_4.size = 16 ∧ a0_5.size = 16 then (if (a1.size : Int) > 65535 then some (empty, 4) else some (⟨(ip6Bytes a0_0 a0_1 a0_2 a0_3 a0_4 a0_5 a1).toArray⟩, 0)) else none

set_option maxHeartbeats 1000000 in
set_option maxRecDepth 100000 in
theorem ip6_Put.calls (a0_0 a0_1 a0_2 a0_3 : Int) (a0_4 a0_5 a1 : ByteArray) (r1 : ByteArray) (r2 : Int) (w : World) (h : ip6_Put.f a0_0 a0_1 a0_2 a0_3 a0_4 a0_5 a1 = some (r1, r2)) :
    Calls Tryd.prog 88 #[.agg #[.int .i64 a0_0, .int .i64 a0_1, .int .i64 a0_2, .int .i64 a0_3, .string a0_4, .string a0_5], .string a1] w fun e w' => e = .returned (.tuple #[.string r1, .int .i64 r2]) ∧ Below w.heap.size w w' := by
  unfold ip6_Put.f at h
  have hu := Tryd.underlying71
  have HB := Aside0.mk ((Below.refl w.heap.size w).alloc (Nat.le_refl _) (.cells #[.int .i64 a0_0, .int .i64 a0_1, .int .i64 a0_2, .int .i64 a0_3, .string a0_4, .string a0_5] 71))
  have HK := Aside0.mk (Blk.new w 71 #[.int .i64 a0_0, .int .i64 a0_1, .int .i64 a0_2, .int .i64 a0_3, .string a0_4, .string a0_5])
  obtain ⟨e, he, h⟩ := Option.bind_eq_some_iff.mp h
  have HE := Aside0.mk he
  clear he
  by_cases h0 : e ≠ 0
  · rw [if_pos h0] at h
    obtain ⟨rfl, rfl⟩ := Prod.mk.inj (Option.some.inj h)
    have d1 : (e != 0) = true := bne_iff_ne.mpr h0
    clear h0 h
    go_enter Tryd.func88, Tryd.ntmps88
    go_wp2_with fail
    refine (ip6_Check.calls _ _ _ _ _ _ _ _ HE.out).mono ?_
    rintro e w2 ⟨rfl, g1⟩
    replace HB := Aside0.mk (HB.out.trans (g1.mono HB.out.size))
    clear g1
    go_wp2
    go_ret2
    exact ⟨rfl, HB.out⟩
  rw [if_neg h0] at h
  have h0 : e = 0 := by omega
  subst h0
  by_cases hsz : a0_4.size = 16 ∧ a0_5.size = 16
  case neg => rw [if_neg hsz] at h; exact absurd h (by simp)
  rw [if_pos hsz] at h
  have HZ := Aside0.mk hsz
  clear hsz
  by_cases hp : (a1.size : Int) > 65535
  · rw [if_pos hp] at h
    obtain ⟨rfl, rfl⟩ := Prod.mk.inj (Option.some.inj h)
    have d1 : decide ((65535 : Int) < (a1.size : Int)) = true := decide_eq_true hp
    have d2 : decide (65535 < a1.size) = true := decide_eq_true (by omega)
    clear h hp h0
    go_enter Tryd.func88, Tryd.ntmps88
    go_wp2_with fail
    refine (ip6_Check.calls _ _ _ _ _ _ _ _ HE.out).mono ?_
    rintro e w2 ⟨rfl, g1⟩
    replace HB := Aside0.mk (HB.out.trans (g1.mono HB.out.size))
    clear g1
    go_wp2
    go_ret2
    exact ⟨rfl, HB.out⟩
  · rw [if_neg hp] at h
    obtain ⟨rfl, rfl⟩ := Prod.mk.inj (Option.some.inj h)
    have d1 : decide ((65535 : Int) < (a1.size : Int)) = false := decide_eq_false hp
    have d2 : decide (65535 < a1.size) = false := decide_eq_false (by omega)
    have HP := Aside0.mk hp
    clear h hp h0
    go_enter Tryd.func88, Tryd.ntmps88
    go_wp2_with fail
    refine (ip6_Check.calls _ _ _ _ _ _ _ _ HE.out).mono ?_
    rintro e w2 ⟨rfl, g1⟩
    replace HB := Aside0.mk (HB.out.trans (g1.mono HB.out.size))
    replace HK := Aside0.mk (HK.out.below g1 (by simp))
    clear g1
    have HS := Aside0.mk (WS.startAt HK.out HB.out HB.out.size)
    have hc := HS.out.1.2.1.cells
    go_wp2_with fail
    rw [show Go.bits .or .i64 (Go.bits .or .i64 1610612736 (wrap64 (a0_0 * 1048576))) a0_1 % 4294967296 = ip6Word a0_0 a0_1 from rfl]
    refine (Writer_U32.calls _ _ _ _ HS.out.1.1 (ip6Word_range _ _).1 (ip6Word_range _ _).2 (by simp)).mono ?_
    rintro e w3 ⟨rfl, g1, g2⟩
    replace HS := Aside0.mk (HS.out.next g1 g2)
    clear g1 g2 hc
    have hc := HS.out.1.2.1.cells
    go_wp2_with fail
    refine (Writer_U16.calls _ _ _ _ HS.out.1.1 (by simp [nb_length])).mono ?_
    rintro e w4 ⟨rfl, g1, g2⟩
    replace HS := Aside0.mk (HS.out.next g1 g2)
    clear g1 g2 hc
    have hc := HS.out.1.2.1.cells
    go_wp2_with fail
    refine (Writer_U8.calls _ _ _ _ HS.out.1.1 (by simp [nb_length])).mono ?_
    rintro e w5 ⟨rfl, g1, g2⟩
    replace HS := Aside0.mk (HS.out.next g1 g2)
    clear g1 g2 hc
    have hc := HS.out.1.2.1.cells
    go_wp2_with fail
    refine (Writer_U8.calls _ _ _ _ HS.out.1.1 (by simp [nb_length])).mono ?_
    rintro e w6 ⟨rfl, g1, g2⟩
    replace HS := Aside0.mk (HS.out.next g1 g2)
    clear g1 g2 hc
    have hc := HS.out.1.2.1.cells
    have d3 : (9223372036854775807 < a0_4.size + a0_5.size) = False := eq_false (by have := HZ.out; omega)
    have d4 : (9223372036854775807 < a0_4.size + a0_5.size + a1.size) = False := eq_false (by have := HZ.out; have := HP.out; omega)
    go_wp2_with fail
    refine (Writer_Text.calls _ _ _ _ HS.out.1.1 (by have := HZ.out; have := HP.out; simp only [List.length_append, List.length_nil, nb_length, ByteArray.size_append]; omega)).mono ?_
    rintro e w7 ⟨rfl, g1, g2⟩
    replace HS := Aside0.mk (HS.out.next g1 g2)
    clear g1 g2 hc
    go_wp2_with fail
    refine (Writer_String.calls _ _ _ HS.out.1.1).mono ?_
    rintro e w8 ⟨rfl, g1, g2⟩
    replace HS := Aside0.mk (HS.out.next g1 g2)
    clear g1 g2
    go_wp2
    go_ret2
    exact ⟨by simp [ip6Bytes, u64n], HS.out.1.2.2⟩

theorem Reader_Take.went (R : Nat) (s : ByteArray) (n m : Nat) (w : World) (h : Rd w R s n) (hm : n + m ≤ s.size) :
    Calls Tryd.prog 106 #[.pointer (some ⟨R, 0, none⟩), .int .i64 (m : Int)] w fun e w' => e = .returned (.string (s.extract n (n + m))) ∧ Went w w' R s (n + m) := by
  refine (Reader_Take.yes R s n m w h hm).mono ?_
  rintro e w' ⟨rfl, k, j, rfl⟩
  exact ⟨rfl, grown_drewN (World.grownBy.trans (grown_drewN (grown_refl w _) k) (grown_setCell _ _ _ _)) j, (((h.1.drewN k).set 1 (.int .i64 ((n + m : Nat) : Int))).drewN j), hm, h.2.2⟩
def VG (k : Nat) (s : ByteArray) (w w1 : World) (n : Nat) (cs : Array Value) (x : ByteArray) : Prop :=
  Rd w1 (k + 5) s n ∧ Hp w1 [(k, 9, #[.string s]), (k + 1, 71, #[.int .i64 0, .int .i64 0, .int .i64 0, .int .i64 0, .string ⟨#[]⟩, .string ⟨#[]⟩]), (k + 2, 71, cs), (k + 3, 9, #[.string x]), (k + 4, 24, #[.int .i64 0])] ∧ Below k w w1
theorem VG.went {k : Nat} {s : ByteArray} {w w1 w2 : World} {n m : Nat} {cs : Array Value} {x : ByteArray} (h : VG k s w w1 n cs x) (hw : Went w1 w2 (k + 5) s m) : VG k s w w2 m cs x :=
  ⟨hw.2, h.2.1.grown hw.1 (by simp), h.2.2.trans (below_of_grown hw.1 (by have := h.1.1.lt; omega) (by omega))⟩
theorem VG.put {k : Nat} {s : ByteArray} {w w1 : World} {n : Nat} {cs : Array Value} {x : ByteArray} (h : VG k s w w1 n cs x) (j : Nat) (v : Value) : VG k s w (w1.setCell ⟨k + 2, j, none⟩ v) n (cs.setIfInBounds j v) x :=
  ⟨⟨h.1.1.other _ (by simp) _, h.1.2⟩, h.2.1.set (l1 := [_, _]) (l2 := [_, _]) j v (by simp) (by simp), h.2.2.setCell (by simp) _⟩
theorem VG.putSum {k : Nat} {s : ByteArray} {w w1 : World} {n : Nat} {cs : Array Value} {x : ByteArray} (h : VG k s w w1 n cs x) (y : ByteArray) : VG k s w (w1.setCell ⟨k + 3, 0, none⟩ (.string y)) n cs y :=
  ⟨⟨h.1.1.other _ (by simp) _, h.1.2⟩, h.2.1.set (l1 := [_, _, _]) (l2 := [_]) 0 (.string y) (by simp) (by simp), h.2.2.setCell (by simp) _⟩
theorem VG.drew {k : Nat} {s : ByteArray} {w w1 : World} {n : Nat} {cs : Array Value} {x : ByteArray} (h : VG k s w w1 n cs x) : VG k s w w1.drew n cs x := ⟨h.1, h.2.1, h.2.2.drew⟩
theorem VG.drewN {k : Nat} {s : ByteArray} {w w1 : World} {n : Nat} {cs : Array Value} {x : ByteArray} (h : VG k s w w1 n cs x) (j : Nat) : VG k s w (w1.drewN j) n cs x := ⟨h.1, h.2.1, pw_below_drewN h.2.2 j⟩
theorem VG.facts {k : Nat} {s : ByteArray} {w w1 : World} {n : Nat} {cs : Array Value} {x : ByteArray} (h : VG k s w w1 n cs x) :
    w1.cell? ⟨k, 0, none⟩ = some (.string s) ∧ (∀ j, w1.frozen? ⟨k + 2, j, none⟩ = false) ∧ (∀ j, w1.cell? ⟨k + 2, j, none⟩ = cs[j]?) ∧ w1.cell? ⟨k + 3, 0, none⟩ = some (.string x) ∧ w1.frozen? ⟨k + 3, 0, none⟩ = false :=
  ⟨h.2.1.head.cell 0 _ rfl, h.2.1.tail.tail.head.frees, h.2.1.tail.tail.head.cells, h.2.1.tail.tail.tail.head.cell 0 _ rfl, h.2.1.tail.tail.tail.head.free 0⟩
def zero6 : Array Value := #[.int .i64 0, .int .i64 0, .int .i64 0, .int .i64 0, .string ⟨#[]⟩, .string ⟨#[]⟩]
def ip6Err (s : ByteArray) : Int := if s.size < 40 then 2 else if be (bl (s.extract 0 4)) / 268435456 = 6 then (if (be (bl (s.extract 4 6)) : Int) = (s.size : Int) - 40 then 0 else 4) else 3

set_option maxHeartbeats 1000000 in
set_option maxRecDepth 100000 in
theorem ip6_Get1.short (k : Nat) (s : ByteArray) (w w1 : World) (h : VG k s w w1 0 zero6 ⟨#[]⟩) (h8 : s.size < 40) :
    Calls Tryd.prog 142 #[.pointer (some ⟨k + 5, 0, none⟩), .pointer (some ⟨k, 0, none⟩), .pointer (some ⟨k + 2, 0, none⟩), .pointer (some ⟨k + 3, 0, none⟩)] w1 fun e w2 => e = stopped 2 ∧ ∃ n cs x, VG k s w w2 n cs x := by
  have HG := Aside0.mk h
  have d1 : decide ((40 : Int) ≤ (s.size : Int) - ((0 : Nat) : Int)) = false := decide_eq_false (by omega)
  have d2 : decide ((40 : Int) ≤ (s.size : Int)) = false := decide_eq_false (by omega)
  clear h
  go_enter Tryd.func142, Tryd.ntmps142
  go_wp2_with fail
  refine (Reader_Left.calls _ _ _ _ HG.out.1).mono ?_
  rintro e w2 ⟨rfl, j, rfl⟩
  go_wp2_with fail
  refine (Reader_Need.no _ _ _).mono ?_
  rintro e w3 ⟨rfl, rfl⟩
  exact ⟨rfl, rfl, _, _, _, HG.out.drewN j⟩

set_option maxHeartbeats 1000000 in
set_option maxRecDepth 100000 in
theorem ip6_Get1.vers (k : Nat) (s : ByteArray) (w w1 : World) (h : VG k s w w1 0 zero6 ⟨#[]⟩) (h8 : 40 ≤ s.size) (hv : ¬ be (bl (s.extract 0 4)) / 268435456 = 6) :
    Calls Tryd.prog 142 #[.pointer (some ⟨k + 5, 0, none⟩), .pointer (some ⟨k, 0, none⟩), .pointer (some ⟨k + 2, 0, none⟩), .pointer (some ⟨k + 3, 0, none⟩)] w1 fun e w2 => e = stopped 3 ∧ ∃ n cs x, VG k s w w2 n cs x := by
  have HG := Aside0.mk h
  have d1 : decide ((40 : Int) ≤ (s.size : Int) - ((0 : Nat) : Int)) = true := decide_eq_true (by omega)
  have d2 : decide ((40 : Int) ≤ (s.size : Int)) = true := decide_eq_true (by omega)
  have hw : wrap64 ((be (bl (s.extract 0 4)) : Nat) : Int) = ((be (bl (s.extract 0 4)) : Nat) : Int) := by have hb : be (bl (s.extract 0 4)) < 4294967296 := be_small_U32 s 0; unfold wrap64; omega
  have v1 : (((be (bl (s.extract 0 4)) : Nat) : Int) / 268435456 == 6) = false := by rw [beq_eq_false_iff_ne]; omega
  have v2 : ((be (bl (s.extract 0 4))) / 268435456 == 6) = false := by rw [beq_eq_false_iff_ne]; exact hv
  clear h
  go_enter Tryd.func142, Tryd.ntmps142
  go_wp2_with fail
  refine (Reader_Left.calls _ _ _ _ HG.out.1).mono ?_
  rintro e w2 ⟨rfl, j, rfl⟩
  go_wp2_with fail
  refine (Reader_Need.yes _ _ _).mono ?_
  rintro e w3 ⟨rfl, rfl⟩
  go_wp2_with fail
  refine (Reader_U32.yes _ _ _ _ (HG.out.drewN j).1 (by omega)).mono ?_
  rintro e w2 ⟨rfl, g1⟩
  replace HG := Aside0.mk ((HG.out.drewN j).went g1)
  clear g1
  go_wp2_with fail
  refine (Reader_Need.no _ _ _).mono ?_
  rintro e w4 ⟨rfl, rfl⟩
  exact ⟨rfl, rfl, _, _, _, HG.out⟩

set_option maxHeartbeats 1000000 in
set_option maxRecDepth 100000 in
theorem ip6_Get1.len (k : Nat) (s : ByteArray) (w w1 : World) (h : VG k s w w1 0 zero6 ⟨#[]⟩) (h8 : 40 ≤ s.size) (hv : be (bl (s.extract 0 4)) / 268435456 = 6) (hl : ¬ ((be (bl (s.extract 4 6)) : Nat) : Int) = (s.size : Int) - 40) :
    Calls Tryd.prog 142 #[.pointer (some ⟨k + 5, 0, none⟩), .pointer (some ⟨k, 0, none⟩), .pointer (some ⟨k + 2, 0, none⟩), .pointer (some ⟨k + 3, 0, none⟩)] w1 fun e w2 => e = stopped 4 ∧ ∃ n cs x, VG k s w w2 n cs x := by
  have HG := Aside0.mk h
  have d1 : decide ((40 : Int) ≤ (s.size : Int) - ((0 : Nat) : Int)) = true := decide_eq_true (by omega)
  have d2 : decide ((40 : Int) ≤ (s.size : Int)) = true := decide_eq_true (by omega)
  have hw : wrap64 ((be (bl (s.extract 0 4)) : Nat) : Int) = ((be (bl (s.extract 0 4)) : Nat) : Int) := by have hb : be (bl (s.extract 0 4)) < 4294967296 := be_small_U32 s 0; unfold wrap64; omega
  have v1 : (((be (bl (s.extract 0 4)) : Nat) : Int) / 268435456 == 6) = true := by rw [beq_iff_eq]; omega
  have v2 : ((be (bl (s.extract 0 4))) / 268435456 == 6) = true := by rw [beq_iff_eq]; exact hv
  clear h
  go_enter Tryd.func142, Tryd.ntmps142
  go_wp2_with fail
  refine (Reader_Left.calls _ _ _ _ HG.out.1).mono ?_
  rintro e w2 ⟨rfl, j, rfl⟩
  go_wp2_with fail
  refine (Reader_Need.yes _ _ _).mono ?_
  rintro e w3 ⟨rfl, rfl⟩
  go_wp2_with fail
  refine (Reader_U32.yes _ _ _ _ (HG.out.drewN j).1 (by omega)).mono ?_
  rintro e w2 ⟨rfl, g1⟩
  replace HG := Aside0.mk ((HG.out.drewN j).went g1)
  clear g1
  go_wp2_with fail
  refine (Reader_Need.yes _ _ _).mono ?_
  rintro e w4 ⟨rfl, rfl⟩
  go_wp2_with fail
  have c0 := HG.out.facts.1
  have l1 : (((be (bl (s.extract 4 6)) : Nat) : Int) == (s.size : Int) - 40) = false := by rw [beq_eq_false_iff_ne]; exact hl
  have l2 : (((be (bl (s.extract 4 6)) : Nat) : Int) == wrap64 ((s.size : Int) - 40)) = false := by rw [show wrap64 ((s.size : Int) - 40) = (s.size : Int) - 40 by unfold wrap64; have := HG.out.1.2.2; omega]; exact l1
  have l3 : (((be (bl (s.extract 4 6)) : Nat) : Int) == IntKind.i64.wrap ((s.size : Int) - 40)) = false := by rw [show IntKind.i64.wrap ((s.size : Int) - 40) = (s.size : Int) - 40 by rw [IntKind.wrap_i64]; have := HG.out.1.2.2; omega]; exact l1
  clear hl
  go_region_with ((first
      | (go_at_call 66; refine (Reader_U16.yes _ _ 4 _ HG.out.drew.1 ?_).mono ?_; omega; rintro e w5 ⟨rfl, g1⟩; have HG3 := Aside0.mk (HG.out.drew.went g1); have c3 := HG3.out.facts.1; clear g1)
      | (go_at_call 65; refine (Reader_Need.no _ _ _).mono ?_; rintro e w6 ⟨rfl, rfl⟩; refine panicOut ?_)))
  all_goals exact ⟨rfl, rfl, _, _, _, HG3.out⟩

set_option maxHeartbeats 1000000 in
set_option maxRecDepth 100000 in
theorem ip6_Get1.ok (k : Nat) (s : ByteArray) (w w1 : World) (h : VG k s w w1 0 zero6 ⟨#[]⟩) (h8 : 40 ≤ s.size) (hv : be (bl (s.extract 0 4)) / 268435456 = 6) (hl : ((be (bl (s.extract 4 6)) : Nat) : Int) = (s.size : Int) - 40) :
    Calls Tryd.prog 142 #[.pointer (some ⟨k + 5, 0, none⟩), .pointer (some ⟨k, 0, none⟩), .pointer (some ⟨k + 2, 0, none⟩), .pointer (some ⟨k + 3, 0, none⟩)] w1 fun e w2 => e = .returned (.tuple #[]) ∧ ∃ n, VG k s w w2 n #[.int .i64 (Go.bits .and .i64 (((be (bl (s.extract 0 4)) : Nat) : Int) / 1048576) 255), .int .i64 (Go.bits .and .i64 ((be (bl (s.extract 0 4)) : Nat) : Int) 1048575), .int .i64 (be (bl (s.extract 6 7)) : Nat), .int .i64 (be (bl (s.extract 7 8)) : Nat), .string (s.extract 8 24), .string (s.extract 24 40)] (s.extract 40 s.size) := by
  have HG := Aside0.mk h
  have d1 : decide ((40 : Int) ≤ (s.size : Int) - ((0 : Nat) : Int)) = true := decide_eq_true (by omega)
  have d2 : decide ((40 : Int) ≤ (s.size : Int)) = true := decide_eq_true (by omega)
  have hw : wrap64 ((be (bl (s.extract 0 4)) : Nat) : Int) = ((be (bl (s.extract 0 4)) : Nat) : Int) := by have hb : be (bl (s.extract 0 4)) < 4294967296 := be_small_U32 s 0; unfold wrap64; omega
  have v1 : (((be (bl (s.extract 0 4)) : Nat) : Int) / 268435456 == 6) = true := by rw [beq_iff_eq]; omega
  have v2 : ((be (bl (s.extract 0 4))) / 268435456 == 6) = true := by rw [beq_iff_eq]; exact hv
  clear h
  go_enter Tryd.func142, Tryd.ntmps142
  go_wp2_with fail
  refine (Reader_Left.calls _ _ _ _ HG.out.1).mono ?_
  rintro e w2 ⟨rfl, j, rfl⟩
  go_wp2_with fail
  refine (Reader_Need.yes _ _ _).mono ?_
  rintro e w3 ⟨rfl, rfl⟩
  go_wp2_with fail
  refine (Reader_U32.yes _ _ _ _ (HG.out.drewN j).1 (by omega)).mono ?_
  rintro e w2 ⟨rfl, g1⟩
  replace HG := Aside0.mk ((HG.out.drewN j).went g1)
  clear g1
  go_wp2_with fail
  refine (Reader_Need.yes _ _ _).mono ?_
  rintro e w4 ⟨rfl, rfl⟩
  go_wp2_with fail
  have c0 := HG.out.facts.1
  have l1 : (((be (bl (s.extract 4 6)) : Nat) : Int) == (s.size : Int) - 40) = true := by rw [beq_iff_eq]; exact hl
  have l2 : (((be (bl (s.extract 4 6)) : Nat) : Int) == wrap64 ((s.size : Int) - 40)) = true := by rw [show wrap64 ((s.size : Int) - 40) = (s.size : Int) - 40 by unfold wrap64; have := HG.out.1.2.2; omega]; exact l1
  have l3 : (((be (bl (s.extract 4 6)) : Nat) : Int) == IntKind.i64.wrap ((s.size : Int) - 40)) = true := by rw [show IntKind.i64.wrap ((s.size : Int) - 40) = (s.size : Int) - 40 by rw [IntKind.wrap_i64]; have := HG.out.1.2.2; omega]; exact l1
  clear hl
  go_region_with ((first
      | (go_at_call 66; refine (Reader_U16.yes _ _ 4 _ HG.out.drew.1 ?_).mono ?_; omega; rintro e w5 ⟨rfl, g1⟩; have HG3 := Aside0.mk (HG.out.drew.went g1); have c3 := HG3.out.facts.1; clear g1)
      | (go_at_call 65; refine (Reader_Need.yes _ _ _).mono ?_; rintro e w6 ⟨rfl, rfl⟩)))
  all_goals
    clear c0 c3 l1 l2 l3 v1 v2 d1 d2 hw
    replace HG := HG3
    clear HG3
    go_wp2_with fail
    refine (Reader_U8.yes _ _ _ _ HG.out.1 (by omega)).mono ?_
    rintro e w7 ⟨rfl, g1⟩
    replace HG := Aside0.mk (HG.out.went g1)
    clear g1
    go_wp2_with fail
    refine (Reader_U8.yes _ _ _ _ HG.out.1 (by omega)).mono ?_
    rintro e w8 ⟨rfl, g1⟩
    replace HG := Aside0.mk (HG.out.went g1)
    clear g1
    go_wp2_with fail
    refine (Reader_Take.went _ _ _ 16 _ HG.out.1 (by omega)).mono ?_
    rintro e w9 ⟨rfl, g1⟩
    replace HG := Aside0.mk (HG.out.went g1)
    clear g1
    go_wp2_with fail
    refine (Reader_Take.went _ _ _ 16 _ HG.out.1 (by omega)).mono ?_
    rintro e w10 ⟨rfl, g1⟩
    replace HG := Aside0.mk (HG.out.went g1)
    clear g1
    obtain ⟨c0, c1, c2, c3, c4⟩ := HG.out.facts
    simp only [zero6] at c2
    go_wp2_with fail
    replace HG := Aside0.mk ((((((HG.out.put 0 (.int .i64 (Go.bits .and .i64 (((be (bl (s.extract 0 4)) : Nat) : Int) / 1048576) 255))).put 1 (.int .i64 (Go.bits .and .i64 ((be (bl (s.extract 0 4)) : Nat) : Int) 1048575))).put 2 (.int .i64 (be (bl (s.extract 6 7)) : Nat))).put 3 (.int .i64 (be (bl (s.extract 7 8)) : Nat))).put 4 (.string (s.extract 8 24))).put 5 (.string (s.extract 24 40)))
    clear c0 c1 c2 c3 c4
    refine (Reader_Rest.calls _ _ _ _ HG.out.1).mono ?_
    rintro e w11 ⟨rfl, g1⟩
    replace HG := Aside0.mk (HG.out.went g1)
    clear g1
    obtain ⟨c0, c1, c2, c3, c4⟩ := HG.out.facts
    clear c0 c1 c2
    go_wp2
    go_end0
    exact ⟨rfl, _, HG.out.putSum _⟩
def VR (k : Nat) (s : ByteArray) (w w1 : World) : Prop :=
  ∃ cs x, Hp w1 [(k, 9, #[.string s]), (k + 1, 71, #[.int .i64 0, .int .i64 0, .int .i64 0, .int .i64 0, .string ⟨#[]⟩, .string ⟨#[]⟩]), (k + 2, 71, cs), (k + 3, 9, #[.string x])] ∧ Below k w w1 ∧
    (ip6Err s = 0 → cs = #[(.int .i64 (Go.bits .and .i64 (((be (bl (s.extract 0 4)) : Nat) : Int) / 1048576) 255)), (.int .i64 (Go.bits .and .i64 ((be (bl (s.extract 0 4)) : Nat) : Int) 1048575)), (.int .i64 (be (bl (s.extract 6 7)) : Nat)), (.int .i64 (be (bl (s.extract 7 8)) : Nat)), (.string (s.extract 8 24)), (.string (s.extract 24 40))] ∧ x = s.extract 40 s.size)
theorem VG.done {k : Nat} {s : ByteArray} {w w1 w2 : World} {n : Nat} {cs : Array Value} {x : ByteArray} (h : VG k s w w1 n cs x) (hw : w1.grownBy w2 (some (k + 4)))
    (hx : ip6Err s = 0 → cs = #[(.int .i64 (Go.bits .and .i64 (((be (bl (s.extract 0 4)) : Nat) : Int) / 1048576) 255)), (.int .i64 (Go.bits .and .i64 ((be (bl (s.extract 0 4)) : Nat) : Int) 1048575)), (.int .i64 (be (bl (s.extract 6 7)) : Nat)), (.int .i64 (be (bl (s.extract 7 8)) : Nat)), (.string (s.extract 8 24)), (.string (s.extract 24 40))] ∧ x = s.extract 40 s.size) : VR k s w w2 :=
  ⟨cs, x, Hp.grown (R := k + 4) (fun y hy => h.2.1 y (by simp at hy ⊢; rcases hy with rfl | rfl | rfl | rfl <;> simp)) hw (by simp), h.2.2.trans (below_of_grown hw (by have := h.1.1.lt; omega) (by omega)), hx⟩

set_option maxRecDepth 100000 in
theorem ip6_Get.reads (s : ByteArray) (hs : s.size ≤ 140737488351232) (w : World) :
    Calls Tryd.prog 63 #[.string s, .func (.func 142) #[] #[.pointer (some ⟨w.heap.size, 0, none⟩), .pointer (some ⟨w.heap.size + 1 + 1, 0, none⟩), .pointer (some ⟨w.heap.size + 1 + 1 + 1, 0, none⟩)]]
      ((((w.alloc (.cells #[.string s] 9)).alloc (.cells #[.int .i64 0, .int .i64 0, .int .i64 0, .int .i64 0, .string ⟨#[]⟩, .string ⟨#[]⟩] 71)).alloc (.cells #[.int .i64 0, .int .i64 0, .int .i64 0, .int .i64 0, .string ⟨#[]⟩, .string ⟨#[]⟩] 71)).alloc (.cells #[.string ⟨#[]⟩] 9))
      fun e w' => e = .returned (.int .i64 (ip6Err s)) ∧ VR w.heap.size s w w' := by
  obtain ⟨W, hW⟩ : ∃ W, W = ((((w.alloc (.cells #[.string s] 9)).alloc (.cells #[.int .i64 0, .int .i64 0, .int .i64 0, .int .i64 0, .string ⟨#[]⟩, .string ⟨#[]⟩] 71)).alloc (.cells #[.int .i64 0, .int .i64 0, .int .i64 0, .int .i64 0, .string ⟨#[]⟩, .string ⟨#[]⟩] 71)).alloc (.cells #[.string ⟨#[]⟩] 9)) := ⟨_, rfl⟩
  have hk : W.heap.size = w.heap.size + 4 := by rw [hW]; simp
  have b0 : Blk W w.heap.size 9 #[.string s] := by rw [hW]; exact (((Blk.new w _ _).alloc _).alloc _).alloc _
  have b1 : Blk W (w.heap.size + 1) 71 #[.int .i64 0, .int .i64 0, .int .i64 0, .int .i64 0, .string ⟨#[]⟩, .string ⟨#[]⟩] := by
    rw [hW]
    have := Blk.new (w.alloc (.cells #[.string s] 9)) 71 #[.int .i64 0, .int .i64 0, .int .i64 0, .int .i64 0, .string ⟨#[]⟩, .string ⟨#[]⟩]
    rw [World.size_alloc] at this
    exact (this.alloc _).alloc _
  have b2 : Blk W (w.heap.size + 2) 71 #[.int .i64 0, .int .i64 0, .int .i64 0, .int .i64 0, .string ⟨#[]⟩, .string ⟨#[]⟩] := by
    rw [hW]
    have := Blk.new ((w.alloc (.cells #[.string s] 9)).alloc (.cells #[.int .i64 0, .int .i64 0, .int .i64 0, .int .i64 0, .string ⟨#[]⟩, .string ⟨#[]⟩] 71)) 71 #[.int .i64 0, .int .i64 0, .int .i64 0, .int .i64 0, .string ⟨#[]⟩, .string ⟨#[]⟩]
    rw [World.size_alloc, World.size_alloc] at this
    exact this.alloc _
  have b3 : Blk W (w.heap.size + 3) 9 #[.string ⟨#[]⟩] := by
    rw [hW]
    have := Blk.new (((w.alloc (.cells #[.string s] 9)).alloc (.cells #[.int .i64 0, .int .i64 0, .int .i64 0, .int .i64 0, .string ⟨#[]⟩, .string ⟨#[]⟩] 71)).alloc (.cells #[.int .i64 0, .int .i64 0, .int .i64 0, .int .i64 0, .string ⟨#[]⟩, .string ⟨#[]⟩] 71)) 9 #[.string ⟨#[]⟩]
    rw [World.size_alloc, World.size_alloc, World.size_alloc] at this
    exact this
  have hb : Below w.heap.size w W := by
    rw [hW]
    exact ((((Below.refl _ _).alloc (Nat.le_refl _) _).alloc (by simp) _).alloc (by simp; omega) _).alloc (by simp; omega) _
  rw [← hW]
  clear hW
  have hrd := readW_rd W s hs
  have hres := readW_res W s
  have hbl := readW_below W s
  rw [hk] at hrd hres hbl
  have hG : VG w.heap.size s w (readW W s) 0 zero6 ⟨#[]⟩ :=
    ⟨hrd, .cons (b0.below hbl (by omega)) (.cons (b1.below hbl (by omega)) (.cons (b2.below hbl (by omega)) (.cons (b3.below hbl (by omega)) (.cons hres (.nil _))))), hb.trans (hbl.mono (by omega))⟩
  have hrd' : ∀ Q : World → Prop, Calls Tryd.prog 142 (#[.pointer (some ⟨W.heap.size + 1, 0, none⟩)] ++ #[.pointer (some ⟨w.heap.size, 0, none⟩), .pointer (some ⟨w.heap.size + 1 + 1, 0, none⟩), .pointer (some ⟨w.heap.size + 1 + 1 + 1, 0, none⟩)]) (readW W s) (fun e w2 => e = did (ip6Err s) ∧ Blk w2 W.heap.size 24 #[.int .i64 0] ∧ Q w2) →
      Calls Tryd.prog 63 #[.string s, .func (.func 142) #[] #[.pointer (some ⟨w.heap.size, 0, none⟩), .pointer (some ⟨w.heap.size + 1 + 1, 0, none⟩), .pointer (some ⟨w.heap.size + 1 + 1 + 1, 0, none⟩)]] W
        fun e w' => e = .returned (.int .i64 (ip6Err s)) ∧ ∃ w2, Q w2 ∧ w2.grownBy w' (some W.heap.size) :=
    fun Q h => Read_calls 142 _ s (ip6Err s) W Q (fun _ _ => rfl) h
  rw [hk] at hrd'
  clear hrd hres hbl b0 b1 b2 b3 hb
  by_cases h8 : s.size < 40
  · have he : ip6Err s = 2 := if_pos h8
    rw [he] at hrd' ⊢
    refine (hrd' (fun w2 => ∃ n cs x, VG w.heap.size s w w2 n cs x) ?_).mono ?_
    · refine (ip6_Get1.short w.heap.size s w (readW W s) hG h8).mono ?_
      rintro e w2 ⟨rfl, n, cs, x, hu⟩
      exact ⟨rfl, hu.2.1.tail.tail.tail.tail.head, n, cs, x, hu⟩
    · rintro e w' ⟨rfl, w2, ⟨n, cs, x, hu⟩, hg⟩
      exact ⟨rfl, hu.done hg (fun h0 => absurd (he.symm.trans h0) (by decide))⟩
  by_cases hv : be (bl (s.extract 0 4)) / 268435456 = 6
  case neg =>
    have he : ip6Err s = 3 := by unfold ip6Err; rw [if_neg h8, if_neg hv]
    rw [he] at hrd' ⊢
    refine (hrd' (fun w2 => ∃ n cs x, VG w.heap.size s w w2 n cs x) ?_).mono ?_
    · refine (ip6_Get1.vers w.heap.size s w (readW W s) hG (by omega) hv).mono ?_
      rintro e w2 ⟨rfl, n, cs, x, hu⟩
      exact ⟨rfl, hu.2.1.tail.tail.tail.tail.head, n, cs, x, hu⟩
    · rintro e w' ⟨rfl, w2, ⟨n, cs, x, hu⟩, hg⟩
      exact ⟨rfl, hu.done hg (fun h0 => absurd (he.symm.trans h0) (by decide))⟩
  by_cases hl : ((be (bl (s.extract 4 6)) : Nat) : Int) = (s.size : Int) - 40
  case neg =>
    have he : ip6Err s = 4 := by unfold ip6Err; rw [if_neg h8, if_pos hv, if_neg hl]
    rw [he] at hrd' ⊢
    refine (hrd' (fun w2 => ∃ n cs x, VG w.heap.size s w w2 n cs x) ?_).mono ?_
    · refine (ip6_Get1.len w.heap.size s w (readW W s) hG (by omega) hv hl).mono ?_
      rintro e w2 ⟨rfl, n, cs, x, hu⟩
      exact ⟨rfl, hu.2.1.tail.tail.tail.tail.head, n, cs, x, hu⟩
    · rintro e w' ⟨rfl, w2, ⟨n, cs, x, hu⟩, hg⟩
      exact ⟨rfl, hu.done hg (fun h0 => absurd (he.symm.trans h0) (by decide))⟩
  have he : ip6Err s = 0 := by unfold ip6Err; rw [if_neg h8, if_pos hv, if_pos hl]
  rw [he] at hrd' ⊢
  refine (hrd' (fun w2 => ∃ n, VG w.heap.size s w w2 n #[(.int .i64 (Go.bits .and .i64 (((be (bl (s.extract 0 4)) : Nat) : Int) / 1048576) 255)), (.int .i64 (Go.bits .and .i64 ((be (bl (s.extract 0 4)) : Nat) : Int) 1048575)), (.int .i64 (be (bl (s.extract 6 7)) : Nat)), (.int .i64 (be (bl (s.extract 7 8)) : Nat)), (.string (s.extract 8 24)), (.string (s.extract 24 40))] (s.extract 40 s.size)) ?_).mono ?_
  · refine (ip6_Get1.ok w.heap.size s w (readW W s) hG (by omega) hv hl).mono ?_
    rintro e w2 ⟨rfl, n, hu⟩
    exact ⟨rfl, hu.2.1.tail.tail.tail.tail.head, n, hu⟩
  · rintro e w' ⟨rfl, w2, ⟨n, hu⟩, hg⟩
    exact ⟨rfl, hu.done hg (fun _ => ⟨rfl, rfl⟩)⟩

def ip6_Get.f (s : ByteArray) : Option (Int × Int × Int × Int × ByteArray × ByteArray × ByteArray × Int) :=
  if s.size ≤ 140737488351232 then some (if ip6Err s = 0 then (Go.bits .and .i64 (((be (bl (s.extract 0 4)) : Nat) : Int) / 1048576) 255, Go.bits .and .i64 ((be (bl (s.extract 0 4)) : Nat) : Int) 1048575, ((be (bl (s.extract 6 7)) : Nat) : Int), ((be (bl (s.extract 7 8)) : Nat) : Int), s.extract 8 24, s.extract 24 40, s.extract 40 s.size, 0) else (0, 0, 0, 0, empty, empty, empty, ip6Err s)) else none

set_option maxHeartbeats 1000000 in
set_option maxRecDepth 100000 in
theorem ip6_Get.calls (s : ByteArray) (r1 r2 r3 r4 : Int) (r5 r6 r7 : ByteArray) (r8 : Int) (w : World) (h : ip6_Get.f s = some (r1, r2, r3, r4, r5, r6, r7, r8)) :
    Calls Tryd.prog 119 #[.string s] w fun e w' => e = .returned (.tuple #[.agg #[.int .i64 r1, .int .i64 r2, .int .i64 r3, .int .i64 r4, .string r5, .string r6], .string r7, .int .i64 r8]) ∧ Below w.heap.size w w' := by
  unfold ip6_Get.f at h
  by_cases hs : s.size ≤ 140737488351232
  case neg => rw [if_neg hs] at h; exact absurd h (by simp)
  rw [if_pos hs] at h
  have hmf : ∀ (fn : Fn) (first cap : Array Value) (w : World), (Instr.makeFunc fn first cap).run Tryd.prog w = .ok (.func fn first cap) w := fun _ _ _ _ => rfl
  have hu := Tryd.underlying71
  have HS := Aside0.mk hs
  clear hs
  by_cases h0 : ip6Err s = 0
  · rw [if_pos h0] at h
    replace h := Option.some.inj h
    simp only [Prod.mk.injEq] at h
    obtain ⟨rfl, rfl, rfl, rfl, rfl, rfl, rfl, rfl⟩ := h
    have d1 : (ip6Err s != 0) = false := bne_eq_false_iff_eq.mpr h0
    have h := Aside0.mk h0
    clear h0
    go_enter Tryd.func119, Tryd.ntmps119
    go_wp2_with fail
    refine (ip6_Get.reads s HS.out w).mono ?_
    rintro e w2 ⟨rfl, cs, x, hp, hb, hx⟩
    obtain ⟨rfl, rfl⟩ := hx h.out
    have HB := Aside0.mk hb
    have c1 := hp.tail.head.cells
    have c2 := hp.tail.head.frees
    have c3 := hp.tail.tail.head.cells
    have c4 := hp.tail.tail.tail.head.cell 0 _ rfl
    have HK := Aside0.mk hp.tail.head
    clear hp hb hx
    go_wp2_with fail
    go_region
    all_goals
      have c5 := (((((((HK.out.set 0 (.int .i64 (Go.bits .and .i64 (((be (bl (s.extract 0 4)) : Nat) : Int) / 1048576) 255))).set 1 (.int .i64 (Go.bits .and .i64 ((be (bl (s.extract 0 4)) : Nat) : Int) 1048575))).set 2 (.int .i64 (be (bl (s.extract 6 7)) : Nat))).set 3 (.int .i64 (be (bl (s.extract 7 8)) : Nat))).set 4 (.string (s.extract 8 24))).set 5 (.string (s.extract 24 40)))).drew.cells
      simp only [List.setIfInBounds_toArray, List.set_cons_zero, List.set_cons_succ] at c5
      clear c1 c2 c3 c4
      go_wp2
      refine ⟨rfl, _, ?_, rfl, ?_⟩
      rotate_left
      · exact ((((((HB.out.setCell (by simp) _).setCell (by simp) _).setCell (by simp) _).setCell (by simp) _).setCell (by simp) _).setCell (by simp) _).drew
      simp [results, Tryd.results119, go_sem, hu, c5]
  · rw [if_neg h0] at h
    replace h := Option.some.inj h
    simp only [Prod.mk.injEq] at h
    obtain ⟨rfl, rfl, rfl, rfl, rfl, rfl, rfl, rfl⟩ := h
    have d1 : (ip6Err s != 0) = true := bne_iff_ne.mpr h0
    clear h0
    go_enter Tryd.func119, Tryd.ntmps119
    go_wp2_with fail
    refine (ip6_Get.reads s HS.out w).mono ?_
    rintro e w2 ⟨rfl, cs, x, hp, hb, hx⟩
    have HB := Aside0.mk hb
    have c1 := hp.tail.head.cells
    have c2 := hp.tail.head.frees
    have HK := Aside0.mk hp.tail.head
    clear hp hb hx
    go_wp2
    have c5 := (((((((HK.out.set 0 (.int .i64 0)).set 1 (.int .i64 0)).set 2 (.int .i64 0)).set 3 (.int .i64 0)).set 4 (.string ⟨#[]⟩)).set 5 (.string ⟨#[]⟩))).cells
    simp only [List.setIfInBounds_toArray, List.set_cons_zero, List.set_cons_succ] at c5
    clear c1 c2
    refine ⟨rfl, _, ?_, rfl, ?_⟩
    rotate_left
    · exact (((((HB.out.setCell (by simp) _).setCell (by simp) _).setCell (by simp) _).setCell (by simp) _).setCell (by simp) _).setCell (by simp) _
    simp [results, Tryd.results119, go_sem, hu, c5]
    rfl
end Go.Proofs.YtcmalglippmocaaDoor.G
end

section
namespace Go.Proofs.YtcmalglippmocaaDoor.G
open Go.RowKit Go.Proofs.YtcmalglippmocaaDoor.Pal
def TabAt (w : World) (b : Nat) (l : List Int) : Prop := ∀ j x, l[j]? = some x → w.cell? ⟨b, j, none⟩ = some (.int .i64 x)
theorem TabAt.lt {w : World} {b : Nat} {l : List Int} {x : Int} (h : TabAt w b (x :: l)) : b < w.heap.size := by
  have := h 0 x rfl
  by_cases hb : b < w.heap.size
  · exact hb
  · rw [World.cell?] at this
    simp [Array.getElem?_eq_none (Nat.le_of_not_lt hb)] at this
theorem TabAt.below {w w' : World} {b : Nat} {x : Int} {l : List Int} (h : TabAt w b (x :: l)) (hb : Below w.heap.size w w') : TabAt w' b (x :: l) := fun j y hy =>
  (hb.cell (p := ⟨b, j, none⟩) h.lt).trans (h j y hy)
theorem isEmpty_of {s : ByteArray} (h : s.size = 0) : s.toList.isEmpty = true := by
  have e : s = ⟨#[]⟩ := by apply ByteArray.ext; exact Array.eq_empty_of_size_eq_zero h
  rw [e]; decide +kernel
theorem isEmpty_not {s : ByteArray} (h : ¬ s.size = 0) : s.toList.isEmpty = false := by
  have e : s.toList = s.data.toList := ByteArray.toList_eq s
  rw [e]
  cases hb : s.data.toList with
  | nil => exact absurd (show s.data.size = 0 by rw [← Array.length_toList, hb]; rfl) h
  | cons a l => rfl
theorem results_cell_tmp {P : Program} {fn : Func} {p t : Tmp} {ty : TypeId} (h : fn.results = #[.cell p ty, .tmp t]) (tmps : Array Value) (w : World) (k : Nat) (cs : Array Value) (d : TypeDesc)
    (hp : tmps.getD p undef = .pointer (some ⟨k, 0, none⟩)) (hb : Blk w k ty cs) (hu : P.underlying ty = some d) (hd : (match d with | .struct _ | .array _ _ => true | _ => false) = true) (hi : (P.info? ty).map (·.size) = some cs.size) :
    (results fn tmps).run P w = .ok (.tuple #[.agg cs, tmps.getD t undef]) w := by
  have hp' : tmps[p]?.getD undef = .pointer (some ⟨k, 0, none⟩) := by simpa using hp
  simp [results, h, hp', asAddr, run_loadVar_row w k ty ty cs (0, 0) d hb hu hd hi]
def GV (w : World) : Prop := TabAt w 0 [4, 4, 2048, 6, 41, 34525]
theorem GV.below {w w' : World} (h : GV w) (hb : Below w.heap.size w w') : GV w' := TabAt.below h hb
theorem GV.cells {w : World} (h : GV w) : w.cell? ⟨0, 0, none⟩ = some (.int .i64 4) ∧ w.cell? ⟨0, 1, none⟩ = some (.int .i64 4) ∧ w.cell? ⟨0, 2, none⟩ = some (.int .i64 2048) ∧ w.cell? ⟨0, 3, none⟩ = some (.int .i64 6) ∧ w.cell? ⟨0, 4, none⟩ = some (.int .i64 41) ∧ w.cell? ⟨0, 5, none⟩ = some (.int .i64 34525) :=
  ⟨h 0 _ rfl, h 1 _ rfl, h 2 _ rfl, h 3 _ rfl, h 4 _ rfl, h 5 _ rfl⟩
def GP (w : World) : Prop := TabAt w 1 [6, 16, 17, 6] ∧ TabAt w 2 [20, 8]
theorem GP.below {w w' : World} (h : GP w) (hb : Below w.heap.size w w') : GP w' := ⟨TabAt.below h.1 hb, TabAt.below h.2 hb⟩
theorem GP.cells {w : World} (h : GP w) : (w.cell? ⟨1, 0, none⟩ = some (.int .i64 6) ∧ w.cell? ⟨1, 1, none⟩ = some (.int .i64 16) ∧ w.cell? ⟨1, 2, none⟩ = some (.int .i64 17) ∧ w.cell? ⟨1, 3, none⟩ = some (.int .i64 6)) ∧ w.cell? ⟨2, 0, none⟩ = some (.int .i64 20) ∧ w.cell? ⟨2, 1, none⟩ = some (.int .i64 8) :=
  ⟨⟨h.1 0 _ rfl, h.1 1 _ rfl, h.1 2 _ rfl, h.1 3 _ rfl⟩, h.2 0 _ rfl, h.2 1 _ rfl⟩
end Go.Proofs.YtcmalglippmocaaDoor.G
end
