-- Laid by a program of this session (wip/gen/gprint.py) over the translation's print. Lean checks it.
import Derived.Test.YtejmipoolbodgaaG0
import Derived.Test.YtejmipoolbodgaaGEq4
namespace Go.Proofs.Ytejmipoolbodgaa.G
open Go.RowKit Go.Proofs.YtejmipoolbodgaaW.PrintWords Go.Proofs.YtejmipoolbodgaaW.PrintLast Go.Proofs.YtejmipoolbodgaaW.PrintMore
attribute [local go_sem] max2_int min2_int max_two min_two max_three min_three max_four min_four   -- for this text's walks alone
set_option linter.unusedVariables false
set_option linter.unusedSimpArgs false

attribute [local go_sem high] eqA114
/-! ### ip6_Check: function 102 -/
def ip6_Check.f (a0_0 : Int) (a0_1 : Int) (a0_2 : Int) (a0_3 : Int) (a0_4 : ByteArray) (a0_5 : ByteArray) : Option (Int) := if (!((Go.bits .and .i64 a0_0 255) == a0_0) || (!((Go.bits .and .i64 a0_1 1048575) == a0_1) || (!((Go.bits .and .i64 a0_2 255) == a0_2) || (!((Go.bits .and .i64 a0_3 255) == a0_3))))) = true then (some 1) else (if (a0_4.size : Int) = 16 then (if (a0_5.size : Int) = 16 then (some 0) else (some 1)) else (some 1))
def ip6_Check.T2 : Bool × List (List Nat × List Nat) := (true, [([], []), ([0], [0]), ([1], [1]), ([], []), ([3], [3]), ([4], [4]), ([], []), ([6], [6]), ([7], [7]), ([], []), ([9], [9]), ([10], [10]), ([0, 1, 2], []), ([12, 2, 0, 1, 2], [2, 12]), ([0, 1, 2, 3, 4, 5, 12, 13], []), ([14, 5, 13, 0, 1, 2, 3, 4, 5, 12, 13], [5, 14]), ([0, 1, 2, 3, 4, 5, 6, 7, 8, 12, 13, 14, 15], []), ([16, 8, 15, 0, 1, 2, 3, 4, 5, 6, 7, 8, 12, 13, 14, 15], [8, 16]), ([0, 1, 2, 3, 4, 5, 6, 7, 8, 9, 10, 11, 12, 13, 14, 15, 16, 17], []), ([18, 11, 17, 0, 1, 2, 3, 4, 5, 6, 7, 8, 9, 10, 11, 12, 13, 14, 15, 16, 17], [11, 18])])
def ip6_Check.B2 : List Nat := [0, 1, 3, 0, 8, 24, 0, 64, 192, 0, 512, 1536, 7, 4103, 12351, 28735, 61951, 127487, 262143, 524287]
theorem ip6_Check.tab2 : rtab .any (opsOf Try.f102 2) = ip6_Check.T2 := by kernel_rfl
theorem ip6_Check.bits2 : waitsOk ip6_Check.T2.2 ip6_Check.B2 = true := by kernel_rfl
set_option maxHeartbeats 8000000 in
set_option maxRecDepth 100000 in
theorem ip6_Check.calls (a0_0 : Int) (a0_1 : Int) (a0_2 : Int) (a0_3 : Int) (a0_4 : ByteArray) (a0_5 : ByteArray) (r : Int) (w : World) (h : ip6_Check.f a0_0 a0_1 a0_2 a0_3 a0_4 a0_5 = some r) :
    Calls Try.prog 102 #[.agg #[.int .i64 a0_0, .int .i64 a0_1, .int .i64 a0_2, .int .i64 a0_3, .string a0_4, .string a0_5]] w fun e w' => e = .returned (.int .i64 r) ∧ Below w.heap.size w w' := by
  have hu114 := Try.underlying114
  have HB := Aside0.mk (Below.refl w.heap.size w)
  have H : (if (!((Go.bits .and .i64 a0_0 255) == a0_0) || (!((Go.bits .and .i64 a0_1 1048575) == a0_1) || (!((Go.bits .and .i64 a0_2 255) == a0_2) || (!((Go.bits .and .i64 a0_3 255) == a0_3))))) = true then (some 1) else (if (a0_4.size : Int) = 16 then (if (a0_5.size : Int) = 16 then (some 0) else (some 1)) else (some 1))) = some r := h
  clear h
  by_cases c2 : (!((Go.bits .and .i64 a0_0 255) == a0_0) || (!((Go.bits .and .i64 a0_1 1048575) == a0_1) || (!((Go.bits .and .i64 a0_2 255) == a0_2) || (!((Go.bits .and .i64 a0_3 255) == a0_3))))) = true
  · rw [if_pos c2] at H
    have c2b0 : (!((Go.bits .and .i64 a0_0 255) == a0_0) || (!((Go.bits .and .i64 a0_1 1048575) == a0_1) || (!((Go.bits .and .i64 a0_2 255) == a0_2) || (!((Go.bits .and .i64 a0_3 255) == a0_3))))) = true := c2
    clear c2
    obtain rfl := Option.some.inj H
    go_enter Try.func102, Try.ntmps102
    try go_wp2_with (first | ((with_reducible refine gate_dst (N := 1) rfl ?_); (try (refine gate_guard (by rfl) ?_; dsimp only)); refine box_event ?hg (N := 1) ?hd (cs := #[.int .i64 a0_0, .int .i64 a0_1, .int .i64 a0_2, .int .i64 a0_3, .string a0_4, .string a0_5]) (t := 114) ?hr ?_; (case hd => rfl); (case hg => rfl); (case hr => first | (go_simp; done) | (go_simp; rfl)); intro gb519 hg w3 hbox hb; have n0_ := Aside0.mk (below_step (by repeat (first | (with_reducible first | exact HB.out | apply below_alloc | apply pw_below_drewN | apply below_drew1) | exact HB.out)) hb); have n1_ := Aside0.mk (hbox); have n2_ := Aside0.mk ((by rw [hg]; exact (below_size (by repeat (first | (with_reducible first | exact HB.out | apply below_alloc | apply pw_below_drewN | apply below_drew1) | exact HB.out))) : w.heap.size ≤ gb519)); have n3_ := Aside0.mk ((by rw [hg]; exact (below_size (by repeat (first | (with_reducible first | exact HB.out | apply below_alloc | apply pw_below_drewN | apply below_drew1) | exact HB.out))) : w.heap.size ≤ gb519)); clear HB; have HB := n0_; have BK519 := n1_; have GW519 := n2_; have GE519 := n3_; clear n0_ n1_ n2_ n3_; clear hb hbox hg; have hcz4_0 : w3.cell? ⟨gb519, 0, none⟩ = some (.int .i64 a0_0) := (blk_cell BK519.out 0).trans rfl; have hcz4_1 : w3.cell? ⟨gb519, 1, none⟩ = some (.int .i64 a0_1) := (blk_cell BK519.out 1).trans rfl; have hcz4_2 : w3.cell? ⟨gb519, 2, none⟩ = some (.int .i64 a0_2) := (blk_cell BK519.out 2).trans rfl; have hcz4_3 : w3.cell? ⟨gb519, 3, none⟩ = some (.int .i64 a0_3) := (blk_cell BK519.out 3).trans rfl; have hcz4_4 : w3.cell? ⟨gb519, 4, none⟩ = some (.string a0_4) := (blk_cell BK519.out 4).trans rfl; have hcz4_5 : w3.cell? ⟨gb519, 5, none⟩ = some (.string a0_5) := (blk_cell BK519.out 5).trans rfl; have hfz4_0 := blk_frozen BK519.out 0; have hfz4_1 := blk_frozen BK519.out 1; have hfz4_2 := blk_frozen BK519.out 2; have hfz4_3 := blk_frozen BK519.out 3; have hfz4_4 := blk_frozen BK519.out 4; have hfz4_5 := blk_frozen BK519.out 5) | ((with_reducible refine gate_dst (N := 3) rfl ?_); (try (refine gate_guard (by rfl) ?_; dsimp only)); refine box_event ?hg (N := 3) ?hd (cs := #[.int .i64 0, .int .i64 0, .int .i64 0, .int .i64 0, .string (⟨#[]⟩ : ByteArray), .string (⟨#[]⟩ : ByteArray)]) (t := 114) ?hr ?_; (case hd => rfl); (case hg => rfl); (case hr => first | (go_simp; done) | (go_simp; rfl)); intro gb520 hg w5 hbox hb; have n0_ := Aside0.mk (blk_below (g := gb519) (o := .cells #[.int .i64 a0_0, .int .i64 a0_1, .int .i64 a0_2, .int .i64 a0_3, .string a0_4, .string a0_5] 114 (0, 0)) (by (with_reducible repeat (first | refine blk_drewN ?_ _ | refine blk_drew ?_ | refine blk_alloc ?_ _)); exact BK519.out) hb); have n1_ := Aside0.mk (below_step (by repeat (first | (with_reducible first | exact HB.out | apply below_alloc | apply pw_below_drewN | apply below_drew1 | refine below_set ?_ GE519.out) | exact HB.out)) hb); have n2_ := Aside0.mk (hbox); have n3_ := Aside0.mk ((by rw [hg]; exact (below_size (by repeat (first | (with_reducible first | exact HB.out | apply below_alloc | apply pw_below_drewN | apply below_drew1 | refine below_set ?_ GE519.out) | exact HB.out))) : w.heap.size ≤ gb520)); have n4_ := Aside0.mk ((by rw [hg]; exact (below_size (by repeat (first | (with_reducible first | exact HB.out | apply below_alloc | apply pw_below_drewN | apply below_drew1 | refine below_set ?_ GE519.out) | exact HB.out))) : w.heap.size ≤ gb520)); have n5_ := Aside0.mk ((by rw [hg]; exact Nat.ne_of_lt (blk_lt (g := gb519) (o := .cells #[.int .i64 a0_0, .int .i64 a0_1, .int .i64 a0_2, .int .i64 a0_3, .string a0_4, .string a0_5] 114 (0, 0)) (by (with_reducible repeat (first | refine blk_drewN ?_ _ | refine blk_drew ?_ | refine blk_alloc ?_ _)); exact BK519.out)) : gb519 ≠ gb520)); have n6_ := Aside0.mk ((by rw [hg]; exact Nat.ne_of_gt (blk_lt (g := gb519) (o := .cells #[.int .i64 a0_0, .int .i64 a0_1, .int .i64 a0_2, .int .i64 a0_3, .string a0_4, .string a0_5] 114 (0, 0)) (by (with_reducible repeat (first | refine blk_drewN ?_ _ | refine blk_drew ?_ | refine blk_alloc ?_ _)); exact BK519.out)) : gb520 ≠ gb519)); clear BK519; clear HB; have BK519 := n0_; have HB := n1_; have BK520 := n2_; have GW520 := n3_; have GE520 := n4_; have NB519_520 := n5_; have NB520_519 := n6_; clear n0_ n1_ n2_ n3_ n4_ n5_ n6_; clear hb hbox hg; have hnb6 := NB520_519.out; have hnc6 := NB519_520.out; have hcz7_0 : w5.cell? ⟨gb520, 0, none⟩ = some (.int .i64 0) := (blk_cell BK520.out 0).trans rfl; have hcz7_1 : w5.cell? ⟨gb520, 1, none⟩ = some (.int .i64 0) := (blk_cell BK520.out 1).trans rfl; have hcz7_2 : w5.cell? ⟨gb520, 2, none⟩ = some (.int .i64 0) := (blk_cell BK520.out 2).trans rfl; have hcz7_3 : w5.cell? ⟨gb520, 3, none⟩ = some (.int .i64 0) := (blk_cell BK520.out 3).trans rfl; have hcz7_4 : w5.cell? ⟨gb520, 4, none⟩ = some (.string (⟨#[]⟩ : ByteArray)) := (blk_cell BK520.out 4).trans rfl; have hcz7_5 : w5.cell? ⟨gb520, 5, none⟩ = some (.string (⟨#[]⟩ : ByteArray)) := (blk_cell BK520.out 5).trans rfl; have hfz7_0 := blk_frozen BK520.out 0; have hfz7_1 := blk_frozen BK520.out 1; have hfz7_2 := blk_frozen BK520.out 2; have hfz7_3 := blk_frozen BK520.out 3; have hfz7_4 := blk_frozen BK520.out 4; have hfz7_5 := blk_frozen BK520.out 5))
    have n0_ : Aside0 (((((((w5.setCell ⟨gb520, 0, none⟩ (.int .i64 a0_0)).setCell ⟨gb520, 1, none⟩ (.int .i64 a0_1)).setCell ⟨gb520, 2, none⟩ (.int .i64 a0_2)).setCell ⟨gb520, 3, none⟩ (.int .i64 a0_3)).setCell ⟨gb520, 4, none⟩ (.string a0_4)).setCell ⟨gb520, 5, none⟩ (.string a0_5)).heap[gb519]? = some (.cells #[.int .i64 a0_0, .int .i64 a0_1, .int .i64 a0_2, .int .i64 a0_3, .string a0_4, .string a0_5] 114 (0, 0))) := ⟨by (with_reducible repeat (first | refine blk_drewN ?_ _ | refine blk_drew ?_ | refine blk_alloc ?_ _)); refine blk_far ?_ NB519_520.out _; (with_reducible repeat (first | refine blk_drewN ?_ _ | refine blk_drew ?_ | refine blk_alloc ?_ _)); refine blk_far ?_ NB519_520.out _; (with_reducible repeat (first | refine blk_drewN ?_ _ | refine blk_drew ?_ | refine blk_alloc ?_ _)); refine blk_far ?_ NB519_520.out _; (with_reducible repeat (first | refine blk_drewN ?_ _ | refine blk_drew ?_ | refine blk_alloc ?_ _)); refine blk_far ?_ NB519_520.out _; (with_reducible repeat (first | refine blk_drewN ?_ _ | refine blk_drew ?_ | refine blk_alloc ?_ _)); refine blk_far ?_ NB519_520.out _; (with_reducible repeat (first | refine blk_drewN ?_ _ | refine blk_drew ?_ | refine blk_alloc ?_ _)); refine blk_far ?_ NB519_520.out _; (with_reducible repeat (first | refine blk_drewN ?_ _ | refine blk_drew ?_ | refine blk_alloc ?_ _)); exact BK519.out⟩
    have n1_ : Aside0 (((((((w5.setCell ⟨gb520, 0, none⟩ (.int .i64 a0_0)).setCell ⟨gb520, 1, none⟩ (.int .i64 a0_1)).setCell ⟨gb520, 2, none⟩ (.int .i64 a0_2)).setCell ⟨gb520, 3, none⟩ (.int .i64 a0_3)).setCell ⟨gb520, 4, none⟩ (.string a0_4)).setCell ⟨gb520, 5, none⟩ (.string a0_5)).heap[gb520]? = some (.cells #[.int .i64 a0_0, .int .i64 a0_1, .int .i64 a0_2, .int .i64 a0_3, .string a0_4, .string a0_5] 114 (0, 0))) := ⟨by (with_reducible repeat (first | refine blk_drewN ?_ _ | refine blk_drew ?_ | refine blk_alloc ?_ _)); refine blk_put (cs := #[.int .i64 a0_0, .int .i64 a0_1, .int .i64 a0_2, .int .i64 a0_3, .string a0_4, .string (⟨#[]⟩ : ByteArray)]) ?_ 5 _ rfl; (with_reducible repeat (first | refine blk_drewN ?_ _ | refine blk_drew ?_ | refine blk_alloc ?_ _)); refine blk_put (cs := #[.int .i64 a0_0, .int .i64 a0_1, .int .i64 a0_2, .int .i64 a0_3, .string (⟨#[]⟩ : ByteArray), .string (⟨#[]⟩ : ByteArray)]) ?_ 4 _ rfl; (with_reducible repeat (first | refine blk_drewN ?_ _ | refine blk_drew ?_ | refine blk_alloc ?_ _)); refine blk_put (cs := #[.int .i64 a0_0, .int .i64 a0_1, .int .i64 a0_2, .int .i64 0, .string (⟨#[]⟩ : ByteArray), .string (⟨#[]⟩ : ByteArray)]) ?_ 3 _ rfl; (with_reducible repeat (first | refine blk_drewN ?_ _ | refine blk_drew ?_ | refine blk_alloc ?_ _)); refine blk_put (cs := #[.int .i64 a0_0, .int .i64 a0_1, .int .i64 0, .int .i64 0, .string (⟨#[]⟩ : ByteArray), .string (⟨#[]⟩ : ByteArray)]) ?_ 2 _ rfl; (with_reducible repeat (first | refine blk_drewN ?_ _ | refine blk_drew ?_ | refine blk_alloc ?_ _)); refine blk_put (cs := #[.int .i64 a0_0, .int .i64 0, .int .i64 0, .int .i64 0, .string (⟨#[]⟩ : ByteArray), .string (⟨#[]⟩ : ByteArray)]) ?_ 1 _ rfl; (with_reducible repeat (first | refine blk_drewN ?_ _ | refine blk_drew ?_ | refine blk_alloc ?_ _)); refine blk_put (cs := #[.int .i64 0, .int .i64 0, .int .i64 0, .int .i64 0, .string (⟨#[]⟩ : ByteArray), .string (⟨#[]⟩ : ByteArray)]) ?_ 0 _ rfl; (with_reducible repeat (first | refine blk_drewN ?_ _ | refine blk_drew ?_ | refine blk_alloc ?_ _)); exact BK520.out⟩
    have n2_ : Aside0 (Below w.heap.size w ((((((w5.setCell ⟨gb520, 0, none⟩ (.int .i64 a0_0)).setCell ⟨gb520, 1, none⟩ (.int .i64 a0_1)).setCell ⟨gb520, 2, none⟩ (.int .i64 a0_2)).setCell ⟨gb520, 3, none⟩ (.int .i64 a0_3)).setCell ⟨gb520, 4, none⟩ (.string a0_4)).setCell ⟨gb520, 5, none⟩ (.string a0_5))) := ⟨by repeat (first | (with_reducible first | exact HB.out | apply below_alloc | apply pw_below_drewN | apply below_drew1 | refine below_set ?_ GE519.out | refine below_set ?_ GE520.out) | exact HB.out)⟩
    (try clear BK519)
    (try clear BK520)
    (try clear HB)
    generalize ((((((w5.setCell ⟨gb520, 0, none⟩ (.int .i64 a0_0)).setCell ⟨gb520, 1, none⟩ (.int .i64 a0_1)).setCell ⟨gb520, 2, none⟩ (.int .i64 a0_2)).setCell ⟨gb520, 3, none⟩ (.int .i64 a0_3)).setCell ⟨gb520, 4, none⟩ (.string a0_4)).setCell ⟨gb520, 5, none⟩ (.string a0_5)) = w8 at n0_ n1_ n2_ ⊢
    have BK519 := n0_
    have BK520 := n1_
    have HB := n2_
    clear n0_ n1_ n2_
    have n0_ := Aside0.mk (blk_drew BK519.out)
    have n1_ := Aside0.mk (blk_drew BK520.out)
    have n2_ := Aside0.mk (below_drew1 HB.out)
    clear BK519
    clear BK520
    clear HB
    have BK519 := n0_
    have BK520 := n1_
    have HB := n2_
    clear n0_ n1_ n2_
    refine start_ (n := 20) (S := fun w' => w'.cell? ⟨gb519, 0, none⟩ = some (.int .i64 a0_0) ∧ w'.cell? ⟨gb519, 1, none⟩ = some (.int .i64 a0_1) ∧ w'.cell? ⟨gb519, 2, none⟩ = some (.int .i64 a0_2) ∧ w'.cell? ⟨gb519, 3, none⟩ = some (.int .i64 a0_3) ∧ w'.cell? ⟨gb519, 4, none⟩ = some (.string a0_4) ∧ w'.cell? ⟨gb519, 5, none⟩ = some (.string a0_5)) (ds := []) #[false, false, false, false, false, false, false, false, false, false, false, false, false, false, false, false, false, false, false, false] (by kernel_rfl) rfl rfl ⟨(blk_cell BK519.out 0).trans rfl, (blk_cell BK519.out 1).trans rfl, (blk_cell BK519.out 2).trans rfl, (blk_cell BK519.out 3).trans rfl, (blk_cell BK519.out 4).trans rfl, (blk_cell BK519.out 5).trans rfl⟩ (fun hHeld => ?_); refine with_tabW ip6_Check.tab2 ip6_Check.bits2 (fun HT_ HW_ => ?_)
    generalize w8.drew = w9 at BK519 BK520 HB hHeld ⊢
    refine pure_ (i := 0) (N := some 5) (v := ?_) (a' := ?_) #[true, false, false, false, false, false, false, false, false, false, false, false, false, false, false, false, false, false, false, false] rfl rfl (any_of HT_.out (by kernel_rfl)) (fun _ _ _ h => h) (Or.inl ⟨by rfl, ?_⟩) ?_ ?_
    rotate_left
    · intro w'
      go_simp
      with_reducible rfl
    rotate_left
    · simp only [Act.put, List.setIfInBounds_toArray, List.set_cons_zero, List.set_cons_succ, i64_w, i32_w]
      rfl
    refine pure_ (i := 3) (N := some 8) (v := ?_) (a' := ?_) #[true, false, false, true, false, false, false, false, false, false, false, false, false, false, false, false, false, false, false, false] rfl rfl (any_of HT_.out (by kernel_rfl)) (fun _ _ _ h => h) (Or.inl ⟨by rfl, ?_⟩) ?_ ?_
    rotate_left
    · intro w'
      go_simp
      with_reducible rfl
    rotate_left
    · simp only [Act.put, List.setIfInBounds_toArray, List.set_cons_zero, List.set_cons_succ, i64_w, i32_w]
      rfl
    refine pure_ (i := 6) (N := some 11) (v := ?_) (a' := ?_) #[true, false, false, true, false, false, true, false, false, false, false, false, false, false, false, false, false, false, false, false] rfl rfl (any_of HT_.out (by kernel_rfl)) (fun _ _ _ h => h) (Or.inl ⟨by rfl, ?_⟩) ?_ ?_
    rotate_left
    · intro w'
      go_simp
      with_reducible rfl
    rotate_left
    · simp only [Act.put, List.setIfInBounds_toArray, List.set_cons_zero, List.set_cons_succ, i64_w, i32_w]
      rfl
    refine pure_ (i := 9) (N := some 14) (v := ?_) (a' := ?_) #[true, false, false, true, false, false, true, false, false, true, false, false, false, false, false, false, false, false, false, false] rfl rfl (any_of HT_.out (by kernel_rfl)) (fun _ _ _ h => h) (Or.inl ⟨by rfl, ?_⟩) ?_ ?_
    rotate_left
    · intro w'
      go_simp
      with_reducible rfl
    rotate_left
    · simp only [Act.put, List.setIfInBounds_toArray, List.set_cons_zero, List.set_cons_succ, i64_w, i32_w]
      rfl
    refine take_ (i := 1) (N := some 6) (v := ?_) (a' := ?_) #[true, true, false, true, false, false, true, false, false, true, false, false, false, false, false, false, false, false, false, false] rfl rfl (take_ofW HT_.out HW_.out (by kernel_rfl)) (fun _ _ _ h => h) (Or.inl ⟨by rfl, ?_⟩) hHeld ?_ ?_
    rotate_left
    · rintro w' ⟨s0, s1, s2, s3, s4, s5⟩
      go_simp
      with_reducible rfl
    rotate_left
    · simp only [Act.put, List.setIfInBounds_toArray, List.set_cons_zero, List.set_cons_succ, i64_w, i32_w]
      rfl
    refine pure_ (i := 2) (N := some 7) (v := ?_) (a' := ?_) #[true, true, true, true, false, false, true, false, false, true, false, false, false, false, false, false, false, false, false, false] rfl rfl (any_of HT_.out (by kernel_rfl)) (fun _ _ _ h => h) (Or.inl ⟨by rfl, ?_⟩) ?_ ?_
    rotate_left
    · intro w'
      go_simp
      with_reducible rfl
    rotate_left
    · simp only [Act.put, List.setIfInBounds_toArray, List.set_cons_zero, List.set_cons_succ, i64_w, i32_w]
      rfl
    refine pure_ (i := 12) (N := some 17) (v := ?_) (a' := ?_) #[true, true, true, true, false, false, true, false, false, true, false, false, true, false, false, false, false, false, false, false] rfl rfl (any_of HT_.out (by kernel_rfl)) (fun _ _ _ h => h) (Or.inl ⟨by rfl, ?_⟩) ?_ ?_
    rotate_left
    · intro w'
      go_simp
      with_reducible rfl
    rotate_left
    · simp only [Act.put, List.setIfInBounds_toArray, List.set_cons_zero, List.set_cons_succ, i64_w, i32_w]
      rfl
    refine take_ (i := 4) (N := some 9) (v := ?_) (a' := ?_) #[true, true, true, true, true, false, true, false, false, true, false, false, true, false, false, false, false, false, false, false] rfl rfl (take_ofW HT_.out HW_.out (by kernel_rfl)) (fun _ _ _ h => h) (Or.inl ⟨by rfl, ?_⟩) hHeld ?_ ?_
    rotate_left
    · rintro w' ⟨s0, s1, s2, s3, s4, s5⟩
      go_simp
      with_reducible rfl
    rotate_left
    · simp only [Act.put, List.setIfInBounds_toArray, List.set_cons_zero, List.set_cons_succ, i64_w, i32_w]
      rfl
    refine pure_ (i := 5) (N := some 10) (v := ?_) (a' := ?_) #[true, true, true, true, true, true, true, false, false, true, false, false, true, false, false, false, false, false, false, false] rfl rfl (any_of HT_.out (by kernel_rfl)) (fun _ _ _ h => h) (Or.inl ⟨by rfl, ?_⟩) ?_ ?_
    rotate_left
    · intro w'
      go_simp
      with_reducible rfl
    rotate_left
    · simp only [Act.put, List.setIfInBounds_toArray, List.set_cons_zero, List.set_cons_succ, i64_w, i32_w]
      rfl
    refine take_ (i := 7) (N := some 12) (v := ?_) (a' := ?_) #[true, true, true, true, true, true, true, true, false, true, false, false, true, false, false, false, false, false, false, false] rfl rfl (take_ofW HT_.out HW_.out (by kernel_rfl)) (fun _ _ _ h => h) (Or.inl ⟨by rfl, ?_⟩) hHeld ?_ ?_
    rotate_left
    · rintro w' ⟨s0, s1, s2, s3, s4, s5⟩
      go_simp
      with_reducible rfl
    rotate_left
    · simp only [Act.put, List.setIfInBounds_toArray, List.set_cons_zero, List.set_cons_succ, i64_w, i32_w]
      rfl
    refine pure_ (i := 8) (N := some 13) (v := ?_) (a' := ?_) #[true, true, true, true, true, true, true, true, true, true, false, false, true, false, false, false, false, false, false, false] rfl rfl (any_of HT_.out (by kernel_rfl)) (fun _ _ _ h => h) (Or.inl ⟨by rfl, ?_⟩) ?_ ?_
    rotate_left
    · intro w'
      go_simp
      with_reducible rfl
    rotate_left
    · simp only [Act.put, List.setIfInBounds_toArray, List.set_cons_zero, List.set_cons_succ, i64_w, i32_w]
      rfl
    refine take_ (i := 10) (N := some 15) (v := ?_) (a' := ?_) #[true, true, true, true, true, true, true, true, true, true, true, false, true, false, false, false, false, false, false, false] rfl rfl (take_ofW HT_.out HW_.out (by kernel_rfl)) (fun _ _ _ h => h) (Or.inl ⟨by rfl, ?_⟩) hHeld ?_ ?_
    rotate_left
    · rintro w' ⟨s0, s1, s2, s3, s4, s5⟩
      go_simp
      with_reducible rfl
    rotate_left
    · simp only [Act.put, List.setIfInBounds_toArray, List.set_cons_zero, List.set_cons_succ, i64_w, i32_w]
      rfl
    refine pure_ (i := 11) (N := some 16) (v := ?_) (a' := ?_) #[true, true, true, true, true, true, true, true, true, true, true, true, true, false, false, false, false, false, false, false] rfl rfl (any_of HT_.out (by kernel_rfl)) (fun _ _ _ h => h) (Or.inl ⟨by rfl, ?_⟩) ?_ ?_
    rotate_left
    · intro w'
      go_simp
      with_reducible rfl
    rotate_left
    · simp only [Act.put, List.setIfInBounds_toArray, List.set_cons_zero, List.set_cons_succ, i64_w, i32_w]
      rfl
    refine one_ (i := 13) (N := none) #[true, true, true, true, true, true, true, true, true, true, true, true, true, true, false, false, false, false, false, false] rfl rfl (one_of HT_.out (by kernel_rfl)) (by decide) (fun K hK => ?_)
    have hs10 : w9.cell? ⟨gb520, 0, none⟩ = some (.int .i64 a0_0) := (blk_cell BK520.out 0).trans rfl
    have hfs10 := blk_frozen BK520.out 0
    have hns10_0 := NB519_520.out
    have hms10_0 := NB520_519.out
    refine skip_ (w1 := ?_) (by rfl) rfl ?_ ?_
    rotate_left
    · go_simp
      rfl
    refine hK.out _ _ ⟨((cell_far (p := ⟨gb520, _, none⟩) NB519_520.out _).trans (hHeld.1)), ((cell_far (p := ⟨gb520, _, none⟩) NB519_520.out _).trans (hHeld.2.1)), ((cell_far (p := ⟨gb520, _, none⟩) NB519_520.out _).trans (hHeld.2.2.1)), ((cell_far (p := ⟨gb520, _, none⟩) NB519_520.out _).trans (hHeld.2.2.2.1)), ((cell_far (p := ⟨gb520, _, none⟩) NB519_520.out _).trans (hHeld.2.2.2.2.1)), ((cell_far (p := ⟨gb520, _, none⟩) NB519_520.out _).trans (hHeld.2.2.2.2.2))⟩ (fun hHeld => ?_)
    clear hK K
    refine pure_ (i := 14) (N := some 18) (v := ?_) (a' := ?_) #[true, true, true, true, true, true, true, true, true, true, true, true, true, true, true, false, false, false, false, false] rfl rfl (any_of HT_.out (by kernel_rfl)) (fun _ _ _ h => h) (Or.inl ⟨by rfl, ?_⟩) ?_ ?_
    rotate_left
    · intro w'
      go_simp
      with_reducible rfl
    rotate_left
    · simp only [Act.put, List.setIfInBounds_toArray, List.set_cons_zero, List.set_cons_succ, i64_w, i32_w]
      rfl
    refine one_ (i := 15) (N := none) #[true, true, true, true, true, true, true, true, true, true, true, true, true, true, true, true, false, false, false, false] rfl rfl (one_of HT_.out (by kernel_rfl)) (by decide) (fun K hK => ?_)
    have hs11 : w9.cell? ⟨gb520, 2, none⟩ = some (.int .i64 a0_2) := (blk_cell BK520.out 2).trans rfl
    have hfs11 := blk_frozen BK520.out 2
    have hns11_0 := NB519_520.out
    have hms11_0 := NB520_519.out
    refine skip_ (w1 := ?_) (by rfl) rfl ?_ ?_
    rotate_left
    · go_simp
      rfl
    refine hK.out _ _ ⟨((cell_far (p := ⟨gb520, _, none⟩) NB519_520.out _).trans (hHeld.1)), ((cell_far (p := ⟨gb520, _, none⟩) NB519_520.out _).trans (hHeld.2.1)), ((cell_far (p := ⟨gb520, _, none⟩) NB519_520.out _).trans (hHeld.2.2.1)), ((cell_far (p := ⟨gb520, _, none⟩) NB519_520.out _).trans (hHeld.2.2.2.1)), ((cell_far (p := ⟨gb520, _, none⟩) NB519_520.out _).trans (hHeld.2.2.2.2.1)), ((cell_far (p := ⟨gb520, _, none⟩) NB519_520.out _).trans (hHeld.2.2.2.2.2))⟩ (fun hHeld => ?_)
    clear hK K
    refine pure_ (i := 16) (N := some 19) (v := ?_) (a' := ?_) #[true, true, true, true, true, true, true, true, true, true, true, true, true, true, true, true, true, false, false, false] rfl rfl (any_of HT_.out (by kernel_rfl)) (fun _ _ _ h => h) (Or.inl ⟨by rfl, ?_⟩) ?_ ?_
    rotate_left
    · intro w'
      go_simp
      with_reducible rfl
    rotate_left
    · simp only [Act.put, List.setIfInBounds_toArray, List.set_cons_zero, List.set_cons_succ, i64_w, i32_w]
      rfl
    refine one_ (i := 17) (N := none) #[true, true, true, true, true, true, true, true, true, true, true, true, true, true, true, true, true, true, false, false] rfl rfl (one_of HT_.out (by kernel_rfl)) (by decide) (fun K hK => ?_)
    have hs12 : w9.cell? ⟨gb520, 3, none⟩ = some (.int .i64 a0_3) := (blk_cell BK520.out 3).trans rfl
    have hfs12 := blk_frozen BK520.out 3
    have hns12_0 := NB519_520.out
    have hms12_0 := NB520_519.out
    refine skip_ (w1 := ?_) (by rfl) rfl ?_ ?_
    rotate_left
    · go_simp
      rfl
    refine hK.out _ _ ⟨((cell_far (p := ⟨gb520, _, none⟩) NB519_520.out _).trans (hHeld.1)), ((cell_far (p := ⟨gb520, _, none⟩) NB519_520.out _).trans (hHeld.2.1)), ((cell_far (p := ⟨gb520, _, none⟩) NB519_520.out _).trans (hHeld.2.2.1)), ((cell_far (p := ⟨gb520, _, none⟩) NB519_520.out _).trans (hHeld.2.2.2.1)), ((cell_far (p := ⟨gb520, _, none⟩) NB519_520.out _).trans (hHeld.2.2.2.2.1)), ((cell_far (p := ⟨gb520, _, none⟩) NB519_520.out _).trans (hHeld.2.2.2.2.2))⟩ (fun hHeld => ?_)
    clear hK K
    refine pure_ (i := 18) (N := some 20) (v := ?_) (a' := ?_) #[true, true, true, true, true, true, true, true, true, true, true, true, true, true, true, true, true, true, true, false] rfl rfl (any_of HT_.out (by kernel_rfl)) (fun _ _ _ h => h) (Or.inl ⟨by rfl, ?_⟩) ?_ ?_
    rotate_left
    · intro w'
      go_simp
      with_reducible rfl
    rotate_left
    · simp only [Act.put, List.setIfInBounds_toArray, List.set_cons_zero, List.set_cons_succ, i64_w, i32_w]
      rfl
    refine one_ (i := 19) (N := none) #[true, true, true, true, true, true, true, true, true, true, true, true, true, true, true, true, true, true, true, true] rfl rfl (one_of HT_.out (by kernel_rfl)) (by decide) (fun K hK => ?_)
    have hs13 : w9.cell? ⟨gb520, 1, none⟩ = some (.int .i64 a0_1) := (blk_cell BK520.out 1).trans rfl
    have hfs13 := blk_frozen BK520.out 1
    have hns13_0 := NB519_520.out
    have hms13_0 := NB520_519.out
    refine skip_ (w1 := ?_) (by rfl) rfl ?_ ?_
    rotate_left
    · go_simp
      rfl
    refine hK.out _ _ ⟨((cell_far (p := ⟨gb520, _, none⟩) NB519_520.out _).trans (hHeld.1)), ((cell_far (p := ⟨gb520, _, none⟩) NB519_520.out _).trans (hHeld.2.1)), ((cell_far (p := ⟨gb520, _, none⟩) NB519_520.out _).trans (hHeld.2.2.1)), ((cell_far (p := ⟨gb520, _, none⟩) NB519_520.out _).trans (hHeld.2.2.2.1)), ((cell_far (p := ⟨gb520, _, none⟩) NB519_520.out _).trans (hHeld.2.2.2.2.1)), ((cell_far (p := ⟨gb520, _, none⟩) NB519_520.out _).trans (hHeld.2.2.2.2.2))⟩ (fun hHeld => ?_)
    clear hK K
    refine done_ (done_of HT_.out (by kernel_rfl)) ?_
    have hcz14_0 : w9.cell? ⟨gb520, 0, none⟩ = some (.int .i64 a0_0) := (blk_cell BK520.out 0).trans rfl
    have hcz14_1 : w9.cell? ⟨gb520, 1, none⟩ = some (.int .i64 a0_1) := (blk_cell BK520.out 1).trans rfl
    have hcz14_2 : w9.cell? ⟨gb520, 2, none⟩ = some (.int .i64 a0_2) := (blk_cell BK520.out 2).trans rfl
    have hcz14_3 : w9.cell? ⟨gb520, 3, none⟩ = some (.int .i64 a0_3) := (blk_cell BK520.out 3).trans rfl
    have hcz14_4 : w9.cell? ⟨gb520, 4, none⟩ = some (.string a0_4) := (blk_cell BK520.out 4).trans rfl
    have hcz14_5 : w9.cell? ⟨gb520, 5, none⟩ = some (.string a0_5) := (blk_cell BK520.out 5).trans rfl
    have hfz14_0 := blk_frozen BK520.out 0
    have hfz14_1 := blk_frozen BK520.out 1
    have hfz14_2 := blk_frozen BK520.out 2
    have hfz14_3 := blk_frozen BK520.out 3
    have hfz14_4 := blk_frozen BK520.out 4
    have hfz14_5 := blk_frozen BK520.out 5
    have hcz15_0 : w9.cell? ⟨gb519, 0, none⟩ = some (.int .i64 a0_0) := (blk_cell BK519.out 0).trans rfl
    have hcz15_1 : w9.cell? ⟨gb519, 1, none⟩ = some (.int .i64 a0_1) := (blk_cell BK519.out 1).trans rfl
    have hcz15_2 : w9.cell? ⟨gb519, 2, none⟩ = some (.int .i64 a0_2) := (blk_cell BK519.out 2).trans rfl
    have hcz15_3 : w9.cell? ⟨gb519, 3, none⟩ = some (.int .i64 a0_3) := (blk_cell BK519.out 3).trans rfl
    have hcz15_4 : w9.cell? ⟨gb519, 4, none⟩ = some (.string a0_4) := (blk_cell BK519.out 4).trans rfl
    have hcz15_5 : w9.cell? ⟨gb519, 5, none⟩ = some (.string a0_5) := (blk_cell BK519.out 5).trans rfl
    have hfz15_0 := blk_frozen BK519.out 0
    have hfz15_1 := blk_frozen BK519.out 1
    have hfz15_2 := blk_frozen BK519.out 2
    have hfz15_3 := blk_frozen BK519.out 3
    have hfz15_4 := blk_frozen BK519.out 4
    have hfz15_5 := blk_frozen BK519.out 5
    try go_wp2
    go_ret
    exact ⟨by first | rfl | (simp [errW_none, errW_some] <;> rfl) | (simp [*, errW_none, errW_some] <;> rfl), by repeat (first | (with_reducible first | exact HB.out | apply below_alloc | apply pw_below_drewN | apply below_drew1 | refine below_set ?_ GE519.out | refine below_set ?_ GE520.out) | exact HB.out)⟩
  · rw [if_neg c2] at H
    have c2b0 : (!((Go.bits .and .i64 a0_0 255) == a0_0) || (!((Go.bits .and .i64 a0_1 1048575) == a0_1) || (!((Go.bits .and .i64 a0_2 255) == a0_2) || (!((Go.bits .and .i64 a0_3 255) == a0_3))))) = false := by simpa using c2
    clear c2
    by_cases c16 : (a0_4.size : Int) = 16
    · rw [if_pos c16] at H
      have c16b0 : ((a0_4.size : Int) == 16) = true := beq_iff_eq.mpr c16
      have c16b1 : ((a0_4.size : Int) != 16) = false := bne_eq_false_iff_eq.mpr c16
      clear c16
      by_cases c17 : (a0_5.size : Int) = 16
      · rw [if_pos c17] at H
        have c17b0 : ((a0_5.size : Int) == 16) = true := beq_iff_eq.mpr c17
        have c17b1 : ((a0_5.size : Int) != 16) = false := bne_eq_false_iff_eq.mpr c17
        clear c17
        obtain rfl := Option.some.inj H
        go_enter Try.func102, Try.ntmps102
        try go_wp2_with (first | ((with_reducible refine gate_dst (N := 1) rfl ?_); (try (refine gate_guard (by rfl) ?_; dsimp only)); refine box_event ?hg (N := 1) ?hd (cs := #[.int .i64 a0_0, .int .i64 a0_1, .int .i64 a0_2, .int .i64 a0_3, .string a0_4, .string a0_5]) (t := 114) ?hr ?_; (case hd => rfl); (case hg => rfl); (case hr => first | (go_simp; done) | (go_simp; rfl)); intro gb519 hg w18 hbox hb; have n0_ := Aside0.mk (below_step (by repeat (first | (with_reducible first | exact HB.out | apply below_alloc | apply pw_below_drewN | apply below_drew1) | exact HB.out)) hb); have n1_ := Aside0.mk (hbox); have n2_ := Aside0.mk ((by rw [hg]; exact (below_size (by repeat (first | (with_reducible first | exact HB.out | apply below_alloc | apply pw_below_drewN | apply below_drew1) | exact HB.out))) : w.heap.size ≤ gb519)); have n3_ := Aside0.mk ((by rw [hg]; exact (below_size (by repeat (first | (with_reducible first | exact HB.out | apply below_alloc | apply pw_below_drewN | apply below_drew1) | exact HB.out))) : w.heap.size ≤ gb519)); clear HB; have HB := n0_; have BK519 := n1_; have GW519 := n2_; have GE519 := n3_; clear n0_ n1_ n2_ n3_; clear hb hbox hg; have hcz19_0 : w18.cell? ⟨gb519, 0, none⟩ = some (.int .i64 a0_0) := (blk_cell BK519.out 0).trans rfl; have hcz19_1 : w18.cell? ⟨gb519, 1, none⟩ = some (.int .i64 a0_1) := (blk_cell BK519.out 1).trans rfl; have hcz19_2 : w18.cell? ⟨gb519, 2, none⟩ = some (.int .i64 a0_2) := (blk_cell BK519.out 2).trans rfl; have hcz19_3 : w18.cell? ⟨gb519, 3, none⟩ = some (.int .i64 a0_3) := (blk_cell BK519.out 3).trans rfl; have hcz19_4 : w18.cell? ⟨gb519, 4, none⟩ = some (.string a0_4) := (blk_cell BK519.out 4).trans rfl; have hcz19_5 : w18.cell? ⟨gb519, 5, none⟩ = some (.string a0_5) := (blk_cell BK519.out 5).trans rfl; have hfz19_0 := blk_frozen BK519.out 0; have hfz19_1 := blk_frozen BK519.out 1; have hfz19_2 := blk_frozen BK519.out 2; have hfz19_3 := blk_frozen BK519.out 3; have hfz19_4 := blk_frozen BK519.out 4; have hfz19_5 := blk_frozen BK519.out 5) | ((with_reducible refine gate_dst (N := 3) rfl ?_); (try (refine gate_guard (by rfl) ?_; dsimp only)); refine box_event ?hg (N := 3) ?hd (cs := #[.int .i64 0, .int .i64 0, .int .i64 0, .int .i64 0, .string (⟨#[]⟩ : ByteArray), .string (⟨#[]⟩ : ByteArray)]) (t := 114) ?hr ?_; (case hd => rfl); (case hg => rfl); (case hr => first | (go_simp; done) | (go_simp; rfl)); intro gb520 hg w20 hbox hb; have n0_ := Aside0.mk (blk_below (g := gb519) (o := .cells #[.int .i64 a0_0, .int .i64 a0_1, .int .i64 a0_2, .int .i64 a0_3, .string a0_4, .string a0_5] 114 (0, 0)) (by (with_reducible repeat (first | refine blk_drewN ?_ _ | refine blk_drew ?_ | refine blk_alloc ?_ _)); exact BK519.out) hb); have n1_ := Aside0.mk (below_step (by repeat (first | (with_reducible first | exact HB.out | apply below_alloc | apply pw_below_drewN | apply below_drew1 | refine below_set ?_ GE519.out) | exact HB.out)) hb); have n2_ := Aside0.mk (hbox); have n3_ := Aside0.mk ((by rw [hg]; exact (below_size (by repeat (first | (with_reducible first | exact HB.out | apply below_alloc | apply pw_below_drewN | apply below_drew1 | refine below_set ?_ GE519.out) | exact HB.out))) : w.heap.size ≤ gb520)); have n4_ := Aside0.mk ((by rw [hg]; exact (below_size (by repeat (first | (with_reducible first | exact HB.out | apply below_alloc | apply pw_below_drewN | apply below_drew1 | refine below_set ?_ GE519.out) | exact HB.out))) : w.heap.size ≤ gb520)); have n5_ := Aside0.mk ((by rw [hg]; exact Nat.ne_of_lt (blk_lt (g := gb519) (o := .cells #[.int .i64 a0_0, .int .i64 a0_1, .int .i64 a0_2, .int .i64 a0_3, .string a0_4, .string a0_5] 114 (0, 0)) (by (with_reducible repeat (first | refine blk_drewN ?_ _ | refine blk_drew ?_ | refine blk_alloc ?_ _)); exact BK519.out)) : gb519 ≠ gb520)); have n6_ := Aside0.mk ((by rw [hg]; exact Nat.ne_of_gt (blk_lt (g := gb519) (o := .cells #[.int .i64 a0_0, .int .i64 a0_1, .int .i64 a0_2, .int .i64 a0_3, .string a0_4, .string a0_5] 114 (0, 0)) (by (with_reducible repeat (first | refine blk_drewN ?_ _ | refine blk_drew ?_ | refine blk_alloc ?_ _)); exact BK519.out)) : gb520 ≠ gb519)); clear BK519; clear HB; have BK519 := n0_; have HB := n1_; have BK520 := n2_; have GW520 := n3_; have GE520 := n4_; have NB519_520 := n5_; have NB520_519 := n6_; clear n0_ n1_ n2_ n3_ n4_ n5_ n6_; clear hb hbox hg; have hnb21 := NB520_519.out; have hnc21 := NB519_520.out; have hcz22_0 : w20.cell? ⟨gb520, 0, none⟩ = some (.int .i64 0) := (blk_cell BK520.out 0).trans rfl; have hcz22_1 : w20.cell? ⟨gb520, 1, none⟩ = some (.int .i64 0) := (blk_cell BK520.out 1).trans rfl; have hcz22_2 : w20.cell? ⟨gb520, 2, none⟩ = some (.int .i64 0) := (blk_cell BK520.out 2).trans rfl; have hcz22_3 : w20.cell? ⟨gb520, 3, none⟩ = some (.int .i64 0) := (blk_cell BK520.out 3).trans rfl; have hcz22_4 : w20.cell? ⟨gb520, 4, none⟩ = some (.string (⟨#[]⟩ : ByteArray)) := (blk_cell BK520.out 4).trans rfl; have hcz22_5 : w20.cell? ⟨gb520, 5, none⟩ = some (.string (⟨#[]⟩ : ByteArray)) := (blk_cell BK520.out 5).trans rfl; have hfz22_0 := blk_frozen BK520.out 0; have hfz22_1 := blk_frozen BK520.out 1; have hfz22_2 := blk_frozen BK520.out 2; have hfz22_3 := blk_frozen BK520.out 3; have hfz22_4 := blk_frozen BK520.out 4; have hfz22_5 := blk_frozen BK520.out 5))
        have n0_ : Aside0 (((((((w20.setCell ⟨gb520, 0, none⟩ (.int .i64 a0_0)).setCell ⟨gb520, 1, none⟩ (.int .i64 a0_1)).setCell ⟨gb520, 2, none⟩ (.int .i64 a0_2)).setCell ⟨gb520, 3, none⟩ (.int .i64 a0_3)).setCell ⟨gb520, 4, none⟩ (.string a0_4)).setCell ⟨gb520, 5, none⟩ (.string a0_5)).heap[gb519]? = some (.cells #[.int .i64 a0_0, .int .i64 a0_1, .int .i64 a0_2, .int .i64 a0_3, .string a0_4, .string a0_5] 114 (0, 0))) := ⟨by (with_reducible repeat (first | refine blk_drewN ?_ _ | refine blk_drew ?_ | refine blk_alloc ?_ _)); refine blk_far ?_ NB519_520.out _; (with_reducible repeat (first | refine blk_drewN ?_ _ | refine blk_drew ?_ | refine blk_alloc ?_ _)); refine blk_far ?_ NB519_520.out _; (with_reducible repeat (first | refine blk_drewN ?_ _ | refine blk_drew ?_ | refine blk_alloc ?_ _)); refine blk_far ?_ NB519_520.out _; (with_reducible repeat (first | refine blk_drewN ?_ _ | refine blk_drew ?_ | refine blk_alloc ?_ _)); refine blk_far ?_ NB519_520.out _; (with_reducible repeat (first | refine blk_drewN ?_ _ | refine blk_drew ?_ | refine blk_alloc ?_ _)); refine blk_far ?_ NB519_520.out _; (with_reducible repeat (first | refine blk_drewN ?_ _ | refine blk_drew ?_ | refine blk_alloc ?_ _)); refine blk_far ?_ NB519_520.out _; (with_reducible repeat (first | refine blk_drewN ?_ _ | refine blk_drew ?_ | refine blk_alloc ?_ _)); exact BK519.out⟩
        have n1_ : Aside0 (((((((w20.setCell ⟨gb520, 0, none⟩ (.int .i64 a0_0)).setCell ⟨gb520, 1, none⟩ (.int .i64 a0_1)).setCell ⟨gb520, 2, none⟩ (.int .i64 a0_2)).setCell ⟨gb520, 3, none⟩ (.int .i64 a0_3)).setCell ⟨gb520, 4, none⟩ (.string a0_4)).setCell ⟨gb520, 5, none⟩ (.string a0_5)).heap[gb520]? = some (.cells #[.int .i64 a0_0, .int .i64 a0_1, .int .i64 a0_2, .int .i64 a0_3, .string a0_4, .string a0_5] 114 (0, 0))) := ⟨by (with_reducible repeat (first | refine blk_drewN ?_ _ | refine blk_drew ?_ | refine blk_alloc ?_ _)); refine blk_put (cs := #[.int .i64 a0_0, .int .i64 a0_1, .int .i64 a0_2, .int .i64 a0_3, .string a0_4, .string (⟨#[]⟩ : ByteArray)]) ?_ 5 _ rfl; (with_reducible repeat (first | refine blk_drewN ?_ _ | refine blk_drew ?_ | refine blk_alloc ?_ _)); refine blk_put (cs := #[.int .i64 a0_0, .int .i64 a0_1, .int .i64 a0_2, .int .i64 a0_3, .string (⟨#[]⟩ : ByteArray), .string (⟨#[]⟩ : ByteArray)]) ?_ 4 _ rfl; (with_reducible repeat (first | refine blk_drewN ?_ _ | refine blk_drew ?_ | refine blk_alloc ?_ _)); refine blk_put (cs := #[.int .i64 a0_0, .int .i64 a0_1, .int .i64 a0_2, .int .i64 0, .string (⟨#[]⟩ : ByteArray), .string (⟨#[]⟩ : ByteArray)]) ?_ 3 _ rfl; (with_reducible repeat (first | refine blk_drewN ?_ _ | refine blk_drew ?_ | refine blk_alloc ?_ _)); refine blk_put (cs := #[.int .i64 a0_0, .int .i64 a0_1, .int .i64 0, .int .i64 0, .string (⟨#[]⟩ : ByteArray), .string (⟨#[]⟩ : ByteArray)]) ?_ 2 _ rfl; (with_reducible repeat (first | refine blk_drewN ?_ _ | refine blk_drew ?_ | refine blk_alloc ?_ _)); refine blk_put (cs := #[.int .i64 a0_0, .int .i64 0, .int .i64 0, .int .i64 0, .string (⟨#[]⟩ : ByteArray), .string (⟨#[]⟩ : ByteArray)]) ?_ 1 _ rfl; (with_reducible repeat (first | refine blk_drewN ?_ _ | refine blk_drew ?_ | refine blk_alloc ?_ _)); refine blk_put (cs := #[.int .i64 0, .int .i64 0, .int .i64 0, .int .i64 0, .string (⟨#[]⟩ : ByteArray), .string (⟨#[]⟩ : ByteArray)]) ?_ 0 _ rfl; (with_reducible repeat (first | refine blk_drewN ?_ _ | refine blk_drew ?_ | refine blk_alloc ?_ _)); exact BK520.out⟩
        have n2_ : Aside0 (Below w.heap.size w ((((((w20.setCell ⟨gb520, 0, none⟩ (.int .i64 a0_0)).setCell ⟨gb520, 1, none⟩ (.int .i64 a0_1)).setCell ⟨gb520, 2, none⟩ (.int .i64 a0_2)).setCell ⟨gb520, 3, none⟩ (.int .i64 a0_3)).setCell ⟨gb520, 4, none⟩ (.string a0_4)).setCell ⟨gb520, 5, none⟩ (.string a0_5))) := ⟨by repeat (first | (with_reducible first | exact HB.out | apply below_alloc | apply pw_below_drewN | apply below_drew1 | refine below_set ?_ GE519.out | refine below_set ?_ GE520.out) | exact HB.out)⟩
        (try clear BK519)
        (try clear BK520)
        (try clear HB)
        generalize ((((((w20.setCell ⟨gb520, 0, none⟩ (.int .i64 a0_0)).setCell ⟨gb520, 1, none⟩ (.int .i64 a0_1)).setCell ⟨gb520, 2, none⟩ (.int .i64 a0_2)).setCell ⟨gb520, 3, none⟩ (.int .i64 a0_3)).setCell ⟨gb520, 4, none⟩ (.string a0_4)).setCell ⟨gb520, 5, none⟩ (.string a0_5)) = w23 at n0_ n1_ n2_ ⊢
        have BK519 := n0_
        have BK520 := n1_
        have HB := n2_
        clear n0_ n1_ n2_
        have n0_ := Aside0.mk (blk_drew BK519.out)
        have n1_ := Aside0.mk (blk_drew BK520.out)
        have n2_ := Aside0.mk (below_drew1 HB.out)
        clear BK519
        clear BK520
        clear HB
        have BK519 := n0_
        have BK520 := n1_
        have HB := n2_
        clear n0_ n1_ n2_
        refine start_ (n := 20) (S := fun w' => w'.cell? ⟨gb519, 0, none⟩ = some (.int .i64 a0_0) ∧ w'.cell? ⟨gb519, 1, none⟩ = some (.int .i64 a0_1) ∧ w'.cell? ⟨gb519, 2, none⟩ = some (.int .i64 a0_2) ∧ w'.cell? ⟨gb519, 3, none⟩ = some (.int .i64 a0_3) ∧ w'.cell? ⟨gb519, 4, none⟩ = some (.string a0_4) ∧ w'.cell? ⟨gb519, 5, none⟩ = some (.string a0_5)) (ds := []) #[false, false, false, false, false, false, false, false, false, false, false, false, false, false, false, false, false, false, false, false] (by kernel_rfl) rfl rfl ⟨(blk_cell BK519.out 0).trans rfl, (blk_cell BK519.out 1).trans rfl, (blk_cell BK519.out 2).trans rfl, (blk_cell BK519.out 3).trans rfl, (blk_cell BK519.out 4).trans rfl, (blk_cell BK519.out 5).trans rfl⟩ (fun hHeld => ?_); refine with_tabW ip6_Check.tab2 ip6_Check.bits2 (fun HT_ HW_ => ?_)
        generalize w23.drew = w24 at BK519 BK520 HB hHeld ⊢
        refine pure_ (i := 0) (N := some 5) (v := ?_) (a' := ?_) #[true, false, false, false, false, false, false, false, false, false, false, false, false, false, false, false, false, false, false, false] rfl rfl (any_of HT_.out (by kernel_rfl)) (fun _ _ _ h => h) (Or.inl ⟨by rfl, ?_⟩) ?_ ?_
        rotate_left
        · intro w'
          go_simp
          with_reducible rfl
        rotate_left
        · simp only [Act.put, List.setIfInBounds_toArray, List.set_cons_zero, List.set_cons_succ, i64_w, i32_w]
          rfl
        refine pure_ (i := 3) (N := some 8) (v := ?_) (a' := ?_) #[true, false, false, true, false, false, false, false, false, false, false, false, false, false, false, false, false, false, false, false] rfl rfl (any_of HT_.out (by kernel_rfl)) (fun _ _ _ h => h) (Or.inl ⟨by rfl, ?_⟩) ?_ ?_
        rotate_left
        · intro w'
          go_simp
          with_reducible rfl
        rotate_left
        · simp only [Act.put, List.setIfInBounds_toArray, List.set_cons_zero, List.set_cons_succ, i64_w, i32_w]
          rfl
        refine pure_ (i := 6) (N := some 11) (v := ?_) (a' := ?_) #[true, false, false, true, false, false, true, false, false, false, false, false, false, false, false, false, false, false, false, false] rfl rfl (any_of HT_.out (by kernel_rfl)) (fun _ _ _ h => h) (Or.inl ⟨by rfl, ?_⟩) ?_ ?_
        rotate_left
        · intro w'
          go_simp
          with_reducible rfl
        rotate_left
        · simp only [Act.put, List.setIfInBounds_toArray, List.set_cons_zero, List.set_cons_succ, i64_w, i32_w]
          rfl
        refine pure_ (i := 9) (N := some 14) (v := ?_) (a' := ?_) #[true, false, false, true, false, false, true, false, false, true, false, false, false, false, false, false, false, false, false, false] rfl rfl (any_of HT_.out (by kernel_rfl)) (fun _ _ _ h => h) (Or.inl ⟨by rfl, ?_⟩) ?_ ?_
        rotate_left
        · intro w'
          go_simp
          with_reducible rfl
        rotate_left
        · simp only [Act.put, List.setIfInBounds_toArray, List.set_cons_zero, List.set_cons_succ, i64_w, i32_w]
          rfl
        refine take_ (i := 1) (N := some 6) (v := ?_) (a' := ?_) #[true, true, false, true, false, false, true, false, false, true, false, false, false, false, false, false, false, false, false, false] rfl rfl (take_ofW HT_.out HW_.out (by kernel_rfl)) (fun _ _ _ h => h) (Or.inl ⟨by rfl, ?_⟩) hHeld ?_ ?_
        rotate_left
        · rintro w' ⟨s0, s1, s2, s3, s4, s5⟩
          go_simp
          with_reducible rfl
        rotate_left
        · simp only [Act.put, List.setIfInBounds_toArray, List.set_cons_zero, List.set_cons_succ, i64_w, i32_w]
          rfl
        refine pure_ (i := 2) (N := some 7) (v := ?_) (a' := ?_) #[true, true, true, true, false, false, true, false, false, true, false, false, false, false, false, false, false, false, false, false] rfl rfl (any_of HT_.out (by kernel_rfl)) (fun _ _ _ h => h) (Or.inl ⟨by rfl, ?_⟩) ?_ ?_
        rotate_left
        · intro w'
          go_simp
          with_reducible rfl
        rotate_left
        · simp only [Act.put, List.setIfInBounds_toArray, List.set_cons_zero, List.set_cons_succ, i64_w, i32_w]
          rfl
        refine pure_ (i := 12) (N := some 17) (v := ?_) (a' := ?_) #[true, true, true, true, false, false, true, false, false, true, false, false, true, false, false, false, false, false, false, false] rfl rfl (any_of HT_.out (by kernel_rfl)) (fun _ _ _ h => h) (Or.inl ⟨by rfl, ?_⟩) ?_ ?_
        rotate_left
        · intro w'
          go_simp
          with_reducible rfl
        rotate_left
        · simp only [Act.put, List.setIfInBounds_toArray, List.set_cons_zero, List.set_cons_succ, i64_w, i32_w]
          rfl
        refine take_ (i := 4) (N := some 9) (v := ?_) (a' := ?_) #[true, true, true, true, true, false, true, false, false, true, false, false, true, false, false, false, false, false, false, false] rfl rfl (take_ofW HT_.out HW_.out (by kernel_rfl)) (fun _ _ _ h => h) (Or.inl ⟨by rfl, ?_⟩) hHeld ?_ ?_
        rotate_left
        · rintro w' ⟨s0, s1, s2, s3, s4, s5⟩
          go_simp
          with_reducible rfl
        rotate_left
        · simp only [Act.put, List.setIfInBounds_toArray, List.set_cons_zero, List.set_cons_succ, i64_w, i32_w]
          rfl
        refine pure_ (i := 5) (N := some 10) (v := ?_) (a' := ?_) #[true, true, true, true, true, true, true, false, false, true, false, false, true, false, false, false, false, false, false, false] rfl rfl (any_of HT_.out (by kernel_rfl)) (fun _ _ _ h => h) (Or.inl ⟨by rfl, ?_⟩) ?_ ?_
        rotate_left
        · intro w'
          go_simp
          with_reducible rfl
        rotate_left
        · simp only [Act.put, List.setIfInBounds_toArray, List.set_cons_zero, List.set_cons_succ, i64_w, i32_w]
          rfl
        refine take_ (i := 7) (N := some 12) (v := ?_) (a' := ?_) #[true, true, true, true, true, true, true, true, false, true, false, false, true, false, false, false, false, false, false, false] rfl rfl (take_ofW HT_.out HW_.out (by kernel_rfl)) (fun _ _ _ h => h) (Or.inl ⟨by rfl, ?_⟩) hHeld ?_ ?_
        rotate_left
        · rintro w' ⟨s0, s1, s2, s3, s4, s5⟩
          go_simp
          with_reducible rfl
        rotate_left
        · simp only [Act.put, List.setIfInBounds_toArray, List.set_cons_zero, List.set_cons_succ, i64_w, i32_w]
          rfl
        refine pure_ (i := 8) (N := some 13) (v := ?_) (a' := ?_) #[true, true, true, true, true, true, true, true, true, true, false, false, true, false, false, false, false, false, false, false] rfl rfl (any_of HT_.out (by kernel_rfl)) (fun _ _ _ h => h) (Or.inl ⟨by rfl, ?_⟩) ?_ ?_
        rotate_left
        · intro w'
          go_simp
          with_reducible rfl
        rotate_left
        · simp only [Act.put, List.setIfInBounds_toArray, List.set_cons_zero, List.set_cons_succ, i64_w, i32_w]
          rfl
        refine take_ (i := 10) (N := some 15) (v := ?_) (a' := ?_) #[true, true, true, true, true, true, true, true, true, true, true, false, true, false, false, false, false, false, false, false] rfl rfl (take_ofW HT_.out HW_.out (by kernel_rfl)) (fun _ _ _ h => h) (Or.inl ⟨by rfl, ?_⟩) hHeld ?_ ?_
        rotate_left
        · rintro w' ⟨s0, s1, s2, s3, s4, s5⟩
          go_simp
          with_reducible rfl
        rotate_left
        · simp only [Act.put, List.setIfInBounds_toArray, List.set_cons_zero, List.set_cons_succ, i64_w, i32_w]
          rfl
        refine pure_ (i := 11) (N := some 16) (v := ?_) (a' := ?_) #[true, true, true, true, true, true, true, true, true, true, true, true, true, false, false, false, false, false, false, false] rfl rfl (any_of HT_.out (by kernel_rfl)) (fun _ _ _ h => h) (Or.inl ⟨by rfl, ?_⟩) ?_ ?_
        rotate_left
        · intro w'
          go_simp
          with_reducible rfl
        rotate_left
        · simp only [Act.put, List.setIfInBounds_toArray, List.set_cons_zero, List.set_cons_succ, i64_w, i32_w]
          rfl
        refine one_ (i := 13) (N := none) #[true, true, true, true, true, true, true, true, true, true, true, true, true, true, false, false, false, false, false, false] rfl rfl (one_of HT_.out (by kernel_rfl)) (by decide) (fun K hK => ?_)
        have hs25 : w24.cell? ⟨gb520, 0, none⟩ = some (.int .i64 a0_0) := (blk_cell BK520.out 0).trans rfl
        have hfs25 := blk_frozen BK520.out 0
        have hns25_0 := NB519_520.out
        have hms25_0 := NB520_519.out
        refine skip_ (w1 := ?_) (by rfl) rfl ?_ ?_
        rotate_left
        · go_simp
          rfl
        refine hK.out _ _ ⟨((cell_far (p := ⟨gb520, _, none⟩) NB519_520.out _).trans (hHeld.1)), ((cell_far (p := ⟨gb520, _, none⟩) NB519_520.out _).trans (hHeld.2.1)), ((cell_far (p := ⟨gb520, _, none⟩) NB519_520.out _).trans (hHeld.2.2.1)), ((cell_far (p := ⟨gb520, _, none⟩) NB519_520.out _).trans (hHeld.2.2.2.1)), ((cell_far (p := ⟨gb520, _, none⟩) NB519_520.out _).trans (hHeld.2.2.2.2.1)), ((cell_far (p := ⟨gb520, _, none⟩) NB519_520.out _).trans (hHeld.2.2.2.2.2))⟩ (fun hHeld => ?_)
        clear hK K
        refine pure_ (i := 14) (N := some 18) (v := ?_) (a' := ?_) #[true, true, true, true, true, true, true, true, true, true, true, true, true, true, true, false, false, false, false, false] rfl rfl (any_of HT_.out (by kernel_rfl)) (fun _ _ _ h => h) (Or.inl ⟨by rfl, ?_⟩) ?_ ?_
        rotate_left
        · intro w'
          go_simp
          with_reducible rfl
        rotate_left
        · simp only [Act.put, List.setIfInBounds_toArray, List.set_cons_zero, List.set_cons_succ, i64_w, i32_w]
          rfl
        refine one_ (i := 15) (N := none) #[true, true, true, true, true, true, true, true, true, true, true, true, true, true, true, true, false, false, false, false] rfl rfl (one_of HT_.out (by kernel_rfl)) (by decide) (fun K hK => ?_)
        have hs26 : w24.cell? ⟨gb520, 2, none⟩ = some (.int .i64 a0_2) := (blk_cell BK520.out 2).trans rfl
        have hfs26 := blk_frozen BK520.out 2
        have hns26_0 := NB519_520.out
        have hms26_0 := NB520_519.out
        refine skip_ (w1 := ?_) (by rfl) rfl ?_ ?_
        rotate_left
        · go_simp
          rfl
        refine hK.out _ _ ⟨((cell_far (p := ⟨gb520, _, none⟩) NB519_520.out _).trans (hHeld.1)), ((cell_far (p := ⟨gb520, _, none⟩) NB519_520.out _).trans (hHeld.2.1)), ((cell_far (p := ⟨gb520, _, none⟩) NB519_520.out _).trans (hHeld.2.2.1)), ((cell_far (p := ⟨gb520, _, none⟩) NB519_520.out _).trans (hHeld.2.2.2.1)), ((cell_far (p := ⟨gb520, _, none⟩) NB519_520.out _).trans (hHeld.2.2.2.2.1)), ((cell_far (p := ⟨gb520, _, none⟩) NB519_520.out _).trans (hHeld.2.2.2.2.2))⟩ (fun hHeld => ?_)
        clear hK K
        refine pure_ (i := 16) (N := some 19) (v := ?_) (a' := ?_) #[true, true, true, true, true, true, true, true, true, true, true, true, true, true, true, true, true, false, false, false] rfl rfl (any_of HT_.out (by kernel_rfl)) (fun _ _ _ h => h) (Or.inl ⟨by rfl, ?_⟩) ?_ ?_
        rotate_left
        · intro w'
          go_simp
          with_reducible rfl
        rotate_left
        · simp only [Act.put, List.setIfInBounds_toArray, List.set_cons_zero, List.set_cons_succ, i64_w, i32_w]
          rfl
        refine one_ (i := 17) (N := none) #[true, true, true, true, true, true, true, true, true, true, true, true, true, true, true, true, true, true, false, false] rfl rfl (one_of HT_.out (by kernel_rfl)) (by decide) (fun K hK => ?_)
        have hs27 : w24.cell? ⟨gb520, 3, none⟩ = some (.int .i64 a0_3) := (blk_cell BK520.out 3).trans rfl
        have hfs27 := blk_frozen BK520.out 3
        have hns27_0 := NB519_520.out
        have hms27_0 := NB520_519.out
        refine skip_ (w1 := ?_) (by rfl) rfl ?_ ?_
        rotate_left
        · go_simp
          rfl
        refine hK.out _ _ ⟨((cell_far (p := ⟨gb520, _, none⟩) NB519_520.out _).trans (hHeld.1)), ((cell_far (p := ⟨gb520, _, none⟩) NB519_520.out _).trans (hHeld.2.1)), ((cell_far (p := ⟨gb520, _, none⟩) NB519_520.out _).trans (hHeld.2.2.1)), ((cell_far (p := ⟨gb520, _, none⟩) NB519_520.out _).trans (hHeld.2.2.2.1)), ((cell_far (p := ⟨gb520, _, none⟩) NB519_520.out _).trans (hHeld.2.2.2.2.1)), ((cell_far (p := ⟨gb520, _, none⟩) NB519_520.out _).trans (hHeld.2.2.2.2.2))⟩ (fun hHeld => ?_)
        clear hK K
        refine pure_ (i := 18) (N := some 20) (v := ?_) (a' := ?_) #[true, true, true, true, true, true, true, true, true, true, true, true, true, true, true, true, true, true, true, false] rfl rfl (any_of HT_.out (by kernel_rfl)) (fun _ _ _ h => h) (Or.inl ⟨by rfl, ?_⟩) ?_ ?_
        rotate_left
        · intro w'
          go_simp
          with_reducible rfl
        rotate_left
        · simp only [Act.put, List.setIfInBounds_toArray, List.set_cons_zero, List.set_cons_succ, i64_w, i32_w]
          rfl
        refine one_ (i := 19) (N := none) #[true, true, true, true, true, true, true, true, true, true, true, true, true, true, true, true, true, true, true, true] rfl rfl (one_of HT_.out (by kernel_rfl)) (by decide) (fun K hK => ?_)
        have hs28 : w24.cell? ⟨gb520, 1, none⟩ = some (.int .i64 a0_1) := (blk_cell BK520.out 1).trans rfl
        have hfs28 := blk_frozen BK520.out 1
        have hns28_0 := NB519_520.out
        have hms28_0 := NB520_519.out
        refine skip_ (w1 := ?_) (by rfl) rfl ?_ ?_
        rotate_left
        · go_simp
          rfl
        refine hK.out _ _ ⟨((cell_far (p := ⟨gb520, _, none⟩) NB519_520.out _).trans (hHeld.1)), ((cell_far (p := ⟨gb520, _, none⟩) NB519_520.out _).trans (hHeld.2.1)), ((cell_far (p := ⟨gb520, _, none⟩) NB519_520.out _).trans (hHeld.2.2.1)), ((cell_far (p := ⟨gb520, _, none⟩) NB519_520.out _).trans (hHeld.2.2.2.1)), ((cell_far (p := ⟨gb520, _, none⟩) NB519_520.out _).trans (hHeld.2.2.2.2.1)), ((cell_far (p := ⟨gb520, _, none⟩) NB519_520.out _).trans (hHeld.2.2.2.2.2))⟩ (fun hHeld => ?_)
        clear hK K
        refine done_ (done_of HT_.out (by kernel_rfl)) ?_
        have hcz29_0 : w24.cell? ⟨gb520, 0, none⟩ = some (.int .i64 a0_0) := (blk_cell BK520.out 0).trans rfl
        have hcz29_1 : w24.cell? ⟨gb520, 1, none⟩ = some (.int .i64 a0_1) := (blk_cell BK520.out 1).trans rfl
        have hcz29_2 : w24.cell? ⟨gb520, 2, none⟩ = some (.int .i64 a0_2) := (blk_cell BK520.out 2).trans rfl
        have hcz29_3 : w24.cell? ⟨gb520, 3, none⟩ = some (.int .i64 a0_3) := (blk_cell BK520.out 3).trans rfl
        have hcz29_4 : w24.cell? ⟨gb520, 4, none⟩ = some (.string a0_4) := (blk_cell BK520.out 4).trans rfl
        have hcz29_5 : w24.cell? ⟨gb520, 5, none⟩ = some (.string a0_5) := (blk_cell BK520.out 5).trans rfl
        have hfz29_0 := blk_frozen BK520.out 0
        have hfz29_1 := blk_frozen BK520.out 1
        have hfz29_2 := blk_frozen BK520.out 2
        have hfz29_3 := blk_frozen BK520.out 3
        have hfz29_4 := blk_frozen BK520.out 4
        have hfz29_5 := blk_frozen BK520.out 5
        have hcz30_0 : w24.cell? ⟨gb519, 0, none⟩ = some (.int .i64 a0_0) := (blk_cell BK519.out 0).trans rfl
        have hcz30_1 : w24.cell? ⟨gb519, 1, none⟩ = some (.int .i64 a0_1) := (blk_cell BK519.out 1).trans rfl
        have hcz30_2 : w24.cell? ⟨gb519, 2, none⟩ = some (.int .i64 a0_2) := (blk_cell BK519.out 2).trans rfl
        have hcz30_3 : w24.cell? ⟨gb519, 3, none⟩ = some (.int .i64 a0_3) := (blk_cell BK519.out 3).trans rfl
        have hcz30_4 : w24.cell? ⟨gb519, 4, none⟩ = some (.string a0_4) := (blk_cell BK519.out 4).trans rfl
        have hcz30_5 : w24.cell? ⟨gb519, 5, none⟩ = some (.string a0_5) := (blk_cell BK519.out 5).trans rfl
        have hfz30_0 := blk_frozen BK519.out 0
        have hfz30_1 := blk_frozen BK519.out 1
        have hfz30_2 := blk_frozen BK519.out 2
        have hfz30_3 := blk_frozen BK519.out 3
        have hfz30_4 := blk_frozen BK519.out 4
        have hfz30_5 := blk_frozen BK519.out 5
        try go_wp2
        go_ret
        exact ⟨by first | rfl | (simp [errW_none, errW_some] <;> rfl) | (simp [*, errW_none, errW_some] <;> rfl), by repeat (first | (with_reducible first | exact HB.out | apply below_alloc | apply pw_below_drewN | apply below_drew1 | refine below_set ?_ GE519.out | refine below_set ?_ GE520.out) | exact HB.out)⟩
      · rw [if_neg c17] at H
        have c17b0 : ((a0_5.size : Int) == 16) = false := beq_eq_false_iff_ne.mpr c17
        have c17b1 : ((a0_5.size : Int) != 16) = true := bne_iff_ne.mpr c17
        obtain rfl := Option.some.inj H
        go_enter Try.func102, Try.ntmps102
        try go_wp2_with (first | ((with_reducible refine gate_dst (N := 1) rfl ?_); (try (refine gate_guard (by rfl) ?_; dsimp only)); refine box_event ?hg (N := 1) ?hd (cs := #[.int .i64 a0_0, .int .i64 a0_1, .int .i64 a0_2, .int .i64 a0_3, .string a0_4, .string a0_5]) (t := 114) ?hr ?_; (case hd => rfl); (case hg => rfl); (case hr => first | (go_simp; done) | (go_simp; rfl)); intro gb519 hg w31 hbox hb; have n0_ := Aside0.mk (below_step (by repeat (first | (with_reducible first | exact HB.out | apply below_alloc | apply pw_below_drewN | apply below_drew1) | exact HB.out)) hb); have n1_ := Aside0.mk (hbox); have n2_ := Aside0.mk ((by rw [hg]; exact (below_size (by repeat (first | (with_reducible first | exact HB.out | apply below_alloc | apply pw_below_drewN | apply below_drew1) | exact HB.out))) : w.heap.size ≤ gb519)); have n3_ := Aside0.mk ((by rw [hg]; exact (below_size (by repeat (first | (with_reducible first | exact HB.out | apply below_alloc | apply pw_below_drewN | apply below_drew1) | exact HB.out))) : w.heap.size ≤ gb519)); clear HB; have HB := n0_; have BK519 := n1_; have GW519 := n2_; have GE519 := n3_; clear n0_ n1_ n2_ n3_; clear hb hbox hg; have hcz32_0 : w31.cell? ⟨gb519, 0, none⟩ = some (.int .i64 a0_0) := (blk_cell BK519.out 0).trans rfl; have hcz32_1 : w31.cell? ⟨gb519, 1, none⟩ = some (.int .i64 a0_1) := (blk_cell BK519.out 1).trans rfl; have hcz32_2 : w31.cell? ⟨gb519, 2, none⟩ = some (.int .i64 a0_2) := (blk_cell BK519.out 2).trans rfl; have hcz32_3 : w31.cell? ⟨gb519, 3, none⟩ = some (.int .i64 a0_3) := (blk_cell BK519.out 3).trans rfl; have hcz32_4 : w31.cell? ⟨gb519, 4, none⟩ = some (.string a0_4) := (blk_cell BK519.out 4).trans rfl; have hcz32_5 : w31.cell? ⟨gb519, 5, none⟩ = some (.string a0_5) := (blk_cell BK519.out 5).trans rfl; have hfz32_0 := blk_frozen BK519.out 0; have hfz32_1 := blk_frozen BK519.out 1; have hfz32_2 := blk_frozen BK519.out 2; have hfz32_3 := blk_frozen BK519.out 3; have hfz32_4 := blk_frozen BK519.out 4; have hfz32_5 := blk_frozen BK519.out 5) | ((with_reducible refine gate_dst (N := 3) rfl ?_); (try (refine gate_guard (by rfl) ?_; dsimp only)); refine box_event ?hg (N := 3) ?hd (cs := #[.int .i64 0, .int .i64 0, .int .i64 0, .int .i64 0, .string (⟨#[]⟩ : ByteArray), .string (⟨#[]⟩ : ByteArray)]) (t := 114) ?hr ?_; (case hd => rfl); (case hg => rfl); (case hr => first | (go_simp; done) | (go_simp; rfl)); intro gb520 hg w33 hbox hb; have n0_ := Aside0.mk (blk_below (g := gb519) (o := .cells #[.int .i64 a0_0, .int .i64 a0_1, .int .i64 a0_2, .int .i64 a0_3, .string a0_4, .string a0_5] 114 (0, 0)) (by (with_reducible repeat (first | refine blk_drewN ?_ _ | refine blk_drew ?_ | refine blk_alloc ?_ _)); exact BK519.out) hb); have n1_ := Aside0.mk (below_step (by repeat (first | (with_reducible first | exact HB.out | apply below_alloc | apply pw_below_drewN | apply below_drew1 | refine below_set ?_ GE519.out) | exact HB.out)) hb); have n2_ := Aside0.mk (hbox); have n3_ := Aside0.mk ((by rw [hg]; exact (below_size (by repeat (first | (with_reducible first | exact HB.out | apply below_alloc | apply pw_below_drewN | apply below_drew1 | refine below_set ?_ GE519.out) | exact HB.out))) : w.heap.size ≤ gb520)); have n4_ := Aside0.mk ((by rw [hg]; exact (below_size (by repeat (first | (with_reducible first | exact HB.out | apply below_alloc | apply pw_below_drewN | apply below_drew1 | refine below_set ?_ GE519.out) | exact HB.out))) : w.heap.size ≤ gb520)); have n5_ := Aside0.mk ((by rw [hg]; exact Nat.ne_of_lt (blk_lt (g := gb519) (o := .cells #[.int .i64 a0_0, .int .i64 a0_1, .int .i64 a0_2, .int .i64 a0_3, .string a0_4, .string a0_5] 114 (0, 0)) (by (with_reducible repeat (first | refine blk_drewN ?_ _ | refine blk_drew ?_ | refine blk_alloc ?_ _)); exact BK519.out)) : gb519 ≠ gb520)); have n6_ := Aside0.mk ((by rw [hg]; exact Nat.ne_of_gt (blk_lt (g := gb519) (o := .cells #[.int .i64 a0_0, .int .i64 a0_1, .int .i64 a0_2, .int .i64 a0_3, .string a0_4, .string a0_5] 114 (0, 0)) (by (with_reducible repeat (first | refine blk_drewN ?_ _ | refine blk_drew ?_ | refine blk_alloc ?_ _)); exact BK519.out)) : gb520 ≠ gb519)); clear BK519; clear HB; have BK519 := n0_; have HB := n1_; have BK520 := n2_; have GW520 := n3_; have GE520 := n4_; have NB519_520 := n5_; have NB520_519 := n6_; clear n0_ n1_ n2_ n3_ n4_ n5_ n6_; clear hb hbox hg; have hnb34 := NB520_519.out; have hnc34 := NB519_520.out; have hcz35_0 : w33.cell? ⟨gb520, 0, none⟩ = some (.int .i64 0) := (blk_cell BK520.out 0).trans rfl; have hcz35_1 : w33.cell? ⟨gb520, 1, none⟩ = some (.int .i64 0) := (blk_cell BK520.out 1).trans rfl; have hcz35_2 : w33.cell? ⟨gb520, 2, none⟩ = some (.int .i64 0) := (blk_cell BK520.out 2).trans rfl; have hcz35_3 : w33.cell? ⟨gb520, 3, none⟩ = some (.int .i64 0) := (blk_cell BK520.out 3).trans rfl; have hcz35_4 : w33.cell? ⟨gb520, 4, none⟩ = some (.string (⟨#[]⟩ : ByteArray)) := (blk_cell BK520.out 4).trans rfl; have hcz35_5 : w33.cell? ⟨gb520, 5, none⟩ = some (.string (⟨#[]⟩ : ByteArray)) := (blk_cell BK520.out 5).trans rfl; have hfz35_0 := blk_frozen BK520.out 0; have hfz35_1 := blk_frozen BK520.out 1; have hfz35_2 := blk_frozen BK520.out 2; have hfz35_3 := blk_frozen BK520.out 3; have hfz35_4 := blk_frozen BK520.out 4; have hfz35_5 := blk_frozen BK520.out 5))
        have n0_ : Aside0 (((((((w33.setCell ⟨gb520, 0, none⟩ (.int .i64 a0_0)).setCell ⟨gb520, 1, none⟩ (.int .i64 a0_1)).setCell ⟨gb520, 2, none⟩ (.int .i64 a0_2)).setCell ⟨gb520, 3, none⟩ (.int .i64 a0_3)).setCell ⟨gb520, 4, none⟩ (.string a0_4)).setCell ⟨gb520, 5, none⟩ (.string a0_5)).heap[gb519]? = some (.cells #[.int .i64 a0_0, .int .i64 a0_1, .int .i64 a0_2, .int .i64 a0_3, .string a0_4, .string a0_5] 114 (0, 0))) := ⟨by (with_reducible repeat (first | refine blk_drewN ?_ _ | refine blk_drew ?_ | refine blk_alloc ?_ _)); refine blk_far ?_ NB519_520.out _; (with_reducible repeat (first | refine blk_drewN ?_ _ | refine blk_drew ?_ | refine blk_alloc ?_ _)); refine blk_far ?_ NB519_520.out _; (with_reducible repeat (first | refine blk_drewN ?_ _ | refine blk_drew ?_ | refine blk_alloc ?_ _)); refine blk_far ?_ NB519_520.out _; (with_reducible repeat (first | refine blk_drewN ?_ _ | refine blk_drew ?_ | refine blk_alloc ?_ _)); refine blk_far ?_ NB519_520.out _; (with_reducible repeat (first | refine blk_drewN ?_ _ | refine blk_drew ?_ | refine blk_alloc ?_ _)); refine blk_far ?_ NB519_520.out _; (with_reducible repeat (first | refine blk_drewN ?_ _ | refine blk_drew ?_ | refine blk_alloc ?_ _)); refine blk_far ?_ NB519_520.out _; (with_reducible repeat (first | refine blk_drewN ?_ _ | refine blk_drew ?_ | refine blk_alloc ?_ _)); exact BK519.out⟩
        have n1_ : Aside0 (((((((w33.setCell ⟨gb520, 0, none⟩ (.int .i64 a0_0)).setCell ⟨gb520, 1, none⟩ (.int .i64 a0_1)).setCell ⟨gb520, 2, none⟩ (.int .i64 a0_2)).setCell ⟨gb520, 3, none⟩ (.int .i64 a0_3)).setCell ⟨gb520, 4, none⟩ (.string a0_4)).setCell ⟨gb520, 5, none⟩ (.string a0_5)).heap[gb520]? = some (.cells #[.int .i64 a0_0, .int .i64 a0_1, .int .i64 a0_2, .int .i64 a0_3, .string a0_4, .string a0_5] 114 (0, 0))) := ⟨by (with_reducible repeat (first | refine blk_drewN ?_ _ | refine blk_drew ?_ | refine blk_alloc ?_ _)); refine blk_put (cs := #[.int .i64 a0_0, .int .i64 a0_1, .int .i64 a0_2, .int .i64 a0_3, .string a0_4, .string (⟨#[]⟩ : ByteArray)]) ?_ 5 _ rfl; (with_reducible repeat (first | refine blk_drewN ?_ _ | refine blk_drew ?_ | refine blk_alloc ?_ _)); refine blk_put (cs := #[.int .i64 a0_0, .int .i64 a0_1, .int .i64 a0_2, .int .i64 a0_3, .string (⟨#[]⟩ : ByteArray), .string (⟨#[]⟩ : ByteArray)]) ?_ 4 _ rfl; (with_reducible repeat (first | refine blk_drewN ?_ _ | refine blk_drew ?_ | refine blk_alloc ?_ _)); refine blk_put (cs := #[.int .i64 a0_0, .int .i64 a0_1, .int .i64 a0_2, .int .i64 0, .string (⟨#[]⟩ : ByteArray), .string (⟨#[]⟩ : ByteArray)]) ?_ 3 _ rfl; (with_reducible repeat (first | refine blk_drewN ?_ _ | refine blk_drew ?_ | refine blk_alloc ?_ _)); refine blk_put (cs := #[.int .i64 a0_0, .int .i64 a0_1, .int .i64 0, .int .i64 0, .string (⟨#[]⟩ : ByteArray), .string (⟨#[]⟩ : ByteArray)]) ?_ 2 _ rfl; (with_reducible repeat (first | refine blk_drewN ?_ _ | refine blk_drew ?_ | refine blk_alloc ?_ _)); refine blk_put (cs := #[.int .i64 a0_0, .int .i64 0, .int .i64 0, .int .i64 0, .string (⟨#[]⟩ : ByteArray), .string (⟨#[]⟩ : ByteArray)]) ?_ 1 _ rfl; (with_reducible repeat (first | refine blk_drewN ?_ _ | refine blk_drew ?_ | refine blk_alloc ?_ _)); refine blk_put (cs := #[.int .i64 0, .int .i64 0, .int .i64 0, .int .i64 0, .string (⟨#[]⟩ : ByteArray), .string (⟨#[]⟩ : ByteArray)]) ?_ 0 _ rfl; (with_reducible repeat (first | refine blk_drewN ?_ _ | refine blk_drew ?_ | refine blk_alloc ?_ _)); exact BK520.out⟩
        have n2_ : Aside0 (Below w.heap.size w ((((((w33.setCell ⟨gb520, 0, none⟩ (.int .i64 a0_0)).setCell ⟨gb520, 1, none⟩ (.int .i64 a0_1)).setCell ⟨gb520, 2, none⟩ (.int .i64 a0_2)).setCell ⟨gb520, 3, none⟩ (.int .i64 a0_3)).setCell ⟨gb520, 4, none⟩ (.string a0_4)).setCell ⟨gb520, 5, none⟩ (.string a0_5))) := ⟨by repeat (first | (with_reducible first | exact HB.out | apply below_alloc | apply pw_below_drewN | apply below_drew1 | refine below_set ?_ GE519.out | refine below_set ?_ GE520.out) | exact HB.out)⟩
        (try clear BK519)
        (try clear BK520)
        (try clear HB)
        generalize ((((((w33.setCell ⟨gb520, 0, none⟩ (.int .i64 a0_0)).setCell ⟨gb520, 1, none⟩ (.int .i64 a0_1)).setCell ⟨gb520, 2, none⟩ (.int .i64 a0_2)).setCell ⟨gb520, 3, none⟩ (.int .i64 a0_3)).setCell ⟨gb520, 4, none⟩ (.string a0_4)).setCell ⟨gb520, 5, none⟩ (.string a0_5)) = w36 at n0_ n1_ n2_ ⊢
        have BK519 := n0_
        have BK520 := n1_
        have HB := n2_
        clear n0_ n1_ n2_
        have n0_ := Aside0.mk (blk_drew BK519.out)
        have n1_ := Aside0.mk (blk_drew BK520.out)
        have n2_ := Aside0.mk (below_drew1 HB.out)
        clear BK519
        clear BK520
        clear HB
        have BK519 := n0_
        have BK520 := n1_
        have HB := n2_
        clear n0_ n1_ n2_
        refine start_ (n := 20) (S := fun w' => w'.cell? ⟨gb519, 0, none⟩ = some (.int .i64 a0_0) ∧ w'.cell? ⟨gb519, 1, none⟩ = some (.int .i64 a0_1) ∧ w'.cell? ⟨gb519, 2, none⟩ = some (.int .i64 a0_2) ∧ w'.cell? ⟨gb519, 3, none⟩ = some (.int .i64 a0_3) ∧ w'.cell? ⟨gb519, 4, none⟩ = some (.string a0_4) ∧ w'.cell? ⟨gb519, 5, none⟩ = some (.string a0_5)) (ds := []) #[false, false, false, false, false, false, false, false, false, false, false, false, false, false, false, false, false, false, false, false] (by kernel_rfl) rfl rfl ⟨(blk_cell BK519.out 0).trans rfl, (blk_cell BK519.out 1).trans rfl, (blk_cell BK519.out 2).trans rfl, (blk_cell BK519.out 3).trans rfl, (blk_cell BK519.out 4).trans rfl, (blk_cell BK519.out 5).trans rfl⟩ (fun hHeld => ?_); refine with_tabW ip6_Check.tab2 ip6_Check.bits2 (fun HT_ HW_ => ?_)
        generalize w36.drew = w37 at BK519 BK520 HB hHeld ⊢
        refine pure_ (i := 0) (N := some 5) (v := ?_) (a' := ?_) #[true, false, false, false, false, false, false, false, false, false, false, false, false, false, false, false, false, false, false, false] rfl rfl (any_of HT_.out (by kernel_rfl)) (fun _ _ _ h => h) (Or.inl ⟨by rfl, ?_⟩) ?_ ?_
        rotate_left
        · intro w'
          go_simp
          with_reducible rfl
        rotate_left
        · simp only [Act.put, List.setIfInBounds_toArray, List.set_cons_zero, List.set_cons_succ, i64_w, i32_w]
          rfl
        refine pure_ (i := 3) (N := some 8) (v := ?_) (a' := ?_) #[true, false, false, true, false, false, false, false, false, false, false, false, false, false, false, false, false, false, false, false] rfl rfl (any_of HT_.out (by kernel_rfl)) (fun _ _ _ h => h) (Or.inl ⟨by rfl, ?_⟩) ?_ ?_
        rotate_left
        · intro w'
          go_simp
          with_reducible rfl
        rotate_left
        · simp only [Act.put, List.setIfInBounds_toArray, List.set_cons_zero, List.set_cons_succ, i64_w, i32_w]
          rfl
        refine pure_ (i := 6) (N := some 11) (v := ?_) (a' := ?_) #[true, false, false, true, false, false, true, false, false, false, false, false, false, false, false, false, false, false, false, false] rfl rfl (any_of HT_.out (by kernel_rfl)) (fun _ _ _ h => h) (Or.inl ⟨by rfl, ?_⟩) ?_ ?_
        rotate_left
        · intro w'
          go_simp
          with_reducible rfl
        rotate_left
        · simp only [Act.put, List.setIfInBounds_toArray, List.set_cons_zero, List.set_cons_succ, i64_w, i32_w]
          rfl
        refine pure_ (i := 9) (N := some 14) (v := ?_) (a' := ?_) #[true, false, false, true, false, false, true, false, false, true, false, false, false, false, false, false, false, false, false, false] rfl rfl (any_of HT_.out (by kernel_rfl)) (fun _ _ _ h => h) (Or.inl ⟨by rfl, ?_⟩) ?_ ?_
        rotate_left
        · intro w'
          go_simp
          with_reducible rfl
        rotate_left
        · simp only [Act.put, List.setIfInBounds_toArray, List.set_cons_zero, List.set_cons_succ, i64_w, i32_w]
          rfl
        refine take_ (i := 1) (N := some 6) (v := ?_) (a' := ?_) #[true, true, false, true, false, false, true, false, false, true, false, false, false, false, false, false, false, false, false, false] rfl rfl (take_ofW HT_.out HW_.out (by kernel_rfl)) (fun _ _ _ h => h) (Or.inl ⟨by rfl, ?_⟩) hHeld ?_ ?_
        rotate_left
        · rintro w' ⟨s0, s1, s2, s3, s4, s5⟩
          go_simp
          with_reducible rfl
        rotate_left
        · simp only [Act.put, List.setIfInBounds_toArray, List.set_cons_zero, List.set_cons_succ, i64_w, i32_w]
          rfl
        refine pure_ (i := 2) (N := some 7) (v := ?_) (a' := ?_) #[true, true, true, true, false, false, true, false, false, true, false, false, false, false, false, false, false, false, false, false] rfl rfl (any_of HT_.out (by kernel_rfl)) (fun _ _ _ h => h) (Or.inl ⟨by rfl, ?_⟩) ?_ ?_
        rotate_left
        · intro w'
          go_simp
          with_reducible rfl
        rotate_left
        · simp only [Act.put, List.setIfInBounds_toArray, List.set_cons_zero, List.set_cons_succ, i64_w, i32_w]
          rfl
        refine pure_ (i := 12) (N := some 17) (v := ?_) (a' := ?_) #[true, true, true, true, false, false, true, false, false, true, false, false, true, false, false, false, false, false, false, false] rfl rfl (any_of HT_.out (by kernel_rfl)) (fun _ _ _ h => h) (Or.inl ⟨by rfl, ?_⟩) ?_ ?_
        rotate_left
        · intro w'
          go_simp
          with_reducible rfl
        rotate_left
        · simp only [Act.put, List.setIfInBounds_toArray, List.set_cons_zero, List.set_cons_succ, i64_w, i32_w]
          rfl
        refine take_ (i := 4) (N := some 9) (v := ?_) (a' := ?_) #[true, true, true, true, true, false, true, false, false, true, false, false, true, false, false, false, false, false, false, false] rfl rfl (take_ofW HT_.out HW_.out (by kernel_rfl)) (fun _ _ _ h => h) (Or.inl ⟨by rfl, ?_⟩) hHeld ?_ ?_
        rotate_left
        · rintro w' ⟨s0, s1, s2, s3, s4, s5⟩
          go_simp
          with_reducible rfl
        rotate_left
        · simp only [Act.put, List.setIfInBounds_toArray, List.set_cons_zero, List.set_cons_succ, i64_w, i32_w]
          rfl
        refine pure_ (i := 5) (N := some 10) (v := ?_) (a' := ?_) #[true, true, true, true, true, true, true, false, false, true, false, false, true, false, false, false, false, false, false, false] rfl rfl (any_of HT_.out (by kernel_rfl)) (fun _ _ _ h => h) (Or.inl ⟨by rfl, ?_⟩) ?_ ?_
        rotate_left
        · intro w'
          go_simp
          with_reducible rfl
        rotate_left
        · simp only [Act.put, List.setIfInBounds_toArray, List.set_cons_zero, List.set_cons_succ, i64_w, i32_w]
          rfl
        refine take_ (i := 7) (N := some 12) (v := ?_) (a' := ?_) #[true, true, true, true, true, true, true, true, false, true, false, false, true, false, false, false, false, false, false, false] rfl rfl (take_ofW HT_.out HW_.out (by kernel_rfl)) (fun _ _ _ h => h) (Or.inl ⟨by rfl, ?_⟩) hHeld ?_ ?_
        rotate_left
        · rintro w' ⟨s0, s1, s2, s3, s4, s5⟩
          go_simp
          with_reducible rfl
        rotate_left
        · simp only [Act.put, List.setIfInBounds_toArray, List.set_cons_zero, List.set_cons_succ, i64_w, i32_w]
          rfl
        refine pure_ (i := 8) (N := some 13) (v := ?_) (a' := ?_) #[true, true, true, true, true, true, true, true, true, true, false, false, true, false, false, false, false, false, false, false] rfl rfl (any_of HT_.out (by kernel_rfl)) (fun _ _ _ h => h) (Or.inl ⟨by rfl, ?_⟩) ?_ ?_
        rotate_left
        · intro w'
          go_simp
          with_reducible rfl
        rotate_left
        · simp only [Act.put, List.setIfInBounds_toArray, List.set_cons_zero, List.set_cons_succ, i64_w, i32_w]
          rfl
        refine take_ (i := 10) (N := some 15) (v := ?_) (a' := ?_) #[true, true, true, true, true, true, true, true, true, true, true, false, true, false, false, false, false, false, false, false] rfl rfl (take_ofW HT_.out HW_.out (by kernel_rfl)) (fun _ _ _ h => h) (Or.inl ⟨by rfl, ?_⟩) hHeld ?_ ?_
        rotate_left
        · rintro w' ⟨s0, s1, s2, s3, s4, s5⟩
          go_simp
          with_reducible rfl
        rotate_left
        · simp only [Act.put, List.setIfInBounds_toArray, List.set_cons_zero, List.set_cons_succ, i64_w, i32_w]
          rfl
        refine pure_ (i := 11) (N := some 16) (v := ?_) (a' := ?_) #[true, true, true, true, true, true, true, true, true, true, true, true, true, false, false, false, false, false, false, false] rfl rfl (any_of HT_.out (by kernel_rfl)) (fun _ _ _ h => h) (Or.inl ⟨by rfl, ?_⟩) ?_ ?_
        rotate_left
        · intro w'
          go_simp
          with_reducible rfl
        rotate_left
        · simp only [Act.put, List.setIfInBounds_toArray, List.set_cons_zero, List.set_cons_succ, i64_w, i32_w]
          rfl
        refine one_ (i := 13) (N := none) #[true, true, true, true, true, true, true, true, true, true, true, true, true, true, false, false, false, false, false, false] rfl rfl (one_of HT_.out (by kernel_rfl)) (by decide) (fun K hK => ?_)
        have hs38 : w37.cell? ⟨gb520, 0, none⟩ = some (.int .i64 a0_0) := (blk_cell BK520.out 0).trans rfl
        have hfs38 := blk_frozen BK520.out 0
        have hns38_0 := NB519_520.out
        have hms38_0 := NB520_519.out
        refine skip_ (w1 := ?_) (by rfl) rfl ?_ ?_
        rotate_left
        · go_simp
          rfl
        refine hK.out _ _ ⟨((cell_far (p := ⟨gb520, _, none⟩) NB519_520.out _).trans (hHeld.1)), ((cell_far (p := ⟨gb520, _, none⟩) NB519_520.out _).trans (hHeld.2.1)), ((cell_far (p := ⟨gb520, _, none⟩) NB519_520.out _).trans (hHeld.2.2.1)), ((cell_far (p := ⟨gb520, _, none⟩) NB519_520.out _).trans (hHeld.2.2.2.1)), ((cell_far (p := ⟨gb520, _, none⟩) NB519_520.out _).trans (hHeld.2.2.2.2.1)), ((cell_far (p := ⟨gb520, _, none⟩) NB519_520.out _).trans (hHeld.2.2.2.2.2))⟩ (fun hHeld => ?_)
        clear hK K
        refine pure_ (i := 14) (N := some 18) (v := ?_) (a' := ?_) #[true, true, true, true, true, true, true, true, true, true, true, true, true, true, true, false, false, false, false, false] rfl rfl (any_of HT_.out (by kernel_rfl)) (fun _ _ _ h => h) (Or.inl ⟨by rfl, ?_⟩) ?_ ?_
        rotate_left
        · intro w'
          go_simp
          with_reducible rfl
        rotate_left
        · simp only [Act.put, List.setIfInBounds_toArray, List.set_cons_zero, List.set_cons_succ, i64_w, i32_w]
          rfl
        refine one_ (i := 15) (N := none) #[true, true, true, true, true, true, true, true, true, true, true, true, true, true, true, true, false, false, false, false] rfl rfl (one_of HT_.out (by kernel_rfl)) (by decide) (fun K hK => ?_)
        have hs39 : w37.cell? ⟨gb520, 2, none⟩ = some (.int .i64 a0_2) := (blk_cell BK520.out 2).trans rfl
        have hfs39 := blk_frozen BK520.out 2
        have hns39_0 := NB519_520.out
        have hms39_0 := NB520_519.out
        refine skip_ (w1 := ?_) (by rfl) rfl ?_ ?_
        rotate_left
        · go_simp
          rfl
        refine hK.out _ _ ⟨((cell_far (p := ⟨gb520, _, none⟩) NB519_520.out _).trans (hHeld.1)), ((cell_far (p := ⟨gb520, _, none⟩) NB519_520.out _).trans (hHeld.2.1)), ((cell_far (p := ⟨gb520, _, none⟩) NB519_520.out _).trans (hHeld.2.2.1)), ((cell_far (p := ⟨gb520, _, none⟩) NB519_520.out _).trans (hHeld.2.2.2.1)), ((cell_far (p := ⟨gb520, _, none⟩) NB519_520.out _).trans (hHeld.2.2.2.2.1)), ((cell_far (p := ⟨gb520, _, none⟩) NB519_520.out _).trans (hHeld.2.2.2.2.2))⟩ (fun hHeld => ?_)
        clear hK K
        refine pure_ (i := 16) (N := some 19) (v := ?_) (a' := ?_) #[true, true, true, true, true, true, true, true, true, true, true, true, true, true, true, true, true, false, false, false] rfl rfl (any_of HT_.out (by kernel_rfl)) (fun _ _ _ h => h) (Or.inl ⟨by rfl, ?_⟩) ?_ ?_
        rotate_left
        · intro w'
          go_simp
          with_reducible rfl
        rotate_left
        · simp only [Act.put, List.setIfInBounds_toArray, List.set_cons_zero, List.set_cons_succ, i64_w, i32_w]
          rfl
        refine one_ (i := 17) (N := none) #[true, true, true, true, true, true, true, true, true, true, true, true, true, true, true, true, true, true, false, false] rfl rfl (one_of HT_.out (by kernel_rfl)) (by decide) (fun K hK => ?_)
        have hs40 : w37.cell? ⟨gb520, 3, none⟩ = some (.int .i64 a0_3) := (blk_cell BK520.out 3).trans rfl
        have hfs40 := blk_frozen BK520.out 3
        have hns40_0 := NB519_520.out
        have hms40_0 := NB520_519.out
        refine skip_ (w1 := ?_) (by rfl) rfl ?_ ?_
        rotate_left
        · go_simp
          rfl
        refine hK.out _ _ ⟨((cell_far (p := ⟨gb520, _, none⟩) NB519_520.out _).trans (hHeld.1)), ((cell_far (p := ⟨gb520, _, none⟩) NB519_520.out _).trans (hHeld.2.1)), ((cell_far (p := ⟨gb520, _, none⟩) NB519_520.out _).trans (hHeld.2.2.1)), ((cell_far (p := ⟨gb520, _, none⟩) NB519_520.out _).trans (hHeld.2.2.2.1)), ((cell_far (p := ⟨gb520, _, none⟩) NB519_520.out _).trans (hHeld.2.2.2.2.1)), ((cell_far (p := ⟨gb520, _, none⟩) NB519_520.out _).trans (hHeld.2.2.2.2.2))⟩ (fun hHeld => ?_)
        clear hK K
        refine pure_ (i := 18) (N := some 20) (v := ?_) (a' := ?_) #[true, true, true, true, true, true, true, true, true, true, true, true, true, true, true, true, true, true, true, false] rfl rfl (any_of HT_.out (by kernel_rfl)) (fun _ _ _ h => h) (Or.inl ⟨by rfl, ?_⟩) ?_ ?_
        rotate_left
        · intro w'
          go_simp
          with_reducible rfl
        rotate_left
        · simp only [Act.put, List.setIfInBounds_toArray, List.set_cons_zero, List.set_cons_succ, i64_w, i32_w]
          rfl
        refine one_ (i := 19) (N := none) #[true, true, true, true, true, true, true, true, true, true, true, true, true, true, true, true, true, true, true, true] rfl rfl (one_of HT_.out (by kernel_rfl)) (by decide) (fun K hK => ?_)
        have hs41 : w37.cell? ⟨gb520, 1, none⟩ = some (.int .i64 a0_1) := (blk_cell BK520.out 1).trans rfl
        have hfs41 := blk_frozen BK520.out 1
        have hns41_0 := NB519_520.out
        have hms41_0 := NB520_519.out
        refine skip_ (w1 := ?_) (by rfl) rfl ?_ ?_
        rotate_left
        · go_simp
          rfl
        refine hK.out _ _ ⟨((cell_far (p := ⟨gb520, _, none⟩) NB519_520.out _).trans (hHeld.1)), ((cell_far (p := ⟨gb520, _, none⟩) NB519_520.out _).trans (hHeld.2.1)), ((cell_far (p := ⟨gb520, _, none⟩) NB519_520.out _).trans (hHeld.2.2.1)), ((cell_far (p := ⟨gb520, _, none⟩) NB519_520.out _).trans (hHeld.2.2.2.1)), ((cell_far (p := ⟨gb520, _, none⟩) NB519_520.out _).trans (hHeld.2.2.2.2.1)), ((cell_far (p := ⟨gb520, _, none⟩) NB519_520.out _).trans (hHeld.2.2.2.2.2))⟩ (fun hHeld => ?_)
        clear hK K
        refine done_ (done_of HT_.out (by kernel_rfl)) ?_
        have hcz42_0 : w37.cell? ⟨gb520, 0, none⟩ = some (.int .i64 a0_0) := (blk_cell BK520.out 0).trans rfl
        have hcz42_1 : w37.cell? ⟨gb520, 1, none⟩ = some (.int .i64 a0_1) := (blk_cell BK520.out 1).trans rfl
        have hcz42_2 : w37.cell? ⟨gb520, 2, none⟩ = some (.int .i64 a0_2) := (blk_cell BK520.out 2).trans rfl
        have hcz42_3 : w37.cell? ⟨gb520, 3, none⟩ = some (.int .i64 a0_3) := (blk_cell BK520.out 3).trans rfl
        have hcz42_4 : w37.cell? ⟨gb520, 4, none⟩ = some (.string a0_4) := (blk_cell BK520.out 4).trans rfl
        have hcz42_5 : w37.cell? ⟨gb520, 5, none⟩ = some (.string a0_5) := (blk_cell BK520.out 5).trans rfl
        have hfz42_0 := blk_frozen BK520.out 0
        have hfz42_1 := blk_frozen BK520.out 1
        have hfz42_2 := blk_frozen BK520.out 2
        have hfz42_3 := blk_frozen BK520.out 3
        have hfz42_4 := blk_frozen BK520.out 4
        have hfz42_5 := blk_frozen BK520.out 5
        have hcz43_0 : w37.cell? ⟨gb519, 0, none⟩ = some (.int .i64 a0_0) := (blk_cell BK519.out 0).trans rfl
        have hcz43_1 : w37.cell? ⟨gb519, 1, none⟩ = some (.int .i64 a0_1) := (blk_cell BK519.out 1).trans rfl
        have hcz43_2 : w37.cell? ⟨gb519, 2, none⟩ = some (.int .i64 a0_2) := (blk_cell BK519.out 2).trans rfl
        have hcz43_3 : w37.cell? ⟨gb519, 3, none⟩ = some (.int .i64 a0_3) := (blk_cell BK519.out 3).trans rfl
        have hcz43_4 : w37.cell? ⟨gb519, 4, none⟩ = some (.string a0_4) := (blk_cell BK519.out 4).trans rfl
        have hcz43_5 : w37.cell? ⟨gb519, 5, none⟩ = some (.string a0_5) := (blk_cell BK519.out 5).trans rfl
        have hfz43_0 := blk_frozen BK519.out 0
        have hfz43_1 := blk_frozen BK519.out 1
        have hfz43_2 := blk_frozen BK519.out 2
        have hfz43_3 := blk_frozen BK519.out 3
        have hfz43_4 := blk_frozen BK519.out 4
        have hfz43_5 := blk_frozen BK519.out 5
        try go_wp2
        go_ret
        exact ⟨by first | rfl | (simp [errW_none, errW_some] <;> rfl) | (simp [*, errW_none, errW_some] <;> rfl), by repeat (first | (with_reducible first | exact HB.out | apply below_alloc | apply pw_below_drewN | apply below_drew1 | refine below_set ?_ GE519.out | refine below_set ?_ GE520.out) | exact HB.out)⟩
    · rw [if_neg c16] at H
      have c16b0 : ((a0_4.size : Int) == 16) = false := beq_eq_false_iff_ne.mpr c16
      have c16b1 : ((a0_4.size : Int) != 16) = true := bne_iff_ne.mpr c16
      obtain rfl := Option.some.inj H
      go_enter Try.func102, Try.ntmps102
      try go_wp2_with (first | ((with_reducible refine gate_dst (N := 1) rfl ?_); (try (refine gate_guard (by rfl) ?_; dsimp only)); refine box_event ?hg (N := 1) ?hd (cs := #[.int .i64 a0_0, .int .i64 a0_1, .int .i64 a0_2, .int .i64 a0_3, .string a0_4, .string a0_5]) (t := 114) ?hr ?_; (case hd => rfl); (case hg => rfl); (case hr => first | (go_simp; done) | (go_simp; rfl)); intro gb519 hg w44 hbox hb; have n0_ := Aside0.mk (below_step (by repeat (first | (with_reducible first | exact HB.out | apply below_alloc | apply pw_below_drewN | apply below_drew1) | exact HB.out)) hb); have n1_ := Aside0.mk (hbox); have n2_ := Aside0.mk ((by rw [hg]; exact (below_size (by repeat (first | (with_reducible first | exact HB.out | apply below_alloc | apply pw_below_drewN | apply below_drew1) | exact HB.out))) : w.heap.size ≤ gb519)); have n3_ := Aside0.mk ((by rw [hg]; exact (below_size (by repeat (first | (with_reducible first | exact HB.out | apply below_alloc | apply pw_below_drewN | apply below_drew1) | exact HB.out))) : w.heap.size ≤ gb519)); clear HB; have HB := n0_; have BK519 := n1_; have GW519 := n2_; have GE519 := n3_; clear n0_ n1_ n2_ n3_; clear hb hbox hg; have hcz45_0 : w44.cell? ⟨gb519, 0, none⟩ = some (.int .i64 a0_0) := (blk_cell BK519.out 0).trans rfl; have hcz45_1 : w44.cell? ⟨gb519, 1, none⟩ = some (.int .i64 a0_1) := (blk_cell BK519.out 1).trans rfl; have hcz45_2 : w44.cell? ⟨gb519, 2, none⟩ = some (.int .i64 a0_2) := (blk_cell BK519.out 2).trans rfl; have hcz45_3 : w44.cell? ⟨gb519, 3, none⟩ = some (.int .i64 a0_3) := (blk_cell BK519.out 3).trans rfl; have hcz45_4 : w44.cell? ⟨gb519, 4, none⟩ = some (.string a0_4) := (blk_cell BK519.out 4).trans rfl; have hcz45_5 : w44.cell? ⟨gb519, 5, none⟩ = some (.string a0_5) := (blk_cell BK519.out 5).trans rfl; have hfz45_0 := blk_frozen BK519.out 0; have hfz45_1 := blk_frozen BK519.out 1; have hfz45_2 := blk_frozen BK519.out 2; have hfz45_3 := blk_frozen BK519.out 3; have hfz45_4 := blk_frozen BK519.out 4; have hfz45_5 := blk_frozen BK519.out 5) | ((with_reducible refine gate_dst (N := 3) rfl ?_); (try (refine gate_guard (by rfl) ?_; dsimp only)); refine box_event ?hg (N := 3) ?hd (cs := #[.int .i64 0, .int .i64 0, .int .i64 0, .int .i64 0, .string (⟨#[]⟩ : ByteArray), .string (⟨#[]⟩ : ByteArray)]) (t := 114) ?hr ?_; (case hd => rfl); (case hg => rfl); (case hr => first | (go_simp; done) | (go_simp; rfl)); intro gb520 hg w46 hbox hb; have n0_ := Aside0.mk (blk_below (g := gb519) (o := .cells #[.int .i64 a0_0, .int .i64 a0_1, .int .i64 a0_2, .int .i64 a0_3, .string a0_4, .string a0_5] 114 (0, 0)) (by (with_reducible repeat (first | refine blk_drewN ?_ _ | refine blk_drew ?_ | refine blk_alloc ?_ _)); exact BK519.out) hb); have n1_ := Aside0.mk (below_step (by repeat (first | (with_reducible first | exact HB.out | apply below_alloc | apply pw_below_drewN | apply below_drew1 | refine below_set ?_ GE519.out) | exact HB.out)) hb); have n2_ := Aside0.mk (hbox); have n3_ := Aside0.mk ((by rw [hg]; exact (below_size (by repeat (first | (with_reducible first | exact HB.out | apply below_alloc | apply pw_below_drewN | apply below_drew1 | refine below_set ?_ GE519.out) | exact HB.out))) : w.heap.size ≤ gb520)); have n4_ := Aside0.mk ((by rw [hg]; exact (below_size (by repeat (first | (with_reducible first | exact HB.out | apply below_alloc | apply pw_below_drewN | apply below_drew1 | refine below_set ?_ GE519.out) | exact HB.out))) : w.heap.size ≤ gb520)); have n5_ := Aside0.mk ((by rw [hg]; exact Nat.ne_of_lt (blk_lt (g := gb519) (o := .cells #[.int .i64 a0_0, .int .i64 a0_1, .int .i64 a0_2, .int .i64 a0_3, .string a0_4, .string a0_5] 114 (0, 0)) (by (with_reducible repeat (first | refine blk_drewN ?_ _ | refine blk_drew ?_ | refine blk_alloc ?_ _)); exact BK519.out)) : gb519 ≠ gb520)); have n6_ := Aside0.mk ((by rw [hg]; exact Nat.ne_of_gt (blk_lt (g := gb519) (o := .cells #[.int .i64 a0_0, .int .i64 a0_1, .int .i64 a0_2, .int .i64 a0_3, .string a0_4, .string a0_5] 114 (0, 0)) (by (with_reducible repeat (first | refine blk_drewN ?_ _ | refine blk_drew ?_ | refine blk_alloc ?_ _)); exact BK519.out)) : gb520 ≠ gb519)); clear BK519; clear HB; have BK519 := n0_; have HB := n1_; have BK520 := n2_; have GW520 := n3_; have GE520 := n4_; have NB519_520 := n5_; have NB520_519 := n6_; clear n0_ n1_ n2_ n3_ n4_ n5_ n6_; clear hb hbox hg; have hnb47 := NB520_519.out; have hnc47 := NB519_520.out; have hcz48_0 : w46.cell? ⟨gb520, 0, none⟩ = some (.int .i64 0) := (blk_cell BK520.out 0).trans rfl; have hcz48_1 : w46.cell? ⟨gb520, 1, none⟩ = some (.int .i64 0) := (blk_cell BK520.out 1).trans rfl; have hcz48_2 : w46.cell? ⟨gb520, 2, none⟩ = some (.int .i64 0) := (blk_cell BK520.out 2).trans rfl; have hcz48_3 : w46.cell? ⟨gb520, 3, none⟩ = some (.int .i64 0) := (blk_cell BK520.out 3).trans rfl; have hcz48_4 : w46.cell? ⟨gb520, 4, none⟩ = some (.string (⟨#[]⟩ : ByteArray)) := (blk_cell BK520.out 4).trans rfl; have hcz48_5 : w46.cell? ⟨gb520, 5, none⟩ = some (.string (⟨#[]⟩ : ByteArray)) := (blk_cell BK520.out 5).trans rfl; have hfz48_0 := blk_frozen BK520.out 0; have hfz48_1 := blk_frozen BK520.out 1; have hfz48_2 := blk_frozen BK520.out 2; have hfz48_3 := blk_frozen BK520.out 3; have hfz48_4 := blk_frozen BK520.out 4; have hfz48_5 := blk_frozen BK520.out 5))
      have n0_ : Aside0 (((((((w46.setCell ⟨gb520, 0, none⟩ (.int .i64 a0_0)).setCell ⟨gb520, 1, none⟩ (.int .i64 a0_1)).setCell ⟨gb520, 2, none⟩ (.int .i64 a0_2)).setCell ⟨gb520, 3, none⟩ (.int .i64 a0_3)).setCell ⟨gb520, 4, none⟩ (.string a0_4)).setCell ⟨gb520, 5, none⟩ (.string a0_5)).heap[gb519]? = some (.cells #[.int .i64 a0_0, .int .i64 a0_1, .int .i64 a0_2, .int .i64 a0_3, .string a0_4, .string a0_5] 114 (0, 0))) := ⟨by (with_reducible repeat (first | refine blk_drewN ?_ _ | refine blk_drew ?_ | refine blk_alloc ?_ _)); refine blk_far ?_ NB519_520.out _; (with_reducible repeat (first | refine blk_drewN ?_ _ | refine blk_drew ?_ | refine blk_alloc ?_ _)); refine blk_far ?_ NB519_520.out _; (with_reducible repeat (first | refine blk_drewN ?_ _ | refine blk_drew ?_ | refine blk_alloc ?_ _)); refine blk_far ?_ NB519_520.out _; (with_reducible repeat (first | refine blk_drewN ?_ _ | refine blk_drew ?_ | refine blk_alloc ?_ _)); refine blk_far ?_ NB519_520.out _; (with_reducible repeat (first | refine blk_drewN ?_ _ | refine blk_drew ?_ | refine blk_alloc ?_ _)); refine blk_far ?_ NB519_520.out _; (with_reducible repeat (first | refine blk_drewN ?_ _ | refine blk_drew ?_ | refine blk_alloc ?_ _)); refine blk_far ?_ NB519_520.out _; (with_reducible repeat (first | refine blk_drewN ?_ _ | refine blk_drew ?_ | refine blk_alloc ?_ _)); exact BK519.out⟩
      have n1_ : Aside0 (((((((w46.setCell ⟨gb520, 0, none⟩ (.int .i64 a0_0)).setCell ⟨gb520, 1, none⟩ (.int .i64 a0_1)).setCell ⟨gb520, 2, none⟩ (.int .i64 a0_2)).setCell ⟨gb520, 3, none⟩ (.int .i64 a0_3)).setCell ⟨gb520, 4, none⟩ (.string a0_4)).setCell ⟨gb520, 5, none⟩ (.string a0_5)).heap[gb520]? = some (.cells #[.int .i64 a0_0, .int .i64 a0_1, .int .i64 a0_2, .int .i64 a0_3, .string a0_4, .string a0_5] 114 (0, 0))) := ⟨by (with_reducible repeat (first | refine blk_drewN ?_ _ | refine blk_drew ?_ | refine blk_alloc ?_ _)); refine blk_put (cs := #[.int .i64 a0_0, .int .i64 a0_1, .int .i64 a0_2, .int .i64 a0_3, .string a0_4, .string (⟨#[]⟩ : ByteArray)]) ?_ 5 _ rfl; (with_reducible repeat (first | refine blk_drewN ?_ _ | refine blk_drew ?_ | refine blk_alloc ?_ _)); refine blk_put (cs := #[.int .i64 a0_0, .int .i64 a0_1, .int .i64 a0_2, .int .i64 a0_3, .string (⟨#[]⟩ : ByteArray), .string (⟨#[]⟩ : ByteArray)]) ?_ 4 _ rfl; (with_reducible repeat (first | refine blk_drewN ?_ _ | refine blk_drew ?_ | refine blk_alloc ?_ _)); refine blk_put (cs := #[.int .i64 a0_0, .int .i64 a0_1, .int .i64 a0_2, .int .i64 0, .string (⟨#[]⟩ : ByteArray), .string (⟨#[]⟩ : ByteArray)]) ?_ 3 _ rfl; (with_reducible repeat (first | refine blk_drewN ?_ _ | refine blk_drew ?_ | refine blk_alloc ?_ _)); refine blk_put (cs := #[.int .i64 a0_0, .int .i64 a0_1, .int .i64 0, .int .i64 0, .string (⟨#[]⟩ : ByteArray), .string (⟨#[]⟩ : ByteArray)]) ?_ 2 _ rfl; (with_reducible repeat (first | refine blk_drewN ?_ _ | refine blk_drew ?_ | refine blk_alloc ?_ _)); refine blk_put (cs := #[.int .i64 a0_0, .int .i64 0, .int .i64 0, .int .i64 0, .string (⟨#[]⟩ : ByteArray), .string (⟨#[]⟩ : ByteArray)]) ?_ 1 _ rfl; (with_reducible repeat (first | refine blk_drewN ?_ _ | refine blk_drew ?_ | refine blk_alloc ?_ _)); refine blk_put (cs := #[.int .i64 0, .int .i64 0, .int .i64 0, .int .i64 0, .string (⟨#[]⟩ : ByteArray), .string (⟨#[]⟩ : ByteArray)]) ?_ 0 _ rfl; (with_reducible repeat (first | refine blk_drewN ?_ _ | refine blk_drew ?_ | refine blk_alloc ?_ _)); exact BK520.out⟩
      have n2_ : Aside0 (Below w.heap.size w ((((((w46.setCell ⟨gb520, 0, none⟩ (.int .i64 a0_0)).setCell ⟨gb520, 1, none⟩ (.int .i64 a0_1)).setCell ⟨gb520, 2, none⟩ (.int .i64 a0_2)).setCell ⟨gb520, 3, none⟩ (.int .i64 a0_3)).setCell ⟨gb520, 4, none⟩ (.string a0_4)).setCell ⟨gb520, 5, none⟩ (.string a0_5))) := ⟨by repeat (first | (with_reducible first | exact HB.out | apply below_alloc | apply pw_below_drewN | apply below_drew1 | refine below_set ?_ GE519.out | refine below_set ?_ GE520.out) | exact HB.out)⟩
      (try clear BK519)
      (try clear BK520)
      (try clear HB)
      generalize ((((((w46.setCell ⟨gb520, 0, none⟩ (.int .i64 a0_0)).setCell ⟨gb520, 1, none⟩ (.int .i64 a0_1)).setCell ⟨gb520, 2, none⟩ (.int .i64 a0_2)).setCell ⟨gb520, 3, none⟩ (.int .i64 a0_3)).setCell ⟨gb520, 4, none⟩ (.string a0_4)).setCell ⟨gb520, 5, none⟩ (.string a0_5)) = w49 at n0_ n1_ n2_ ⊢
      have BK519 := n0_
      have BK520 := n1_
      have HB := n2_
      clear n0_ n1_ n2_
      have n0_ := Aside0.mk (blk_drew BK519.out)
      have n1_ := Aside0.mk (blk_drew BK520.out)
      have n2_ := Aside0.mk (below_drew1 HB.out)
      clear BK519
      clear BK520
      clear HB
      have BK519 := n0_
      have BK520 := n1_
      have HB := n2_
      clear n0_ n1_ n2_
      refine start_ (n := 20) (S := fun w' => w'.cell? ⟨gb519, 0, none⟩ = some (.int .i64 a0_0) ∧ w'.cell? ⟨gb519, 1, none⟩ = some (.int .i64 a0_1) ∧ w'.cell? ⟨gb519, 2, none⟩ = some (.int .i64 a0_2) ∧ w'.cell? ⟨gb519, 3, none⟩ = some (.int .i64 a0_3) ∧ w'.cell? ⟨gb519, 4, none⟩ = some (.string a0_4) ∧ w'.cell? ⟨gb519, 5, none⟩ = some (.string a0_5)) (ds := []) #[false, false, false, false, false, false, false, false, false, false, false, false, false, false, false, false, false, false, false, false] (by kernel_rfl) rfl rfl ⟨(blk_cell BK519.out 0).trans rfl, (blk_cell BK519.out 1).trans rfl, (blk_cell BK519.out 2).trans rfl, (blk_cell BK519.out 3).trans rfl, (blk_cell BK519.out 4).trans rfl, (blk_cell BK519.out 5).trans rfl⟩ (fun hHeld => ?_); refine with_tabW ip6_Check.tab2 ip6_Check.bits2 (fun HT_ HW_ => ?_)
      generalize w49.drew = w50 at BK519 BK520 HB hHeld ⊢
      refine pure_ (i := 0) (N := some 5) (v := ?_) (a' := ?_) #[true, false, false, false, false, false, false, false, false, false, false, false, false, false, false, false, false, false, false, false] rfl rfl (any_of HT_.out (by kernel_rfl)) (fun _ _ _ h => h) (Or.inl ⟨by rfl, ?_⟩) ?_ ?_
      rotate_left
      · intro w'
        go_simp
        with_reducible rfl
      rotate_left
      · simp only [Act.put, List.setIfInBounds_toArray, List.set_cons_zero, List.set_cons_succ, i64_w, i32_w]
        rfl
      refine pure_ (i := 3) (N := some 8) (v := ?_) (a' := ?_) #[true, false, false, true, false, false, false, false, false, false, false, false, false, false, false, false, false, false, false, false] rfl rfl (any_of HT_.out (by kernel_rfl)) (fun _ _ _ h => h) (Or.inl ⟨by rfl, ?_⟩) ?_ ?_
      rotate_left
      · intro w'
        go_simp
        with_reducible rfl
      rotate_left
      · simp only [Act.put, List.setIfInBounds_toArray, List.set_cons_zero, List.set_cons_succ, i64_w, i32_w]
        rfl
      refine pure_ (i := 6) (N := some 11) (v := ?_) (a' := ?_) #[true, false, false, true, false, false, true, false, false, false, false, false, false, false, false, false, false, false, false, false] rfl rfl (any_of HT_.out (by kernel_rfl)) (fun _ _ _ h => h) (Or.inl ⟨by rfl, ?_⟩) ?_ ?_
      rotate_left
      · intro w'
        go_simp
        with_reducible rfl
      rotate_left
      · simp only [Act.put, List.setIfInBounds_toArray, List.set_cons_zero, List.set_cons_succ, i64_w, i32_w]
        rfl
      refine pure_ (i := 9) (N := some 14) (v := ?_) (a' := ?_) #[true, false, false, true, false, false, true, false, false, true, false, false, false, false, false, false, false, false, false, false] rfl rfl (any_of HT_.out (by kernel_rfl)) (fun _ _ _ h => h) (Or.inl ⟨by rfl, ?_⟩) ?_ ?_
      rotate_left
      · intro w'
        go_simp
        with_reducible rfl
      rotate_left
      · simp only [Act.put, List.setIfInBounds_toArray, List.set_cons_zero, List.set_cons_succ, i64_w, i32_w]
        rfl
      refine take_ (i := 1) (N := some 6) (v := ?_) (a' := ?_) #[true, true, false, true, false, false, true, false, false, true, false, false, false, false, false, false, false, false, false, false] rfl rfl (take_ofW HT_.out HW_.out (by kernel_rfl)) (fun _ _ _ h => h) (Or.inl ⟨by rfl, ?_⟩) hHeld ?_ ?_
      rotate_left
      · rintro w' ⟨s0, s1, s2, s3, s4, s5⟩
        go_simp
        with_reducible rfl
      rotate_left
      · simp only [Act.put, List.setIfInBounds_toArray, List.set_cons_zero, List.set_cons_succ, i64_w, i32_w]
        rfl
      refine pure_ (i := 2) (N := some 7) (v := ?_) (a' := ?_) #[true, true, true, true, false, false, true, false, false, true, false, false, false, false, false, false, false, false, false, false] rfl rfl (any_of HT_.out (by kernel_rfl)) (fun _ _ _ h => h) (Or.inl ⟨by rfl, ?_⟩) ?_ ?_
      rotate_left
      · intro w'
        go_simp
        with_reducible rfl
      rotate_left
      · simp only [Act.put, List.setIfInBounds_toArray, List.set_cons_zero, List.set_cons_succ, i64_w, i32_w]
        rfl
      refine pure_ (i := 12) (N := some 17) (v := ?_) (a' := ?_) #[true, true, true, true, false, false, true, false, false, true, false, false, true, false, false, false, false, false, false, false] rfl rfl (any_of HT_.out (by kernel_rfl)) (fun _ _ _ h => h) (Or.inl ⟨by rfl, ?_⟩) ?_ ?_
      rotate_left
      · intro w'
        go_simp
        with_reducible rfl
      rotate_left
      · simp only [Act.put, List.setIfInBounds_toArray, List.set_cons_zero, List.set_cons_succ, i64_w, i32_w]
        rfl
      refine take_ (i := 4) (N := some 9) (v := ?_) (a' := ?_) #[true, true, true, true, true, false, true, false, false, true, false, false, true, false, false, false, false, false, false, false] rfl rfl (take_ofW HT_.out HW_.out (by kernel_rfl)) (fun _ _ _ h => h) (Or.inl ⟨by rfl, ?_⟩) hHeld ?_ ?_
      rotate_left
      · rintro w' ⟨s0, s1, s2, s3, s4, s5⟩
        go_simp
        with_reducible rfl
      rotate_left
      · simp only [Act.put, List.setIfInBounds_toArray, List.set_cons_zero, List.set_cons_succ, i64_w, i32_w]
        rfl
      refine pure_ (i := 5) (N := some 10) (v := ?_) (a' := ?_) #[true, true, true, true, true, true, true, false, false, true, false, false, true, false, false, false, false, false, false, false] rfl rfl (any_of HT_.out (by kernel_rfl)) (fun _ _ _ h => h) (Or.inl ⟨by rfl, ?_⟩) ?_ ?_
      rotate_left
      · intro w'
        go_simp
        with_reducible rfl
      rotate_left
      · simp only [Act.put, List.setIfInBounds_toArray, List.set_cons_zero, List.set_cons_succ, i64_w, i32_w]
        rfl
      refine take_ (i := 7) (N := some 12) (v := ?_) (a' := ?_) #[true, true, true, true, true, true, true, true, false, true, false, false, true, false, false, false, false, false, false, false] rfl rfl (take_ofW HT_.out HW_.out (by kernel_rfl)) (fun _ _ _ h => h) (Or.inl ⟨by rfl, ?_⟩) hHeld ?_ ?_
      rotate_left
      · rintro w' ⟨s0, s1, s2, s3, s4, s5⟩
        go_simp
        with_reducible rfl
      rotate_left
      · simp only [Act.put, List.setIfInBounds_toArray, List.set_cons_zero, List.set_cons_succ, i64_w, i32_w]
        rfl
      refine pure_ (i := 8) (N := some 13) (v := ?_) (a' := ?_) #[true, true, true, true, true, true, true, true, true, true, false, false, true, false, false, false, false, false, false, false] rfl rfl (any_of HT_.out (by kernel_rfl)) (fun _ _ _ h => h) (Or.inl ⟨by rfl, ?_⟩) ?_ ?_
      rotate_left
      · intro w'
        go_simp
        with_reducible rfl
      rotate_left
      · simp only [Act.put, List.setIfInBounds_toArray, List.set_cons_zero, List.set_cons_succ, i64_w, i32_w]
        rfl
      refine take_ (i := 10) (N := some 15) (v := ?_) (a' := ?_) #[true, true, true, true, true, true, true, true, true, true, true, false, true, false, false, false, false, false, false, false] rfl rfl (take_ofW HT_.out HW_.out (by kernel_rfl)) (fun _ _ _ h => h) (Or.inl ⟨by rfl, ?_⟩) hHeld ?_ ?_
      rotate_left
      · rintro w' ⟨s0, s1, s2, s3, s4, s5⟩
        go_simp
        with_reducible rfl
      rotate_left
      · simp only [Act.put, List.setIfInBounds_toArray, List.set_cons_zero, List.set_cons_succ, i64_w, i32_w]
        rfl
      refine pure_ (i := 11) (N := some 16) (v := ?_) (a' := ?_) #[true, true, true, true, true, true, true, true, true, true, true, true, true, false, false, false, false, false, false, false] rfl rfl (any_of HT_.out (by kernel_rfl)) (fun _ _ _ h => h) (Or.inl ⟨by rfl, ?_⟩) ?_ ?_
      rotate_left
      · intro w'
        go_simp
        with_reducible rfl
      rotate_left
      · simp only [Act.put, List.setIfInBounds_toArray, List.set_cons_zero, List.set_cons_succ, i64_w, i32_w]
        rfl
      refine one_ (i := 13) (N := none) #[true, true, true, true, true, true, true, true, true, true, true, true, true, true, false, false, false, false, false, false] rfl rfl (one_of HT_.out (by kernel_rfl)) (by decide) (fun K hK => ?_)
      have hs51 : w50.cell? ⟨gb520, 0, none⟩ = some (.int .i64 a0_0) := (blk_cell BK520.out 0).trans rfl
      have hfs51 := blk_frozen BK520.out 0
      have hns51_0 := NB519_520.out
      have hms51_0 := NB520_519.out
      refine skip_ (w1 := ?_) (by rfl) rfl ?_ ?_
      rotate_left
      · go_simp
        rfl
      refine hK.out _ _ ⟨((cell_far (p := ⟨gb520, _, none⟩) NB519_520.out _).trans (hHeld.1)), ((cell_far (p := ⟨gb520, _, none⟩) NB519_520.out _).trans (hHeld.2.1)), ((cell_far (p := ⟨gb520, _, none⟩) NB519_520.out _).trans (hHeld.2.2.1)), ((cell_far (p := ⟨gb520, _, none⟩) NB519_520.out _).trans (hHeld.2.2.2.1)), ((cell_far (p := ⟨gb520, _, none⟩) NB519_520.out _).trans (hHeld.2.2.2.2.1)), ((cell_far (p := ⟨gb520, _, none⟩) NB519_520.out _).trans (hHeld.2.2.2.2.2))⟩ (fun hHeld => ?_)
      clear hK K
      refine pure_ (i := 14) (N := some 18) (v := ?_) (a' := ?_) #[true, true, true, true, true, true, true, true, true, true, true, true, true, true, true, false, false, false, false, false] rfl rfl (any_of HT_.out (by kernel_rfl)) (fun _ _ _ h => h) (Or.inl ⟨by rfl, ?_⟩) ?_ ?_
      rotate_left
      · intro w'
        go_simp
        with_reducible rfl
      rotate_left
      · simp only [Act.put, List.setIfInBounds_toArray, List.set_cons_zero, List.set_cons_succ, i64_w, i32_w]
        rfl
      refine one_ (i := 15) (N := none) #[true, true, true, true, true, true, true, true, true, true, true, true, true, true, true, true, false, false, false, false] rfl rfl (one_of HT_.out (by kernel_rfl)) (by decide) (fun K hK => ?_)
      have hs52 : w50.cell? ⟨gb520, 2, none⟩ = some (.int .i64 a0_2) := (blk_cell BK520.out 2).trans rfl
      have hfs52 := blk_frozen BK520.out 2
      have hns52_0 := NB519_520.out
      have hms52_0 := NB520_519.out
      refine skip_ (w1 := ?_) (by rfl) rfl ?_ ?_
      rotate_left
      · go_simp
        rfl
      refine hK.out _ _ ⟨((cell_far (p := ⟨gb520, _, none⟩) NB519_520.out _).trans (hHeld.1)), ((cell_far (p := ⟨gb520, _, none⟩) NB519_520.out _).trans (hHeld.2.1)), ((cell_far (p := ⟨gb520, _, none⟩) NB519_520.out _).trans (hHeld.2.2.1)), ((cell_far (p := ⟨gb520, _, none⟩) NB519_520.out _).trans (hHeld.2.2.2.1)), ((cell_far (p := ⟨gb520, _, none⟩) NB519_520.out _).trans (hHeld.2.2.2.2.1)), ((cell_far (p := ⟨gb520, _, none⟩) NB519_520.out _).trans (hHeld.2.2.2.2.2))⟩ (fun hHeld => ?_)
      clear hK K
      refine pure_ (i := 16) (N := some 19) (v := ?_) (a' := ?_) #[true, true, true, true, true, true, true, true, true, true, true, true, true, true, true, true, true, false, false, false] rfl rfl (any_of HT_.out (by kernel_rfl)) (fun _ _ _ h => h) (Or.inl ⟨by rfl, ?_⟩) ?_ ?_
      rotate_left
      · intro w'
        go_simp
        with_reducible rfl
      rotate_left
      · simp only [Act.put, List.setIfInBounds_toArray, List.set_cons_zero, List.set_cons_succ, i64_w, i32_w]
        rfl
      refine one_ (i := 17) (N := none) #[true, true, true, true, true, true, true, true, true, true, true, true, true, true, true, true, true, true, false, false] rfl rfl (one_of HT_.out (by kernel_rfl)) (by decide) (fun K hK => ?_)
      have hs53 : w50.cell? ⟨gb520, 3, none⟩ = some (.int .i64 a0_3) := (blk_cell BK520.out 3).trans rfl
      have hfs53 := blk_frozen BK520.out 3
      have hns53_0 := NB519_520.out
      have hms53_0 := NB520_519.out
      refine skip_ (w1 := ?_) (by rfl) rfl ?_ ?_
      rotate_left
      · go_simp
        rfl
      refine hK.out _ _ ⟨((cell_far (p := ⟨gb520, _, none⟩) NB519_520.out _).trans (hHeld.1)), ((cell_far (p := ⟨gb520, _, none⟩) NB519_520.out _).trans (hHeld.2.1)), ((cell_far (p := ⟨gb520, _, none⟩) NB519_520.out _).trans (hHeld.2.2.1)), ((cell_far (p := ⟨gb520, _, none⟩) NB519_520.out _).trans (hHeld.2.2.2.1)), ((cell_far (p := ⟨gb520, _, none⟩) NB519_520.out _).trans (hHeld.2.2.2.2.1)), ((cell_far (p := ⟨gb520, _, none⟩) NB519_520.out _).trans (hHeld.2.2.2.2.2))⟩ (fun hHeld => ?_)
      clear hK K
      refine pure_ (i := 18) (N := some 20) (v := ?_) (a' := ?_) #[true, true, true, true, true, true, true, true, true, true, true, true, true, true, true, true, true, true, true, false] rfl rfl (any_of HT_.out (by kernel_rfl)) (fun _ _ _ h => h) (Or.inl ⟨by rfl, ?_⟩) ?_ ?_
      rotate_left
      · intro w'
        go_simp
        with_reducible rfl
      rotate_left
      · simp only [Act.put, List.setIfInBounds_toArray, List.set_cons_zero, List.set_cons_succ, i64_w, i32_w]
        rfl
      refine one_ (i := 19) (N := none) #[true, true, true, true, true, true, true, true, true, true, true, true, true, true, true, true, true, true, true, true] rfl rfl (one_of HT_.out (by kernel_rfl)) (by decide) (fun K hK => ?_)
      have hs54 : w50.cell? ⟨gb520, 1, none⟩ = some (.int .i64 a0_1) := (blk_cell BK520.out 1).trans rfl
      have hfs54 := blk_frozen BK520.out 1
      have hns54_0 := NB519_520.out
      have hms54_0 := NB520_519.out
      refine skip_ (w1 := ?_) (by rfl) rfl ?_ ?_
      rotate_left
      · go_simp
        rfl
      refine hK.out _ _ ⟨((cell_far (p := ⟨gb520, _, none⟩) NB519_520.out _).trans (hHeld.1)), ((cell_far (p := ⟨gb520, _, none⟩) NB519_520.out _).trans (hHeld.2.1)), ((cell_far (p := ⟨gb520, _, none⟩) NB519_520.out _).trans (hHeld.2.2.1)), ((cell_far (p := ⟨gb520, _, none⟩) NB519_520.out _).trans (hHeld.2.2.2.1)), ((cell_far (p := ⟨gb520, _, none⟩) NB519_520.out _).trans (hHeld.2.2.2.2.1)), ((cell_far (p := ⟨gb520, _, none⟩) NB519_520.out _).trans (hHeld.2.2.2.2.2))⟩ (fun hHeld => ?_)
      clear hK K
      refine done_ (done_of HT_.out (by kernel_rfl)) ?_
      have hcz55_0 : w50.cell? ⟨gb520, 0, none⟩ = some (.int .i64 a0_0) := (blk_cell BK520.out 0).trans rfl
      have hcz55_1 : w50.cell? ⟨gb520, 1, none⟩ = some (.int .i64 a0_1) := (blk_cell BK520.out 1).trans rfl
      have hcz55_2 : w50.cell? ⟨gb520, 2, none⟩ = some (.int .i64 a0_2) := (blk_cell BK520.out 2).trans rfl
      have hcz55_3 : w50.cell? ⟨gb520, 3, none⟩ = some (.int .i64 a0_3) := (blk_cell BK520.out 3).trans rfl
      have hcz55_4 : w50.cell? ⟨gb520, 4, none⟩ = some (.string a0_4) := (blk_cell BK520.out 4).trans rfl
      have hcz55_5 : w50.cell? ⟨gb520, 5, none⟩ = some (.string a0_5) := (blk_cell BK520.out 5).trans rfl
      have hfz55_0 := blk_frozen BK520.out 0
      have hfz55_1 := blk_frozen BK520.out 1
      have hfz55_2 := blk_frozen BK520.out 2
      have hfz55_3 := blk_frozen BK520.out 3
      have hfz55_4 := blk_frozen BK520.out 4
      have hfz55_5 := blk_frozen BK520.out 5
      have hcz56_0 : w50.cell? ⟨gb519, 0, none⟩ = some (.int .i64 a0_0) := (blk_cell BK519.out 0).trans rfl
      have hcz56_1 : w50.cell? ⟨gb519, 1, none⟩ = some (.int .i64 a0_1) := (blk_cell BK519.out 1).trans rfl
      have hcz56_2 : w50.cell? ⟨gb519, 2, none⟩ = some (.int .i64 a0_2) := (blk_cell BK519.out 2).trans rfl
      have hcz56_3 : w50.cell? ⟨gb519, 3, none⟩ = some (.int .i64 a0_3) := (blk_cell BK519.out 3).trans rfl
      have hcz56_4 : w50.cell? ⟨gb519, 4, none⟩ = some (.string a0_4) := (blk_cell BK519.out 4).trans rfl
      have hcz56_5 : w50.cell? ⟨gb519, 5, none⟩ = some (.string a0_5) := (blk_cell BK519.out 5).trans rfl
      have hfz56_0 := blk_frozen BK519.out 0
      have hfz56_1 := blk_frozen BK519.out 1
      have hfz56_2 := blk_frozen BK519.out 2
      have hfz56_3 := blk_frozen BK519.out 3
      have hfz56_4 := blk_frozen BK519.out 4
      have hfz56_5 := blk_frozen BK519.out 5
      try go_wp2
      go_ret
      exact ⟨by first | rfl | (simp [errW_none, errW_some] <;> rfl) | (simp [*, errW_none, errW_some] <;> rfl), by repeat (first | (with_reducible first | exact HB.out | apply below_alloc | apply pw_below_drewN | apply below_drew1 | refine below_set ?_ GE519.out | refine below_set ?_ GE520.out) | exact HB.out)⟩

end Go.Proofs.Ytejmipoolbodgaa.G
