/- By hand: tcp.Right, tcp.MSS: ranges over tcp.walk. -/
import Derived.Test.YtejmipoolbodgaaHTcpW
import Derived.Test.YtejmipoolbodgaaPTcpI
import Derived.Test.YtejmipoolbodgaaPHeap
import Derived.RangeFuncNested
import Derived.RangeFuncBound
import Derived.RangeFuncCalls
import Derived.RangeFuncLeaves
import Derived.RangeFuncFrom
import Derived.Shelf.Abstract
import Derived.Shelf.RegionOpen
import Derived.WalkKit
import Derived.OwnWalkIn
import Derived.TacticsInMore
import Derived.LoopNIn
import Derived.LoopIn
import Derived.Laws.Strings2
import Derived.Laws.Strings
namespace Go.Proofs.Ytejmipoolbodgaa.G
open Go.RowKit Go.Shelf Go.Proofs.YtejmipoolbodgaaW.PrintWords Go.Proofs.YtejmipoolbodgaaW.PrintLast Go.Proofs.YtejmipoolbodgaaW.PrintMore Go.Proofs.Ytejmipoolbodgaa.Pal
attribute [local go_sem] Oper.semAt_some
set_option linter.unusedVariables false
set_option linter.unusedSimpArgs false
def hasNeg (l : List (Int × ByteArray)) : Prop := ∃ x ∈ l, x.1 < 0
def noNeg (l : List (Int × ByteArray)) : Prop := ∀ x ∈ l, ¬ x.1 < 0
set_option maxRecDepth 100000 in
set_option maxHeartbeats 4000000 in
theorem tcp_Right.calls (s : ByteArray) (r : Bool) (w : World) (h : tcp_Right.f s = some r) :
    Calls Try.prog 65 #[.string s] w fun e w' => e = .returned (.bool r) ∧ Below w.heap.size w w' := by
  unfold tcp_Right.f at h
  split at h
  case isFalse => exact absurd h (by simp)
  rename_i hs
  have hr := Option.some.inj h
  clear h
  refine (callsIn_wide (n := 4)).1 ?_
  refine callsIn_of_wp_marks Try.func65 rfl trivial ?_ rfl
  simp only [Try.ntmps65, List.size_toArray, List.length_cons, List.length_nil, Nat.reduceAdd, Nat.reduceSub, Array.replicate_succ, Array.replicate_zero, List.push_toArray, List.append_toArray, List.nil_append, List.cons_append]
  gi_wp2_with (refine ⟨trivial, ?_⟩; gi_at_call 133; refine (walk_in Fence.wide _ trivial rfl s _).mono ?_; rintro e w' ⟨rfl, rfl⟩)
  have hc0 : ((w.alloc (.cells #[.bool false] 4)).alloc (.cells #[.string s] 9)).cell? ⟨w.heap.size + 1, 0, none⟩ = some (.string s) := by
    have := (Blk.new (w.alloc (.cells #[.bool false] 4)) 9 #[.string s]).cell 0 _ rfl
    rwa [World.size_alloc] at this
  have hb0 := (Blk.new w 4 #[.bool false]).alloc (.cells #[.string s] 9)
  have hB0 : Below w.heap.size w ((w.alloc (.cells #[.bool false] 4)).alloc (.cells #[.string s] 9)) := ((Below.refl _ w).alloc (Nat.le_refl _) _).alloc (by simp) _
  refine wpIn_rangeFunc_ownF (α := Int × ByteArray) (encs := encI) rfl (show 1 ≤ 4 by decide) (gf := 159) (lb := #[.pointer (some ⟨w.heap.size + 1, 0, none⟩)]) rfl trivial (enters_of Try.func159 (by kernel_rfl) rfl)
    (walk_stops 3 (by decide) (w.heap.size + 1) (w.heap.size + 2) s hs _ (by omega) (by simp) hc0) belowK_t (belowK_b (by simp)) (Below.refl _ _) (fun _ => rfl)
    (fun pre W => (W.cell? ⟨w.heap.size, 0, none⟩ = some (.bool false) ∧ W.frozen? ⟨w.heap.size, 0, none⟩ = false ∧ noNeg pre) ∧ Below w.heap.size w W)
    (fun c pre W => (c = .ret ∧ W.cell? ⟨w.heap.size, 0, none⟩ = some (.bool false) ∧ hasNeg pre) ∧ Below w.heap.size w W)
    (OwnFrom.and (Own.from (fun s A B row hs hg hr => ⟨cell_kept hs.1 hg hr, (frozen_kept hs.1 hg hr).trans hs.2.1, hs.2.2⟩) _) (ownFrom_below (Nat.le_refl _) (by simp; omega)))
    (fun c => OwnFrom.and (Own.from (fun s A B row hs hg hr => ⟨hs.1, cell_kept hs.2.1 hg hr, hs.2.2⟩) _) (ownFrom_below (Nat.le_refl _) (by simp; omega)))
    ⟨⟨hb0.cell 0 _ rfl, hb0.free 0, fun x hx => absurd hx (by simp)⟩, hB0⟩
    (fun x => { tmps := #[.string s, undef, .pointer (some ⟨w.heap.size, 0, none⟩), .int .i64 x.1, .string s, .func (.func 159) #[] #[.pointer (some ⟨w.heap.size + 1, 0, none⟩)], .int .i64 x.1, .string x.2, undef, undef], defers := [] }) ?assign ?body ?done ?stop
  case assign =>
    intro l x W K hK
    gi_wp2
    exact hK
  case body =>
    rintro l pre x W ⟨⟨hcl, hfr, hall⟩, hB⟩ _
    by_cases hx : x.1 < 0
    · have d1 : decide (x.1 < 0) = true := decide_eq_true hx
      have HX := Aside0.mk (show hasNeg (pre ++ [x]) from ⟨x, by simp, hx⟩)
      clear hx
      gi_wp2
      exact ⟨KeepsOthers.setCell _ _ _, ⟨rfl, World.cell?_setCell_same' _ _ _ (by rw [hcl]; rfl), HX.out⟩, hB.setCell (p := ⟨w.heap.size, 0, none⟩) (Nat.le_refl _) _⟩
    · have d1 : decide (x.1 < 0) = false := decide_eq_false hx
      have HX := Aside0.mk (show noNeg (pre ++ [x]) from fun y hy => by rcases List.mem_append.1 hy with hy | hy; exact hall y hy; rw [List.mem_singleton.1 hy]; exact hx)
      clear hx
      gi_wp2
      exact ⟨KeepsOthers.refl _, Below.refl _ _, ⟨hcl, hfr, HX.out⟩, hB⟩
  case done =>
    rintro D ys W hD rfl ⟨⟨hcl, hfr, hall⟩, hB⟩ hK
    have hrt : rightO (bl s) = true := (items_all s).mpr hall
    gi_wp2
    have hK' := (KeepsOthers.setCell W ⟨w.heap.size, 0, none⟩ (.bool true)).same D _ hK rfl
    refine ⟨by simp, .inl ⟨_, _, rfl, run_takeDeferred hK', ?_⟩⟩
    have hc5 := cell_kept (World.cell?_setCell_same' W ⟨w.heap.size, 0, none⟩ (.bool true) (by rw [hcl]; rfl)) (grownBy_putObj' _ D (.deferred none)) (fun r e => by cases e; exact ⟨_, hK', rfl⟩)
    refine ⟨.bool true, ?_, by rw [← hr, hrt], (hB.setCell (p := ⟨w.heap.size, 0, none⟩) (Nat.le_refl _) _).trans (belowK_b (w := w) (Nat.le_refl _) _ D _ _ (by simp at hD; omega) hK' rfl rfl)⟩
    simp [results, Try.f65, go_sem, hc5]
  case stop =>
    rintro D c pre W hD hSp ⟨⟨rfl, hcl, x, hx, hx0⟩, hB⟩ hK
    have hrt : rightO (bl s) = false := by
      cases hq : rightO (bl s) with
      | false => rfl
      | true => exact absurd hx0 ((items_all s).mp hq x (hSp.subset hx))
    gi_wp2
    refine ⟨by simp, .inl ⟨_, _, rfl, run_takeDeferred hK, ?_⟩⟩
    have hc5 := cell_kept hcl (grownBy_putObj' _ D (.deferred none)) (fun r e => by cases e; exact ⟨_, hK, rfl⟩)
    refine ⟨.bool false, ?_, by rw [← hr, hrt], hB.trans (belowK_b (w := w) (Nat.le_refl _) _ D _ _ (by simp at hD; omega) hK rfl rfl)⟩
    simp [results, Try.f65, go_sem, hc5]
end Go.Proofs.Ytejmipoolbodgaa.G
