/- Texts of this session, joined: each is a section. -/
import Derived.Test.YtcmalglippmocaaMFlob3
import Derived.Test.YtcmalglippmocaaMFlob6
import Derived.Test.YtcmalglippmocaaMFlob2
import Derived.Test.YtcmalglippmocaaMFlob1
import Derived.RangeFuncNested
import Derived.RangeFuncBound
import Derived.RangeFuncCalls
import Derived.RangeFuncLeaves
import Derived.RangeFuncFrom
import Derived.Shelf.Abstract
import Derived.Shelf.RegionOpen
import Derived.WalkKit
import Derived.OwnWalkIn
import Derived.TacticsInMore
import Derived.LoopNIn
import Derived.LoopIn
import Derived.Laws.Strings2
import Derived.Laws.Strings
import Derived.Test.YtcmalglippmocaaMFlob4
set_option linter.unusedVariables false
set_option linter.unusedSimpArgs false
section
/- By hand: tcp.MSS: a range over tcp.walk. -/
namespace Go.Proofs.Ytcmalglippmocaa.G
open Go.RowKit Go.Shelf Go.Proofs.YtcmalglippmocaaW.PrintWords Go.Proofs.YtcmalglippmocaaW.PrintLast Go.Proofs.YtcmalglippmocaaW.PrintMore Go.Proofs.Ytcmalglippmocaa.Pal
attribute [local go_sem] Oper.semAt_some
set_option linter.unusedVariables false
set_option linter.unusedSimpArgs false
/-- MSS's three results, in their cells. -/
abbrev Res3 (k : Nat) (a b : Int) (c : Bool) : List (Nat × TypeId × Array Value) := [(k, 3, #[.int .i64 a]), (k + 1, 3, #[.int .i64 b]), (k + 1 + 1, 4, #[.bool c])]
theorem res3_new (w : World) : Hp (((w.alloc (.cells #[.int .i64 0] 3)).alloc (.cells #[.int .i64 0] 3)).alloc (.cells #[.bool false] 4)) (Res3 w.heap.size 0 0 false) := by
  have b1 := Blk.new (w.alloc (.cells #[.int .i64 0] 3)) 3 #[.int .i64 0]
  have b2 := Blk.new ((w.alloc (.cells #[.int .i64 0] 3)).alloc (.cells #[.int .i64 0] 3)) 4 #[.bool false]
  rw [World.size_alloc] at b1
  rw [World.size_alloc, World.size_alloc] at b2
  exact .cons (((Blk.new w _ _).alloc _).alloc _) (.cons (b1.alloc _) (.cons b2 (.nil _)))
theorem Res3.facts {W : World} {k : Nat} {a b : Int} {c : Bool} (h : Hp W (Res3 k a b c)) :
    (W.cell? ⟨k, 0, none⟩ = some (.int .i64 a) ∧ W.frozen? ⟨k, 0, none⟩ = false) ∧ (W.cell? ⟨k + 1, 0, none⟩ = some (.int .i64 b) ∧ W.frozen? ⟨k + 1, 0, none⟩ = false) ∧ (W.cell? ⟨k + 1 + 1, 0, none⟩ = some (.bool c) ∧ W.frozen? ⟨k + 1 + 1, 0, none⟩ = false) :=
  ⟨⟨h.head.cell 0 _ rfl, h.head.free 0⟩, ⟨h.tail.head.cell 0 _ rfl, h.tail.head.free 0⟩, ⟨h.tail.tail.head.cell 0 _ rfl, h.tail.tail.head.free 0⟩⟩
theorem Res3.put {W : World} {k : Nat} {a b : Int} {c : Bool} (h : Hp W (Res3 k a b c)) (a' b' : Int) (c' : Bool) :
    Hp (((W.setCell ⟨k, 0, none⟩ (.int .i64 a')).setCell ⟨k + 1, 0, none⟩ (.int .i64 b')).setCell ⟨k + 1 + 1, 0, none⟩ (.bool c')) (Res3 k a' b' c') := by
  have h1 := Hp.set (l1 := []) (l2 := [_, _]) (show Hp W ([] ++ (k, 3, #[.int .i64 a]) :: [_, _]) from h) 0 (.int .i64 a') (by simp) (by simp; omega)
  have h2 := Hp.set (l1 := [_]) (l2 := [_]) h1 0 (.int .i64 b') (by simp) (by simp)
  exact Hp.set (l1 := [_, _]) (l2 := []) h2 0 (.bool c') (by simp; omega) (by simp)

set_option maxRecDepth 100000 in
set_option maxHeartbeats 4000000 in
theorem tcp_MSS.no (s : ByteArray) (hs : s.size ≤ 140737488351232) (hr : rightO (bl s) = false) (w : World) :
    Calls Try.prog 59 #[.string s] w fun e w' => e = .returned (.tuple #[.int .i64 0, .int .i64 0, .bool false]) ∧ Below w.heap.size w w' := by
  have HR := Aside0.mk (show tcp_Right.f s = some false by rw [Pure.right_is s hs, hr])
  clear hs hr
  have HB := Aside0.mk ((((Below.refl _ w).alloc (Nat.le_refl _) (.cells #[.int .i64 0] 3)).alloc (by simp) (.cells #[.int .i64 0] 3)).alloc (by simp; omega) (.cells #[.bool false] 4))
  refine (callsIn_wide (n := 4)).1 ?_
  refine callsIn_of_wp_marks Try.func59 rfl trivial ?_ rfl
  simp only [Try.ntmps59, List.size_toArray, List.length_cons, List.length_nil, Nat.reduceAdd, Nat.reduceSub, Array.replicate_succ, Array.replicate_zero, List.push_toArray, List.append_toArray, List.nil_append, List.cons_append]
  gi_wp2_with (refine ⟨trivial, ?_⟩; gi_at_call 76; refine (callsIn_wide.2 (tcp_Right.calls s false _ HR.out)).mono ?_; rintro e w2 ⟨rfl, g1⟩; replace HB := Aside0.mk (HB.out.trans (g1.mono HB.out.size)); have HP := Aside0.mk ((res3_new w).below g1 (by simp; omega)); obtain ⟨⟨c0, z0⟩, ⟨c1, z1⟩, c2, z2⟩ := Res3.facts HP.out; clear g1)
  have HQ := Aside0.mk (Res3.facts (Res3.put HP.out 0 0 false))
  clear c0 c1 c2 z0 z1 z2
  obtain ⟨⟨d0, _⟩, ⟨d1, _⟩, d2, _⟩ := HQ.out
  refine ⟨.tuple #[.int .i64 0, .int .i64 0, .bool false], ?_, rfl, ((HB.out.setCell (p := ⟨w.heap.size, 0, none⟩) (Nat.le_refl _) _).setCell (p := ⟨w.heap.size + 1, 0, none⟩) (by simp) _).setCell (p := ⟨w.heap.size + 1 + 1, 0, none⟩) (by simp; omega) _⟩
  simp [results, Try.f59, go_sem, d0, d1, d2]

/-- Where a region can only go on: its other exits told as none. -/
def goesOn (Q : Exit → Act → World → Prop) : Exit → Act → World → Prop
  | .normal, a, w => Q .normal a w
  | _, _, _ => False
theorem wpIn_goesOn {F : Fence} {n : Nat} {P : Program} {c : Code} {Q : Exit → Act → World → Prop} {a : Act} {w : World} (h : c.wpIn F n P (goesOn Q) a w) : c.wpIn F n P Q a w :=
  Code.wpIn_mono (fun e a w hq => by cases e <;> first | exact hq | exact False.elim hq) h
theorem goesOn_intro {Q : Exit → Act → World → Prop} {a : Act} {w : World} (h : Q .normal a w) : goesOn Q .normal a w := h
theorem oper_inRound {F : Fence} {n l : Nat} {P : Program} {o : Oper} {a : Act} {w : World} {K K' : Act → World → Prop} {Q : Exit → Act → World → Prop} (hro : F.round = none) (hd : ∀ c, o.op ≠ .defer c) (hK : ∀ a w, K a w → K' a w) (h : o.wpIn F n P a w K Q) : o.wpIn (F.inRound l) n P a w K' Q := by
  have h := Oper.wpIn_mono hK h
  unfold Oper.wpIn at h ⊢
  rw [Oper.semAt_eq _ _ _ hd] at h ⊢
  exact h
theorem wpAny_inRound {F : Fence} {n l : Nat} {P : Program} {md : Region.Mode} {ops : Array Oper} {Q : Exit → Act → World → Prop} (hro : F.round = none) (hd : ∀ (i : Nat) (o : Oper), ops[i]? = some o → ∀ c, o.op ≠ .defer c) :
    ∀ (fuel : Nat) (listed : Array Bool) (a : Act) (w : World), wpAnyIn F n P md ops Q fuel listed a w → wpAnyIn (F.inRound l) n P md ops Q fuel listed a w
  | 0, _, _, _, h => h
  | fuel + 1, listed, a, w, h => ⟨h.1, fun i hi => by
      have h2 := h.2 i hi
      unfold wpOpIn at h2 ⊢
      cases ho : ops[i]? with
      | none => rw [ho] at h2; exact wpAny_inRound hro hd fuel _ _ _ h2
      | some o =>
        rw [ho] at h2
        dsimp only at h2 ⊢
        split
        · rename_i hw; rw [if_pos hw] at h2; exact oper_inRound hro (hd i o ho) (fun a w hk => wpAny_inRound hro hd fuel _ _ _ hk) h2
        · rename_i hw; rw [if_neg hw] at h2; exact ⟨h2.1, wpAny_inRound hro hd fuel _ _ _ h2.2⟩⟩
def noDefer (ops : Array Oper) : Bool := ops.toList.all fun o => match o.op with | .defer _ => false | _ => true
theorem noDefer_spec {ops : Array Oper} (h : noDefer ops = true) : ∀ (i : Nat) (o : Oper), ops[i]? = some o → ∀ c, o.op ≠ .defer c := fun i o ho c hc => by
  have h2 := List.all_eq_true.mp h o (by rw [Array.mem_toList_iff]; exact Array.mem_of_getElem? ho)
  rw [hc] at h2
  exact Bool.noConfusion h2
/-- A region that draws, within a round: walked as in no round. -/
theorem region_inRound {F : Fence} {n l id : Nat} {P : Program} {ops : Array Oper} {Q : Exit → Act → World → Prop} {a : Act} {w : World} (hro : F.round = none) (hm : P.follows .mixedOrders = true) (hd : noDefer ops = true)
    (h : wpAnyIn F n P .any ops (goesOn Q) ops.size (Array.replicate ops.size false) a w.drew) : (Code.region id ops true).wpIn (F.inRound l) n P Q a w :=
  wpIn_goesOn (wpIn_region_any hm (wpAny_inRound hro (noDefer_spec hd) _ _ _ _ h))
theorem hit_facts (o : ByteArray) (h : 0 < o.size) (w : World) : (Instr.index 9 (.string o) (.int .i64 0)).run Try.prog w = .ok (.int .u8 (((bl o).getD 0 0).toNat : Int)) w := by
  rw [run_index_string (P := Try.prog) (w := w) 9 o .i64 0 Try.underlying9, dif_pos ⟨by decide, by omega⟩]
  congr 3
  simp [List.getD_eq_getElem?_getD, List.getElem?_eq_getElem (show 0 < (bl o).length by rw [bl_length]; exact h)]; rfl
theorem at_facts (o : ByteArray) (k : Nat) (h : k < o.size) (w : World) : (Instr.index 9 (.string o) (.int .i64 (k : Int))).run Try.prog w = .ok (.int .u8 (((bl o).getD k 0).toNat : Int)) w := by
  rw [run_index_string (P := Try.prog) (w := w) 9 o .i64 (k : Int) Try.underlying9, dif_pos ⟨by omega, by omega⟩]
  congr 3
  simp [List.getD_eq_getElem?_getD, List.getElem?_eq_getElem (show k < (bl o).length by rw [bl_length]; exact h)]; rfl
theorem or_bytes (a b : Nat) (ha : a < 256) (hb : b < 256) : Go.bits .or .i64 ((a : Int) * 256) (b : Int) = ((a * 256 + b : Nat) : Int) := by
  have e := i64_or (a * 256) b (by omega) (by omega)
  rw [show ((a * 256 : Nat) : Int) = (a : Int) * 256 by omega] at e
  rw [e]
  have := (Nat.two_pow_add_eq_or_of_lt (i := 8) (b := b) hb a)
  rw [show (2 : Nat) ^ 8 = 256 from rfl] at this
  rw [Nat.mul_comm a 256, this]

theorem res_cells {W : World} {k : Nat} {a b : Int} {c : Bool} (c0 : W.cell? ⟨k, 0, none⟩ = some (.int .i64 a)) (c1 : W.cell? ⟨k + 1, 0, none⟩ = some (.int .i64 b)) (c2 : W.cell? ⟨k + 1 + 1, 0, none⟩ = some (.bool c)) (p q : Int) (r : Bool) :
    (((W.setCell ⟨k, 0, none⟩ (.int .i64 p)).setCell ⟨k + 1, 0, none⟩ (.int .i64 q)).setCell ⟨k + 1 + 1, 0, none⟩ (.bool r)).cell? ⟨k, 0, none⟩ = some (.int .i64 p) ∧ (((W.setCell ⟨k, 0, none⟩ (.int .i64 p)).setCell ⟨k + 1, 0, none⟩ (.int .i64 q)).setCell ⟨k + 1 + 1, 0, none⟩ (.bool r)).cell? ⟨k + 1, 0, none⟩ = some (.int .i64 q) ∧ (((W.setCell ⟨k, 0, none⟩ (.int .i64 p)).setCell ⟨k + 1, 0, none⟩ (.int .i64 q)).setCell ⟨k + 1 + 1, 0, none⟩ (.bool r)).cell? ⟨k + 1 + 1, 0, none⟩ = some (.bool r) := by
  refine ⟨?_, ?_, ?_⟩
  · simp [World.cell?_setCell_other, World.cell?_setCell_same', c0]
  · simp [World.cell?_setCell_other, World.cell?_setCell_same', c1]
  · simp [World.cell?_setCell_other, World.cell?_setCell_same', c2]
set_option maxRecDepth 100000 in
set_option maxHeartbeats 8000000 in
theorem tcp_MSS.yes (s : ByteArray) (hs : s.size ≤ 140737488351232) (hr : rightO (bl s) = true) (a b : Int) (c : Bool) (hres : (match found (items s 0) with | none => (0, 0, false) | some v => (v.1, v.2, true)) = (a, b, c)) (w : World) :
    Calls Try.prog 59 #[.string s] w fun e w' => e = .returned (.tuple #[.int .i64 a, .int .i64 b, .bool c]) ∧ Below w.heap.size w w' := by
  have HR := Aside0.mk (show tcp_Right.f s = some true by rw [Pure.right_is s hs, hr])
  have HI := Aside0.mk (items_some s hr)
  have HS := Aside0.mk hs
  have HE := Aside0.mk hres
  clear hs hr hres
  have HB := Aside0.mk ((((Below.refl _ w).alloc (Nat.le_refl _) (.cells #[.int .i64 0] 3)).alloc (by simp) (.cells #[.int .i64 0] 3)).alloc (by simp; omega) (.cells #[.bool false] 4))
  refine (callsIn_wide (n := 4)).1 ?_
  refine callsIn_of_wp_marks Try.func59 rfl trivial ?_ rfl
  simp only [Try.ntmps59, List.size_toArray, List.length_cons, List.length_nil, Nat.reduceAdd, Nat.reduceSub, Array.replicate_succ, Array.replicate_zero, List.push_toArray, List.append_toArray, List.nil_append, List.cons_append]
  gi_wp2_with (first
    | (refine ⟨trivial, ?_⟩; gi_at_call 76; refine (callsIn_wide.2 (tcp_Right.calls s true _ HR.out)).mono ?_; rintro e w2 ⟨rfl, g1⟩; replace HB := Aside0.mk (HB.out.trans (g1.mono HB.out.size)); have HP := Aside0.mk ((res3_new w).below g1 (by simp; omega)); have HZ := Aside0.mk (show w.heap.size + 3 ≤ w2.heap.size by have := g1.size; simp at this; omega); clear g1)
    | (refine ⟨trivial, ?_⟩; gi_at_call 79; refine (walk_in Fence.wide _ trivial rfl s _).mono ?_; rintro e w3 ⟨rfl, rfl⟩))
  replace HB := Aside0.mk (HB.out.alloc HB.out.size (.cells #[.string s] 9))
  replace HP := Aside0.mk (HP.out.alloc (.cells #[.string s] 9))
  have hc0 : (w2.alloc (.cells #[.string s] 9)).cell? ⟨w2.heap.size, 0, none⟩ = some (.string s) := (Blk.new w2 9 #[.string s]).cell 0 _ rfl
  have hsz : (w2.alloc (.cells #[.string s] 9)).heap.size = w2.heap.size + 1 := by simp
  have hz := HZ.out
  generalize w2.alloc (.cells #[.string s] 9) = W0 at hc0 hsz HB HP ⊢
  refine wpIn_rangeFunc_ownF (α := ItemR) (encs := encR) rfl (show 1 ≤ 4 by decide) (gf := 84) (lb := #[.pointer (some ⟨w2.heap.size, 0, none⟩)]) rfl trivial (enters_of Try.func84 (by kernel_rfl) rfl)
    (walk_stopsR 3 (by decide) w2.heap.size (w2.heap.size + 1) s HS.out HI.out W0 (by omega) (by omega) hc0) belowK_t (belowK_b (by omega)) (Below.refl _ _) (fun _ => rfl)
    (fun pre W => (((W.cell? ⟨w.heap.size, 0, none⟩ = some (.int .i64 0) ∧ W.frozen? ⟨w.heap.size, 0, none⟩ = false) ∧ (W.cell? ⟨w.heap.size + 1, 0, none⟩ = some (.int .i64 0) ∧ W.frozen? ⟨w.heap.size + 1, 0, none⟩ = false) ∧ (W.cell? ⟨w.heap.size + 1 + 1, 0, none⟩ = some (.bool false) ∧ W.frozen? ⟨w.heap.size + 1 + 1, 0, none⟩ = false)) ∧ found (pre.map (·.1)) = none) ∧ Below w.heap.size w W)
    (fun c pre W => ((c = .ret) ∧ ∃ p q : Int, found (pre.map (·.1)) = some (p, q) ∧ W.cell? ⟨w.heap.size, 0, none⟩ = some (.int .i64 p) ∧ W.cell? ⟨w.heap.size + 1, 0, none⟩ = some (.int .i64 q) ∧ W.cell? ⟨w.heap.size + 1 + 1, 0, none⟩ = some (.bool true)) ∧ Below w.heap.size w W)
    (OwnFrom.and (Own.from (fun s A B row hs hg hr => ⟨⟨⟨cell_kept hs.1.1.1 hg hr, (frozen_kept hs.1.1.1 hg hr).trans hs.1.1.2⟩, ⟨cell_kept hs.1.2.1.1 hg hr, (frozen_kept hs.1.2.1.1 hg hr).trans hs.1.2.1.2⟩, ⟨cell_kept hs.1.2.2.1 hg hr, (frozen_kept hs.1.2.2.1 hg hr).trans hs.1.2.2.2⟩⟩, hs.2⟩) _) (ownFrom_below (Nat.le_refl _) (by omega)))
    (fun c => OwnFrom.and (Own.from (fun s A B row hs hg hr => by obtain ⟨e, p, q, h1, h2, h3, h4⟩ := hs; exact ⟨e, p, q, h1, cell_kept h2 hg hr, cell_kept h3 hg hr, cell_kept h4 hg hr⟩) _) (ownFrom_below (Nat.le_refl _) (by omega)))
    ⟨⟨Res3.facts HP.out, rfl⟩, HB.out⟩
    (fun x => { tmps := #[.string s, undef, .pointer (some ⟨w.heap.size, 0, none⟩), .pointer (some ⟨w.heap.size + 1, 0, none⟩), .pointer (some ⟨w.heap.size + 1 + 1, 0, none⟩), .int .i64 x.1.1, .string x.1.2, .string s, .bool true, .bool false, .string s, .func (.func 84) #[] #[.pointer (some ⟨w2.heap.size, 0, none⟩)], .int .i64 x.1.1, .string x.1.2, undef, undef, undef, undef, undef, undef, undef, undef, undef, undef, undef, undef, undef, undef, undef, undef, undef, undef], defers := [] }) ?assign ?body ?done ?stop
  case assign =>
    intro l x W K hK
    gi_wp2
    exact hK
  case body =>
    rintro l pre ⟨⟨n, o⟩, ho⟩ W ⟨⟨hcs, hnone⟩, hB⟩ _
    dsimp only at ho ⊢
    have HN := Aside0.mk hnone
    have HB1 := Aside0.mk hB
    clear hnone hB
    obtain ⟨b0, hb0⟩ : ∃ b : Nat, b = ((bl o).getD 0 0).toNat := ⟨_, rfl⟩
    have i0 := hit_facts o ho
    rw [← hb0] at i0
    by_cases h2 : b0 = 2
    case neg =>
      have d1 : ((b0 : Int) == 2) = false := by rw [beq_eq_false_iff_ne]; omega
      have d2 : (b0 == 2) = false := by rw [beq_eq_false_iff_ne]; exact h2
      have HX := Aside0.mk (show found ((pre ++ [(⟨(n, o), ho⟩ : ItemR)]).map (·.1)) = none by
        rw [List.map_append]
        refine found_miss HN.out ?_
        have : (bl o).getD 0 0 ≠ 2 := fun h => h2 (by rw [hb0, h]; rfl)
        simp only [hitI, Bool.and_eq_false_iff, beq_eq_false_iff_ne]
        exact .inl this)
      clear h2 hb0
      gi_wp2
      exact ⟨KeepsOthers.refl _, Below.refl _ _, ⟨hcs, HX.out⟩, HB1.out⟩
    have d1 : ((b0 : Int) == 2) = true := by rw [beq_iff_eq]; omega
    have d2 : (b0 == 2) = true := by rw [beq_iff_eq]; exact h2
    by_cases h4 : o.size = 4
    case neg =>
      have d3 : ((o.size : Int) == 4) = false := by rw [beq_eq_false_iff_ne]; omega
      have d4 : (o.size == 4) = false := by rw [beq_eq_false_iff_ne]; exact h4
      have HX := Aside0.mk (show found ((pre ++ [(⟨(n, o), ho⟩ : ItemR)]).map (·.1)) = none by
        rw [List.map_append]
        refine found_miss HN.out ?_
        simp only [hitI, Bool.and_eq_false_iff, beq_eq_false_iff_ne]
        exact .inr h4)
      clear h2 hb0 h4
      gi_wp2
      exact ⟨KeepsOthers.refl _, Below.refl _ _, ⟨hcs, HX.out⟩, HB1.out⟩
    have d3 : ((o.size : Int) == 4) = true := by rw [beq_iff_eq]; omega
    have d4 : (o.size == 4) = true := by rw [beq_iff_eq]; exact h4
    obtain ⟨b2, hb2⟩ : ∃ b : Nat, b = ((bl o).getD 2 0).toNat := ⟨_, rfl⟩
    obtain ⟨b3, hb3⟩ : ∃ b : Nat, b = ((bl o).getD 3 0).toNat := ⟨_, rfl⟩
    have i2 : ∀ w, (Instr.index 9 (.string o) (.int .i64 2)).run Try.prog w = .ok (.int .u8 (b2 : Int)) w := fun w => by rw [hb2]; exact at_facts o 2 (by omega) w
    have i3 : ∀ w, (Instr.index 9 (.string o) (.int .i64 3)).run Try.prog w = .ok (.int .u8 (b3 : Int)) w := fun w => by rw [hb3]; exact at_facts o 3 (by omega) w
    have l2 : b2 < 256 := by rw [hb2]; exact UInt8.toNat_lt _
    have l3 : b3 < 256 := by rw [hb3]; exact UInt8.toNat_lt _
    have ho_ := or_bytes b2 b3 l2 l3
    have v1 : wrap64 ((b2 : Int) * 256) = (b2 : Int) * 256 := by unfold wrap64; omega
    have v4 : IntKind.i64.wrap ((b2 : Int) * 256) = (b2 : Int) * 256 := by rw [IntKind.wrap_i64]; omega
    have v2 : IntKind.i64.wrap (b2 : Int) = (b2 : Int) := by rw [IntKind.wrap_i64]; omega
    have v3 : IntKind.i64.wrap (b3 : Int) = (b3 : Int) := by rw [IntKind.wrap_i64]; omega
    have HX := Aside0.mk (show found ((pre ++ [(⟨(n, o), ho⟩ : ItemR)]).map (·.1)) = some (((b2 * 256 + b3 : Nat) : Int), wrap64 (n + 2)) by
      rw [List.map_append]
      refine (found_hit HN.out ?_).trans ?_
      · have : (bl o).getD 0 0 = 2 := UInt8.toNat_inj.1 (by rw [← hb0, h2]; rfl)
        simp only [hitI, Bool.and_eq_true, beq_iff_eq]
        exact ⟨this, h4⟩
      · rw [hb2, hb3]; rfl)
    clear h2 hb0 h4 hb2 hb3 l2 l3
    have hmx : Try.prog.follows .mixedOrders = true := by kernel_rfl
    gi_wp2
    refine region_inRound (F := Fence.wide) rfl hmx (by kernel_rfl) ?_
    refine wpAnyIn_take (i := 0) (v := .string o) rfl rfl (by kernel_rfl) (by kernel_rfl) (by kernel_rfl) (fun _ _ _ h => h) ⟨Or.inl ⟨by rfl, ?_⟩, fun _ => rfl⟩ ?_
    · intro w; first | (go_simp; done) | (go_simp; exact v4) | (go_simp; rw [IntKind.wrap_i64]; unfold wrap64; omega)
    refine wpAnyIn_take (i := 1) (v := .int .u8 (b2 : Int)) rfl rfl (by kernel_rfl) (by kernel_rfl) (by kernel_rfl) (fun _ _ _ h => h) ⟨Or.inl ⟨by rfl, ?_⟩, fun _ => rfl⟩ ?_
    · intro w; first | (go_simp; done) | (go_simp; exact v4) | (go_simp; rw [IntKind.wrap_i64]; unfold wrap64; omega)
    refine wpAnyIn_take (i := 2) (v := .int .i64 (b2 : Int)) rfl rfl (by kernel_rfl) (by kernel_rfl) (by kernel_rfl) (fun _ _ _ h => h) ⟨Or.inl ⟨by rfl, ?_⟩, fun _ => rfl⟩ ?_
    · intro w; first | (go_simp; done) | (go_simp; exact v4) | (go_simp; rw [IntKind.wrap_i64]; unfold wrap64; omega)
    refine wpAnyIn_take (i := 3) (v := .int .i64 ((b2 : Int) * 256)) rfl rfl (by kernel_rfl) (by kernel_rfl) (by kernel_rfl) (fun _ _ _ h => h) ⟨Or.inl ⟨by rfl, ?_⟩, fun _ => rfl⟩ ?_
    · intro w; first | (go_simp; done) | (go_simp; exact v4) | (go_simp; rw [IntKind.wrap_i64]; unfold wrap64; omega)
    refine wpAnyIn_take (i := 4) (v := .string o) rfl rfl (by kernel_rfl) (by kernel_rfl) (by kernel_rfl) (fun _ _ _ h => h) ⟨Or.inl ⟨by rfl, ?_⟩, fun _ => rfl⟩ ?_
    · intro w; first | (go_simp; done) | (go_simp; exact v4) | (go_simp; rw [IntKind.wrap_i64]; unfold wrap64; omega)
    refine wpAnyIn_take (i := 5) (v := .int .u8 (b3 : Int)) rfl rfl (by kernel_rfl) (by kernel_rfl) (by kernel_rfl) (fun _ _ _ h => h) ⟨Or.inl ⟨by rfl, ?_⟩, fun _ => rfl⟩ ?_
    · intro w; first | (go_simp; done) | (go_simp; exact v4) | (go_simp; rw [IntKind.wrap_i64]; unfold wrap64; omega)
    refine wpAnyIn_take (i := 6) (v := .int .i64 (b3 : Int)) rfl rfl (by kernel_rfl) (by kernel_rfl) (by kernel_rfl) (fun _ _ _ h => h) ⟨Or.inl ⟨by rfl, ?_⟩, fun _ => rfl⟩ ?_
    · intro w; first | (go_simp; done) | (go_simp; exact v4) | (go_simp; rw [IntKind.wrap_i64]; unfold wrap64; omega)
    refine wpAnyIn_take (i := 7) (v := .int .i64 ((b2 * 256 + b3 : Nat) : Int)) rfl rfl (by kernel_rfl) (by kernel_rfl) (by kernel_rfl) (fun _ _ _ h => h) ⟨Or.inl ⟨by rfl, ?_⟩, fun _ => rfl⟩ ?_
    · intro w; first | (go_simp; done) | (go_simp; exact v4) | (go_simp; rw [IntKind.wrap_i64]; unfold wrap64; omega)
    refine wpAnyIn_take (i := 8) (v := .int .i64 n) rfl rfl (by kernel_rfl) (by kernel_rfl) (by kernel_rfl) (fun _ _ _ h => h) ⟨Or.inl ⟨by rfl, ?_⟩, fun _ => rfl⟩ ?_
    · intro w; first | (go_simp; done) | (go_simp; exact v4) | (go_simp; rw [IntKind.wrap_i64]; unfold wrap64; omega)
    refine wpAnyIn_take (i := 9) (v := .int .i64 (wrap64 (n + 2))) rfl rfl (by kernel_rfl) (by kernel_rfl) (by kernel_rfl) (fun _ _ _ h => h) ⟨Or.inl ⟨by rfl, ?_⟩, fun _ => rfl⟩ ?_
    · intro w; first | (go_simp; done) | (go_simp; exact v4) | (go_simp; rw [IntKind.wrap_i64]; unfold wrap64; omega)
    obtain ⟨⟨c0, z0⟩, ⟨c1, z1⟩, c2, z2⟩ := hcs
    refine wpAnyIn_ready (rs := [10]) (by kernel_rfl) (by simp) ?_
    refine AllReadyIn.cons rfl (fun K hK => ?_) AllReadyIn.nil
    go_simp
    refine hK _ _ ?_
    clear hK K
    refine wpAnyIn_ready (rs := [11]) (by kernel_rfl) (by simp) ?_
    refine AllReadyIn.cons rfl (fun K hK => ?_) AllReadyIn.nil
    go_simp
    refine hK _ _ ?_
    clear hK K
    refine wpAnyIn_ready (rs := [12]) (by kernel_rfl) (by simp) ?_
    refine AllReadyIn.cons rfl (fun K hK => ?_) AllReadyIn.nil
    go_simp
    refine hK _ _ ?_
    clear hK K
    refine wpAnyIn_done (by kernel_rfl) ?_ _
    have hcast : ((b2 * 256 + b3 : Nat) : Int) = (b2 : Int) * 256 + (b3 : Int) := by omega
    rw [hcast] at HX
    have k0 : W.drew.cell? ⟨w.heap.size, 0, none⟩ = some (.int .i64 0) := c0
    have k1 : W.drew.cell? ⟨w.heap.size + 1, 0, none⟩ = some (.int .i64 0) := c1
    have k2 : W.drew.cell? ⟨w.heap.size + 1 + 1, 0, none⟩ = some (.bool false) := c2
    have HF := Aside0.mk (res_cells (W := W.drew) (k := w.heap.size) k0 k1 k2 ((b2 : Int) * 256 + (b3 : Int)) (wrap64 (n + 2)) true)
    clear k0 k1 k2 c0 c1 c2 hcast
    refine goesOn_intro ?_
    gi_wp2
    exact ⟨(KeepsOthers.drew W).trans (((KeepsOthers.setCell _ _ _).trans (KeepsOthers.setCell _ _ _)).trans (KeepsOthers.setCell _ _ _)), ⟨rfl, _, _, HX.out, HF.out.1, HF.out.2.1, HF.out.2.2⟩, ((HB1.out.drew.setCell (p := ⟨w.heap.size, 0, none⟩) (Nat.le_refl _) _).setCell (p := ⟨w.heap.size + 1, 0, none⟩) (by simp) _).setCell (p := ⟨w.heap.size + 1 + 1, 0, none⟩) (by simp; omega) _⟩
  case done =>
    rintro D ys W hD hys ⟨⟨hcs, hnone⟩, hB⟩ hK
    have HN := Aside0.mk (show (a, b, c) = (0, 0, false) by have := HE.out; rw [← hys, hnone] at this; exact this.symm)
    have HB1 := Aside0.mk hB
    have HD := Aside0.mk (show w.heap.size ≤ D by omega)
    clear hnone hys hB hD hz
    obtain ⟨⟨c0, z0⟩, ⟨c1, z1⟩, c2, z2⟩ := hcs
    gi_wp2
    have hK' := (((KeepsOthers.setCell W ⟨w.heap.size, 0, none⟩ (.int .i64 0)).trans (KeepsOthers.setCell _ ⟨w.heap.size + 1, 0, none⟩ (.int .i64 0))).trans (KeepsOthers.setCell _ ⟨w.heap.size + 1 + 1, 0, none⟩ (.bool false))).same D _ hK rfl
    have f0 : (((W.setCell ⟨w.heap.size, 0, none⟩ (.int .i64 0)).setCell ⟨w.heap.size + 1, 0, none⟩ (.int .i64 0)).setCell ⟨w.heap.size + 1 + 1, 0, none⟩ (.bool false)).cell? ⟨w.heap.size, 0, none⟩ = some (.int .i64 0) := by simp [World.cell?_setCell_other, World.cell?_setCell_same', c0]
    have f1 : (((W.setCell ⟨w.heap.size, 0, none⟩ (.int .i64 0)).setCell ⟨w.heap.size + 1, 0, none⟩ (.int .i64 0)).setCell ⟨w.heap.size + 1 + 1, 0, none⟩ (.bool false)).cell? ⟨w.heap.size + 1, 0, none⟩ = some (.int .i64 0) := by simp [World.cell?_setCell_other, World.cell?_setCell_same', c1]
    have f2 : (((W.setCell ⟨w.heap.size, 0, none⟩ (.int .i64 0)).setCell ⟨w.heap.size + 1, 0, none⟩ (.int .i64 0)).setCell ⟨w.heap.size + 1 + 1, 0, none⟩ (.bool false)).cell? ⟨w.heap.size + 1 + 1, 0, none⟩ = some (.bool false) := by simp [World.cell?_setCell_other, World.cell?_setCell_same', c2]
    refine ⟨by simp, .inl ⟨_, _, rfl, run_takeDeferred hK', ?_⟩⟩
    have e0 := cell_kept f0 (grownBy_putObj' _ D (.deferred none)) (fun r e => by cases e; exact ⟨_, hK', rfl⟩)
    have e1 := cell_kept f1 (grownBy_putObj' _ D (.deferred none)) (fun r e => by cases e; exact ⟨_, hK', rfl⟩)
    have e2 := cell_kept f2 (grownBy_putObj' _ D (.deferred none)) (fun r e => by cases e; exact ⟨_, hK', rfl⟩)
    refine ⟨.tuple #[.int .i64 0, .int .i64 0, .bool false], ?_, by obtain ⟨rfl, rfl, rfl⟩ := (by have := HN.out; simp only [Prod.mk.injEq] at this; exact this : a = 0 ∧ b = 0 ∧ c = false); rfl, (((HB1.out.setCell (p := ⟨w.heap.size, 0, none⟩) (Nat.le_refl _) _).setCell (p := ⟨w.heap.size + 1, 0, none⟩) (by simp) _).setCell (p := ⟨w.heap.size + 1 + 1, 0, none⟩) (by simp; omega) _).trans (belowK_b (w := w) (Nat.le_refl _) _ D _ _ HD.out hK' rfl rfl)⟩
    simp [results, Try.f59, go_sem, e0, e1, e2]
  case stop =>
    rintro D c' pre W hD hSp ⟨⟨rfl, p, q, hf, c0, c1, c2⟩, hB⟩ hK
    have HN := Aside0.mk (show (a, b, c) = (p, q, true) by have := HE.out; rw [found_prefix hSp hf] at this; exact this.symm)
    have HB1 := Aside0.mk hB
    have HD := Aside0.mk (show w.heap.size ≤ D by omega)
    clear hf hB hD hz hSp
    gi_wp2
    refine ⟨by simp, .inl ⟨_, _, rfl, run_takeDeferred hK, ?_⟩⟩
    have e0 := cell_kept c0 (grownBy_putObj' _ D (.deferred none)) (fun r e => by cases e; exact ⟨_, hK, rfl⟩)
    have e1 := cell_kept c1 (grownBy_putObj' _ D (.deferred none)) (fun r e => by cases e; exact ⟨_, hK, rfl⟩)
    have e2 := cell_kept c2 (grownBy_putObj' _ D (.deferred none)) (fun r e => by cases e; exact ⟨_, hK, rfl⟩)
    refine ⟨.tuple #[.int .i64 p, .int .i64 q, .bool true], ?_, by obtain ⟨rfl, rfl, rfl⟩ := (by have := HN.out; simp only [Prod.mk.injEq] at this; exact this : a = p ∧ b = q ∧ c = true); rfl, HB1.out.trans (belowK_b (w := w) (Nat.le_refl _) _ D _ _ HD.out hK rfl rfl)⟩
    simp [results, Try.f59, go_sem, e0, e1, e2]

theorem tcp_MSS.calls (s : ByteArray) (r1 r2 : Int) (r3 : Bool) (w : World) (h : tcp_MSS.f s = some (r1, r2, r3)) :
    Calls Try.prog 59 #[.string s] w fun e w' => e = .returned (.tuple #[.int .i64 r1, .int .i64 r2, .bool r3]) ∧ Below w.heap.size w w' := by
  unfold tcp_MSS.f at h
  split at h
  case isFalse => exact absurd h (by simp)
  rename_i hs
  have h := Option.some.inj h
  by_cases hr : rightO (bl s) = true
  · obtain ⟨L, hL⟩ := Pure.rightO_some hr
    refine tcp_MSS.yes s hs hr r1 r2 r3 ?_ w
    rw [found_is s hs hL, ← h]
    cases mssOf (bl s) <;> rfl
  · have hf := Bool.eq_false_iff.mpr hr
    rw [Pure.mssOf_not hf] at h
    obtain ⟨rfl, rfl, rfl⟩ : (0 : Int) = r1 ∧ (0 : Int) = r2 ∧ false = r3 := by simpa [mssR] using h
    exact tcp_MSS.no s hs hf w
end Go.Proofs.Ytcmalglippmocaa.G
end

section
namespace Go.Proofs.Ytcmalglippmocaa.G
open Go.RowKit Go.Proofs.YtcmalglippmocaaW.PrintWords Go.Proofs.YtcmalglippmocaaW.PrintLast Go.Proofs.YtcmalglippmocaaW.PrintMore
attribute [local go_sem] max2_int min2_int max_two min_two max_three min_three max_four min_four   -- for this text's walks alone
set_option linter.unusedVariables false
set_option linter.unusedSimpArgs false

def clamp_head.f (a0 : ByteArray) : Option (Int) := if 0 < (a0.size : Int) then (if ((bt a0 0) / 16) = 6 then (some 40) else (some (wrap64 ((wrap64 (Go.bits .and .u8 (bt a0 0) 15)) * 4)))) else (none)
set_option maxHeartbeats 8000000 in
set_option maxRecDepth 100000 in
theorem clamp_head.calls (a0 : ByteArray) (r : Int) (w : World) (h : clamp_head.f a0 = some r) :
  Calls Try.prog 38 #[.string a0] w fun e w' => e = .returned (.int .i64 r) ∧ Drawn0 w w' := by
 have H : (if 0 < (a0.size : Int) then (if ((bt a0 0) / 16) = 6 then (some 40) else (some (wrap64 ((wrap64 (Go.bits .and .u8 (bt a0 0) 15)) * 4)))) else (none)) = some r := h
 clear h
 by_cases c2 : 0 < (a0.size : Int)
 ·rw [if_pos c2] at H
  have c2b0 : decide (0 < (a0.size : Int)) = true := decide_eq_true c2
  have c2b1 : decide (0 < a0.size) = true := decide_eq_true (by omega)
  clear c2
  by_cases c4 : ((bt a0 0) / 16) = 6
  ·rw [if_pos c4] at H
   have c4b0 : (((bt a0 0) / 16) == 6) = true := beq_iff_eq.mpr c4
   have c4b1 : (((bt a0 0) / 16) != 6) = false := bne_eq_false_iff_eq.mpr c4
   clear c4
   obtain rfl := Option.some.inj H
   have p3 : 0 ≤ (0 : Int) := (by omega)
   have q3 : 0 < a0.size := (by have : (0 : Int) < (a0.size : Int) := of_decide_eq_true (by first | (with_reducible assumption) | assumption); omega)
   have hx3 : ∀ h : 0 < a0.size, ((a0[0]'h).toNat : Int) = bt a0 0 := bt_at a0 0
   clear p3
   have qi3 : (0 < (a0.size : Int)) = True := eq_true (of_decide_eq_true (by first | (with_reducible assumption) | assumption))
   replace q3 := eq_true q3
   go_enter Try.func38, Try.ntmps38
   go_wp2
   go_ret
   exact ⟨by first | rfl | (simp; done) | (simp [*]; done), by repeat (first | exact Drawn0.refl _ | apply Drawn0.step)⟩
  ·rw [if_neg c4] at H
   have c4b0 : (((bt a0 0) / 16) == 6) = false := beq_eq_false_iff_ne.mpr c4
   have c4b1 : (((bt a0 0) / 16) != 6) = true := bne_iff_ne.mpr c4
   obtain rfl := Option.some.inj H
   have p3 : 0 ≤ (0 : Int) := (by omega)
   have q3 : 0 < a0.size := (by have : (0 : Int) < (a0.size : Int) := of_decide_eq_true (by first | (with_reducible assumption) | assumption); omega)
   have hx3 : ∀ h : 0 < a0.size, ((a0[0]'h).toNat : Int) = bt a0 0 := bt_at a0 0
   clear p3
   have qi3 : (0 < (a0.size : Int)) = True := eq_true (of_decide_eq_true (by first | (with_reducible assumption) | assumption))
   replace q3 := eq_true q3
   have p5 : 0 ≤ (0 : Int) := (by omega)
   have q5 : 0 < a0.size := (by have : (0 : Int) < (a0.size : Int) := of_decide_eq_true (by first | (with_reducible assumption) | assumption); omega)
   have hx5 : ∀ h : 0 < a0.size, ((a0[0]'h).toNat : Int) = bt a0 0 := bt_at a0 0
   clear p5
   have qi5 : (0 < (a0.size : Int)) = True := eq_true (of_decide_eq_true (by first | (with_reducible assumption) | assumption))
   replace q5 := eq_true q5
   go_enter Try.func38, Try.ntmps38
   go_wp2
   go_ret
   exact ⟨by first | rfl | (simp; done) | (simp [*]; done), by repeat (first | exact Drawn0.refl _ | apply Drawn0.step)⟩
 ·rw [if_neg c2] at H
  exact absurd H (by simp)

def clamp_find.j0 : Nat → ByteArray → Bool → Option (Int × Int × Bool)
 | 0, _, _ => none
 | k + 1, x0, x25 => if x25 = true then (some (0, 0, false)) else ((clamp_head.f x0).bind fun t280 => (if 0 ≤ t280 then (if t280 ≤ (x0.size : Int) then ((tcp_Get.f (x0.extract (t280 : Int).toNat x0.size)).bind fun bt281 => ((tcp_MSS.f bt281.2.2.2.2.2.2.2.1).bind fun bt293 => (if bt293.2.2 = true then (if (Go.bits .and .i64 bt281.2.2.2.2.1 2) = 0 then (some (0, 0, false)) else (some (wrap64 ((wrap64 (t280 + 20)) + bt293.2.1), bt293.1, true))) else (some (0, 0, false))))) else (none)) else (none)))
def clamp_find.f (k : Nat) (a0 : ByteArray) : Option (Int × Int × Bool) := (flow_Get.f a0).bind fun bt273 => (if bt273.2.2.2.2.2 = 0 then (clamp_find.j0 k a0 (bt273.1 != 6)) else (clamp_find.j0 k a0 true))
set_option maxHeartbeats 8000000 in
set_option maxRecDepth 100000 in
theorem clamp_find.calls (k : Nat) (a0 : ByteArray) (r1 : Int) (r2 : Int) (r3 : Bool) (w : World) (h : clamp_find.f k a0 = some (r1, r2, r3)) :
  Calls Try.prog 36 #[.string a0] w fun e w' => e = .returned (.tuple #[.int .i64 r1, .int .i64 r2, .bool r3]) ∧ Below w.heap.size w w' := by
 have hu24 := Try.underlying24
 have hu69 := Try.underlying69
 have HB := mA (Below.refl w.heap.size w)
 have H : ((flow_Get.f a0).bind fun bt273 => (if bt273.2.2.2.2.2 = 0 then (clamp_find.j0 k a0 (bt273.1 != 6)) else (clamp_find.j0 k a0 true))) = some (r1, r2, r3) := h
 clear h
 replace H := Option.bind_eq_some_iff.mp H
 obtain ⟨⟨t273, t274, t275, t276, t277, t278⟩, A20, H⟩ := H
 replace H : (if t278 = 0 then (clamp_find.j0 k a0 (t273 != 6)) else (clamp_find.j0 k a0 true)) = some (r1, r2, r3) := H
 have A2 := mA A20
 clear A20
 have HC3 := mA H
 clear H
 go_enter Try.func36, Try.ntmps36
 go_upto_region 2 with (first | ((with_reducible refine gate_callee (f := 11) rfl ?_); refine goesL_ (some 16) rfl rfl Try.func11 (by kernel_rfl) rfl #[.string a0] rfl (by (try simp only [List.map_toArray, List.map_cons, List.map_nil]); first | done | rfl | (simp only [List.length_drop, List.length_take]; rfl)) ?_; (with_reducible refine (flow_Get.calls a0 t273 t274 t275 t276 t277 t278 _ A2.out).mono ?_); rintro e w4 ⟨rfl, hb⟩; refine ⟨_, rfl, ?_⟩; have n0_ := mA (bP (by repeat (first | (with_reducible first | exact HB.out | apply bA | apply bN | apply bD) | exact HB.out)) hb); clear HB; have HB := n0_; clear n0_; (try clear hb); (try clear hb2); (try clear hk); (try clear hi)) | ((with_reducible refine gate_dst (N := 5) rfl ?_); refine box_event ?hg (N := 5) ?hd (cs := #[.int .i64 0, .string (⟨#[]⟩ : ByteArray), .string (⟨#[]⟩ : ByteArray), .int .i64 0, .int .i64 0]) (t := 24) ?hr ?_; (case hd => rfl); (case hg => rfl); (case hr => first | (go_simp; done) | (go_simp; rfl)); intro gb279 hg w5 hbox hb; obtain ⟨n0_, nq_⟩ := bpr (by repeat (first | (with_reducible first | exact HB.out | apply bA | apply bN | apply bD) | exact HB.out)) hb; have n1_ := mA (hbox); have n2_ := mA ((by rw [hg]; exact nq_ : w.heap.size ≤ gb279)); have n3_ := mA ((by rw [hg]; exact nq_ : w.heap.size ≤ gb279)); clear HB; have HB := n0_; have BK279 := n1_; have GW279 := n2_; have GE279 := n3_; clear nq_; clear n0_ n1_ n2_ n3_; clear hb hbox hg; obtain ⟨hcz6_0, hcz6_1, hcz6_2, hcz6_3, hcz6_4⟩ := bc5 BK279.out; obtain ⟨hfz6_0, hfz6_1, hfz6_2, hfz6_3, hfz6_4⟩ := bf5 BK279.out))
 (try simp only [Act.put, List.setIfInBounds_toArray, List.set_cons_zero, List.set_cons_succ])
 go_cut [25] (fun v25 wc => ∃ (kq : Nat) (x25_2 : Bool), v25 = .bool x25_2 ∧ Aside0 (clamp_find.j0 kq a0 x25_2 = some (r1, r2, r3)) ∧ Aside0 (kq ≤ k) ∧ Aside0 (wc.heap[gb279]? = some (.cells #[.int .i64 t273, .string t274, .string t275, .int .i64 t276, .int .i64 t277] 24 (0, 0))) ∧ Aside0 (Below w.heap.size w wc))
 case first =>
  have H := HC3.out
  clear HC3
  by_cases c7 : t278 = 0
  ·rw [if_pos c7] at H
   have c7b0 : (t278 == 0) = true := beq_iff_eq.mpr c7
   have c7b1 : (t278 != 0) = false := bne_eq_false_iff_eq.mpr c7
   clear c7
   (first | rw [c7b0] | (simp only [i64_w, i32_w]; rw [c7b0]) | skip)
   have H' := mA H
   clear H
   obtain ⟨hcz8_0, hcz8_1, hcz8_2, hcz8_3, hcz8_4⟩ := bc5 BK279.out
   obtain ⟨hfz8_0, hfz8_1, hfz8_2, hfz8_3, hfz8_4⟩ := bf5 BK279.out
   go_wp2
   go_meet
   case rel => exact ⟨_, ((t273 != 6)), (by first | rfl | (simp; done) | (simp [*]; done)), H', ⟨by first | omega | exact Nat.le_refl _⟩, ⟨by (with_reducible repeat (first | apply kN | apply kD | apply kA)); refine blk_put (cs := #[.int .i64 t273, .string t274, .string t275, .int .i64 t276, .int .i64 0]) ?_ 4 _ (by first | rfl | (simp [*]; done)); (with_reducible repeat (first | apply kN | apply kD | apply kA)); refine blk_put (cs := #[.int .i64 t273, .string t274, .string t275, .int .i64 0, .int .i64 0]) ?_ 3 _ (by first | rfl | (simp [*]; done)); (with_reducible repeat (first | apply kN | apply kD | apply kA)); refine blk_put (cs := #[.int .i64 t273, .string t274, .string (⟨#[]⟩ : ByteArray), .int .i64 0, .int .i64 0]) ?_ 2 _ (by first | rfl | (simp [*]; done)); (with_reducible repeat (first | apply kN | apply kD | apply kA)); refine blk_put (cs := #[.int .i64 t273, .string (⟨#[]⟩ : ByteArray), .string (⟨#[]⟩ : ByteArray), .int .i64 0, .int .i64 0]) ?_ 1 _ (by first | rfl | (simp [*]; done)); (with_reducible repeat (first | apply kN | apply kD | apply kA)); refine blk_put (cs := #[.int .i64 0, .string (⟨#[]⟩ : ByteArray), .string (⟨#[]⟩ : ByteArray), .int .i64 0, .int .i64 0]) ?_ 0 _ (by first | rfl | (simp [*]; done)); (with_reducible repeat (first | apply kN | apply kD | apply kA)); exact BK279.out⟩, ⟨by repeat (first | (with_reducible first | exact HB.out | apply bA | apply bN | apply bD | refine bS ?_ GE279.out) | exact HB.out)⟩⟩
  ·rw [if_neg c7] at H
   have c7b0 : (t278 == 0) = false := beq_eq_false_iff_ne.mpr c7
   have c7b1 : (t278 != 0) = true := bne_iff_ne.mpr c7
   (first | rw [c7b0] | (simp only [i64_w, i32_w]; rw [c7b0]) | skip)
   have H' := mA H
   clear H
   go_wp2
   go_meet
   case rel => exact ⟨_, (true), (by first | rfl | (simp; done) | (simp [*]; done)), H', ⟨by first | omega | exact Nat.le_refl _⟩, ⟨by (with_reducible repeat (first | apply kN | apply kD | apply kA)); refine blk_put (cs := #[.int .i64 t273, .string t274, .string t275, .int .i64 t276, .int .i64 0]) ?_ 4 _ (by first | rfl | (simp [*]; done)); (with_reducible repeat (first | apply kN | apply kD | apply kA)); refine blk_put (cs := #[.int .i64 t273, .string t274, .string t275, .int .i64 0, .int .i64 0]) ?_ 3 _ (by first | rfl | (simp [*]; done)); (with_reducible repeat (first | apply kN | apply kD | apply kA)); refine blk_put (cs := #[.int .i64 t273, .string t274, .string (⟨#[]⟩ : ByteArray), .int .i64 0, .int .i64 0]) ?_ 2 _ (by first | rfl | (simp [*]; done)); (with_reducible repeat (first | apply kN | apply kD | apply kA)); refine blk_put (cs := #[.int .i64 t273, .string (⟨#[]⟩ : ByteArray), .string (⟨#[]⟩ : ByteArray), .int .i64 0, .int .i64 0]) ?_ 1 _ (by first | rfl | (simp [*]; done)); (with_reducible repeat (first | apply kN | apply kD | apply kA)); refine blk_put (cs := #[.int .i64 0, .string (⟨#[]⟩ : ByteArray), .string (⟨#[]⟩ : ByteArray), .int .i64 0, .int .i64 0]) ?_ 0 _ (by first | rfl | (simp [*]; done)); (with_reducible repeat (first | apply kN | apply kD | apply kA)); exact BK279.out⟩, ⟨by repeat (first | (with_reducible first | exact HB.out | apply bA | apply bN | apply bD | refine bS ?_ GE279.out) | exact HB.out)⟩⟩
 case rest =>
  clear HC3
  try clear c1
  try clear p2
  try clear c3
  try clear c7
  try clear c7b0
  try clear c7b1
  try clear hcz6_0 hcz6_1 hcz6_2 hcz6_3 hcz6_4
  try clear hcz8_0 hcz8_1 hcz8_2 hcz8_3 hcz8_4
  try clear hfz6_0 hfz6_1 hfz6_2 hfz6_3 hfz6_4
  try clear hfz8_0 hfz8_1 hfz8_2 hfz8_3 hfz8_4
  obtain ⟨kq, x25_2, rfl, HA, HJ2, BK279, HB⟩ := hcut
  cases kq with
  | zero => exact absurd HA.out (by simp [clamp_find.j0])
  | succ kj2 =>
   have H := HA.out
   clear HA
   simp only [clamp_find.j0] at H
   by_cases c9 : x25_2 = true
   ·subst c9
    have H1 : (some (0, 0, false)) = some (r1, r2, r3) := by rw [if_pos rfl] at H; exact H
    clear H
    have H := H1
    clear H1
    simp only [Option.some.injEq, Prod.mk.injEq] at H
    obtain ⟨rfl, rfl, rfl⟩ := H
    go_wp2
    go_ret3
    exact ⟨by first | rfl | (simp [errW_none, errW_some] <;> rfl) | (simp [*, errW_none, errW_some] <;> rfl), by repeat (first | (with_reducible first | exact HB.out | apply bA | apply bN | apply bD | refine bS ?_ GE279.out) | exact HB.out)⟩
   ·replace c9 := Bool.eq_false_iff.mpr c9
    subst c9
    have H1 : ((clamp_head.f a0).bind fun t280 => (if 0 ≤ t280 then (if t280 ≤ (a0.size : Int) then ((tcp_Get.f (a0.extract (t280 : Int).toNat a0.size)).bind fun bt281 => ((tcp_MSS.f bt281.2.2.2.2.2.2.2.1).bind fun bt293 => (if bt293.2.2 = true then (if (Go.bits .and .i64 bt281.2.2.2.2.1 2) = 0 then (some (0, 0, false)) else (some (wrap64 ((wrap64 (t280 + 20)) + bt293.2.1), bt293.1, true))) else (some (0, 0, false))))) else (none)) else (none))) = some (r1, r2, r3) := by rw [if_neg (show ¬ (false = true) by decide)] at H; exact H
    clear H
    have H := H1
    clear H1
    replace H := Option.bind_eq_some_iff.mp H
    obtain ⟨t280, A100, H⟩ := H
    replace H : (if 0 ≤ t280 then (if t280 ≤ (a0.size : Int) then ((tcp_Get.f (a0.extract (t280 : Int).toNat a0.size)).bind fun bt281 => ((tcp_MSS.f bt281.2.2.2.2.2.2.2.1).bind fun bt293 => (if bt293.2.2 = true then (if (Go.bits .and .i64 bt281.2.2.2.2.1 2) = 0 then (some (0, 0, false)) else (some (wrap64 ((wrap64 (t280 + 20)) + bt293.2.1), bt293.1, true))) else (some (0, 0, false))))) else (none)) else (none)) = some (r1, r2, r3) := H
    have A10 := mA A100
    clear A100
    by_cases c11 : 0 ≤ t280
    ·rw [if_pos c11] at H
     have c11b0 := eq_true c11
     have c11b1 : decide (0 ≤ t280) = true := decide_eq_true c11
     clear c11
     by_cases c12 : t280 ≤ (a0.size : Int)
     ·rw [if_pos c12] at H
      have c12b0 := eq_true c12
      have c12b1 : decide (t280 ≤ (a0.size : Int)) = true := decide_eq_true c12
      clear c12
      replace H := Option.bind_eq_some_iff.mp H
      obtain ⟨⟨t281, t282, t283, t284, t285, t286, t287, t288, t289, t290, t291⟩, A130, H⟩ := H
      replace H : ((tcp_MSS.f t288).bind fun bt293 => (if bt293.2.2 = true then (if (Go.bits .and .i64 t285 2) = 0 then (some (0, 0, false)) else (some (wrap64 ((wrap64 (t280 + 20)) + bt293.2.1), bt293.1, true))) else (some (0, 0, false)))) = some (r1, r2, r3) := H
      have A13 := mA A130
      clear A130
      replace H := Option.bind_eq_some_iff.mp H
      obtain ⟨⟨t293, t294, t295⟩, A140, H⟩ := H
      replace H : (if t295 = true then (if (Go.bits .and .i64 t285 2) = 0 then (some (0, 0, false)) else (some (wrap64 ((wrap64 (t280 + 20)) + t294), t293, true))) else (some (0, 0, false))) = some (r1, r2, r3) := H
      have A14 := mA A140
      clear A140
      by_cases c15 : t295 = true
      ·subst c15
       have H1 : (if (Go.bits .and .i64 t285 2) = 0 then (some (0, 0, false)) else (some (wrap64 ((wrap64 (t280 + 20)) + t294), t293, true))) = some (r1, r2, r3) := by rw [if_pos rfl] at H; exact H
       clear H
       have H := H1
       clear H1
       by_cases c16 : (Go.bits .and .i64 t285 2) = 0
       ·rw [if_pos c16] at H
        have c16b0 : ((Go.bits .and .i64 t285 2) == 0) = true := beq_iff_eq.mpr c16
        have c16b1 : ((Go.bits .and .i64 t285 2) != 0) = false := bne_eq_false_iff_eq.mpr c16
        clear c16
        simp only [Option.some.injEq, Prod.mk.injEq] at H
        obtain ⟨rfl, rfl, rfl⟩ := H
        go_wp2_with (first | ((with_reducible refine gate_callee (f := 38) rfl ?_); refine goesL_ (some 27) rfl rfl Try.func38 (by kernel_rfl) rfl #[.string a0] rfl (by (try simp only [List.map_toArray, List.map_cons, List.map_nil]); first | done | rfl | (simp only [List.length_drop, List.length_take]; rfl)) ?_; (with_reducible refine (clamp_head.calls a0 t280 _ A10.out).mono ?_); rintro e w' ⟨rfl, ⟨nd, rfl⟩⟩; refine ⟨_, rfl, ?_⟩; (try (rw [drewN_self wc]; generalize hq_ : World.drewN wc _ = wc; have n0_ : Aside0 (wc.heap[gb279]? = some (.cells #[.int .i64 t273, .string t274, .string t275, .int .i64 t276, .int .i64 t277] 24 (0, 0))) := ⟨by rw [← hq_]; exact (by (with_reducible repeat (first | apply kN | apply kD | apply kA)); exact BK279.out)⟩; have n1_ : Aside0 (Below w.heap.size w wc) := ⟨by rw [← hq_]; exact (by repeat (first | (with_reducible first | exact HB.out | apply bA | apply bN | apply bD | refine bS ?_ GE279.out) | exact HB.out))⟩; clear BK279 HB hq_; have BK279 := n0_; have HB := n1_; clear n0_ n1_))) | ((with_reducible refine gate_callee (f := 49) rfl ?_); refine goesL_ (some 32) rfl rfl Try.func49 (by kernel_rfl) rfl #[.string (a0.extract (t280 : Int).toNat a0.size)] rfl (by (try simp only [List.map_toArray, List.map_cons, List.map_nil]); first | done | rfl | (simp only [List.length_drop, List.length_take]; rfl)) ?_; (with_reducible refine (tcp_Get.calls (a0.extract (t280 : Int).toNat a0.size) t281 t282 t283 t284 t285 t286 t287 t288 t289 t290 t291 _ A13.out).mono ?_); rintro e w17 ⟨rfl, hb⟩; refine ⟨_, rfl, ?_⟩; have n0_ := mA (blk_below (g := gb279) (o := .cells #[.int .i64 t273, .string t274, .string t275, .int .i64 t276, .int .i64 t277] 24 (0, 0)) (by (with_reducible repeat (first | apply kN | apply kD | apply kA)); exact BK279.out) hb); have n1_ := mA (bP (by repeat (first | (with_reducible first | exact HB.out | apply bA | apply bN | apply bD | refine bS ?_ GE279.out) | exact HB.out)) hb); clear BK279; clear HB; have BK279 := n0_; have HB := n1_; clear n0_ n1_; (try clear hb); (try clear hb2); (try clear hk); (try clear hi)) | ((with_reducible refine gate_dst (N := 8) rfl ?_); refine box_event ?hg (N := 8) ?hd (cs := #[.int .i64 0, .int .i64 0, .int .u32 0, .int .u32 0, .int .i64 0, .int .i64 0, .int .i64 0, .string (⟨#[]⟩ : ByteArray), .string (⟨#[]⟩ : ByteArray)]) (t := 69) ?hr ?_; (case hd => rfl); (case hg => rfl); (case hr => first | (go_simp; done) | (go_simp; rfl)); intro gb292 hg w18 hbox hb; obtain ⟨n0_, nl279_⟩ := bt3 (g := gb279) (o := .cells #[.int .i64 t273, .string t274, .string t275, .int .i64 t276, .int .i64 t277] 24 (0, 0)) (by (with_reducible repeat (first | apply kN | apply kD | apply kA)); exact BK279.out) hb; obtain ⟨n1_, nq_⟩ := bpr (by repeat (first | (with_reducible first | exact HB.out | apply bA | apply bN | apply bD | refine bS ?_ GE279.out) | exact HB.out)) hb; have n2_ := mA (hbox); have n3_ := mA ((by rw [hg]; exact nq_ : w.heap.size ≤ gb292)); have n4_ := mA ((by rw [hg]; exact nq_ : w.heap.size ≤ gb292)); have n5_ := mA ((by rw [hg]; exact Nat.ne_of_lt nl279_ : gb279 ≠ gb292)); have n6_ := mA ((by rw [hg]; exact Nat.ne_of_gt nl279_ : gb292 ≠ gb279)); clear BK279; clear HB; have BK279 := n0_; have HB := n1_; have BK292 := n2_; have GW292 := n3_; have GE292 := n4_; have NB279_292 := n5_; have NB292_279 := n6_; clear nl279_; clear nq_; clear n0_ n1_ n2_ n3_ n4_ n5_ n6_; clear hb hbox hg; have hnb19 := NB292_279.out; have hnc19 := NB279_292.out; obtain ⟨hcz20_0, hcz20_1, hcz20_2, hcz20_3, hcz20_4, hcz20_5, hcz20_6, hcz20_7, hcz20_8⟩ := bc9 BK292.out; obtain ⟨hfz20_0, hfz20_1, hfz20_2, hfz20_3, hfz20_4, hfz20_5, hfz20_6, hfz20_7, hfz20_8⟩ := bf9 BK292.out) | ((with_reducible refine gate_callee (f := 59) rfl ?_); refine goesL_ (some 39) rfl rfl Try.func59 (by kernel_rfl) rfl #[.string t288] rfl (by (try simp only [List.map_toArray, List.map_cons, List.map_nil]); first | done | rfl | (simp only [List.length_drop, List.length_take]; rfl)) ?_; (with_reducible refine (tcp_MSS.calls t288 t293 t294 true _ A14.out).mono ?_); rintro e w21 ⟨rfl, hb⟩; refine ⟨_, rfl, ?_⟩; have n0_ := mA (blk_below (g := gb279) (o := .cells #[.int .i64 t273, .string t274, .string t275, .int .i64 t276, .int .i64 t277] 24 (0, 0)) (by (with_reducible repeat (first | apply kN | apply kD | apply kA)); refine blk_far ?_ NB279_292.out _; (with_reducible repeat (first | apply kN | apply kD | apply kA)); refine blk_far ?_ NB279_292.out _; (with_reducible repeat (first | apply kN | apply kD | apply kA)); refine blk_far ?_ NB279_292.out _; (with_reducible repeat (first | apply kN | apply kD | apply kA)); refine blk_far ?_ NB279_292.out _; (with_reducible repeat (first | apply kN | apply kD | apply kA)); refine blk_far ?_ NB279_292.out _; (with_reducible repeat (first | apply kN | apply kD | apply kA)); refine blk_far ?_ NB279_292.out _; (with_reducible repeat (first | apply kN | apply kD | apply kA)); refine blk_far ?_ NB279_292.out _; (with_reducible repeat (first | apply kN | apply kD | apply kA)); refine blk_far ?_ NB279_292.out _; (with_reducible repeat (first | apply kN | apply kD | apply kA)); refine blk_far ?_ NB279_292.out _; (with_reducible repeat (first | apply kN | apply kD | apply kA)); exact BK279.out) hb); have n1_ := mA (blk_below (g := gb292) (o := .cells #[.int .i64 t281, .int .i64 t282, .int .u32 t283, .int .u32 t284, .int .i64 t285, .int .i64 t286, .int .i64 t287, .string t288, .string t289] 69 (0, 0)) (by (with_reducible repeat (first | apply kN | apply kD | apply kA)); refine blk_put (cs := #[.int .i64 t281, .int .i64 t282, .int .u32 t283, .int .u32 t284, .int .i64 t285, .int .i64 t286, .int .i64 t287, .string t288, .string (⟨#[]⟩ : ByteArray)]) ?_ 8 _ (by first | rfl | (simp [*]; done)); (with_reducible repeat (first | apply kN | apply kD | apply kA)); refine blk_put (cs := #[.int .i64 t281, .int .i64 t282, .int .u32 t283, .int .u32 t284, .int .i64 t285, .int .i64 t286, .int .i64 t287, .string (⟨#[]⟩ : ByteArray), .string (⟨#[]⟩ : ByteArray)]) ?_ 7 _ (by first | rfl | (simp [*]; done)); (with_reducible repeat (first | apply kN | apply kD | apply kA)); refine blk_put (cs := #[.int .i64 t281, .int .i64 t282, .int .u32 t283, .int .u32 t284, .int .i64 t285, .int .i64 t286, .int .i64 0, .string (⟨#[]⟩ : ByteArray), .string (⟨#[]⟩ : ByteArray)]) ?_ 6 _ (by first | rfl | (simp [*]; done)); (with_reducible repeat (first | apply kN | apply kD | apply kA)); refine blk_put (cs := #[.int .i64 t281, .int .i64 t282, .int .u32 t283, .int .u32 t284, .int .i64 t285, .int .i64 0, .int .i64 0, .string (⟨#[]⟩ : ByteArray), .string (⟨#[]⟩ : ByteArray)]) ?_ 5 _ (by first | rfl | (simp [*]; done)); (with_reducible repeat (first | apply kN | apply kD | apply kA)); refine blk_put (cs := #[.int .i64 t281, .int .i64 t282, .int .u32 t283, .int .u32 t284, .int .i64 0, .int .i64 0, .int .i64 0, .string (⟨#[]⟩ : ByteArray), .string (⟨#[]⟩ : ByteArray)]) ?_ 4 _ (by first | rfl | (simp [*]; done)); (with_reducible repeat (first | apply kN | apply kD | apply kA)); refine blk_put (cs := #[.int .i64 t281, .int .i64 t282, .int .u32 t283, .int .u32 0, .int .i64 0, .int .i64 0, .int .i64 0, .string (⟨#[]⟩ : ByteArray), .string (⟨#[]⟩ : ByteArray)]) ?_ 3 _ (by first | rfl | (simp [*]; done)); (with_reducible repeat (first | apply kN | apply kD | apply kA)); refine blk_put (cs := #[.int .i64 t281, .int .i64 t282, .int .u32 0, .int .u32 0, .int .i64 0, .int .i64 0, .int .i64 0, .string (⟨#[]⟩ : ByteArray), .string (⟨#[]⟩ : ByteArray)]) ?_ 2 _ (by first | rfl | (simp [*]; done)); (with_reducible repeat (first | apply kN | apply kD | apply kA)); refine blk_put (cs := #[.int .i64 t281, .int .i64 0, .int .u32 0, .int .u32 0, .int .i64 0, .int .i64 0, .int .i64 0, .string (⟨#[]⟩ : ByteArray), .string (⟨#[]⟩ : ByteArray)]) ?_ 1 _ (by first | rfl | (simp [*]; done)); (with_reducible repeat (first | apply kN | apply kD | apply kA)); refine blk_put (cs := #[.int .i64 0, .int .i64 0, .int .u32 0, .int .u32 0, .int .i64 0, .int .i64 0, .int .i64 0, .string (⟨#[]⟩ : ByteArray), .string (⟨#[]⟩ : ByteArray)]) ?_ 0 _ (by first | rfl | (simp [*]; done)); (with_reducible repeat (first | apply kN | apply kD | apply kA)); exact BK292.out) hb); have n2_ := mA (bP (by repeat (first | (with_reducible first | exact HB.out | apply bA | apply bN | apply bD | refine bS ?_ GE279.out | refine bS ?_ GE292.out) | exact HB.out)) hb); clear BK279; clear BK292; clear HB; have BK279 := n0_; have BK292 := n1_; have HB := n2_; clear n0_ n1_ n2_; (try clear hb); (try clear hb2); (try clear hk); (try clear hi); obtain ⟨hcz22_0, hcz22_1, hcz22_2, hcz22_3, hcz22_4, hcz22_5, hcz22_6, hcz22_7, hcz22_8⟩ := bc9 BK292.out; obtain ⟨hfz22_0, hfz22_1, hfz22_2, hfz22_3, hfz22_4, hfz22_5, hfz22_6, hfz22_7, hfz22_8⟩ := bf9 BK292.out))
        go_ret3
        exact ⟨by first | rfl | (simp [errW_none, errW_some] <;> rfl) | (simp [*, errW_none, errW_some] <;> rfl), by repeat (first | (with_reducible first | exact HB.out | apply bA | apply bN | apply bD | refine bS ?_ GE279.out | refine bS ?_ GE292.out) | exact HB.out)⟩
       ·rw [if_neg c16] at H
        have c16b0 : ((Go.bits .and .i64 t285 2) == 0) = false := beq_eq_false_iff_ne.mpr c16
        have c16b1 : ((Go.bits .and .i64 t285 2) != 0) = true := bne_iff_ne.mpr c16
        simp only [Option.some.injEq, Prod.mk.injEq] at H
        obtain ⟨rfl, rfl, rfl⟩ := H
        go_wp2_with (first | ((with_reducible refine gate_callee (f := 38) rfl ?_); refine goesL_ (some 27) rfl rfl Try.func38 (by kernel_rfl) rfl #[.string a0] rfl (by (try simp only [List.map_toArray, List.map_cons, List.map_nil]); first | done | rfl | (simp only [List.length_drop, List.length_take]; rfl)) ?_; (with_reducible refine (clamp_head.calls a0 t280 _ A10.out).mono ?_); rintro e w' ⟨rfl, ⟨nd, rfl⟩⟩; refine ⟨_, rfl, ?_⟩; (try (rw [drewN_self wc]; generalize hq_ : World.drewN wc _ = wc; have n0_ : Aside0 (wc.heap[gb279]? = some (.cells #[.int .i64 t273, .string t274, .string t275, .int .i64 t276, .int .i64 t277] 24 (0, 0))) := ⟨by rw [← hq_]; exact (by (with_reducible repeat (first | apply kN | apply kD | apply kA)); exact BK279.out)⟩; have n1_ : Aside0 (Below w.heap.size w wc) := ⟨by rw [← hq_]; exact (by repeat (first | (with_reducible first | exact HB.out | apply bA | apply bN | apply bD | refine bS ?_ GE279.out) | exact HB.out))⟩; clear BK279 HB hq_; have BK279 := n0_; have HB := n1_; clear n0_ n1_))) | ((with_reducible refine gate_callee (f := 49) rfl ?_); refine goesL_ (some 32) rfl rfl Try.func49 (by kernel_rfl) rfl #[.string (a0.extract (t280 : Int).toNat a0.size)] rfl (by (try simp only [List.map_toArray, List.map_cons, List.map_nil]); first | done | rfl | (simp only [List.length_drop, List.length_take]; rfl)) ?_; (with_reducible refine (tcp_Get.calls (a0.extract (t280 : Int).toNat a0.size) t281 t282 t283 t284 t285 t286 t287 t288 t289 t290 t291 _ A13.out).mono ?_); rintro e w23 ⟨rfl, hb⟩; refine ⟨_, rfl, ?_⟩; have n0_ := mA (blk_below (g := gb279) (o := .cells #[.int .i64 t273, .string t274, .string t275, .int .i64 t276, .int .i64 t277] 24 (0, 0)) (by (with_reducible repeat (first | apply kN | apply kD | apply kA)); exact BK279.out) hb); have n1_ := mA (bP (by repeat (first | (with_reducible first | exact HB.out | apply bA | apply bN | apply bD | refine bS ?_ GE279.out) | exact HB.out)) hb); clear BK279; clear HB; have BK279 := n0_; have HB := n1_; clear n0_ n1_; (try clear hb); (try clear hb2); (try clear hk); (try clear hi)) | ((with_reducible refine gate_dst (N := 8) rfl ?_); refine box_event ?hg (N := 8) ?hd (cs := #[.int .i64 0, .int .i64 0, .int .u32 0, .int .u32 0, .int .i64 0, .int .i64 0, .int .i64 0, .string (⟨#[]⟩ : ByteArray), .string (⟨#[]⟩ : ByteArray)]) (t := 69) ?hr ?_; (case hd => rfl); (case hg => rfl); (case hr => first | (go_simp; done) | (go_simp; rfl)); intro gb292 hg w24 hbox hb; obtain ⟨n0_, nl279_⟩ := bt3 (g := gb279) (o := .cells #[.int .i64 t273, .string t274, .string t275, .int .i64 t276, .int .i64 t277] 24 (0, 0)) (by (with_reducible repeat (first | apply kN | apply kD | apply kA)); exact BK279.out) hb; obtain ⟨n1_, nq_⟩ := bpr (by repeat (first | (with_reducible first | exact HB.out | apply bA | apply bN | apply bD | refine bS ?_ GE279.out) | exact HB.out)) hb; have n2_ := mA (hbox); have n3_ := mA ((by rw [hg]; exact nq_ : w.heap.size ≤ gb292)); have n4_ := mA ((by rw [hg]; exact nq_ : w.heap.size ≤ gb292)); have n5_ := mA ((by rw [hg]; exact Nat.ne_of_lt nl279_ : gb279 ≠ gb292)); have n6_ := mA ((by rw [hg]; exact Nat.ne_of_gt nl279_ : gb292 ≠ gb279)); clear BK279; clear HB; have BK279 := n0_; have HB := n1_; have BK292 := n2_; have GW292 := n3_; have GE292 := n4_; have NB279_292 := n5_; have NB292_279 := n6_; clear nl279_; clear nq_; clear n0_ n1_ n2_ n3_ n4_ n5_ n6_; clear hb hbox hg; have hnb25 := NB292_279.out; have hnc25 := NB279_292.out; obtain ⟨hcz26_0, hcz26_1, hcz26_2, hcz26_3, hcz26_4, hcz26_5, hcz26_6, hcz26_7, hcz26_8⟩ := bc9 BK292.out; obtain ⟨hfz26_0, hfz26_1, hfz26_2, hfz26_3, hfz26_4, hfz26_5, hfz26_6, hfz26_7, hfz26_8⟩ := bf9 BK292.out) | ((with_reducible refine gate_callee (f := 59) rfl ?_); refine goesL_ (some 39) rfl rfl Try.func59 (by kernel_rfl) rfl #[.string t288] rfl (by (try simp only [List.map_toArray, List.map_cons, List.map_nil]); first | done | rfl | (simp only [List.length_drop, List.length_take]; rfl)) ?_; (with_reducible refine (tcp_MSS.calls t288 t293 t294 true _ A14.out).mono ?_); rintro e w27 ⟨rfl, hb⟩; refine ⟨_, rfl, ?_⟩; have n0_ := mA (blk_below (g := gb279) (o := .cells #[.int .i64 t273, .string t274, .string t275, .int .i64 t276, .int .i64 t277] 24 (0, 0)) (by (with_reducible repeat (first | apply kN | apply kD | apply kA)); refine blk_far ?_ NB279_292.out _; (with_reducible repeat (first | apply kN | apply kD | apply kA)); refine blk_far ?_ NB279_292.out _; (with_reducible repeat (first | apply kN | apply kD | apply kA)); refine blk_far ?_ NB279_292.out _; (with_reducible repeat (first | apply kN | apply kD | apply kA)); refine blk_far ?_ NB279_292.out _; (with_reducible repeat (first | apply kN | apply kD | apply kA)); refine blk_far ?_ NB279_292.out _; (with_reducible repeat (first | apply kN | apply kD | apply kA)); refine blk_far ?_ NB279_292.out _; (with_reducible repeat (first | apply kN | apply kD | apply kA)); refine blk_far ?_ NB279_292.out _; (with_reducible repeat (first | apply kN | apply kD | apply kA)); refine blk_far ?_ NB279_292.out _; (with_reducible repeat (first | apply kN | apply kD | apply kA)); refine blk_far ?_ NB279_292.out _; (with_reducible repeat (first | apply kN | apply kD | apply kA)); exact BK279.out) hb); have n1_ := mA (blk_below (g := gb292) (o := .cells #[.int .i64 t281, .int .i64 t282, .int .u32 t283, .int .u32 t284, .int .i64 t285, .int .i64 t286, .int .i64 t287, .string t288, .string t289] 69 (0, 0)) (by (with_reducible repeat (first | apply kN | apply kD | apply kA)); refine blk_put (cs := #[.int .i64 t281, .int .i64 t282, .int .u32 t283, .int .u32 t284, .int .i64 t285, .int .i64 t286, .int .i64 t287, .string t288, .string (⟨#[]⟩ : ByteArray)]) ?_ 8 _ (by first | rfl | (simp [*]; done)); (with_reducible repeat (first | apply kN | apply kD | apply kA)); refine blk_put (cs := #[.int .i64 t281, .int .i64 t282, .int .u32 t283, .int .u32 t284, .int .i64 t285, .int .i64 t286, .int .i64 t287, .string (⟨#[]⟩ : ByteArray), .string (⟨#[]⟩ : ByteArray)]) ?_ 7 _ (by first | rfl | (simp [*]; done)); (with_reducible repeat (first | apply kN | apply kD | apply kA)); refine blk_put (cs := #[.int .i64 t281, .int .i64 t282, .int .u32 t283, .int .u32 t284, .int .i64 t285, .int .i64 t286, .int .i64 0, .string (⟨#[]⟩ : ByteArray), .string (⟨#[]⟩ : ByteArray)]) ?_ 6 _ (by first | rfl | (simp [*]; done)); (with_reducible repeat (first | apply kN | apply kD | apply kA)); refine blk_put (cs := #[.int .i64 t281, .int .i64 t282, .int .u32 t283, .int .u32 t284, .int .i64 t285, .int .i64 0, .int .i64 0, .string (⟨#[]⟩ : ByteArray), .string (⟨#[]⟩ : ByteArray)]) ?_ 5 _ (by first | rfl | (simp [*]; done)); (with_reducible repeat (first | apply kN | apply kD | apply kA)); refine blk_put (cs := #[.int .i64 t281, .int .i64 t282, .int .u32 t283, .int .u32 t284, .int .i64 0, .int .i64 0, .int .i64 0, .string (⟨#[]⟩ : ByteArray), .string (⟨#[]⟩ : ByteArray)]) ?_ 4 _ (by first | rfl | (simp [*]; done)); (with_reducible repeat (first | apply kN | apply kD | apply kA)); refine blk_put (cs := #[.int .i64 t281, .int .i64 t282, .int .u32 t283, .int .u32 0, .int .i64 0, .int .i64 0, .int .i64 0, .string (⟨#[]⟩ : ByteArray), .string (⟨#[]⟩ : ByteArray)]) ?_ 3 _ (by first | rfl | (simp [*]; done)); (with_reducible repeat (first | apply kN | apply kD | apply kA)); refine blk_put (cs := #[.int .i64 t281, .int .i64 t282, .int .u32 0, .int .u32 0, .int .i64 0, .int .i64 0, .int .i64 0, .string (⟨#[]⟩ : ByteArray), .string (⟨#[]⟩ : ByteArray)]) ?_ 2 _ (by first | rfl | (simp [*]; done)); (with_reducible repeat (first | apply kN | apply kD | apply kA)); refine blk_put (cs := #[.int .i64 t281, .int .i64 0, .int .u32 0, .int .u32 0, .int .i64 0, .int .i64 0, .int .i64 0, .string (⟨#[]⟩ : ByteArray), .string (⟨#[]⟩ : ByteArray)]) ?_ 1 _ (by first | rfl | (simp [*]; done)); (with_reducible repeat (first | apply kN | apply kD | apply kA)); refine blk_put (cs := #[.int .i64 0, .int .i64 0, .int .u32 0, .int .u32 0, .int .i64 0, .int .i64 0, .int .i64 0, .string (⟨#[]⟩ : ByteArray), .string (⟨#[]⟩ : ByteArray)]) ?_ 0 _ (by first | rfl | (simp [*]; done)); (with_reducible repeat (first | apply kN | apply kD | apply kA)); exact BK292.out) hb); have n2_ := mA (bP (by repeat (first | (with_reducible first | exact HB.out | apply bA | apply bN | apply bD | refine bS ?_ GE279.out | refine bS ?_ GE292.out) | exact HB.out)) hb); clear BK279; clear BK292; clear HB; have BK279 := n0_; have BK292 := n1_; have HB := n2_; clear n0_ n1_ n2_; (try clear hb); (try clear hb2); (try clear hk); (try clear hi); obtain ⟨hcz28_0, hcz28_1, hcz28_2, hcz28_3, hcz28_4, hcz28_5, hcz28_6, hcz28_7, hcz28_8⟩ := bc9 BK292.out; obtain ⟨hfz28_0, hfz28_1, hfz28_2, hfz28_3, hfz28_4, hfz28_5, hfz28_6, hfz28_7, hfz28_8⟩ := bf9 BK292.out))
        go_ret3
        exact ⟨by first | rfl | (simp [errW_none, errW_some] <;> rfl) | (simp [*, errW_none, errW_some] <;> rfl), by repeat (first | (with_reducible first | exact HB.out | apply bA | apply bN | apply bD | refine bS ?_ GE279.out | refine bS ?_ GE292.out) | exact HB.out)⟩
      ·replace c15 := Bool.eq_false_iff.mpr c15
       subst c15
       have H1 : (some (0, 0, false)) = some (r1, r2, r3) := by rw [if_neg (show ¬ (false = true) by decide)] at H; exact H
       clear H
       have H := H1
       clear H1
       simp only [Option.some.injEq, Prod.mk.injEq] at H
       obtain ⟨rfl, rfl, rfl⟩ := H
       go_wp2_with (first | ((with_reducible refine gate_callee (f := 38) rfl ?_); refine goesL_ (some 27) rfl rfl Try.func38 (by kernel_rfl) rfl #[.string a0] rfl (by (try simp only [List.map_toArray, List.map_cons, List.map_nil]); first | done | rfl | (simp only [List.length_drop, List.length_take]; rfl)) ?_; (with_reducible refine (clamp_head.calls a0 t280 _ A10.out).mono ?_); rintro e w' ⟨rfl, ⟨nd, rfl⟩⟩; refine ⟨_, rfl, ?_⟩; (try (rw [drewN_self wc]; generalize hq_ : World.drewN wc _ = wc; have n0_ : Aside0 (wc.heap[gb279]? = some (.cells #[.int .i64 t273, .string t274, .string t275, .int .i64 t276, .int .i64 t277] 24 (0, 0))) := ⟨by rw [← hq_]; exact (by (with_reducible repeat (first | apply kN | apply kD | apply kA)); exact BK279.out)⟩; have n1_ : Aside0 (Below w.heap.size w wc) := ⟨by rw [← hq_]; exact (by repeat (first | (with_reducible first | exact HB.out | apply bA | apply bN | apply bD | refine bS ?_ GE279.out) | exact HB.out))⟩; clear BK279 HB hq_; have BK279 := n0_; have HB := n1_; clear n0_ n1_))) | ((with_reducible refine gate_callee (f := 49) rfl ?_); refine goesL_ (some 32) rfl rfl Try.func49 (by kernel_rfl) rfl #[.string (a0.extract (t280 : Int).toNat a0.size)] rfl (by (try simp only [List.map_toArray, List.map_cons, List.map_nil]); first | done | rfl | (simp only [List.length_drop, List.length_take]; rfl)) ?_; (with_reducible refine (tcp_Get.calls (a0.extract (t280 : Int).toNat a0.size) t281 t282 t283 t284 t285 t286 t287 t288 t289 t290 t291 _ A13.out).mono ?_); rintro e w29 ⟨rfl, hb⟩; refine ⟨_, rfl, ?_⟩; have n0_ := mA (blk_below (g := gb279) (o := .cells #[.int .i64 t273, .string t274, .string t275, .int .i64 t276, .int .i64 t277] 24 (0, 0)) (by (with_reducible repeat (first | apply kN | apply kD | apply kA)); exact BK279.out) hb); have n1_ := mA (bP (by repeat (first | (with_reducible first | exact HB.out | apply bA | apply bN | apply bD | refine bS ?_ GE279.out) | exact HB.out)) hb); clear BK279; clear HB; have BK279 := n0_; have HB := n1_; clear n0_ n1_; (try clear hb); (try clear hb2); (try clear hk); (try clear hi)) | ((with_reducible refine gate_dst (N := 8) rfl ?_); refine box_event ?hg (N := 8) ?hd (cs := #[.int .i64 0, .int .i64 0, .int .u32 0, .int .u32 0, .int .i64 0, .int .i64 0, .int .i64 0, .string (⟨#[]⟩ : ByteArray), .string (⟨#[]⟩ : ByteArray)]) (t := 69) ?hr ?_; (case hd => rfl); (case hg => rfl); (case hr => first | (go_simp; done) | (go_simp; rfl)); intro gb292 hg w30 hbox hb; obtain ⟨n0_, nl279_⟩ := bt3 (g := gb279) (o := .cells #[.int .i64 t273, .string t274, .string t275, .int .i64 t276, .int .i64 t277] 24 (0, 0)) (by (with_reducible repeat (first | apply kN | apply kD | apply kA)); exact BK279.out) hb; obtain ⟨n1_, nq_⟩ := bpr (by repeat (first | (with_reducible first | exact HB.out | apply bA | apply bN | apply bD | refine bS ?_ GE279.out) | exact HB.out)) hb; have n2_ := mA (hbox); have n3_ := mA ((by rw [hg]; exact nq_ : w.heap.size ≤ gb292)); have n4_ := mA ((by rw [hg]; exact nq_ : w.heap.size ≤ gb292)); have n5_ := mA ((by rw [hg]; exact Nat.ne_of_lt nl279_ : gb279 ≠ gb292)); have n6_ := mA ((by rw [hg]; exact Nat.ne_of_gt nl279_ : gb292 ≠ gb279)); clear BK279; clear HB; have BK279 := n0_; have HB := n1_; have BK292 := n2_; have GW292 := n3_; have GE292 := n4_; have NB279_292 := n5_; have NB292_279 := n6_; clear nl279_; clear nq_; clear n0_ n1_ n2_ n3_ n4_ n5_ n6_; clear hb hbox hg; have hnb31 := NB292_279.out; have hnc31 := NB279_292.out; obtain ⟨hcz32_0, hcz32_1, hcz32_2, hcz32_3, hcz32_4, hcz32_5, hcz32_6, hcz32_7, hcz32_8⟩ := bc9 BK292.out; obtain ⟨hfz32_0, hfz32_1, hfz32_2, hfz32_3, hfz32_4, hfz32_5, hfz32_6, hfz32_7, hfz32_8⟩ := bf9 BK292.out) | ((with_reducible refine gate_callee (f := 59) rfl ?_); refine goesL_ (some 39) rfl rfl Try.func59 (by kernel_rfl) rfl #[.string t288] rfl (by (try simp only [List.map_toArray, List.map_cons, List.map_nil]); first | done | rfl | (simp only [List.length_drop, List.length_take]; rfl)) ?_; (with_reducible refine (tcp_MSS.calls t288 t293 t294 false _ A14.out).mono ?_); rintro e w33 ⟨rfl, hb⟩; refine ⟨_, rfl, ?_⟩; have n0_ := mA (blk_below (g := gb279) (o := .cells #[.int .i64 t273, .string t274, .string t275, .int .i64 t276, .int .i64 t277] 24 (0, 0)) (by (with_reducible repeat (first | apply kN | apply kD | apply kA)); refine blk_far ?_ NB279_292.out _; (with_reducible repeat (first | apply kN | apply kD | apply kA)); refine blk_far ?_ NB279_292.out _; (with_reducible repeat (first | apply kN | apply kD | apply kA)); refine blk_far ?_ NB279_292.out _; (with_reducible repeat (first | apply kN | apply kD | apply kA)); refine blk_far ?_ NB279_292.out _; (with_reducible repeat (first | apply kN | apply kD | apply kA)); refine blk_far ?_ NB279_292.out _; (with_reducible repeat (first | apply kN | apply kD | apply kA)); refine blk_far ?_ NB279_292.out _; (with_reducible repeat (first | apply kN | apply kD | apply kA)); refine blk_far ?_ NB279_292.out _; (with_reducible repeat (first | apply kN | apply kD | apply kA)); refine blk_far ?_ NB279_292.out _; (with_reducible repeat (first | apply kN | apply kD | apply kA)); refine blk_far ?_ NB279_292.out _; (with_reducible repeat (first | apply kN | apply kD | apply kA)); exact BK279.out) hb); have n1_ := mA (blk_below (g := gb292) (o := .cells #[.int .i64 t281, .int .i64 t282, .int .u32 t283, .int .u32 t284, .int .i64 t285, .int .i64 t286, .int .i64 t287, .string t288, .string t289] 69 (0, 0)) (by (with_reducible repeat (first | apply kN | apply kD | apply kA)); refine blk_put (cs := #[.int .i64 t281, .int .i64 t282, .int .u32 t283, .int .u32 t284, .int .i64 t285, .int .i64 t286, .int .i64 t287, .string t288, .string (⟨#[]⟩ : ByteArray)]) ?_ 8 _ (by first | rfl | (simp [*]; done)); (with_reducible repeat (first | apply kN | apply kD | apply kA)); refine blk_put (cs := #[.int .i64 t281, .int .i64 t282, .int .u32 t283, .int .u32 t284, .int .i64 t285, .int .i64 t286, .int .i64 t287, .string (⟨#[]⟩ : ByteArray), .string (⟨#[]⟩ : ByteArray)]) ?_ 7 _ (by first | rfl | (simp [*]; done)); (with_reducible repeat (first | apply kN | apply kD | apply kA)); refine blk_put (cs := #[.int .i64 t281, .int .i64 t282, .int .u32 t283, .int .u32 t284, .int .i64 t285, .int .i64 t286, .int .i64 0, .string (⟨#[]⟩ : ByteArray), .string (⟨#[]⟩ : ByteArray)]) ?_ 6 _ (by first | rfl | (simp [*]; done)); (with_reducible repeat (first | apply kN | apply kD | apply kA)); refine blk_put (cs := #[.int .i64 t281, .int .i64 t282, .int .u32 t283, .int .u32 t284, .int .i64 t285, .int .i64 0, .int .i64 0, .string (⟨#[]⟩ : ByteArray), .string (⟨#[]⟩ : ByteArray)]) ?_ 5 _ (by first | rfl | (simp [*]; done)); (with_reducible repeat (first | apply kN | apply kD | apply kA)); refine blk_put (cs := #[.int .i64 t281, .int .i64 t282, .int .u32 t283, .int .u32 t284, .int .i64 0, .int .i64 0, .int .i64 0, .string (⟨#[]⟩ : ByteArray), .string (⟨#[]⟩ : ByteArray)]) ?_ 4 _ (by first | rfl | (simp [*]; done)); (with_reducible repeat (first | apply kN | apply kD | apply kA)); refine blk_put (cs := #[.int .i64 t281, .int .i64 t282, .int .u32 t283, .int .u32 0, .int .i64 0, .int .i64 0, .int .i64 0, .string (⟨#[]⟩ : ByteArray), .string (⟨#[]⟩ : ByteArray)]) ?_ 3 _ (by first | rfl | (simp [*]; done)); (with_reducible repeat (first | apply kN | apply kD | apply kA)); refine blk_put (cs := #[.int .i64 t281, .int .i64 t282, .int .u32 0, .int .u32 0, .int .i64 0, .int .i64 0, .int .i64 0, .string (⟨#[]⟩ : ByteArray), .string (⟨#[]⟩ : ByteArray)]) ?_ 2 _ (by first | rfl | (simp [*]; done)); (with_reducible repeat (first | apply kN | apply kD | apply kA)); refine blk_put (cs := #[.int .i64 t281, .int .i64 0, .int .u32 0, .int .u32 0, .int .i64 0, .int .i64 0, .int .i64 0, .string (⟨#[]⟩ : ByteArray), .string (⟨#[]⟩ : ByteArray)]) ?_ 1 _ (by first | rfl | (simp [*]; done)); (with_reducible repeat (first | apply kN | apply kD | apply kA)); refine blk_put (cs := #[.int .i64 0, .int .i64 0, .int .u32 0, .int .u32 0, .int .i64 0, .int .i64 0, .int .i64 0, .string (⟨#[]⟩ : ByteArray), .string (⟨#[]⟩ : ByteArray)]) ?_ 0 _ (by first | rfl | (simp [*]; done)); (with_reducible repeat (first | apply kN | apply kD | apply kA)); exact BK292.out) hb); have n2_ := mA (bP (by repeat (first | (with_reducible first | exact HB.out | apply bA | apply bN | apply bD | refine bS ?_ GE279.out | refine bS ?_ GE292.out) | exact HB.out)) hb); clear BK279; clear BK292; clear HB; have BK279 := n0_; have BK292 := n1_; have HB := n2_; clear n0_ n1_ n2_; (try clear hb); (try clear hb2); (try clear hk); (try clear hi)))
       go_ret3
       exact ⟨by first | rfl | (simp [errW_none, errW_some] <;> rfl) | (simp [*, errW_none, errW_some] <;> rfl), by repeat (first | (with_reducible first | exact HB.out | apply bA | apply bN | apply bD | refine bS ?_ GE279.out | refine bS ?_ GE292.out) | exact HB.out)⟩
     ·rw [if_neg c12] at H
      exact absurd H (by simp)
    ·rw [if_neg c11] at H
     exact absurd H (by simp)

def clamp_MSS.f (k : Nat) (a0 : ByteArray) : Option (Int × Bool) := (clamp_find.f k a0).bind fun bt296 => (some (bt296.2.1, bt296.2.2))
set_option maxHeartbeats 8000000 in
set_option maxRecDepth 100000 in
theorem clamp_MSS.calls (k : Nat) (a0 : ByteArray) (r1 : Int) (r2 : Bool) (w : World) (h : clamp_MSS.f k a0 = some (r1, r2)) :
  Calls Try.prog 15 #[.string a0] w fun e w' => e = .returned (.tuple #[.int .i64 r1, .bool r2]) ∧ Below w.heap.size w w' := by
 have HB := mA (Below.refl w.heap.size w)
 have H : ((clamp_find.f k a0).bind fun bt296 => (some (bt296.2.1, bt296.2.2))) = some (r1, r2) := h
 clear h
 replace H := Option.bind_eq_some_iff.mp H
 obtain ⟨⟨t296, t297, t298⟩, A20, H⟩ := H
 replace H : (some (t297, t298)) = some (r1, r2) := H
 have A2 := mA A20
 clear A20
 simp only [Option.some.injEq, Prod.mk.injEq] at H
 obtain ⟨rfl, rfl⟩ := H
 go_enter Try.func15, Try.ntmps15
 go_wp2_with (first | ((with_reducible refine gate_callee (f := 36) rfl ?_); refine goesL_ (some 9) rfl rfl Try.func36 (by kernel_rfl) rfl #[.string a0] rfl (by (try simp only [List.map_toArray, List.map_cons, List.map_nil]); first | done | rfl | (simp only [List.length_drop, List.length_take]; rfl)) ?_; (with_reducible refine (clamp_find.calls k a0 t296 t297 t298 _ A2.out).mono ?_); rintro e w3 ⟨rfl, hb⟩; refine ⟨_, rfl, ?_⟩; have n0_ := mA (bP (by repeat (first | (with_reducible first | exact HB.out | apply bA | apply bN | apply bD) | exact HB.out)) hb); clear HB; have HB := n0_; clear n0_; (try clear hb); (try clear hb2); (try clear hk); (try clear hi)))
 go_ret2
 exact ⟨by first | rfl | (simp [errW_none, errW_some] <;> rfl) | (simp [*, errW_none, errW_some] <;> rfl), by repeat (first | (with_reducible first | exact HB.out | apply bA | apply bN | apply bD) | exact HB.out)⟩

def clamp_Limit.f (a0 : Int) (a1 : Int) (a2 : Bool) : Option (Int) := if a2 = true then (some (mx 0 (mn (wrap64 ((wrap64 ((wrap64 (a0 - a1)) - 40)) - 20)) 65535))) else (some (mx 0 (mn (wrap64 ((wrap64 (a0 - a1)) - 40)) 65535)))
set_option maxHeartbeats 8000000 in
set_option maxRecDepth 100000 in
theorem clamp_Limit.calls (a0 : Int) (a1 : Int) (a2 : Bool) (r : Int) (w : World) (h : clamp_Limit.f a0 a1 a2 = some r) :
  Calls Try.prog 21 #[.int .i64 a0, .int .i64 a1, .bool a2] w fun e w' => e = .returned (.int .i64 r) ∧ Below w.heap.size w w' := by
 have HB := mA (Below.refl w.heap.size w)
 have H : (if a2 = true then (some (mx 0 (mn (wrap64 ((wrap64 ((wrap64 (a0 - a1)) - 40)) - 20)) 65535))) else (some (mx 0 (mn (wrap64 ((wrap64 (a0 - a1)) - 40)) 65535)))) = some r := h
 clear h
 by_cases c4 : a2 = true
 ·subst c4
  have H1 : (some (mx 0 (mn (wrap64 ((wrap64 ((wrap64 (a0 - a1)) - 40)) - 20)) 65535))) = some r := by rw [if_pos rfl] at H; exact H
  clear H
  have H := H1
  clear H1
  obtain ⟨ji5, hji5⟩ : ∃ j_ : Int, (mn (wrap64 ((wrap64 ((wrap64 (a0 - a1)) - 40)) - 20)) 65535) = j_ := ⟨_, rfl⟩
  replace H : (some (mx 0 (ji5))) = some r := by first | (rw [hji5] at H; exact H) | (simp only [hji5] at H ⊢; exact H)
  (try (have hji5h : ji5 ≤ 65535 := by (rw [← hji5]; unfold mn; (repeat' split) <;> omega)))
  (try (have hji5g : ji5 ≤ 64 := by omega))
  have hji5_ : (if 65535 < (wrap64 ((wrap64 ((wrap64 (a0 - a1)) - 40)) - 20)) then 65535 else (wrap64 ((wrap64 ((wrap64 (a0 - a1)) - 40)) - 20))) = ji5 := hji5
  obtain ⟨ji6, hji6⟩ : ∃ j_ : Int, (mx 0 (ji5)) = j_ := ⟨_, rfl⟩
  replace H : (some ji6) = some r := by first | (rw [hji6] at H; exact H) | (simp only [hji6] at H ⊢; exact H)
  have hji6_ : (if 0 < (ji5) then (ji5) else 0) = ji6 := hji6
  obtain rfl := Option.some.inj H
  go_enter Try.func21, Try.ntmps21
  go_wp2
  go_ret
  exact ⟨by first | rfl | (simp [errW_none, errW_some] <;> rfl) | (simp only [← hji5, ← hji6]; first | rfl | (simp [errW_none, errW_some] <;> rfl)) | (simp [*, errW_none, errW_some] <;> rfl), by repeat (first | (with_reducible first | exact HB.out | apply bA | apply bN | apply bD) | exact HB.out)⟩
 ·replace c4 := Bool.eq_false_iff.mpr c4
  subst c4
  have H1 : (some (mx 0 (mn (wrap64 ((wrap64 (a0 - a1)) - 40)) 65535))) = some r := by rw [if_neg (show ¬ (false = true) by decide)] at H; exact H
  clear H
  have H := H1
  clear H1
  obtain ⟨ji7, hji7⟩ : ∃ j_ : Int, (mn (wrap64 ((wrap64 (a0 - a1)) - 40)) 65535) = j_ := ⟨_, rfl⟩
  replace H : (some (mx 0 (ji7))) = some r := by first | (rw [hji7] at H; exact H) | (simp only [hji7] at H ⊢; exact H)
  (try (have hji7h : ji7 ≤ 65535 := by (rw [← hji7]; unfold mn; (repeat' split) <;> omega)))
  (try (have hji7g : ji7 ≤ 64 := by omega))
  have hji7_ : (if 65535 < (wrap64 ((wrap64 (a0 - a1)) - 40)) then 65535 else (wrap64 ((wrap64 (a0 - a1)) - 40))) = ji7 := hji7
  obtain ⟨ji8, hji8⟩ : ∃ j_ : Int, (mx 0 (ji7)) = j_ := ⟨_, rfl⟩
  replace H : (some ji8) = some r := by first | (rw [hji8] at H; exact H) | (simp only [hji8] at H ⊢; exact H)
  have hji8_ : (if 0 < (ji7) then (ji7) else 0) = ji8 := hji8
  obtain rfl := Option.some.inj H
  go_enter Try.func21, Try.ntmps21
  go_wp2
  go_ret
  exact ⟨by first | rfl | (simp [errW_none, errW_some] <;> rfl) | (simp only [← hji7, ← hji8]; first | rfl | (simp [errW_none, errW_some] <;> rfl)) | (simp [*, errW_none, errW_some] <;> rfl), by repeat (first | (with_reducible first | exact HB.out | apply bA | apply bN | apply bD) | exact HB.out)⟩

end Go.Proofs.Ytcmalglippmocaa.G
end

section
namespace Go.Proofs.Ytcmalglippmocaa.G
open Go.RowKit Go.Proofs.YtcmalglippmocaaW.PrintWords Go.Proofs.YtcmalglippmocaaW.PrintLast Go.Proofs.YtcmalglippmocaaW.PrintMore
attribute [local go_sem] max2_int min2_int max_two min_two max_three min_three max_four min_four   -- for this text's walks alone
set_option linter.unusedVariables false
set_option linter.unusedSimpArgs false

mutual
def palanquinref07_Walk.l0 : Nat → ByteArray → List Int → Int → Option (List Int × Bool)
 | 0, _, _, _ => none
 | k + 1, x0, x4, x5 => if x5 < (x0.size : Int) then (if 0 ≤ x5 then (palanquinref07_Walk.j1 k x0 x4 x5 ((bt x0 x5) != 0)) else (none)) else (palanquinref07_Walk.j1 k x0 x4 x5 false)
def palanquinref07_Walk.j1 : Nat → ByteArray → List Int → Int → Bool → Option (List Int × Bool)
 | 0, _, _, _, _ => none
 | k + 1, x0, x4, x5, x16 => if x16 = true then (if x4.length < 17592186044416 then ((some (x4 ++ [x5] : List Int)).bind fun y217 => (if 0 ≤ x5 then (if x5 < (x0.size : Int) then (if (bt x0 x5) = 1 then (palanquinref07_Walk.l0 k x0 y217 (wrap64 (x5 + 1))) else (if (wrap64 ((x0.size : Int) - x5)) < 2 then (some (([] : List Int), false)) else (if 0 ≤ (wrap64 (x5 + 1)) then (if (wrap64 (x5 + 1)) < (x0.size : Int) then (if (wrap64 (bt x0 (wrap64 (x5 + 1)))) < 2 then (some (([] : List Int), false)) else (if (wrap64 (bt x0 (wrap64 (x5 + 1)))) > (wrap64 ((x0.size : Int) - x5)) then (some (([] : List Int), false)) else (palanquinref07_Walk.l0 k x0 y217 (wrap64 (x5 + (wrap64 (bt x0 (wrap64 (x5 + 1))))))))) else (none)) else (none)))) else (none)) else (none))) else (none)) else (some (x4, true))
end
def palanquinref07_in.f (a0 : Int) (a1 : Int) (a2 : Int) : Option (Bool) := if a0 ≥ a1 then (some (decide (a0 ≤ a2))) else (some false)
set_option maxHeartbeats 8000000 in
set_option maxRecDepth 100000 in
theorem palanquinref07_in.calls (a0 : Int) (a1 : Int) (a2 : Int) (r : Bool) (w : World) (h : palanquinref07_in.f a0 a1 a2 = some r) :
  Calls Try.prog 57 #[.int .i64 a0, .int .i64 a1, .int .i64 a2] w fun e w' => e = .returned (.bool r) ∧ Drawn0 w w' := by
 have H : (if a0 ≥ a1 then (some (decide (a0 ≤ a2))) else (some false)) = some r := h
 clear h
 by_cases c4 : a0 ≥ a1
 ·rw [if_pos c4] at H
  have c4b0 : decide (a1 ≤ a0) = true := decide_eq_true c4
  clear c4
  obtain rfl := Option.some.inj H
  go_enter Try.func57, Try.ntmps57
  go_wp2
  go_ret
  exact ⟨by first | rfl | (simp; done) | (simp [*]; done), by repeat (first | exact Drawn0.refl _ | apply Drawn0.step)⟩
 ·rw [if_neg c4] at H
  have c4b0 : decide (a1 ≤ a0) = false := decide_eq_false c4
  clear c4
  obtain rfl := Option.some.inj H
  go_enter Try.func57, Try.ntmps57
  go_wp2
  go_ret
  exact ⟨by first | rfl | (simp; done) | (simp [*]; done), by repeat (first | exact Drawn0.refl _ | apply Drawn0.step)⟩

def palanquinref07_May.f (a0_0 : Int) (a0_1 : Int) (a0_2 : Int) (a0_3 : Int) (a0_4 : Int) (a0_5 : Int) (a0_6 : Int) (a0_7 : ByteArray) (a0_8 : ByteArray) : Option (Bool) := (palanquinref07_in.f a0_0 0 65535).bind fun t300 => (if t300 = true then ((palanquinref07_in.f a0_1 0 65535).bind fun t301 => (if t301 = true then ((palanquinref07_in.f a0_5 0 65535).bind fun t302 => (if t302 = true then ((palanquinref07_in.f a0_6 0 65535).bind fun t303 => (if t303 = true then ((palanquinref07_in.f a0_4 0 255).bind fun t304 => (if t304 = true then (if (a0_7.size : Int) ≤ 40 then (some (((a0_7.size : Int) % 4) == 0)) else (some false)) else (some false))) else (some false))) else (some false))) else (some false))) else (some false))
set_option maxHeartbeats 8000000 in
set_option maxRecDepth 100000 in
theorem palanquinref07_May.calls (a0_0 : Int) (a0_1 : Int) (a0_2 : Int) (a0_3 : Int) (a0_4 : Int) (a0_5 : Int) (a0_6 : Int) (a0_7 : ByteArray) (a0_8 : ByteArray) (r : Bool) (w : World) (h : palanquinref07_May.f a0_0 a0_1 a0_2 a0_3 a0_4 a0_5 a0_6 a0_7 a0_8 = some r) :
  Calls Try.prog 56 #[.agg #[.int .i64 a0_0, .int .i64 a0_1, .int .u32 a0_2, .int .u32 a0_3, .int .i64 a0_4, .int .i64 a0_5, .int .i64 a0_6, .string a0_7, .string a0_8]] w fun e w' => e = .returned (.bool r) ∧ Below w.heap.size w w' := by
 have hu69 := Try.underlying69
 have HB := mA (Below.refl w.heap.size w)
 have H : ((palanquinref07_in.f a0_0 0 65535).bind fun t300 => (if t300 = true then ((palanquinref07_in.f a0_1 0 65535).bind fun t301 => (if t301 = true then ((palanquinref07_in.f a0_5 0 65535).bind fun t302 => (if t302 = true then ((palanquinref07_in.f a0_6 0 65535).bind fun t303 => (if t303 = true then ((palanquinref07_in.f a0_4 0 255).bind fun t304 => (if t304 = true then (if (a0_7.size : Int) ≤ 40 then (some (((a0_7.size : Int) % 4) == 0)) else (some false)) else (some false))) else (some false))) else (some false))) else (some false))) else (some false))) = some r := h
 clear h
 replace H := Option.bind_eq_some_iff.mp H
 obtain ⟨t300, A20, H⟩ := H
 replace H : (if t300 = true then ((palanquinref07_in.f a0_1 0 65535).bind fun t301 => (if t301 = true then ((palanquinref07_in.f a0_5 0 65535).bind fun t302 => (if t302 = true then ((palanquinref07_in.f a0_6 0 65535).bind fun t303 => (if t303 = true then ((palanquinref07_in.f a0_4 0 255).bind fun t304 => (if t304 = true then (if (a0_7.size : Int) ≤ 40 then (some (((a0_7.size : Int) % 4) == 0)) else (some false)) else (some false))) else (some false))) else (some false))) else (some false))) else (some false)) = some r := H
 have A2 := mA A20
 clear A20
 by_cases c3 : t300 = true
 ·subst c3
  have H1 : ((palanquinref07_in.f a0_1 0 65535).bind fun t301 => (if t301 = true then ((palanquinref07_in.f a0_5 0 65535).bind fun t302 => (if t302 = true then ((palanquinref07_in.f a0_6 0 65535).bind fun t303 => (if t303 = true then ((palanquinref07_in.f a0_4 0 255).bind fun t304 => (if t304 = true then (if (a0_7.size : Int) ≤ 40 then (some (((a0_7.size : Int) % 4) == 0)) else (some false)) else (some false))) else (some false))) else (some false))) else (some false))) = some r := by rw [if_pos rfl] at H; exact H
  clear H
  have H := H1
  clear H1
  replace H := Option.bind_eq_some_iff.mp H
  obtain ⟨t301, A40, H⟩ := H
  replace H : (if t301 = true then ((palanquinref07_in.f a0_5 0 65535).bind fun t302 => (if t302 = true then ((palanquinref07_in.f a0_6 0 65535).bind fun t303 => (if t303 = true then ((palanquinref07_in.f a0_4 0 255).bind fun t304 => (if t304 = true then (if (a0_7.size : Int) ≤ 40 then (some (((a0_7.size : Int) % 4) == 0)) else (some false)) else (some false))) else (some false))) else (some false))) else (some false)) = some r := H
  have A4 := mA A40
  clear A40
  by_cases c5 : t301 = true
  ·subst c5
   have H1 : ((palanquinref07_in.f a0_5 0 65535).bind fun t302 => (if t302 = true then ((palanquinref07_in.f a0_6 0 65535).bind fun t303 => (if t303 = true then ((palanquinref07_in.f a0_4 0 255).bind fun t304 => (if t304 = true then (if (a0_7.size : Int) ≤ 40 then (some (((a0_7.size : Int) % 4) == 0)) else (some false)) else (some false))) else (some false))) else (some false))) = some r := by rw [if_pos rfl] at H; exact H
   clear H
   have H := H1
   clear H1
   replace H := Option.bind_eq_some_iff.mp H
   obtain ⟨t302, A60, H⟩ := H
   replace H : (if t302 = true then ((palanquinref07_in.f a0_6 0 65535).bind fun t303 => (if t303 = true then ((palanquinref07_in.f a0_4 0 255).bind fun t304 => (if t304 = true then (if (a0_7.size : Int) ≤ 40 then (some (((a0_7.size : Int) % 4) == 0)) else (some false)) else (some false))) else (some false))) else (some false)) = some r := H
   have A6 := mA A60
   clear A60
   by_cases c7 : t302 = true
   ·subst c7
    have H1 : ((palanquinref07_in.f a0_6 0 65535).bind fun t303 => (if t303 = true then ((palanquinref07_in.f a0_4 0 255).bind fun t304 => (if t304 = true then (if (a0_7.size : Int) ≤ 40 then (some (((a0_7.size : Int) % 4) == 0)) else (some false)) else (some false))) else (some false))) = some r := by rw [if_pos rfl] at H; exact H
    clear H
    have H := H1
    clear H1
    replace H := Option.bind_eq_some_iff.mp H
    obtain ⟨t303, A80, H⟩ := H
    replace H : (if t303 = true then ((palanquinref07_in.f a0_4 0 255).bind fun t304 => (if t304 = true then (if (a0_7.size : Int) ≤ 40 then (some (((a0_7.size : Int) % 4) == 0)) else (some false)) else (some false))) else (some false)) = some r := H
    have A8 := mA A80
    clear A80
    by_cases c9 : t303 = true
    ·subst c9
     have H1 : ((palanquinref07_in.f a0_4 0 255).bind fun t304 => (if t304 = true then (if (a0_7.size : Int) ≤ 40 then (some (((a0_7.size : Int) % 4) == 0)) else (some false)) else (some false))) = some r := by rw [if_pos rfl] at H; exact H
     clear H
     have H := H1
     clear H1
     replace H := Option.bind_eq_some_iff.mp H
     obtain ⟨t304, A100, H⟩ := H
     replace H : (if t304 = true then (if (a0_7.size : Int) ≤ 40 then (some (((a0_7.size : Int) % 4) == 0)) else (some false)) else (some false)) = some r := H
     have A10 := mA A100
     clear A100
     by_cases c11 : t304 = true
     ·subst c11
      have H1 : (if (a0_7.size : Int) ≤ 40 then (some (((a0_7.size : Int) % 4) == 0)) else (some false)) = some r := by rw [if_pos rfl] at H; exact H
      clear H
      have H := H1
      clear H1
      by_cases c12 : (a0_7.size : Int) ≤ 40
      ·rw [if_pos c12] at H
       have c12b0 : decide ((a0_7.size : Int) ≤ 40) = true := decide_eq_true c12
       have c12b1 : decide (a0_7.size ≤ 40) = true := decide_eq_true (by omega)
       clear c12
       obtain rfl := Option.some.inj H
       go_enter Try.func56, Try.ntmps56
       go_wp2_with (first | ((with_reducible refine gate_dst (N := 1) rfl ?_); (try (refine gate_guard (by rfl) ?_; dsimp only)); refine box_event ?hg (N := 1) ?hd (cs := #[.int .i64 a0_0, .int .i64 a0_1, .int .u32 a0_2, .int .u32 a0_3, .int .i64 a0_4, .int .i64 a0_5, .int .i64 a0_6, .string a0_7, .string a0_8]) (t := 69) ?hr ?_; (case hd => rfl); (case hg => rfl); (case hr => first | (go_simp; done) | (go_simp; rfl)); intro gb299 hg w13 hbox hb; obtain ⟨n0_, nq_⟩ := bpr (by repeat (first | (with_reducible first | exact HB.out | apply bA | apply bN | apply bD) | exact HB.out)) hb; have n1_ := mA (hbox); have n2_ := mA ((by rw [hg]; exact nq_ : w.heap.size ≤ gb299)); have n3_ := mA ((by rw [hg]; exact nq_ : w.heap.size ≤ gb299)); clear HB; have HB := n0_; have BK299 := n1_; have GW299 := n2_; have GE299 := n3_; clear nq_; clear n0_ n1_ n2_ n3_; clear hb hbox hg; obtain ⟨hcz14_0, hcz14_1, hcz14_2, hcz14_3, hcz14_4, hcz14_5, hcz14_6, hcz14_7, hcz14_8⟩ := bc9 BK299.out; obtain ⟨hfz14_0, hfz14_1, hfz14_2, hfz14_3, hfz14_4, hfz14_5, hfz14_6, hfz14_7, hfz14_8⟩ := bf9 BK299.out) | ((with_reducible refine gate_callee (f := 57) rfl ?_); refine goesL_ (some 5) rfl rfl Try.func57 (by kernel_rfl) rfl #[.int .i64 a0_0, .int .i64 0, .int .i64 65535] rfl (by (try simp only [List.map_toArray, List.map_cons, List.map_nil]); first | done | rfl | (simp only [List.length_drop, List.length_take]; rfl)) ?_; (with_reducible refine (palanquinref07_in.calls a0_0 0 65535 true _ A2.out).mono ?_); rintro e w' ⟨rfl, ⟨nd, rfl⟩⟩; refine ⟨_, rfl, ?_⟩) | (go_at_call 57; (with_reducible refine (palanquinref07_in.calls a0_1 0 65535 true _ A4.out).mono ?_); rintro e w' ⟨rfl, ⟨nd, rfl⟩⟩) | (go_at_call 57; (with_reducible refine (palanquinref07_in.calls a0_5 0 65535 true _ A6.out).mono ?_); rintro e w' ⟨rfl, ⟨nd, rfl⟩⟩) | (go_at_call 57; (with_reducible refine (palanquinref07_in.calls a0_6 0 65535 true _ A8.out).mono ?_); rintro e w' ⟨rfl, ⟨nd, rfl⟩⟩) | (go_at_call 57; (with_reducible refine (palanquinref07_in.calls a0_4 0 255 true _ A10.out).mono ?_); rintro e w' ⟨rfl, ⟨nd, rfl⟩⟩))
       go_ret
       exact ⟨by first | rfl | (simp [errW_none, errW_some] <;> rfl) | (simp [*, errW_none, errW_some] <;> rfl), by repeat (first | (with_reducible first | exact HB.out | apply bA | apply bN | apply bD | refine bS ?_ GE299.out) | exact HB.out)⟩
      ·rw [if_neg c12] at H
       have c12b0 : decide ((a0_7.size : Int) ≤ 40) = false := decide_eq_false c12
       have c12b1 : decide (a0_7.size ≤ 40) = false := decide_eq_false (by omega)
       clear c12
       obtain rfl := Option.some.inj H
       go_enter Try.func56, Try.ntmps56
       go_wp2_with (first | ((with_reducible refine gate_dst (N := 1) rfl ?_); (try (refine gate_guard (by rfl) ?_; dsimp only)); refine box_event ?hg (N := 1) ?hd (cs := #[.int .i64 a0_0, .int .i64 a0_1, .int .u32 a0_2, .int .u32 a0_3, .int .i64 a0_4, .int .i64 a0_5, .int .i64 a0_6, .string a0_7, .string a0_8]) (t := 69) ?hr ?_; (case hd => rfl); (case hg => rfl); (case hr => first | (go_simp; done) | (go_simp; rfl)); intro gb299 hg w15 hbox hb; obtain ⟨n0_, nq_⟩ := bpr (by repeat (first | (with_reducible first | exact HB.out | apply bA | apply bN | apply bD) | exact HB.out)) hb; have n1_ := mA (hbox); have n2_ := mA ((by rw [hg]; exact nq_ : w.heap.size ≤ gb299)); have n3_ := mA ((by rw [hg]; exact nq_ : w.heap.size ≤ gb299)); clear HB; have HB := n0_; have BK299 := n1_; have GW299 := n2_; have GE299 := n3_; clear nq_; clear n0_ n1_ n2_ n3_; clear hb hbox hg; obtain ⟨hcz16_0, hcz16_1, hcz16_2, hcz16_3, hcz16_4, hcz16_5, hcz16_6, hcz16_7, hcz16_8⟩ := bc9 BK299.out; obtain ⟨hfz16_0, hfz16_1, hfz16_2, hfz16_3, hfz16_4, hfz16_5, hfz16_6, hfz16_7, hfz16_8⟩ := bf9 BK299.out) | ((with_reducible refine gate_callee (f := 57) rfl ?_); refine goesL_ (some 5) rfl rfl Try.func57 (by kernel_rfl) rfl #[.int .i64 a0_0, .int .i64 0, .int .i64 65535] rfl (by (try simp only [List.map_toArray, List.map_cons, List.map_nil]); first | done | rfl | (simp only [List.length_drop, List.length_take]; rfl)) ?_; (with_reducible refine (palanquinref07_in.calls a0_0 0 65535 true _ A2.out).mono ?_); rintro e w' ⟨rfl, ⟨nd, rfl⟩⟩; refine ⟨_, rfl, ?_⟩) | (go_at_call 57; (with_reducible refine (palanquinref07_in.calls a0_1 0 65535 true _ A4.out).mono ?_); rintro e w' ⟨rfl, ⟨nd, rfl⟩⟩) | (go_at_call 57; (with_reducible refine (palanquinref07_in.calls a0_5 0 65535 true _ A6.out).mono ?_); rintro e w' ⟨rfl, ⟨nd, rfl⟩⟩) | (go_at_call 57; (with_reducible refine (palanquinref07_in.calls a0_6 0 65535 true _ A8.out).mono ?_); rintro e w' ⟨rfl, ⟨nd, rfl⟩⟩) | (go_at_call 57; (with_reducible refine (palanquinref07_in.calls a0_4 0 255 true _ A10.out).mono ?_); rintro e w' ⟨rfl, ⟨nd, rfl⟩⟩))
       go_ret
       exact ⟨by first | rfl | (simp [errW_none, errW_some] <;> rfl) | (simp [*, errW_none, errW_some] <;> rfl), by repeat (first | (with_reducible first | exact HB.out | apply bA | apply bN | apply bD | refine bS ?_ GE299.out) | exact HB.out)⟩
     ·replace c11 := Bool.eq_false_iff.mpr c11
      subst c11
      have H1 : (some false) = some r := by rw [if_neg (show ¬ (false = true) by decide)] at H; exact H
      clear H
      have H := H1
      clear H1
      obtain rfl := Option.some.inj H
      go_enter Try.func56, Try.ntmps56
      go_wp2_with (first | ((with_reducible refine gate_dst (N := 1) rfl ?_); (try (refine gate_guard (by rfl) ?_; dsimp only)); refine box_event ?hg (N := 1) ?hd (cs := #[.int .i64 a0_0, .int .i64 a0_1, .int .u32 a0_2, .int .u32 a0_3, .int .i64 a0_4, .int .i64 a0_5, .int .i64 a0_6, .string a0_7, .string a0_8]) (t := 69) ?hr ?_; (case hd => rfl); (case hg => rfl); (case hr => first | (go_simp; done) | (go_simp; rfl)); intro gb299 hg w17 hbox hb; obtain ⟨n0_, nq_⟩ := bpr (by repeat (first | (with_reducible first | exact HB.out | apply bA | apply bN | apply bD) | exact HB.out)) hb; have n1_ := mA (hbox); have n2_ := mA ((by rw [hg]; exact nq_ : w.heap.size ≤ gb299)); have n3_ := mA ((by rw [hg]; exact nq_ : w.heap.size ≤ gb299)); clear HB; have HB := n0_; have BK299 := n1_; have GW299 := n2_; have GE299 := n3_; clear nq_; clear n0_ n1_ n2_ n3_; clear hb hbox hg; obtain ⟨hcz18_0, hcz18_1, hcz18_2, hcz18_3, hcz18_4, hcz18_5, hcz18_6, hcz18_7, hcz18_8⟩ := bc9 BK299.out; obtain ⟨hfz18_0, hfz18_1, hfz18_2, hfz18_3, hfz18_4, hfz18_5, hfz18_6, hfz18_7, hfz18_8⟩ := bf9 BK299.out) | ((with_reducible refine gate_callee (f := 57) rfl ?_); refine goesL_ (some 5) rfl rfl Try.func57 (by kernel_rfl) rfl #[.int .i64 a0_0, .int .i64 0, .int .i64 65535] rfl (by (try simp only [List.map_toArray, List.map_cons, List.map_nil]); first | done | rfl | (simp only [List.length_drop, List.length_take]; rfl)) ?_; (with_reducible refine (palanquinref07_in.calls a0_0 0 65535 true _ A2.out).mono ?_); rintro e w' ⟨rfl, ⟨nd, rfl⟩⟩; refine ⟨_, rfl, ?_⟩) | (go_at_call 57; (with_reducible refine (palanquinref07_in.calls a0_1 0 65535 true _ A4.out).mono ?_); rintro e w' ⟨rfl, ⟨nd, rfl⟩⟩) | (go_at_call 57; (with_reducible refine (palanquinref07_in.calls a0_5 0 65535 true _ A6.out).mono ?_); rintro e w' ⟨rfl, ⟨nd, rfl⟩⟩) | (go_at_call 57; (with_reducible refine (palanquinref07_in.calls a0_6 0 65535 true _ A8.out).mono ?_); rintro e w' ⟨rfl, ⟨nd, rfl⟩⟩) | (go_at_call 57; (with_reducible refine (palanquinref07_in.calls a0_4 0 255 false _ A10.out).mono ?_); rintro e w' ⟨rfl, ⟨nd, rfl⟩⟩))
      go_ret
      exact ⟨by first | rfl | (simp [errW_none, errW_some] <;> rfl) | (simp [*, errW_none, errW_some] <;> rfl), by repeat (first | (with_reducible first | exact HB.out | apply bA | apply bN | apply bD | refine bS ?_ GE299.out) | exact HB.out)⟩
    ·replace c9 := Bool.eq_false_iff.mpr c9
     subst c9
     have H1 : (some false) = some r := by rw [if_neg (show ¬ (false = true) by decide)] at H; exact H
     clear H
     have H := H1
     clear H1
     obtain rfl := Option.some.inj H
     go_enter Try.func56, Try.ntmps56
     go_wp2_with (first | ((with_reducible refine gate_dst (N := 1) rfl ?_); (try (refine gate_guard (by rfl) ?_; dsimp only)); refine box_event ?hg (N := 1) ?hd (cs := #[.int .i64 a0_0, .int .i64 a0_1, .int .u32 a0_2, .int .u32 a0_3, .int .i64 a0_4, .int .i64 a0_5, .int .i64 a0_6, .string a0_7, .string a0_8]) (t := 69) ?hr ?_; (case hd => rfl); (case hg => rfl); (case hr => first | (go_simp; done) | (go_simp; rfl)); intro gb299 hg w19 hbox hb; obtain ⟨n0_, nq_⟩ := bpr (by repeat (first | (with_reducible first | exact HB.out | apply bA | apply bN | apply bD) | exact HB.out)) hb; have n1_ := mA (hbox); have n2_ := mA ((by rw [hg]; exact nq_ : w.heap.size ≤ gb299)); have n3_ := mA ((by rw [hg]; exact nq_ : w.heap.size ≤ gb299)); clear HB; have HB := n0_; have BK299 := n1_; have GW299 := n2_; have GE299 := n3_; clear nq_; clear n0_ n1_ n2_ n3_; clear hb hbox hg; obtain ⟨hcz20_0, hcz20_1, hcz20_2, hcz20_3, hcz20_4, hcz20_5, hcz20_6, hcz20_7, hcz20_8⟩ := bc9 BK299.out; obtain ⟨hfz20_0, hfz20_1, hfz20_2, hfz20_3, hfz20_4, hfz20_5, hfz20_6, hfz20_7, hfz20_8⟩ := bf9 BK299.out) | ((with_reducible refine gate_callee (f := 57) rfl ?_); refine goesL_ (some 5) rfl rfl Try.func57 (by kernel_rfl) rfl #[.int .i64 a0_0, .int .i64 0, .int .i64 65535] rfl (by (try simp only [List.map_toArray, List.map_cons, List.map_nil]); first | done | rfl | (simp only [List.length_drop, List.length_take]; rfl)) ?_; (with_reducible refine (palanquinref07_in.calls a0_0 0 65535 true _ A2.out).mono ?_); rintro e w' ⟨rfl, ⟨nd, rfl⟩⟩; refine ⟨_, rfl, ?_⟩) | (go_at_call 57; (with_reducible refine (palanquinref07_in.calls a0_1 0 65535 true _ A4.out).mono ?_); rintro e w' ⟨rfl, ⟨nd, rfl⟩⟩) | (go_at_call 57; (with_reducible refine (palanquinref07_in.calls a0_5 0 65535 true _ A6.out).mono ?_); rintro e w' ⟨rfl, ⟨nd, rfl⟩⟩) | (go_at_call 57; (with_reducible refine (palanquinref07_in.calls a0_6 0 65535 false _ A8.out).mono ?_); rintro e w' ⟨rfl, ⟨nd, rfl⟩⟩))
     go_ret
     exact ⟨by first | rfl | (simp [errW_none, errW_some] <;> rfl) | (simp [*, errW_none, errW_some] <;> rfl), by repeat (first | (with_reducible first | exact HB.out | apply bA | apply bN | apply bD | refine bS ?_ GE299.out) | exact HB.out)⟩
   ·replace c7 := Bool.eq_false_iff.mpr c7
    subst c7
    have H1 : (some false) = some r := by rw [if_neg (show ¬ (false = true) by decide)] at H; exact H
    clear H
    have H := H1
    clear H1
    obtain rfl := Option.some.inj H
    go_enter Try.func56, Try.ntmps56
    go_wp2_with (first | ((with_reducible refine gate_dst (N := 1) rfl ?_); (try (refine gate_guard (by rfl) ?_; dsimp only)); refine box_event ?hg (N := 1) ?hd (cs := #[.int .i64 a0_0, .int .i64 a0_1, .int .u32 a0_2, .int .u32 a0_3, .int .i64 a0_4, .int .i64 a0_5, .int .i64 a0_6, .string a0_7, .string a0_8]) (t := 69) ?hr ?_; (case hd => rfl); (case hg => rfl); (case hr => first | (go_simp; done) | (go_simp; rfl)); intro gb299 hg w21 hbox hb; obtain ⟨n0_, nq_⟩ := bpr (by repeat (first | (with_reducible first | exact HB.out | apply bA | apply bN | apply bD) | exact HB.out)) hb; have n1_ := mA (hbox); have n2_ := mA ((by rw [hg]; exact nq_ : w.heap.size ≤ gb299)); have n3_ := mA ((by rw [hg]; exact nq_ : w.heap.size ≤ gb299)); clear HB; have HB := n0_; have BK299 := n1_; have GW299 := n2_; have GE299 := n3_; clear nq_; clear n0_ n1_ n2_ n3_; clear hb hbox hg; obtain ⟨hcz22_0, hcz22_1, hcz22_2, hcz22_3, hcz22_4, hcz22_5, hcz22_6, hcz22_7, hcz22_8⟩ := bc9 BK299.out; obtain ⟨hfz22_0, hfz22_1, hfz22_2, hfz22_3, hfz22_4, hfz22_5, hfz22_6, hfz22_7, hfz22_8⟩ := bf9 BK299.out) | ((with_reducible refine gate_callee (f := 57) rfl ?_); refine goesL_ (some 5) rfl rfl Try.func57 (by kernel_rfl) rfl #[.int .i64 a0_0, .int .i64 0, .int .i64 65535] rfl (by (try simp only [List.map_toArray, List.map_cons, List.map_nil]); first | done | rfl | (simp only [List.length_drop, List.length_take]; rfl)) ?_; (with_reducible refine (palanquinref07_in.calls a0_0 0 65535 true _ A2.out).mono ?_); rintro e w' ⟨rfl, ⟨nd, rfl⟩⟩; refine ⟨_, rfl, ?_⟩) | (go_at_call 57; (with_reducible refine (palanquinref07_in.calls a0_1 0 65535 true _ A4.out).mono ?_); rintro e w' ⟨rfl, ⟨nd, rfl⟩⟩) | (go_at_call 57; (with_reducible refine (palanquinref07_in.calls a0_5 0 65535 false _ A6.out).mono ?_); rintro e w' ⟨rfl, ⟨nd, rfl⟩⟩))
    go_ret
    exact ⟨by first | rfl | (simp [errW_none, errW_some] <;> rfl) | (simp [*, errW_none, errW_some] <;> rfl), by repeat (first | (with_reducible first | exact HB.out | apply bA | apply bN | apply bD | refine bS ?_ GE299.out) | exact HB.out)⟩
  ·replace c5 := Bool.eq_false_iff.mpr c5
   subst c5
   have H1 : (some false) = some r := by rw [if_neg (show ¬ (false = true) by decide)] at H; exact H
   clear H
   have H := H1
   clear H1
   obtain rfl := Option.some.inj H
   go_enter Try.func56, Try.ntmps56
   go_wp2_with (first | ((with_reducible refine gate_dst (N := 1) rfl ?_); (try (refine gate_guard (by rfl) ?_; dsimp only)); refine box_event ?hg (N := 1) ?hd (cs := #[.int .i64 a0_0, .int .i64 a0_1, .int .u32 a0_2, .int .u32 a0_3, .int .i64 a0_4, .int .i64 a0_5, .int .i64 a0_6, .string a0_7, .string a0_8]) (t := 69) ?hr ?_; (case hd => rfl); (case hg => rfl); (case hr => first | (go_simp; done) | (go_simp; rfl)); intro gb299 hg w23 hbox hb; obtain ⟨n0_, nq_⟩ := bpr (by repeat (first | (with_reducible first | exact HB.out | apply bA | apply bN | apply bD) | exact HB.out)) hb; have n1_ := mA (hbox); have n2_ := mA ((by rw [hg]; exact nq_ : w.heap.size ≤ gb299)); have n3_ := mA ((by rw [hg]; exact nq_ : w.heap.size ≤ gb299)); clear HB; have HB := n0_; have BK299 := n1_; have GW299 := n2_; have GE299 := n3_; clear nq_; clear n0_ n1_ n2_ n3_; clear hb hbox hg; obtain ⟨hcz24_0, hcz24_1, hcz24_2, hcz24_3, hcz24_4, hcz24_5, hcz24_6, hcz24_7, hcz24_8⟩ := bc9 BK299.out; obtain ⟨hfz24_0, hfz24_1, hfz24_2, hfz24_3, hfz24_4, hfz24_5, hfz24_6, hfz24_7, hfz24_8⟩ := bf9 BK299.out) | ((with_reducible refine gate_callee (f := 57) rfl ?_); refine goesL_ (some 5) rfl rfl Try.func57 (by kernel_rfl) rfl #[.int .i64 a0_0, .int .i64 0, .int .i64 65535] rfl (by (try simp only [List.map_toArray, List.map_cons, List.map_nil]); first | done | rfl | (simp only [List.length_drop, List.length_take]; rfl)) ?_; (with_reducible refine (palanquinref07_in.calls a0_0 0 65535 true _ A2.out).mono ?_); rintro e w' ⟨rfl, ⟨nd, rfl⟩⟩; refine ⟨_, rfl, ?_⟩) | (go_at_call 57; (with_reducible refine (palanquinref07_in.calls a0_1 0 65535 false _ A4.out).mono ?_); rintro e w' ⟨rfl, ⟨nd, rfl⟩⟩))
   go_ret
   exact ⟨by first | rfl | (simp [errW_none, errW_some] <;> rfl) | (simp [*, errW_none, errW_some] <;> rfl), by repeat (first | (with_reducible first | exact HB.out | apply bA | apply bN | apply bD | refine bS ?_ GE299.out) | exact HB.out)⟩
 ·replace c3 := Bool.eq_false_iff.mpr c3
  subst c3
  have H1 : (some false) = some r := by rw [if_neg (show ¬ (false = true) by decide)] at H; exact H
  clear H
  have H := H1
  clear H1
  obtain rfl := Option.some.inj H
  go_enter Try.func56, Try.ntmps56
  go_wp2_with (first | ((with_reducible refine gate_dst (N := 1) rfl ?_); (try (refine gate_guard (by rfl) ?_; dsimp only)); refine box_event ?hg (N := 1) ?hd (cs := #[.int .i64 a0_0, .int .i64 a0_1, .int .u32 a0_2, .int .u32 a0_3, .int .i64 a0_4, .int .i64 a0_5, .int .i64 a0_6, .string a0_7, .string a0_8]) (t := 69) ?hr ?_; (case hd => rfl); (case hg => rfl); (case hr => first | (go_simp; done) | (go_simp; rfl)); intro gb299 hg w25 hbox hb; obtain ⟨n0_, nq_⟩ := bpr (by repeat (first | (with_reducible first | exact HB.out | apply bA | apply bN | apply bD) | exact HB.out)) hb; have n1_ := mA (hbox); have n2_ := mA ((by rw [hg]; exact nq_ : w.heap.size ≤ gb299)); have n3_ := mA ((by rw [hg]; exact nq_ : w.heap.size ≤ gb299)); clear HB; have HB := n0_; have BK299 := n1_; have GW299 := n2_; have GE299 := n3_; clear nq_; clear n0_ n1_ n2_ n3_; clear hb hbox hg; obtain ⟨hcz26_0, hcz26_1, hcz26_2, hcz26_3, hcz26_4, hcz26_5, hcz26_6, hcz26_7, hcz26_8⟩ := bc9 BK299.out; obtain ⟨hfz26_0, hfz26_1, hfz26_2, hfz26_3, hfz26_4, hfz26_5, hfz26_6, hfz26_7, hfz26_8⟩ := bf9 BK299.out) | ((with_reducible refine gate_callee (f := 57) rfl ?_); refine goesL_ (some 5) rfl rfl Try.func57 (by kernel_rfl) rfl #[.int .i64 a0_0, .int .i64 0, .int .i64 65535] rfl (by (try simp only [List.map_toArray, List.map_cons, List.map_nil]); first | done | rfl | (simp only [List.length_drop, List.length_take]; rfl)) ?_; (with_reducible refine (palanquinref07_in.calls a0_0 0 65535 false _ A2.out).mono ?_); rintro e w' ⟨rfl, ⟨nd, rfl⟩⟩; refine ⟨_, rfl, ?_⟩))
  go_ret
  exact ⟨by first | rfl | (simp [errW_none, errW_some] <;> rfl) | (simp [*, errW_none, errW_some] <;> rfl), by repeat (first | (with_reducible first | exact HB.out | apply bA | apply bN | apply bD | refine bS ?_ GE299.out) | exact HB.out)⟩

def palanquinref07_num.f (k : Nat) (a0 : Int) (a1 : Int) : Option (ByteArray) := (palanquinref01_Bytes.f k (IntKind.u64.wrap (a0)) a1).bind fun t305 => (some t305)
set_option maxHeartbeats 8000000 in
set_option maxRecDepth 100000 in
theorem palanquinref07_num.calls (k : Nat) (a0 : Int) (a1 : Int) (r : ByteArray) (w : World) (h : palanquinref07_num.f k a0 a1 = some r) :
  Calls Try.prog 58 #[.int .i64 a0, .int .i64 a1] w fun e w' => e = .returned (.string r) ∧ Below w.heap.size w w' := by
 have HB := mA (Below.refl w.heap.size w)
 have H : ((palanquinref01_Bytes.f k (IntKind.u64.wrap (a0)) a1).bind fun t305 => (some t305)) = some r := h
 clear h
 replace H := Option.bind_eq_some_iff.mp H
 obtain ⟨t305, A30, H⟩ := H
 replace H : (some t305) = some r := H
 have A3 := mA A30
 clear A30
 obtain rfl := Option.some.inj H
 go_enter Try.func58, Try.ntmps58
 go_wp2_with (first | ((with_reducible refine gate_callee (f := 42) rfl ?_); refine goesL_ (some 8) rfl rfl Try.func42 (by kernel_rfl) rfl #[.int .u64 (IntKind.u64.wrap (a0)), .int .i64 a1] rfl (by (try simp only [List.map_toArray, List.map_cons, List.map_nil]); first | done | rfl | (simp only [List.length_drop, List.length_take]; rfl)) ?_; (with_reducible refine (palanquinref01_Bytes.calls k (IntKind.u64.wrap (a0)) a1 t305 _ A3.out).mono ?_); rintro e w4 ⟨rfl, hb⟩; refine ⟨_, rfl, ?_⟩; have n0_ := mA (bP (by repeat (first | (with_reducible first | exact HB.out | apply bA | apply bN | apply bD) | exact HB.out)) hb); clear HB; have HB := n0_; clear n0_; (try clear hb); (try clear hb2); (try clear hk); (try clear hi)))
 go_ret
 exact ⟨by first | rfl | (simp [errW_none, errW_some] <;> rfl) | (simp [*, errW_none, errW_some] <;> rfl), by repeat (first | (with_reducible first | exact HB.out | apply bA | apply bN | apply bD) | exact HB.out)⟩

end Go.Proofs.Ytcmalglippmocaa.G
end
