/- Texts of this session, joined: each is a section. -/
import Derived.Test.YtejmipoolbodgaaMTcpTells2
import Derived.RangeFuncNested
import Derived.RangeFuncBound
import Derived.RangeFuncCalls
import Derived.RangeFuncLeaves
import Derived.RangeFuncFrom
import Derived.Shelf.Abstract
import Derived.Shelf.RegionOpen
import Derived.WalkKit
import Derived.OwnWalkIn
import Derived.TacticsInMore
import Derived.LoopNIn
import Derived.LoopIn
import Derived.Laws.Strings2
import Derived.Laws.Strings
import Derived.Test.YtejmipoolbodgaaMTcpTells1
set_option linter.unusedVariables false
set_option linter.unusedSimpArgs false
section
/- By hand: tcp.MSS: a range over tcp.walk. -/
namespace Go.Proofs.Ytejmipoolbodgaa.G
open Go.RowKit Go.Shelf Go.Proofs.YtejmipoolbodgaaW.PrintWords Go.Proofs.YtejmipoolbodgaaW.PrintLast Go.Proofs.YtejmipoolbodgaaW.PrintMore Go.Proofs.Ytejmipoolbodgaa.Pal
attribute [local go_sem] Oper.semAt_some
set_option linter.unusedVariables false
set_option linter.unusedSimpArgs false
/-- MSS's three results, in their cells. -/
abbrev Res3 (k : Nat) (a b : Int) (c : Bool) : List (Nat × TypeId × Array Value) := [(k, 3, #[.int .i64 a]), (k + 1, 3, #[.int .i64 b]), (k + 1 + 1, 4, #[.bool c])]
theorem res3_new (w : World) : Hp (((w.alloc (.cells #[.int .i64 0] 3)).alloc (.cells #[.int .i64 0] 3)).alloc (.cells #[.bool false] 4)) (Res3 w.heap.size 0 0 false) := by
  have b1 := Blk.new (w.alloc (.cells #[.int .i64 0] 3)) 3 #[.int .i64 0]
  have b2 := Blk.new ((w.alloc (.cells #[.int .i64 0] 3)).alloc (.cells #[.int .i64 0] 3)) 4 #[.bool false]
  rw [World.size_alloc] at b1
  rw [World.size_alloc, World.size_alloc] at b2
  exact .cons (((Blk.new w _ _).alloc _).alloc _) (.cons (b1.alloc _) (.cons b2 (.nil _)))
theorem Res3.facts {W : World} {k : Nat} {a b : Int} {c : Bool} (h : Hp W (Res3 k a b c)) :
    (W.cell? ⟨k, 0, none⟩ = some (.int .i64 a) ∧ W.frozen? ⟨k, 0, none⟩ = false) ∧ (W.cell? ⟨k + 1, 0, none⟩ = some (.int .i64 b) ∧ W.frozen? ⟨k + 1, 0, none⟩ = false) ∧ (W.cell? ⟨k + 1 + 1, 0, none⟩ = some (.bool c) ∧ W.frozen? ⟨k + 1 + 1, 0, none⟩ = false) :=
  ⟨⟨h.head.cell 0 _ rfl, h.head.free 0⟩, ⟨h.tail.head.cell 0 _ rfl, h.tail.head.free 0⟩, ⟨h.tail.tail.head.cell 0 _ rfl, h.tail.tail.head.free 0⟩⟩
theorem Res3.put {W : World} {k : Nat} {a b : Int} {c : Bool} (h : Hp W (Res3 k a b c)) (a' b' : Int) (c' : Bool) :
    Hp (((W.setCell ⟨k, 0, none⟩ (.int .i64 a')).setCell ⟨k + 1, 0, none⟩ (.int .i64 b')).setCell ⟨k + 1 + 1, 0, none⟩ (.bool c')) (Res3 k a' b' c') := by
  have h1 := Hp.set (l1 := []) (l2 := [_, _]) (show Hp W ([] ++ (k, 3, #[.int .i64 a]) :: [_, _]) from h) 0 (.int .i64 a') (by simp) (by simp; omega)
  have h2 := Hp.set (l1 := [_]) (l2 := [_]) h1 0 (.int .i64 b') (by simp) (by simp)
  exact Hp.set (l1 := [_, _]) (l2 := []) h2 0 (.bool c') (by simp; omega) (by simp)

set_option maxRecDepth 100000 in
set_option maxHeartbeats 4000000 in
theorem tcp_MSS.no (s : ByteArray) (hs : s.size ≤ 140737488351232) (hr : rightO (bl s) = false) (w : World) :
    Calls Try.prog 63 #[.string s] w fun e w' => e = .returned (.tuple #[.int .i64 0, .int .i64 0, .bool false]) ∧ Below w.heap.size w w' := by
  have HR := Aside0.mk (show tcp_Right.f s = some false by rw [Pure.right_is s hs, hr])
  clear hs hr
  have HB := Aside0.mk ((((Below.refl _ w).alloc (Nat.le_refl _) (.cells #[.int .i64 0] 3)).alloc (by simp) (.cells #[.int .i64 0] 3)).alloc (by simp; omega) (.cells #[.bool false] 4))
  refine (callsIn_wide (n := 4)).1 ?_
  refine callsIn_of_wp_marks Try.func63 rfl trivial ?_ rfl
  simp only [Try.ntmps63, List.size_toArray, List.length_cons, List.length_nil, Nat.reduceAdd, Nat.reduceSub, Array.replicate_succ, Array.replicate_zero, List.push_toArray, List.append_toArray, List.nil_append, List.cons_append]
  gi_wp2_with (refine ⟨trivial, ?_⟩; gi_at_call 65; refine (callsIn_wide.2 (tcp_Right.calls s false _ HR.out)).mono ?_; rintro e w2 ⟨rfl, g1⟩; replace HB := Aside0.mk (HB.out.trans (g1.mono HB.out.size)); have HP := Aside0.mk ((res3_new w).below g1 (by simp; omega)); obtain ⟨⟨c0, z0⟩, ⟨c1, z1⟩, c2, z2⟩ := Res3.facts HP.out; clear g1)
  have HQ := Aside0.mk (Res3.facts (Res3.put HP.out 0 0 false))
  clear c0 c1 c2 z0 z1 z2
  obtain ⟨⟨d0, _⟩, ⟨d1, _⟩, d2, _⟩ := HQ.out
  refine ⟨.tuple #[.int .i64 0, .int .i64 0, .bool false], ?_, rfl, ((HB.out.setCell (p := ⟨w.heap.size, 0, none⟩) (Nat.le_refl _) _).setCell (p := ⟨w.heap.size + 1, 0, none⟩) (by simp) _).setCell (p := ⟨w.heap.size + 1 + 1, 0, none⟩) (by simp; omega) _⟩
  simp [results, Try.f63, go_sem, d0, d1, d2]

/-- Where a region can only go on: its other exits told as none. -/
def goesOn (Q : Exit → Act → World → Prop) : Exit → Act → World → Prop
  | .normal, a, w => Q .normal a w
  | _, _, _ => False
theorem wpIn_goesOn {F : Fence} {n : Nat} {P : Program} {c : Code} {Q : Exit → Act → World → Prop} {a : Act} {w : World} (h : c.wpIn F n P (goesOn Q) a w) : c.wpIn F n P Q a w :=
  Code.wpIn_mono (fun e a w hq => by cases e <;> first | exact hq | exact False.elim hq) h
theorem goesOn_intro {Q : Exit → Act → World → Prop} {a : Act} {w : World} (h : Q .normal a w) : goesOn Q .normal a w := h
theorem oper_inRound {F : Fence} {n l : Nat} {P : Program} {o : Oper} {a : Act} {w : World} {K K' : Act → World → Prop} {Q : Exit → Act → World → Prop} (hro : F.round = none) (hd : ∀ c, o.op ≠ .defer c) (hK : ∀ a w, K a w → K' a w) (h : o.wpIn F n P a w K Q) : o.wpIn (F.inRound l) n P a w K' Q := by
  have h := Oper.wpIn_mono hK h
  unfold Oper.wpIn at h ⊢
  rw [Oper.semAt_eq _ _ _ hd] at h ⊢
  exact h
theorem wpAny_inRound {F : Fence} {n l : Nat} {P : Program} {md : Region.Mode} {ops : Array Oper} {Q : Exit → Act → World → Prop} (hro : F.round = none) (hd : ∀ (i : Nat) (o : Oper), ops[i]? = some o → ∀ c, o.op ≠ .defer c) :
    ∀ (fuel : Nat) (listed : Array Bool) (a : Act) (w : World), wpAnyIn F n P md ops Q fuel listed a w → wpAnyIn (F.inRound l) n P md ops Q fuel listed a w
  | 0, _, _, _, h => h
  | fuel + 1, listed, a, w, h => ⟨h.1, fun i hi => by
      have h2 := h.2 i hi
      unfold wpOpIn at h2 ⊢
      cases ho : ops[i]? with
      | none => rw [ho] at h2; exact wpAny_inRound hro hd fuel _ _ _ h2
      | some o =>
        rw [ho] at h2
        dsimp only at h2 ⊢
        split
        · rename_i hw; rw [if_pos hw] at h2; exact oper_inRound hro (hd i o ho) (fun a w hk => wpAny_inRound hro hd fuel _ _ _ hk) h2
        · rename_i hw; rw [if_neg hw] at h2; exact ⟨h2.1, wpAny_inRound hro hd fuel _ _ _ h2.2⟩⟩
def noDefer (ops : Array Oper) : Bool := ops.toList.all fun o => match o.op with | .defer _ => false | _ => true
theorem noDefer_spec {ops : Array Oper} (h : noDefer ops = true) : ∀ (i : Nat) (o : Oper), ops[i]? = some o → ∀ c, o.op ≠ .defer c := fun i o ho c hc => by
  have h2 := List.all_eq_true.mp h o (by rw [Array.mem_toList_iff]; exact Array.mem_of_getElem? ho)
  rw [hc] at h2
  exact Bool.noConfusion h2
/-- A region that draws, within a round: walked as in no round. -/
theorem region_inRound {F : Fence} {n l id : Nat} {P : Program} {ops : Array Oper} {Q : Exit → Act → World → Prop} {a : Act} {w : World} (hro : F.round = none) (hm : P.follows .mixedOrders = true) (hd : noDefer ops = true)
    (h : wpAnyIn F n P .any ops (goesOn Q) ops.size (Array.replicate ops.size false) a w.drew) : (Code.region id ops true).wpIn (F.inRound l) n P Q a w :=
  wpIn_goesOn (wpIn_region_any hm (wpAny_inRound hro (noDefer_spec hd) _ _ _ _ h))
theorem hit_facts (o : ByteArray) (h : 0 < o.size) (w : World) : (Instr.index 9 (.string o) (.int .i64 0)).run Try.prog w = .ok (.int .u8 (((bl o).getD 0 0).toNat : Int)) w := by
  rw [run_index_string (P := Try.prog) (w := w) 9 o .i64 0 Try.underlying9, dif_pos ⟨by decide, by omega⟩]
  congr 3
  simp [List.getD_eq_getElem?_getD, List.getElem?_eq_getElem (show 0 < (bl o).length by rw [bl_length]; exact h)]; rfl
theorem at_facts (o : ByteArray) (k : Nat) (h : k < o.size) (w : World) : (Instr.index 9 (.string o) (.int .i64 (k : Int))).run Try.prog w = .ok (.int .u8 (((bl o).getD k 0).toNat : Int)) w := by
  rw [run_index_string (P := Try.prog) (w := w) 9 o .i64 (k : Int) Try.underlying9, dif_pos ⟨by omega, by omega⟩]
  congr 3
  simp [List.getD_eq_getElem?_getD, List.getElem?_eq_getElem (show k < (bl o).length by rw [bl_length]; exact h)]; rfl
theorem or_bytes (a b : Nat) (ha : a < 256) (hb : b < 256) : Go.bits .or .i64 ((a : Int) * 256) (b : Int) = ((a * 256 + b : Nat) : Int) := by
  have e := i64_or (a * 256) b (by omega) (by omega)
  rw [show ((a * 256 : Nat) : Int) = (a : Int) * 256 by omega] at e
  rw [e]
  have := (Nat.two_pow_add_eq_or_of_lt (i := 8) (b := b) hb a)
  rw [show (2 : Nat) ^ 8 = 256 from rfl] at this
  rw [Nat.mul_comm a 256, this]

theorem res_cells {W : World} {k : Nat} {a b : Int} {c : Bool} (c0 : W.cell? ⟨k, 0, none⟩ = some (.int .i64 a)) (c1 : W.cell? ⟨k + 1, 0, none⟩ = some (.int .i64 b)) (c2 : W.cell? ⟨k + 1 + 1, 0, none⟩ = some (.bool c)) (p q : Int) (r : Bool) :
    (((W.setCell ⟨k, 0, none⟩ (.int .i64 p)).setCell ⟨k + 1, 0, none⟩ (.int .i64 q)).setCell ⟨k + 1 + 1, 0, none⟩ (.bool r)).cell? ⟨k, 0, none⟩ = some (.int .i64 p) ∧ (((W.setCell ⟨k, 0, none⟩ (.int .i64 p)).setCell ⟨k + 1, 0, none⟩ (.int .i64 q)).setCell ⟨k + 1 + 1, 0, none⟩ (.bool r)).cell? ⟨k + 1, 0, none⟩ = some (.int .i64 q) ∧ (((W.setCell ⟨k, 0, none⟩ (.int .i64 p)).setCell ⟨k + 1, 0, none⟩ (.int .i64 q)).setCell ⟨k + 1 + 1, 0, none⟩ (.bool r)).cell? ⟨k + 1 + 1, 0, none⟩ = some (.bool r) := by
  refine ⟨?_, ?_, ?_⟩
  · simp [World.cell?_setCell_other, World.cell?_setCell_same', c0]
  · simp [World.cell?_setCell_other, World.cell?_setCell_same', c1]
  · simp [World.cell?_setCell_other, World.cell?_setCell_same', c2]
set_option maxRecDepth 100000 in
set_option maxHeartbeats 8000000 in
theorem tcp_MSS.yes (s : ByteArray) (hs : s.size ≤ 140737488351232) (hr : rightO (bl s) = true) (a b : Int) (c : Bool) (hres : (match found (items s 0) with | none => (0, 0, false) | some v => (v.1, v.2, true)) = (a, b, c)) (w : World) :
    Calls Try.prog 63 #[.string s] w fun e w' => e = .returned (.tuple #[.int .i64 a, .int .i64 b, .bool c]) ∧ Below w.heap.size w w' := by
  have HR := Aside0.mk (show tcp_Right.f s = some true by rw [Pure.right_is s hs, hr])
  have HI := Aside0.mk (items_some s hr)
  have HS := Aside0.mk hs
  have HE := Aside0.mk hres
  clear hs hr hres
  have HB := Aside0.mk ((((Below.refl _ w).alloc (Nat.le_refl _) (.cells #[.int .i64 0] 3)).alloc (by simp) (.cells #[.int .i64 0] 3)).alloc (by simp; omega) (.cells #[.bool false] 4))
  refine (callsIn_wide (n := 4)).1 ?_
  refine callsIn_of_wp_marks Try.func63 rfl trivial ?_ rfl
  simp only [Try.ntmps63, List.size_toArray, List.length_cons, List.length_nil, Nat.reduceAdd, Nat.reduceSub, Array.replicate_succ, Array.replicate_zero, List.push_toArray, List.append_toArray, List.nil_append, List.cons_append]
  gi_wp2_with (first
    | (refine ⟨trivial, ?_⟩; gi_at_call 65; refine (callsIn_wide.2 (tcp_Right.calls s true _ HR.out)).mono ?_; rintro e w2 ⟨rfl, g1⟩; replace HB := Aside0.mk (HB.out.trans (g1.mono HB.out.size)); have HP := Aside0.mk ((res3_new w).below g1 (by simp; omega)); have HZ := Aside0.mk (show w.heap.size + 3 ≤ w2.heap.size by have := g1.size; simp at this; omega); clear g1)
    | (refine ⟨trivial, ?_⟩; gi_at_call 133; refine (walk_in Fence.wide _ trivial rfl s _).mono ?_; rintro e w3 ⟨rfl, rfl⟩))
  replace HB := Aside0.mk (HB.out.alloc HB.out.size (.cells #[.string s] 9))
  replace HP := Aside0.mk (HP.out.alloc (.cells #[.string s] 9))
  have hc0 : (w2.alloc (.cells #[.string s] 9)).cell? ⟨w2.heap.size, 0, none⟩ = some (.string s) := (Blk.new w2 9 #[.string s]).cell 0 _ rfl
  have hsz : (w2.alloc (.cells #[.string s] 9)).heap.size = w2.heap.size + 1 := by simp
  have hz := HZ.out
  generalize w2.alloc (.cells #[.string s] 9) = W0 at hc0 hsz HB HP ⊢
  refine wpIn_rangeFunc_ownF (α := ItemR) (encs := encR) rfl (show 1 ≤ 4 by decide) (gf := 159) (lb := #[.pointer (some ⟨w2.heap.size, 0, none⟩)]) rfl trivial (enters_of Try.func159 (by kernel_rfl) rfl)
    (walk_stopsR 3 (by decide) w2.heap.size (w2.heap.size + 1) s HS.out HI.out W0 (by omega) (by omega) hc0) belowK_t (belowK_b (by omega)) (Below.refl _ _) (fun _ => rfl)
    (fun pre W => (((W.cell? ⟨w.heap.size, 0, none⟩ = some (.int .i64 0) ∧ W.frozen? ⟨w.heap.size, 0, none⟩ = false) ∧ (W.cell? ⟨w.heap.size + 1, 0, none⟩ = some (.int .i64 0) ∧ W.frozen? ⟨w.heap.size + 1, 0, none⟩ = false) ∧ (W.cell? ⟨w.heap.size + 1 + 1, 0, none⟩ = some (.bool false) ∧ W.frozen? ⟨w.heap.size + 1 + 1, 0, none⟩ = false)) ∧ found (pre.map (·.1)) = none) ∧ Below w.heap.size w W)
    (fun c pre W => ((c = .ret) ∧ ∃ p q : Int, found (pre.map (·.1)) = some (p, q) ∧ W.cell? ⟨w.heap.size, 0, none⟩ = some (.int .i64 p) ∧ W.cell? ⟨w.heap.size + 1, 0, none⟩ = some (.int .i64 q) ∧ W.cell? ⟨w.heap.size + 1 + 1, 0, none⟩ = some (.bool true)) ∧ Below w.heap.size w W)
    (OwnFrom.and (Own.from (fun s A B row hs hg hr => ⟨⟨⟨cell_kept hs.1.1.1 hg hr, (frozen_kept hs.1.1.1 hg hr).trans hs.1.1.2⟩, ⟨cell_kept hs.1.2.1.1 hg hr, (frozen_kept hs.1.2.1.1 hg hr).trans hs.1.2.1.2⟩, ⟨cell_kept hs.1.2.2.1 hg hr, (frozen_kept hs.1.2.2.1 hg hr).trans hs.1.2.2.2⟩⟩, hs.2⟩) _) (ownFrom_below (Nat.le_refl _) (by omega)))
    (fun c => OwnFrom.and (Own.from (fun s A B row hs hg hr => by obtain ⟨e, p, q, h1, h2, h3, h4⟩ := hs; exact ⟨e, p, q, h1, cell_kept h2 hg hr, cell_kept h3 hg hr, cell_kept h4 hg hr⟩) _) (ownFrom_below (Nat.le_refl _) (by omega)))
    ⟨⟨Res3.facts HP.out, rfl⟩, HB.out⟩
    (fun x => { tmps := #[.string s, undef, .pointer (some ⟨w.heap.size, 0, none⟩), .pointer (some ⟨w.heap.size + 1, 0, none⟩), .pointer (some ⟨w.heap.size + 1 + 1, 0, none⟩), .int .i64 x.1.1, .string x.1.2, .string s, .bool true, .bool false, .string s, .func (.func 159) #[] #[.pointer (some ⟨w2.heap.size, 0, none⟩)], .int .i64 x.1.1, .string x.1.2, undef, undef, undef, undef, undef, undef, undef, undef, undef, undef, undef, undef, undef, undef, undef, undef, undef, undef], defers := [] }) ?assign ?body ?done ?stop
  case assign =>
    intro l x W K hK
    gi_wp2
    exact hK
  case body =>
    rintro l pre ⟨⟨n, o⟩, ho⟩ W ⟨⟨hcs, hnone⟩, hB⟩ _
    dsimp only at ho ⊢
    have HN := Aside0.mk hnone
    have HB1 := Aside0.mk hB
    clear hnone hB
    obtain ⟨b0, hb0⟩ : ∃ b : Nat, b = ((bl o).getD 0 0).toNat := ⟨_, rfl⟩
    have i0 := hit_facts o ho
    rw [← hb0] at i0
    by_cases h2 : b0 = 2
    case neg =>
      have d1 : ((b0 : Int) == 2) = false := by rw [beq_eq_false_iff_ne]; omega
      have d2 : (b0 == 2) = false := by rw [beq_eq_false_iff_ne]; exact h2
      have HX := Aside0.mk (show found ((pre ++ [(⟨(n, o), ho⟩ : ItemR)]).map (·.1)) = none by
        rw [List.map_append]
        refine found_miss HN.out ?_
        have : (bl o).getD 0 0 ≠ 2 := fun h => h2 (by rw [hb0, h]; rfl)
        simp only [hitI, Bool.and_eq_false_iff, beq_eq_false_iff_ne]
        exact .inl this)
      clear h2 hb0
      gi_wp2
      exact ⟨KeepsOthers.refl _, Below.refl _ _, ⟨hcs, HX.out⟩, HB1.out⟩
    have d1 : ((b0 : Int) == 2) = true := by rw [beq_iff_eq]; omega
    have d2 : (b0 == 2) = true := by rw [beq_iff_eq]; exact h2
    by_cases h4 : o.size = 4
    case neg =>
      have d3 : ((o.size : Int) == 4) = false := by rw [beq_eq_false_iff_ne]; omega
      have d4 : (o.size == 4) = false := by rw [beq_eq_false_iff_ne]; exact h4
      have HX := Aside0.mk (show found ((pre ++ [(⟨(n, o), ho⟩ : ItemR)]).map (·.1)) = none by
        rw [List.map_append]
        refine found_miss HN.out ?_
        simp only [hitI, Bool.and_eq_false_iff, beq_eq_false_iff_ne]
        exact .inr h4)
      clear h2 hb0 h4
      gi_wp2
      exact ⟨KeepsOthers.refl _, Below.refl _ _, ⟨hcs, HX.out⟩, HB1.out⟩
    have d3 : ((o.size : Int) == 4) = true := by rw [beq_iff_eq]; omega
    have d4 : (o.size == 4) = true := by rw [beq_iff_eq]; exact h4
    obtain ⟨b2, hb2⟩ : ∃ b : Nat, b = ((bl o).getD 2 0).toNat := ⟨_, rfl⟩
    obtain ⟨b3, hb3⟩ : ∃ b : Nat, b = ((bl o).getD 3 0).toNat := ⟨_, rfl⟩
    have i2 : ∀ w, (Instr.index 9 (.string o) (.int .i64 2)).run Try.prog w = .ok (.int .u8 (b2 : Int)) w := fun w => by rw [hb2]; exact at_facts o 2 (by omega) w
    have i3 : ∀ w, (Instr.index 9 (.string o) (.int .i64 3)).run Try.prog w = .ok (.int .u8 (b3 : Int)) w := fun w => by rw [hb3]; exact at_facts o 3 (by omega) w
    have l2 : b2 < 256 := by rw [hb2]; exact UInt8.toNat_lt _
    have l3 : b3 < 256 := by rw [hb3]; exact UInt8.toNat_lt _
    have ho_ := or_bytes b2 b3 l2 l3
    have v1 : wrap64 ((b2 : Int) * 256) = (b2 : Int) * 256 := by unfold wrap64; omega
    have v4 : IntKind.i64.wrap ((b2 : Int) * 256) = (b2 : Int) * 256 := by rw [IntKind.wrap_i64]; omega
    have v2 : IntKind.i64.wrap (b2 : Int) = (b2 : Int) := by rw [IntKind.wrap_i64]; omega
    have v3 : IntKind.i64.wrap (b3 : Int) = (b3 : Int) := by rw [IntKind.wrap_i64]; omega
    have HX := Aside0.mk (show found ((pre ++ [(⟨(n, o), ho⟩ : ItemR)]).map (·.1)) = some (((b2 * 256 + b3 : Nat) : Int), wrap64 (n + 2)) by
      rw [List.map_append]
      refine (found_hit HN.out ?_).trans ?_
      · have : (bl o).getD 0 0 = 2 := UInt8.toNat_inj.1 (by rw [← hb0, h2]; rfl)
        simp only [hitI, Bool.and_eq_true, beq_iff_eq]
        exact ⟨this, h4⟩
      · rw [hb2, hb3]; rfl)
    clear h2 hb0 h4 hb2 hb3 l2 l3
    have hmx : Try.prog.follows .mixedOrders = true := by kernel_rfl
    gi_wp2
    refine region_inRound (F := Fence.wide) rfl hmx (by kernel_rfl) ?_
    refine wpAnyIn_take (i := 0) (v := .string o) rfl rfl (by kernel_rfl) (by kernel_rfl) (by kernel_rfl) (fun _ _ _ h => h) ⟨Or.inl ⟨by rfl, ?_⟩, fun _ => rfl⟩ ?_
    · intro w; first | (go_simp; done) | (go_simp; exact v4) | (go_simp; rw [IntKind.wrap_i64]; unfold wrap64; omega)
    refine wpAnyIn_take (i := 1) (v := .int .u8 (b2 : Int)) rfl rfl (by kernel_rfl) (by kernel_rfl) (by kernel_rfl) (fun _ _ _ h => h) ⟨Or.inl ⟨by rfl, ?_⟩, fun _ => rfl⟩ ?_
    · intro w; first | (go_simp; done) | (go_simp; exact v4) | (go_simp; rw [IntKind.wrap_i64]; unfold wrap64; omega)
    refine wpAnyIn_take (i := 2) (v := .int .i64 (b2 : Int)) rfl rfl (by kernel_rfl) (by kernel_rfl) (by kernel_rfl) (fun _ _ _ h => h) ⟨Or.inl ⟨by rfl, ?_⟩, fun _ => rfl⟩ ?_
    · intro w; first | (go_simp; done) | (go_simp; exact v4) | (go_simp; rw [IntKind.wrap_i64]; unfold wrap64; omega)
    refine wpAnyIn_take (i := 3) (v := .int .i64 ((b2 : Int) * 256)) rfl rfl (by kernel_rfl) (by kernel_rfl) (by kernel_rfl) (fun _ _ _ h => h) ⟨Or.inl ⟨by rfl, ?_⟩, fun _ => rfl⟩ ?_
    · intro w; first | (go_simp; done) | (go_simp; exact v4) | (go_simp; rw [IntKind.wrap_i64]; unfold wrap64; omega)
    refine wpAnyIn_take (i := 4) (v := .string o) rfl rfl (by kernel_rfl) (by kernel_rfl) (by kernel_rfl) (fun _ _ _ h => h) ⟨Or.inl ⟨by rfl, ?_⟩, fun _ => rfl⟩ ?_
    · intro w; first | (go_simp; done) | (go_simp; exact v4) | (go_simp; rw [IntKind.wrap_i64]; unfold wrap64; omega)
    refine wpAnyIn_take (i := 5) (v := .int .u8 (b3 : Int)) rfl rfl (by kernel_rfl) (by kernel_rfl) (by kernel_rfl) (fun _ _ _ h => h) ⟨Or.inl ⟨by rfl, ?_⟩, fun _ => rfl⟩ ?_
    · intro w; first | (go_simp; done) | (go_simp; exact v4) | (go_simp; rw [IntKind.wrap_i64]; unfold wrap64; omega)
    refine wpAnyIn_take (i := 6) (v := .int .i64 (b3 : Int)) rfl rfl (by kernel_rfl) (by kernel_rfl) (by kernel_rfl) (fun _ _ _ h => h) ⟨Or.inl ⟨by rfl, ?_⟩, fun _ => rfl⟩ ?_
    · intro w; first | (go_simp; done) | (go_simp; exact v4) | (go_simp; rw [IntKind.wrap_i64]; unfold wrap64; omega)
    refine wpAnyIn_take (i := 7) (v := .int .i64 ((b2 * 256 + b3 : Nat) : Int)) rfl rfl (by kernel_rfl) (by kernel_rfl) (by kernel_rfl) (fun _ _ _ h => h) ⟨Or.inl ⟨by rfl, ?_⟩, fun _ => rfl⟩ ?_
    · intro w; first | (go_simp; done) | (go_simp; exact v4) | (go_simp; rw [IntKind.wrap_i64]; unfold wrap64; omega)
    refine wpAnyIn_take (i := 8) (v := .int .i64 n) rfl rfl (by kernel_rfl) (by kernel_rfl) (by kernel_rfl) (fun _ _ _ h => h) ⟨Or.inl ⟨by rfl, ?_⟩, fun _ => rfl⟩ ?_
    · intro w; first | (go_simp; done) | (go_simp; exact v4) | (go_simp; rw [IntKind.wrap_i64]; unfold wrap64; omega)
    refine wpAnyIn_take (i := 9) (v := .int .i64 (wrap64 (n + 2))) rfl rfl (by kernel_rfl) (by kernel_rfl) (by kernel_rfl) (fun _ _ _ h => h) ⟨Or.inl ⟨by rfl, ?_⟩, fun _ => rfl⟩ ?_
    · intro w; first | (go_simp; done) | (go_simp; exact v4) | (go_simp; rw [IntKind.wrap_i64]; unfold wrap64; omega)
    obtain ⟨⟨c0, z0⟩, ⟨c1, z1⟩, c2, z2⟩ := hcs
    refine wpAnyIn_ready (rs := [10]) (by kernel_rfl) (by simp) ?_
    refine AllReadyIn.cons rfl (fun K hK => ?_) AllReadyIn.nil
    go_simp
    refine hK _ _ ?_
    clear hK K
    refine wpAnyIn_ready (rs := [11]) (by kernel_rfl) (by simp) ?_
    refine AllReadyIn.cons rfl (fun K hK => ?_) AllReadyIn.nil
    go_simp
    refine hK _ _ ?_
    clear hK K
    refine wpAnyIn_ready (rs := [12]) (by kernel_rfl) (by simp) ?_
    refine AllReadyIn.cons rfl (fun K hK => ?_) AllReadyIn.nil
    go_simp
    refine hK _ _ ?_
    clear hK K
    refine wpAnyIn_done (by kernel_rfl) ?_ _
    have hcast : ((b2 * 256 + b3 : Nat) : Int) = (b2 : Int) * 256 + (b3 : Int) := by omega
    rw [hcast] at HX
    have k0 : W.drew.cell? ⟨w.heap.size, 0, none⟩ = some (.int .i64 0) := c0
    have k1 : W.drew.cell? ⟨w.heap.size + 1, 0, none⟩ = some (.int .i64 0) := c1
    have k2 : W.drew.cell? ⟨w.heap.size + 1 + 1, 0, none⟩ = some (.bool false) := c2
    have HF := Aside0.mk (res_cells (W := W.drew) (k := w.heap.size) k0 k1 k2 ((b2 : Int) * 256 + (b3 : Int)) (wrap64 (n + 2)) true)
    clear k0 k1 k2 c0 c1 c2 hcast
    refine goesOn_intro ?_
    gi_wp2
    exact ⟨(KeepsOthers.drew W).trans (((KeepsOthers.setCell _ _ _).trans (KeepsOthers.setCell _ _ _)).trans (KeepsOthers.setCell _ _ _)), ⟨rfl, _, _, HX.out, HF.out.1, HF.out.2.1, HF.out.2.2⟩, ((HB1.out.drew.setCell (p := ⟨w.heap.size, 0, none⟩) (Nat.le_refl _) _).setCell (p := ⟨w.heap.size + 1, 0, none⟩) (by simp) _).setCell (p := ⟨w.heap.size + 1 + 1, 0, none⟩) (by simp; omega) _⟩
  case done =>
    rintro D ys W hD hys ⟨⟨hcs, hnone⟩, hB⟩ hK
    have HN := Aside0.mk (show (a, b, c) = (0, 0, false) by have := HE.out; rw [← hys, hnone] at this; exact this.symm)
    have HB1 := Aside0.mk hB
    have HD := Aside0.mk (show w.heap.size ≤ D by omega)
    clear hnone hys hB hD hz
    obtain ⟨⟨c0, z0⟩, ⟨c1, z1⟩, c2, z2⟩ := hcs
    gi_wp2
    have hK' := (((KeepsOthers.setCell W ⟨w.heap.size, 0, none⟩ (.int .i64 0)).trans (KeepsOthers.setCell _ ⟨w.heap.size + 1, 0, none⟩ (.int .i64 0))).trans (KeepsOthers.setCell _ ⟨w.heap.size + 1 + 1, 0, none⟩ (.bool false))).same D _ hK rfl
    have f0 : (((W.setCell ⟨w.heap.size, 0, none⟩ (.int .i64 0)).setCell ⟨w.heap.size + 1, 0, none⟩ (.int .i64 0)).setCell ⟨w.heap.size + 1 + 1, 0, none⟩ (.bool false)).cell? ⟨w.heap.size, 0, none⟩ = some (.int .i64 0) := by simp [World.cell?_setCell_other, World.cell?_setCell_same', c0]
    have f1 : (((W.setCell ⟨w.heap.size, 0, none⟩ (.int .i64 0)).setCell ⟨w.heap.size + 1, 0, none⟩ (.int .i64 0)).setCell ⟨w.heap.size + 1 + 1, 0, none⟩ (.bool false)).cell? ⟨w.heap.size + 1, 0, none⟩ = some (.int .i64 0) := by simp [World.cell?_setCell_other, World.cell?_setCell_same', c1]
    have f2 : (((W.setCell ⟨w.heap.size, 0, none⟩ (.int .i64 0)).setCell ⟨w.heap.size + 1, 0, none⟩ (.int .i64 0)).setCell ⟨w.heap.size + 1 + 1, 0, none⟩ (.bool false)).cell? ⟨w.heap.size + 1 + 1, 0, none⟩ = some (.bool false) := by simp [World.cell?_setCell_other, World.cell?_setCell_same', c2]
    refine ⟨by simp, .inl ⟨_, _, rfl, run_takeDeferred hK', ?_⟩⟩
    have e0 := cell_kept f0 (grownBy_putObj' _ D (.deferred none)) (fun r e => by cases e; exact ⟨_, hK', rfl⟩)
    have e1 := cell_kept f1 (grownBy_putObj' _ D (.deferred none)) (fun r e => by cases e; exact ⟨_, hK', rfl⟩)
    have e2 := cell_kept f2 (grownBy_putObj' _ D (.deferred none)) (fun r e => by cases e; exact ⟨_, hK', rfl⟩)
    refine ⟨.tuple #[.int .i64 0, .int .i64 0, .bool false], ?_, by obtain ⟨rfl, rfl, rfl⟩ := (by have := HN.out; simp only [Prod.mk.injEq] at this; exact this : a = 0 ∧ b = 0 ∧ c = false); rfl, (((HB1.out.setCell (p := ⟨w.heap.size, 0, none⟩) (Nat.le_refl _) _).setCell (p := ⟨w.heap.size + 1, 0, none⟩) (by simp) _).setCell (p := ⟨w.heap.size + 1 + 1, 0, none⟩) (by simp; omega) _).trans (belowK_b (w := w) (Nat.le_refl _) _ D _ _ HD.out hK' rfl rfl)⟩
    simp [results, Try.f63, go_sem, e0, e1, e2]
  case stop =>
    rintro D c' pre W hD hSp ⟨⟨rfl, p, q, hf, c0, c1, c2⟩, hB⟩ hK
    have HN := Aside0.mk (show (a, b, c) = (p, q, true) by have := HE.out; rw [found_prefix hSp hf] at this; exact this.symm)
    have HB1 := Aside0.mk hB
    have HD := Aside0.mk (show w.heap.size ≤ D by omega)
    clear hf hB hD hz hSp
    gi_wp2
    refine ⟨by simp, .inl ⟨_, _, rfl, run_takeDeferred hK, ?_⟩⟩
    have e0 := cell_kept c0 (grownBy_putObj' _ D (.deferred none)) (fun r e => by cases e; exact ⟨_, hK, rfl⟩)
    have e1 := cell_kept c1 (grownBy_putObj' _ D (.deferred none)) (fun r e => by cases e; exact ⟨_, hK, rfl⟩)
    have e2 := cell_kept c2 (grownBy_putObj' _ D (.deferred none)) (fun r e => by cases e; exact ⟨_, hK, rfl⟩)
    refine ⟨.tuple #[.int .i64 p, .int .i64 q, .bool true], ?_, by obtain ⟨rfl, rfl, rfl⟩ := (by have := HN.out; simp only [Prod.mk.injEq] at this; exact this : a = p ∧ b = q ∧ c = true); rfl, HB1.out.trans (belowK_b (w := w) (Nat.le_refl _) _ D _ _ HD.out hK rfl rfl)⟩
    simp [results, Try.f63, go_sem, e0, e1, e2]

theorem tcp_MSS.calls (s : ByteArray) (r1 r2 : Int) (r3 : Bool) (w : World) (h : tcp_MSS.f s = some (r1, r2, r3)) :
    Calls Try.prog 63 #[.string s] w fun e w' => e = .returned (.tuple #[.int .i64 r1, .int .i64 r2, .bool r3]) ∧ Below w.heap.size w w' := by
  unfold tcp_MSS.f at h
  split at h
  case isFalse => exact absurd h (by simp)
  rename_i hs
  have h := Option.some.inj h
  by_cases hr : rightO (bl s) = true
  · obtain ⟨L, hL⟩ := Pure.rightO_some hr
    refine tcp_MSS.yes s hs hr r1 r2 r3 ?_ w
    rw [found_is s hs hL, ← h]
    cases mssOf (bl s) <;> rfl
  · have hf := Bool.eq_false_iff.mpr hr
    rw [Pure.mssOf_not hf] at h
    obtain ⟨rfl, rfl, rfl⟩ : (0 : Int) = r1 ∧ (0 : Int) = r2 ∧ false = r3 := by simpa [mssR] using h
    exact tcp_MSS.no s hs hf w
end Go.Proofs.Ytejmipoolbodgaa.G
end

section
namespace Go.Proofs.Ytejmipoolbodgaa.G
open Go.RowKit Go.Proofs.YtejmipoolbodgaaW.PrintWords Go.Proofs.YtejmipoolbodgaaW.PrintLast Go.Proofs.YtejmipoolbodgaaW.PrintMore
attribute [local go_sem] max2_int min2_int max_two min_two max_three min_three max_four min_four   -- for this text's walks alone
set_option linter.unusedVariables false
set_option linter.unusedSimpArgs false

/-! ### palanquinlaw07_awake: function 61 -/
def palanquinlaw07_awake.f  : Option (Bool) := (tcp_MSS.f (⟨#[2, 4, 5, 180]⟩ : ByteArray)).bind fun bt235 => (if bt235.1 = 1460 then (if bt235.2.1 = 2 then (some bt235.2.2) else (some false)) else (some false))
set_option maxHeartbeats 8000000 in
set_option maxRecDepth 100000 in
theorem palanquinlaw07_awake.calls  (r : Bool) (w : World) (h : palanquinlaw07_awake.f  = some r) :
    Calls Try.prog 61 #[] w fun e w' => e = .returned (.bool r) ∧ Below w.heap.size w w' := by
  have HB := Aside0.mk (Below.refl w.heap.size w)
  have H : ((tcp_MSS.f (⟨#[2, 4, 5, 180]⟩ : ByteArray)).bind fun bt235 => (if bt235.1 = 1460 then (if bt235.2.1 = 2 then (some bt235.2.2) else (some false)) else (some false))) = some r := h
  clear h
  replace H := Option.bind_eq_some_iff.mp H
  obtain ⟨⟨t235, t236, t237⟩, A10, H⟩ := H
  replace H : (if t235 = 1460 then (if t236 = 2 then (some t237) else (some false)) else (some false)) = some r := H
  have A1 := Aside0.mk A10
  clear A10
  by_cases c2 : t235 = 1460
  · rw [if_pos c2] at H
    have c2b0 : (t235 == 1460) = true := beq_iff_eq.mpr c2
    have c2b1 : (t235 != 1460) = false := bne_eq_false_iff_eq.mpr c2
    clear c2
    by_cases c3 : t236 = 2
    · rw [if_pos c3] at H
      have c3b0 : (t236 == 2) = true := beq_iff_eq.mpr c3
      have c3b1 : (t236 != 2) = false := bne_eq_false_iff_eq.mpr c3
      clear c3
      obtain rfl := Option.some.inj H
      go_enter Try.func61, Try.ntmps61
      go_wp2_with (first | ((with_reducible refine gate_callee (f := 63) rfl ?_); refine goesL_ (some 5) rfl rfl Try.func63 (by kernel_rfl) rfl #[.string (⟨#[2, 4, 5, 180]⟩ : ByteArray)] rfl (by (try simp only [List.map_toArray, List.map_cons, List.map_nil]); first | done | rfl | (simp only [List.length_drop, List.length_take]; rfl)) ?_; (with_reducible refine (tcp_MSS.calls (⟨#[2, 4, 5, 180]⟩ : ByteArray) t235 t236 t237 _ A1.out).mono ?_); rintro e w4 ⟨rfl, hb⟩; refine ⟨_, rfl, ?_⟩; have n0_ := Aside0.mk (below_step (by repeat (first | (with_reducible first | exact HB.out | apply below_alloc | apply pw_below_drewN | apply below_drew1) | exact HB.out)) hb); clear HB; have HB := n0_; clear n0_; (try clear hb); (try clear hb2); (try clear hk); (try clear hi)))
      go_ret
      exact ⟨by first | rfl | (simp [errW_none, errW_some] <;> rfl) | (simp [*, errW_none, errW_some] <;> rfl), by repeat (first | (with_reducible first | exact HB.out | apply below_alloc | apply pw_below_drewN | apply below_drew1) | exact HB.out)⟩
    · rw [if_neg c3] at H
      have c3b0 : (t236 == 2) = false := beq_eq_false_iff_ne.mpr c3
      have c3b1 : (t236 != 2) = true := bne_iff_ne.mpr c3
      obtain rfl := Option.some.inj H
      go_enter Try.func61, Try.ntmps61
      go_wp2_with (first | ((with_reducible refine gate_callee (f := 63) rfl ?_); refine goesL_ (some 5) rfl rfl Try.func63 (by kernel_rfl) rfl #[.string (⟨#[2, 4, 5, 180]⟩ : ByteArray)] rfl (by (try simp only [List.map_toArray, List.map_cons, List.map_nil]); first | done | rfl | (simp only [List.length_drop, List.length_take]; rfl)) ?_; (with_reducible refine (tcp_MSS.calls (⟨#[2, 4, 5, 180]⟩ : ByteArray) t235 t236 t237 _ A1.out).mono ?_); rintro e w5 ⟨rfl, hb⟩; refine ⟨_, rfl, ?_⟩; have n0_ := Aside0.mk (below_step (by repeat (first | (with_reducible first | exact HB.out | apply below_alloc | apply pw_below_drewN | apply below_drew1) | exact HB.out)) hb); clear HB; have HB := n0_; clear n0_; (try clear hb); (try clear hb2); (try clear hk); (try clear hi)))
      go_ret
      exact ⟨by first | rfl | (simp [errW_none, errW_some] <;> rfl) | (simp [*, errW_none, errW_some] <;> rfl), by repeat (first | (with_reducible first | exact HB.out | apply below_alloc | apply pw_below_drewN | apply below_drew1) | exact HB.out)⟩
  · rw [if_neg c2] at H
    have c2b0 : (t235 == 1460) = false := beq_eq_false_iff_ne.mpr c2
    have c2b1 : (t235 != 1460) = true := bne_iff_ne.mpr c2
    obtain rfl := Option.some.inj H
    go_enter Try.func61, Try.ntmps61
    go_wp2_with (first | ((with_reducible refine gate_callee (f := 63) rfl ?_); refine goesL_ (some 5) rfl rfl Try.func63 (by kernel_rfl) rfl #[.string (⟨#[2, 4, 5, 180]⟩ : ByteArray)] rfl (by (try simp only [List.map_toArray, List.map_cons, List.map_nil]); first | done | rfl | (simp only [List.length_drop, List.length_take]; rfl)) ?_; (with_reducible refine (tcp_MSS.calls (⟨#[2, 4, 5, 180]⟩ : ByteArray) t235 t236 t237 _ A1.out).mono ?_); rintro e w6 ⟨rfl, hb⟩; refine ⟨_, rfl, ?_⟩; have n0_ := Aside0.mk (below_step (by repeat (first | (with_reducible first | exact HB.out | apply below_alloc | apply pw_below_drewN | apply below_drew1) | exact HB.out)) hb); clear HB; have HB := n0_; clear n0_; (try clear hb); (try clear hb2); (try clear hk); (try clear hi)))
    go_ret
    exact ⟨by first | rfl | (simp [errW_none, errW_some] <;> rfl) | (simp [*, errW_none, errW_some] <;> rfl), by repeat (first | (with_reducible first | exact HB.out | apply below_alloc | apply pw_below_drewN | apply below_drew1) | exact HB.out)⟩

/-! ### palanquinlaw07_few: function 104 -/
def palanquinlaw07_few.f (a0_0 : Int) (a0_1 : Int) (a0_2 : Int) (a0_3 : Int) (a0_4 : Int) (a0_5 : Int) (a0_6 : Int) (a0_7 : ByteArray) (a0_8 : ByteArray) : Option (Bool) := if (a0_7.size : Int) ≤ 300 then (some (decide ((a0_8.size : Int) ≤ 5000))) else (some false)
set_option maxHeartbeats 8000000 in
set_option maxRecDepth 100000 in
theorem palanquinlaw07_few.calls (a0_0 : Int) (a0_1 : Int) (a0_2 : Int) (a0_3 : Int) (a0_4 : Int) (a0_5 : Int) (a0_6 : Int) (a0_7 : ByteArray) (a0_8 : ByteArray) (r : Bool) (w : World) (h : palanquinlaw07_few.f a0_0 a0_1 a0_2 a0_3 a0_4 a0_5 a0_6 a0_7 a0_8 = some r) :
    Calls Try.prog 104 #[.agg #[.int .i64 a0_0, .int .i64 a0_1, .int .u32 a0_2, .int .u32 a0_3, .int .i64 a0_4, .int .i64 a0_5, .int .i64 a0_6, .string a0_7, .string a0_8]] w fun e w' => e = .returned (.bool r) ∧ Below w.heap.size w w' := by
  have hu127 := Try.underlying127
  have HB := Aside0.mk (Below.refl w.heap.size w)
  have H : (if (a0_7.size : Int) ≤ 300 then (some (decide ((a0_8.size : Int) ≤ 5000))) else (some false)) = some r := h
  clear h
  by_cases c2 : (a0_7.size : Int) ≤ 300
  · rw [if_pos c2] at H
    have c2b0 : decide ((a0_7.size : Int) ≤ 300) = true := decide_eq_true c2
    have c2b1 : decide (a0_7.size ≤ 300) = true := decide_eq_true (by omega)
    clear c2
    obtain rfl := Option.some.inj H
    go_enter Try.func104, Try.ntmps104
    go_wp2_with (first | ((with_reducible refine gate_dst (N := 1) rfl ?_); (try (refine gate_guard (by rfl) ?_; dsimp only)); refine box_event ?hg (N := 1) ?hd (cs := #[.int .i64 a0_0, .int .i64 a0_1, .int .u32 a0_2, .int .u32 a0_3, .int .i64 a0_4, .int .i64 a0_5, .int .i64 a0_6, .string a0_7, .string a0_8]) (t := 127) ?hr ?_; (case hd => rfl); (case hg => rfl); (case hr => first | (go_simp; done) | (go_simp; rfl)); intro gb594 hg w3 hbox hb; have n0_ := Aside0.mk (below_step (by repeat (first | (with_reducible first | exact HB.out | apply below_alloc | apply pw_below_drewN | apply below_drew1) | exact HB.out)) hb); have n1_ := Aside0.mk (hbox); have n2_ := Aside0.mk ((by rw [hg]; exact (below_size (by repeat (first | (with_reducible first | exact HB.out | apply below_alloc | apply pw_below_drewN | apply below_drew1) | exact HB.out))) : w.heap.size ≤ gb594)); have n3_ := Aside0.mk ((by rw [hg]; exact (below_size (by repeat (first | (with_reducible first | exact HB.out | apply below_alloc | apply pw_below_drewN | apply below_drew1) | exact HB.out))) : w.heap.size ≤ gb594)); clear HB; have HB := n0_; have BK594 := n1_; have GW594 := n2_; have GE594 := n3_; clear n0_ n1_ n2_ n3_; clear hb hbox hg; have hcz4_0 : w3.cell? ⟨gb594, 0, none⟩ = some (.int .i64 a0_0) := (blk_cell BK594.out 0).trans rfl; have hcz4_1 : w3.cell? ⟨gb594, 1, none⟩ = some (.int .i64 a0_1) := (blk_cell BK594.out 1).trans rfl; have hcz4_2 : w3.cell? ⟨gb594, 2, none⟩ = some (.int .u32 a0_2) := (blk_cell BK594.out 2).trans rfl; have hcz4_3 : w3.cell? ⟨gb594, 3, none⟩ = some (.int .u32 a0_3) := (blk_cell BK594.out 3).trans rfl; have hcz4_4 : w3.cell? ⟨gb594, 4, none⟩ = some (.int .i64 a0_4) := (blk_cell BK594.out 4).trans rfl; have hcz4_5 : w3.cell? ⟨gb594, 5, none⟩ = some (.int .i64 a0_5) := (blk_cell BK594.out 5).trans rfl; have hcz4_6 : w3.cell? ⟨gb594, 6, none⟩ = some (.int .i64 a0_6) := (blk_cell BK594.out 6).trans rfl; have hcz4_7 : w3.cell? ⟨gb594, 7, none⟩ = some (.string a0_7) := (blk_cell BK594.out 7).trans rfl; have hcz4_8 : w3.cell? ⟨gb594, 8, none⟩ = some (.string a0_8) := (blk_cell BK594.out 8).trans rfl; have hfz4_0 := blk_frozen BK594.out 0; have hfz4_1 := blk_frozen BK594.out 1; have hfz4_2 := blk_frozen BK594.out 2; have hfz4_3 := blk_frozen BK594.out 3; have hfz4_4 := blk_frozen BK594.out 4; have hfz4_5 := blk_frozen BK594.out 5; have hfz4_6 := blk_frozen BK594.out 6; have hfz4_7 := blk_frozen BK594.out 7; have hfz4_8 := blk_frozen BK594.out 8))
    go_ret
    exact ⟨by first | rfl | (simp [errW_none, errW_some] <;> rfl) | (simp [*, errW_none, errW_some] <;> rfl), by repeat (first | (with_reducible first | exact HB.out | apply below_alloc | apply pw_below_drewN | apply below_drew1 | refine below_set ?_ GE594.out) | exact HB.out)⟩
  · rw [if_neg c2] at H
    have c2b0 : decide ((a0_7.size : Int) ≤ 300) = false := decide_eq_false c2
    have c2b1 : decide (a0_7.size ≤ 300) = false := decide_eq_false (by omega)
    clear c2
    obtain rfl := Option.some.inj H
    go_enter Try.func104, Try.ntmps104
    go_wp2_with (first | ((with_reducible refine gate_dst (N := 1) rfl ?_); (try (refine gate_guard (by rfl) ?_; dsimp only)); refine box_event ?hg (N := 1) ?hd (cs := #[.int .i64 a0_0, .int .i64 a0_1, .int .u32 a0_2, .int .u32 a0_3, .int .i64 a0_4, .int .i64 a0_5, .int .i64 a0_6, .string a0_7, .string a0_8]) (t := 127) ?hr ?_; (case hd => rfl); (case hg => rfl); (case hr => first | (go_simp; done) | (go_simp; rfl)); intro gb594 hg w5 hbox hb; have n0_ := Aside0.mk (below_step (by repeat (first | (with_reducible first | exact HB.out | apply below_alloc | apply pw_below_drewN | apply below_drew1) | exact HB.out)) hb); have n1_ := Aside0.mk (hbox); have n2_ := Aside0.mk ((by rw [hg]; exact (below_size (by repeat (first | (with_reducible first | exact HB.out | apply below_alloc | apply pw_below_drewN | apply below_drew1) | exact HB.out))) : w.heap.size ≤ gb594)); have n3_ := Aside0.mk ((by rw [hg]; exact (below_size (by repeat (first | (with_reducible first | exact HB.out | apply below_alloc | apply pw_below_drewN | apply below_drew1) | exact HB.out))) : w.heap.size ≤ gb594)); clear HB; have HB := n0_; have BK594 := n1_; have GW594 := n2_; have GE594 := n3_; clear n0_ n1_ n2_ n3_; clear hb hbox hg; have hcz6_0 : w5.cell? ⟨gb594, 0, none⟩ = some (.int .i64 a0_0) := (blk_cell BK594.out 0).trans rfl; have hcz6_1 : w5.cell? ⟨gb594, 1, none⟩ = some (.int .i64 a0_1) := (blk_cell BK594.out 1).trans rfl; have hcz6_2 : w5.cell? ⟨gb594, 2, none⟩ = some (.int .u32 a0_2) := (blk_cell BK594.out 2).trans rfl; have hcz6_3 : w5.cell? ⟨gb594, 3, none⟩ = some (.int .u32 a0_3) := (blk_cell BK594.out 3).trans rfl; have hcz6_4 : w5.cell? ⟨gb594, 4, none⟩ = some (.int .i64 a0_4) := (blk_cell BK594.out 4).trans rfl; have hcz6_5 : w5.cell? ⟨gb594, 5, none⟩ = some (.int .i64 a0_5) := (blk_cell BK594.out 5).trans rfl; have hcz6_6 : w5.cell? ⟨gb594, 6, none⟩ = some (.int .i64 a0_6) := (blk_cell BK594.out 6).trans rfl; have hcz6_7 : w5.cell? ⟨gb594, 7, none⟩ = some (.string a0_7) := (blk_cell BK594.out 7).trans rfl; have hcz6_8 : w5.cell? ⟨gb594, 8, none⟩ = some (.string a0_8) := (blk_cell BK594.out 8).trans rfl; have hfz6_0 := blk_frozen BK594.out 0; have hfz6_1 := blk_frozen BK594.out 1; have hfz6_2 := blk_frozen BK594.out 2; have hfz6_3 := blk_frozen BK594.out 3; have hfz6_4 := blk_frozen BK594.out 4; have hfz6_5 := blk_frozen BK594.out 5; have hfz6_6 := blk_frozen BK594.out 6; have hfz6_7 := blk_frozen BK594.out 7; have hfz6_8 := blk_frozen BK594.out 8))
    go_ret
    exact ⟨by first | rfl | (simp [errW_none, errW_some] <;> rfl) | (simp [*, errW_none, errW_some] <;> rfl), by repeat (first | (with_reducible first | exact HB.out | apply below_alloc | apply pw_below_drewN | apply below_drew1 | refine below_set ?_ GE594.out) | exact HB.out)⟩

end Go.Proofs.Ytejmipoolbodgaa.G
end
