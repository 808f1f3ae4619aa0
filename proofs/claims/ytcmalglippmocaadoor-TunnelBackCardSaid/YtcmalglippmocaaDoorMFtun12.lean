/- Texts of this session, joined: each is a section. -/
import Derived.Test.YtcmalglippmocaaDoorMFtun11
import Derived.Test.YtcmalglippmocaaDoorMFtun10
import Derived.Deep.CutRange
import Derived.Deep.DeepCutAuto
import Derived.RegionTactic
import Derived.Laws.EntriesVeiled
import Derived.WalkLawsBesides
set_option linter.unusedVariables false
set_option linter.unusedSimpArgs false
section
namespace Go.Proofs.YtcmalglippmocaaDoor.G
open Go.RowKit Go.Proofs.YtcmalglippmocaaDoorW.PrintWords Go.Proofs.YtcmalglippmocaaDoorW.PrintLast Go.Proofs.YtcmalglippmocaaDoorW.PrintMore Go.Proofs.YtcmalglippmocaaDoor.Pal
theorem bcellT {W w1 : World} (hb : Below W.heap.size W w1) : (∀ b o, b < W.heap.size → w1.cell? ⟨b, o, none⟩ = W.cell? ⟨b, o, none⟩) ∧ (∀ b o, b < W.heap.size → w1.frozen? ⟨b, o, none⟩ = W.frozen? ⟨b, o, none⟩) :=
  ⟨fun b o h => hb.cell (p := ⟨b, o, none⟩) h, fun b o h => hb.frozen (p := ⟨b, o, none⟩) h⟩
def selS (m : Int) (s1 s2 s3 : Nat) : Nat := if m = 1 then s1 else if m = 2 then s2 else s3
def Fns (m : Int) (a b c n d : Nat) : Prop :=
  (m = 1 ∧ a = 121 ∧ b = 122 ∧ c = 123 ∧ n = 2 ∧ d = 124) ∨
  (m = 2 ∧ a = 125 ∧ b = 126 ∧ c = 128 ∧ n = 1 ∧ d = 129) ∨
  (m = 3 ∧ a = 130 ∧ b = 131 ∧ c = 132 ∧ n = 1 ∧ d = 133)
theorem MD.at {m : Int} (hm : tunMode m) : ∃ a b c n d, Fns m a b c n d ∧ ∀ (w : World) (k s1 s2 s3 : Nat), MD w k s1 s2 s3 → ∀ ok : Bool,
    (Instr.lookup 162 (.map (some k)) (.int .i64 m) ok).run Tryd.prog w = .ok (if ok then .tuple #[modeV a b c (selS m s1 s2 s3) n d, .bool true] else modeV a b c (selS m s1 s2 s3) n d) w := by
  rcases hm with rfl | rfl | rfl
  · exact ⟨_, _, _, _, _, .inl ⟨rfl, rfl, rfl, rfl, rfl, rfl⟩, fun w k s1 s2 s3 h ok => (h.look ok).1⟩
  · exact ⟨_, _, _, _, _, .inr (.inl ⟨rfl, rfl, rfl, rfl, rfl, rfl⟩), fun w k s1 s2 s3 h ok => (h.look ok).2.1⟩
  · exact ⟨_, _, _, _, _, .inr (.inr ⟨rfl, rfl, rfl, rfl, rfl, rfl⟩), fun w k s1 s2 s3 h ok => (h.look ok).2.2⟩
theorem eqT93 (d : Nat) (w : World) (x0 y0 : Int) (x1 y1 x2 y2 : Bool) (x3 y3 : Int) (x4 y4 : Bool) (x5 y5 x6 y6 : Int) :
    (Op.equalIn (d + 2) 93 (.agg (tunV x0 x1 x2 x3 x4 x5 x6)) (.agg (tunV y0 y1 y2 y3 y4 y5 y6))).run Tryd.prog w = .ok (x0 == y0 && (x1 == y1 && (x2 == y2 && (x3 == y3 && (x4 == y4 && (x5 == y5 && (x6 == y6))))))) w := by
  refine eqA_of Tryd.underlying93 (by kernel_rfl) ?_
  refine eqf_cons (by rfl) (by go_simp; rfl) (by go_simp; rfl) (by go_simp) ?_
  refine eqf_cons (by rfl) (by go_simp; rfl) (by go_simp; rfl) (by go_simp) ?_
  refine eqf_cons (by rfl) (by go_simp; rfl) (by go_simp; rfl) (by go_simp) ?_
  refine eqf_cons (by rfl) (by go_simp; rfl) (by go_simp; rfl) (by go_simp) ?_
  refine eqf_cons (by rfl) (by go_simp; rfl) (by go_simp; rfl) (by go_simp) ?_
  refine eqf_cons (by rfl) (by go_simp; rfl) (by go_simp; rfl) (by go_simp) ?_
  exact eqf_last (by rfl) (by go_simp; rfl) (by go_simp; rfl) (by go_simp)
theorem endA {w w' : World} {cs ms : Array Value} {T M : TypeId} (hb : Below ((w.alloc (.cells cs T)).drew).heap.size (w.alloc (.cells cs T)).drew w') :
    Aside0 (Blk (w'.alloc (.cells ms M)) w'.heap.size M ms) ∧ Aside0 (Blk (w'.alloc (.cells ms M)) w.heap.size T cs) ∧ Aside0 (Below w.heap.size w (w'.alloc (.cells ms M))) := by
  have hz : w.heap.size + 1 ≤ w'.heap.size := by have := hb.size; simpa using this
  have h0 := (Blk.new w T cs).drew.below hb (by simp)
  exact ⟨⟨Blk.new _ _ _⟩, ⟨h0.alloc _⟩, ⟨(((Below.refl w.heap.size w).alloc (Nat.le_refl _) (.cells cs T)).drew.trans (hb.mono (by simp))).alloc (by omega) _⟩⟩
theorem endB {w w' : World} {cs : Array Value} {T M : TypeId} {y0 y1 y2 y3 y4 x0 x1 x2 x3 x4 : Value} (hb : Below (((w.alloc (.cells cs T)).alloc (.cells #[y0, y1, y2, y3, y4] M)).drew).heap.size ((w.alloc (.cells cs T)).alloc (.cells #[y0, y1, y2, y3, y4] M)).drew w') :
    Aside0 (Blk (((((w'.setCell ⟨w.heap.size + 1, 0, none⟩ x0).setCell ⟨w.heap.size + 1, 1, none⟩ x1).setCell ⟨w.heap.size + 1, 2, none⟩ x2).setCell ⟨w.heap.size + 1, 3, none⟩ x3).setCell ⟨w.heap.size + 1, 4, none⟩ x4) (w.heap.size + 1) M #[x0, x1, x2, x3, x4]) ∧
    Aside0 (Blk (((((w'.setCell ⟨w.heap.size + 1, 0, none⟩ x0).setCell ⟨w.heap.size + 1, 1, none⟩ x1).setCell ⟨w.heap.size + 1, 2, none⟩ x2).setCell ⟨w.heap.size + 1, 3, none⟩ x3).setCell ⟨w.heap.size + 1, 4, none⟩ x4) w.heap.size T cs) ∧
    Aside0 (Below w.heap.size w (((((w'.setCell ⟨w.heap.size + 1, 0, none⟩ x0).setCell ⟨w.heap.size + 1, 1, none⟩ x1).setCell ⟨w.heap.size + 1, 2, none⟩ x2).setCell ⟨w.heap.size + 1, 3, none⟩ x3).setCell ⟨w.heap.size + 1, 4, none⟩ x4)) := by
  have h0 : Blk w' w.heap.size T cs := ((Blk.new w T cs).alloc _).drew.below hb (by simp; omega)
  have h1 : Blk w' (w.heap.size + 1) M #[y0, y1, y2, y3, y4] := by
    have h := Blk.new (w.alloc (.cells cs T)) M #[y0, y1, y2, y3, y4]
    rw [World.size_alloc] at h
    exact h.drew.below hb (by simp)
  have h2 : Below w.heap.size w w' := (((Below.refl w.heap.size w).alloc (Nat.le_refl _) (.cells cs T)).alloc (by simp) (.cells #[y0, y1, y2, y3, y4] M)).drew.trans (hb.mono (by simp; omega))
  refine ⟨⟨?_⟩, ⟨?_⟩, ⟨?_⟩⟩
  · have := ((((h1.set 0 x0).set 1 x1).set 2 x2).set 3 x3).set 4 x4
    simpa using this
  · exact ((((h0.other _ (by simp) _).other _ (by simp) _).other _ (by simp) _).other _ (by simp) _).other _ (by simp) _
  · exact ((((h2.setCell (by simp) _).setCell (by simp) _).setCell (by simp) _).setCell (by simp) _).setCell (by simp) _
set_option maxHeartbeats 4000000
set_option maxRecDepth 100000
theorem tunnel_Size.calls (m : Int) (s k : Bool) (v : Int) (df : Bool) (ttl tos : Int) (r : Int) (w : World) (h : tunnel_Size.f m s k v df ttl tos = some r) :
    Calls Tryd.prog 57 #[.agg (tunV m s k v df ttl tos)] w fun e w' => e = .returned (.int .i64 r) ∧ Below w.heap.size w w' := by
  have HR := Aside0.mk (Option.some.inj h)
  clear h
  have hu := Tryd.underlying93
  by_cases h1 : tunMode m
  · obtain ⟨fa, fb, fc, n, fd, hF, hL⟩ := MD.at h1
    have HF := Aside0.mk hF
    have HM := Aside0.mk h1
    have HL := Aside0.mk hL
    clear hF h1 hL
    go_enter Tryd.func57, Tryd.ntmps57
    go_upto_region 1 with (fail)
    go_cut [3, 4] from 3 to 11 (fun v3 v4 wc => ∃ g s1 : Nat, v3 = .pointer (some ⟨g, 0, none⟩) ∧ v4 = .bool true ∧ Aside0 (Blk wc g 161 #[fnv fa, fnv fb, fnv fc, .slice (some ⟨s1, 0, none⟩) n n, fnv fd]) ∧ Aside0 (Blk wc w.heap.size 93 (tunV m s k v df ttl tos)) ∧ Aside0 (Below w.heap.size w wc))
    case first =>
      go_region_with ((go_at_call 98; refine (tunnel_modes.calls _).mono ?_; rintro e w' ⟨b, s1, s2, s3, rfl, hm, hb⟩; have HM1 := Aside0.mk hb; obtain ⟨hc, hf⟩ := bcellT hb; have hz := hb.size; simp at hz hc hf; have hz2 : w.heap.size < w'.heap.size := (by omega); have hz3 : ¬ w.heap.size = w'.heap.size := (by omega); have l1 := HL.out w' _ _ _ _ hm true; have l2 := HL.out w'.drew _ _ _ _ hm true; have l3 := fun o => HL.out (w'.alloc o) _ _ _ _ (hm.alloc o) true; have l4 := fun o => HL.out (w'.alloc o).drew _ _ _ _ (hm.alloc o) true; clear hm hb))
      all_goals
        go_wp2_with fail
        go_meet
        refine ⟨_, selS m s1 s2 s3, rfl, rfl, ?_⟩
        first
        | (with_reducible exact endA HM1.out)
        | (with_reducible exact endB HM1.out)
    case rest =>
      obtain ⟨g, s1, rfl, rfl, HG, HT, HB⟩ := hcut
      clear HL
      have d0 : wc.cell? ⟨g, 1, none⟩ = some (fnv fb) := HG.out.cell 1 _ rfl
      have hlt := HT.out.lt
      have e0 : wc.cell? ⟨w.heap.size, 0, none⟩ = some (.int .i64 m) := HT.out.cell 0 _ rfl
      have e1 : wc.cell? ⟨w.heap.size, 1, none⟩ = some (.bool s) := HT.out.cell 1 _ rfl
      have e2 : wc.cell? ⟨w.heap.size, 2, none⟩ = some (.bool k) := HT.out.cell 2 _ rfl
      have e3 : wc.cell? ⟨w.heap.size, 3, none⟩ = some (.int .u32 v) := HT.out.cell 3 _ rfl
      have e4 : wc.cell? ⟨w.heap.size, 4, none⟩ = some (.bool df) := HT.out.cell 4 _ rfl
      have e5 : wc.cell? ⟨w.heap.size, 5, none⟩ = some (.int .i64 ttl) := HT.out.cell 5 _ rfl
      have e6 : wc.cell? ⟨w.heap.size, 6, none⟩ = some (.int .i64 tos) := HT.out.cell 6 _ rfl
      rcases HF.out with ⟨rfl, rfl, rfl, rfl, rfl, rfl⟩ | ⟨rfl, rfl, rfl, rfl, rfl, rfl⟩ | ⟨rfl, rfl, rfl, rfl, rfl, rfl⟩
      · have hr : (20 : Int) = r := by rw [← HR.out]; rfl
        subst hr
        go_wp2_with fail
        refine (more2.calls _ _ _ _ _ _ _ _).mono ?_
        rintro e w2 ⟨rfl, g1⟩
        replace HB := Aside0.mk (HB.out.trans (g1.mono HB.out.size))
        clear g1 d0 e0 e1 e2 e3 e4 e5 e6
        go_wp2
        go_ret
        exact ⟨rfl, HB.out⟩
      · obtain ⟨q, hq⟩ : ∃ q : Nat, q = 4 + (if s then 4 else 0) + (if k then 4 else 0) := ⟨_, rfl⟩
        have hr : ((20 + q : Nat) : Int) = r := by rw [← HR.out, hq]; rfl
        have hz : q ≤ 12 := by rw [hq]; cases s <;> cases k <;> decide
        have HQ := Aside0.mk (show gre_Size.f s k v = some (q : Int) by rw [hq]; cases s <;> cases k <;> rfl)
        have hw : wrap64 (20 + (q : Int)) = 20 + (q : Int) := by unfold wrap64; omega
        subst hr
        clear hq
        go_wp2_with fail
        refine (more6.calls _ _ _ _ _ _ _ _ _ HQ.out).mono ?_
        rintro e w2 ⟨rfl, g1⟩
        replace HB := Aside0.mk (HB.out.trans (g1.mono HB.out.size))
        clear g1 d0 e0 e1 e2 e3 e4 e5 e6
        go_wp2
        go_ret
        exact ⟨rfl, HB.out⟩
      · have hr : (32 : Int) = r := by rw [← HR.out]; rfl
        subst hr
        go_wp2_with fail
        refine (more10.calls _ _ _ _ _ _ _ _).mono ?_
        rintro e w2 ⟨rfl, g1⟩
        replace HB := Aside0.mk (HB.out.trans (g1.mono HB.out.size))
        clear g1 d0 e0 e1 e2 e3 e4 e5 e6
        go_wp2
        go_ret
        exact ⟨rfl, HB.out⟩
  have hr : (0 : Int) = r := by rw [← HR.out]; unfold tunSize; rw [if_neg h1]; rfl
  subst hr
  have HM := Aside0.mk h1
  clear h1
  go_enter Tryd.func57, Tryd.ntmps57
  go_upto_region 1 with (fail)
  go_cut [4] from 3 to 11 (fun v4 wc => v4 = .bool false ∧ Aside0 (Below w.heap.size w wc))
  case first =>
    go_region_with ((go_at_call 98; refine (tunnel_modes.calls _).mono ?_; rintro e w' ⟨b, s1, s2, s3, rfl, hm, hb⟩; have HM1 := Aside0.mk hb; obtain ⟨hc, hf⟩ := bcellT hb; have hz := hb.size; simp at hz hc hf; have hz2 : w.heap.size < w'.heap.size := (by omega); have hz3 : ¬ w.heap.size = w'.heap.size := (by omega); have l1 := hm.miss true m HM.out; have l2 := (show MD w'.drew b s1 s2 s3 from hm).miss true m HM.out; have l3 := fun o => (hm.alloc o).miss true m HM.out; have l4 := fun o => (show MD (w'.alloc o).drew b s1 s2 s3 from hm.alloc o).miss true m HM.out; clear hm hb))
    all_goals
      go_wp2_with fail
      go_meet
      refine ⟨rfl, ?_⟩
      first
      | (with_reducible exact (endA HM1.out).2.2)
      | (with_reducible exact (endB HM1.out).2.2)
  case rest =>
    obtain ⟨rfl, HB⟩ := hcut
    go_wp2
    go_ret
    exact ⟨rfl, HB.out⟩
end Go.Proofs.YtcmalglippmocaaDoor.G
end
