/- Texts of this session, joined: each is a section. -/
import Derived.Test.YtcmalglippmocaaDoorMFtun12
set_option linter.unusedVariables false
set_option linter.unusedSimpArgs false
section
namespace Go.Proofs.YtcmalglippmocaaDoor.G
open Go.RowKit Go.Proofs.YtcmalglippmocaaDoorW.PrintWords Go.Proofs.YtcmalglippmocaaDoorW.PrintLast Go.Proofs.YtcmalglippmocaaDoorW.PrintMore Go.Proofs.YtcmalglippmocaaDoor.Pal
attribute [local go_sem high] eqT93
theorem bare_any {m : Int} {a b c n d : Nat} (hF : Fns m a b c n d) (s k : Bool) (v : Int) (df : Bool) (ttl tos : Int) : ∃ (s' k' : Bool) (v' : Int),
    (∀ W : World, Calls Tryd.prog a #[.agg (tunV m s k v df ttl tos)] W fun e w' => e = .returned (.agg (tunV m s' k' v' df ttl tos)) ∧ Below W.heap.size W w') ∧
    ((tunBare m s k v = true ∧ s' = s ∧ k' = k ∧ v' = v) ∨ (tunBare m s k v = false ∧ ((s' == s) = false ∨ ((s' == s) = true ∧ (k' == k) = false) ∨ ((s' == s) = true ∧ (k' == k) = true ∧ (v' == v) = false)))) := by
  rcases hF with ⟨rfl, rfl, _⟩ | ⟨rfl, rfl, _⟩ | ⟨rfl, rfl, _⟩
  · refine ⟨_, _, _, fun W => bare1.calls 1 s k v df ttl tos W, ?_⟩
    by_cases h : v = 0
    · subst h; cases s <;> cases k <;> simp [tunBare]
    · have h' : ¬ 0 = v := fun e => h e.symm
      cases s <;> cases k <;> simp [tunBare, h, h']
  · refine ⟨_, _, _, fun W => bare5.calls 2 s k v df ttl tos W, ?_⟩
    by_cases h : v = 0
    · subst h; cases s <;> cases k <;> simp [tunBare]
    · have h' : ¬ 0 = v := fun e => h e.symm
      cases s <;> cases k <;> simp [tunBare, h, h']
  · refine ⟨_, _, _, fun W => bare9.calls 3 s k v df ttl tos W, ?_⟩
    by_cases h : v = 0
    · subst h; cases s <;> cases k <;> simp [tunBare]
    · have h' : ¬ 0 = v := fun e => h e.symm
      cases s <;> cases k <;> simp [tunBare, h, h']
theorem call_bare {m : Int} {a b c n d : Nat} (hF : Fns m a b c n d) : ∀ (args : Array Value) (wx : World), (callFunc a args).run Tryd.prog wx = .ok (.enter a args) wx := by
  rcases hF with ⟨_, rfl, _⟩ | ⟨_, rfl, _⟩ | ⟨_, rfl, _⟩ <;> intro args wx <;> kernel_rfl
set_option maxHeartbeats 8000000
set_option maxRecDepth 100000
theorem tunnel_Check.calls (m : Int) (s k : Bool) (v : Int) (df : Bool) (ttl tos : Int) (r : Int) (w : World) (h : tunnel_Check.f m s k v df ttl tos = some r) :
    Calls Tryd.prog 97 #[.agg (tunV m s k v df ttl tos)] w fun e w' => e = .returned (.int .i64 r) ∧ Below w.heap.size w w' := by
  have HR := Aside0.mk (Option.some.inj h)
  clear h
  have hu := Tryd.underlying93
  by_cases h1 : tunMode m
  · obtain ⟨fa, fb, fc, n, fd, hF, hL⟩ := MD.at h1
    have HF := Aside0.mk hF
    have HM := Aside0.mk h1
    have HL := Aside0.mk hL
    clear hF h1 hL
    go_enter Tryd.func97, Tryd.ntmps97
    go_upto_region 1 with (fail)
    go_cut [3, 4] from 3 to 11 (fun v3 v4 wc => ∃ g s1 : Nat, v3 = .pointer (some ⟨g, 0, none⟩) ∧ v4 = .bool true ∧ Aside0 (Blk wc g 161 #[fnv fa, fnv fb, fnv fc, .slice (some ⟨s1, 0, none⟩) n n, fnv fd]) ∧ Aside0 (Blk wc w.heap.size 93 (tunV m s k v df ttl tos)) ∧ Aside0 (Below w.heap.size w wc))
    case first =>
      as_aux_lemma =>
      go_region_with ((go_at_call 98; refine (tunnel_modes.calls _).mono ?_; rintro e w' ⟨b, s1, s2, s3, rfl, hm, hb⟩; have HM1 := Aside0.mk hb; obtain ⟨hc, hf⟩ := bcellT hb; have hz := hb.size; simp at hz hc hf; have hz2 : w.heap.size < w'.heap.size := (by omega); have hz3 : ¬ w.heap.size = w'.heap.size := (by omega); have l1 := HL.out w' _ _ _ _ hm true; have l2 := HL.out w'.drew _ _ _ _ hm true; have l3 := fun o => HL.out (w'.alloc o) _ _ _ _ (hm.alloc o) true; have l4 := fun o => HL.out (w'.alloc o).drew _ _ _ _ (hm.alloc o) true; clear hm hb))
      all_goals
        go_wp2_with fail
        go_meet
        refine ⟨_, selS m s1 s2 s3, rfl, rfl, ?_⟩
        first
        | (with_reducible exact endA HM1.out)
        | (with_reducible exact endB HM1.out)
    case rest =>
      obtain ⟨g, s1, rfl, rfl, HG, HT, HB⟩ := hcut
      clear HL
      have d0 : wc.cell? ⟨g, 0, none⟩ = some (fnv fa) := HG.out.cell 0 _ rfl
      have hlt := HT.out.lt
      have hlg := HG.out.lt
      have e0 : wc.cell? ⟨w.heap.size, 0, none⟩ = some (.int .i64 m) := HT.out.cell 0 _ rfl
      have e1 : wc.cell? ⟨w.heap.size, 1, none⟩ = some (.bool s) := HT.out.cell 1 _ rfl
      have e2 : wc.cell? ⟨w.heap.size, 2, none⟩ = some (.bool k) := HT.out.cell 2 _ rfl
      have e3 : wc.cell? ⟨w.heap.size, 3, none⟩ = some (.int .u32 v) := HT.out.cell 3 _ rfl
      have e4 : wc.cell? ⟨w.heap.size, 4, none⟩ = some (.bool df) := HT.out.cell 4 _ rfl
      have e5 : wc.cell? ⟨w.heap.size, 5, none⟩ = some (.int .i64 ttl) := HT.out.cell 5 _ rfl
      have e6 : wc.cell? ⟨w.heap.size, 6, none⟩ = some (.int .i64 tos) := HT.out.cell 6 _ rfl
      by_cases hr : (0 ≤ ttl ∧ ttl ≤ 255) ∧ 0 ≤ tos ∧ tos ≤ 255
      case neg =>
        have hq : (1 : Int) = r := by rw [← HR.out]; unfold tunErr; rw [if_neg (fun h => h HM.out), if_pos hr]
        subst hq
        by_cases x1 : ttl < 0
        · as_aux_lemma =>
          have y1 : decide (ttl < 0) = true := decide_eq_true x1
          clear x1 hr
          go_wp2
          go_ret
          exact ⟨rfl, HB.out⟩
        have y1 : decide (ttl < 0) = false := decide_eq_false x1
        by_cases x2 : 255 < ttl
        · as_aux_lemma =>
          have y2 : decide (255 < ttl) = true := decide_eq_true x2
          clear x1 x2 hr
          go_wp2
          go_ret
          exact ⟨rfl, HB.out⟩
        have y2 : decide (255 < ttl) = false := decide_eq_false x2
        by_cases x3 : tos < 0
        · as_aux_lemma =>
          have y3 : decide (tos < 0) = true := decide_eq_true x3
          clear x1 x2 x3 hr
          go_wp2
          go_ret
          exact ⟨rfl, HB.out⟩
        have y3 : decide (tos < 0) = false := decide_eq_false x3
        as_aux_lemma =>
          have y4 : decide (255 < tos) = true := decide_eq_true (by omega)
          clear x1 x2 x3 hr
          go_wp2
          go_ret
          exact ⟨rfl, HB.out⟩
      have y1 : decide (ttl < 0) = false := decide_eq_false (by omega)
      have y2 : decide (255 < ttl) = false := decide_eq_false (by omega)
      have y3 : decide (tos < 0) = false := decide_eq_false (by omega)
      have y4 : decide (255 < tos) = false := decide_eq_false (by omega)
      have HRR := Aside0.mk hr
      clear hr
      obtain ⟨s', k', v', hbare, hcmp⟩ := bare_any HF.out s k v df ttl tos
      have HBa := Aside0.mk hbare
      clear hbare
      go_upto_region 6 with (fail)
      clear y1 y2 y3 y4
      go_cut [34] from 35 to 40 (fun v34 wd => v34 = .bool (!tunBare m s k v) ∧ Aside0 (Below w.heap.size w wd))
      case first =>
        have hcall := call_bare HF.out
        rcases hcmp with ⟨ht, rfl, rfl, rfl⟩ | ⟨ht, z1 | ⟨z1, z2⟩ | ⟨z1, z2, z3⟩⟩
        all_goals
          as_aux_lemma =>
          have HTB := Aside0.mk ht
          clear ht
          go_region_with ((refine (HBa.out _).mono ?_; rintro e w' ⟨rfl, hb⟩; have HM1 := Aside0.mk hb; obtain ⟨hc, hf⟩ := bcellT hb; simp at hc hf; clear hb))
          all_goals
            go_wp2_with fail
            go_meet
            refine ⟨by rw [HTB.out]; rfl, ⟨?_⟩⟩
            have hb := HM1.out
            exact HB.out.drew.trans (hb.mono (by have := HB.out.size; simpa using this))
      case rest =>
        obtain ⟨rfl, HB⟩ := hcut
        have hq : r = (if tunBare m s k v = true then (0 : Int) else 9) := by rw [← HR.out]; unfold tunErr; rw [if_neg (fun h => h HM.out), if_neg (fun h => h HRR.out)]
        clear hcmp
        cases hb : tunBare m s k v with
        | true =>
          rw [hb, if_pos rfl] at hq
          subst hq
          go_wp2
          go_ret
          exact ⟨rfl, HB.out⟩
        | false =>
          rw [hb, if_neg (by decide)] at hq
          subst hq
          go_wp2
          go_ret
          exact ⟨rfl, HB.out⟩
  have hr : (15 : Int) = r := by rw [← HR.out]; unfold tunErr; rw [if_pos h1]
  subst hr
  have HM := Aside0.mk h1
  clear h1
  go_enter Tryd.func97, Tryd.ntmps97
  go_upto_region 1 with (fail)
  go_cut [4] from 3 to 11 (fun v4 wc => v4 = .bool false ∧ Aside0 (Below w.heap.size w wc))
  case first =>
    as_aux_lemma =>
    go_region_with ((go_at_call 98; refine (tunnel_modes.calls _).mono ?_; rintro e w' ⟨b, s1, s2, s3, rfl, hm, hb⟩; have HM1 := Aside0.mk hb; obtain ⟨hc, hf⟩ := bcellT hb; have hz := hb.size; simp at hz hc hf; have hz2 : w.heap.size < w'.heap.size := (by omega); have hz3 : ¬ w.heap.size = w'.heap.size := (by omega); have l1 := hm.miss true m HM.out; have l2 := (show MD w'.drew b s1 s2 s3 from hm).miss true m HM.out; have l3 := fun o => (hm.alloc o).miss true m HM.out; have l4 := fun o => (show MD (w'.alloc o).drew b s1 s2 s3 from hm.alloc o).miss true m HM.out; clear hm hb))
    all_goals
      go_wp2_with fail
      go_meet
      refine ⟨rfl, ?_⟩
      first
      | (with_reducible exact (endA HM1.out).2.2)
      | (with_reducible exact (endB HM1.out).2.2)
  case rest =>
    obtain ⟨rfl, HB⟩ := hcut
    go_wp2
    go_ret
    exact ⟨rfl, HB.out⟩
end Go.Proofs.YtcmalglippmocaaDoor.G
end
