import Derived.Test.YtcmalglippmocaaDoorRows
import Derived.Test.YtcmalglippmocaaDoorHead
import Derived.Test.YtcmalglippmocaaDoorMTunnelBack1
import Derived.Test.YtcmalglippmocaaDoorMTunnelBack2
import Derived.Test.YtcmalglippmocaaDoorTie
import Derived.Test.YtcmalglippmocaaDoorCards
import Derived.WalkKit
import Derived.ProofKit
import Derived.OpenShut
import Derived.ShutString
import Derived.ChangeOld
import Derived.Below
import Derived.SizedLaws
import Derived.Handed
import Derived.Stop.Joined
import Derived.LaidMore
import Derived.SevenTiedAt
namespace Go.Proofs.YtcmalglippmocaaDoor.tunnelBack
open Go.ChangeShapes Go.WideShapes Go.ChangeAt Go.RowKit Go.Proofs.YtcmalglippmocaaDoor.Pal
open Go.ChangeMaps (open_string shut_string)
theorem own : ownKnob Tryd.prog.godebug = none := by kernel_rfl
theorem laidOut : laidOutB Tryd.prog = true := by kernel_rfl
abbrev laidL : List (String × DataW Unit) := [("palanquin/ipip.versions", Rows.laid_palanquin_ipip_versions), ("palanquin/flow.places", Rows.laid_palanquin_flow_places), ("palanquin/flow.least", Rows.laid_palanquin_flow_least)]
theorem door_met (os : Os) (args : Array Value) : laidMetH Tryd.prog laidL ((World.doorLaid Tryd.prog 400 os).forCall (fun _ _ => 0) ⟨#[], args, []⟩).memory :=
  laidMetH_of_parts3 (fuel := 8) (laidMet_of_run' 8 (by kernel_rfl) (by kernel_rfl)) (by kernel_rfl) (by kernel_rfl)
theorem arr4 {cs : Array Value} (h : cs.size = 4) : ∃ x0 x1 x2 x3 : Value, cs = #[x0, x1, x2, x3] := by
  obtain ⟨l⟩ := cs
  match l, h with
  | [x0, x1, x2, x3], _ => exact ⟨x0, x1, x2, x3, rfl⟩
theorem arr7 {cs : Array Value} (h : cs.size = 7) : ∃ x0 x1 x2 x3 x4 x5 x6 : Value, cs = #[x0, x1, x2, x3, x4, x5, x6] := by
  obtain ⟨l⟩ := cs
  match l, h with
  | [x0, x1, x2, x3, x4, x5, x6], _ => exact ⟨x0, x1, x2, x3, x4, x5, x6, rfl⟩
set_option maxHeartbeats 2000000 in
set_option maxRecDepth 100000 in
theorem lifted (os : Os) (started : os.Started) (H : Type) (enc : TypeId × Value → H) :
    ReturnsInHanded {} Tryd.checked os 17 .any (fun w args => (Rows.tunnelBackSpec.pre enc Tryd.prog Tryd.f17 [] false w args ∧ laidMetH Tryd.prog laidL w) ∧ sizedMet enc Tryd.prog Tryd.f17 (OpenSpec.ofChange Rows.tunnelBackSpec) false w args) (Rows.tunnelBackSpec.post enc Tryd.prog Tryd.f17 false true false false) := by
  refine returnsInHanded_of_change_and (C := Tryd.checked) (X := fun w _ => laidMetH Tryd.prog laidL w) (fun _ _ _ hh h => h.of_heap hh) own started (by kernel_rfl) Tryd.func17
    (ChangeSpec.witness_shaped (enc := enc) (C := Tryd.checked) (os := os) (X := fun w _ => laidMetH Tryd.prog laidL w) false (World.doorLaid Tryd.prog 400 os) #[(.agg #[.int .i64 0, .bool false, .bool false, .int .u32 0, .bool false, .int .i64 0, .int .i64 0]), (.agg #[.string ByteArray.empty, .string ByteArray.empty, .int .i64 0, .int .i64 0]), .string ByteArray.empty] 8 rfl (World.shaped_of_RefB (by kernel_rfl) (by kernel_rfl)) (by kernel_rfl) (by kernel_rfl) (by kernel_rfl) (door_met os _)) ?_
  intro W base args ds gs before hval0 hW hcnd hsz0 hL _
  have hsz : (DataW.weightsEach Tryd.prog (Tryd.f17.params.toList ++ Rows.tunnelBackSpec.plain.varTypes Tryd.prog) (ds ++ gs)).all (· ≤ reachBytes) = true := hsz0
  have hval : ∀ (j : Nat) t v, Tryd.f17.params[j]? = some t → args[j]? = some v → Value.okWide Tryd.prog W .any base t v := hval0
  have hW' := hW
  obtain ⟨p, q, hA0, hV, rfl, hfz, hnd⟩ := hW
  have hA : DataW.TrodAll enc Tryd.prog W 0 (fun _ => true) true Tryd.f17.params.toList args.toList ds p := hA0
  rw [Tryd.params17] at hA hval hsz
  obtain ⟨v0, vs0, d0, ds0, p0, q0, hargs, rfl, rfl, h0, r0⟩ := trodAll_cons hA
  obtain ⟨v1, vs1, d1, ds1, p1, q1, rfl, rfl, rfl, h1, r1⟩ := trodAll_cons r0
  obtain ⟨v2, vs2, d2, ds2, p2, q2, rfl, rfl, rfl, h2, r2⟩ := trodAll_cons r1
  obtain ⟨rfl, rfl, rfl⟩ := trodAll_nil r2
  obtain rfl : args = #[v0, v1, v2] := by cases args; simp_all
  obtain ⟨rfl, rfl⟩ := trodVars_none hV
  have k0 := h0
  have lt0 : ∀ x ∈ p0, x.block < W.heap.size := by obtain ⟨m, hm⟩ := k0; exact DataW.trod_lt m _ _ _ hm
  obtain ⟨cs0, rfl, cz0, hF0⟩ := open_fields Tryd.underlying93 (by kernel_rfl) (hval 0 93 v0 rfl rfl) h0
  obtain ⟨c0_0, c0_1, c0_2, c0_3, c0_4, c0_5, c0_6, rfl⟩ := arr7 (cz0.trans (by kernel_rfl))
  obtain ⟨n0_0, y0_0, e0_0⟩ := hF0 0 _ _ rfl rfl
  obtain ⟨a0_0, rfl, w0_0⟩ := leaf_int Tryd.underlying3 e0_0
  obtain ⟨n0_1, y0_1, e0_1⟩ := hF0 1 _ _ rfl rfl
  obtain ⟨a0_1, rfl⟩ := leaf_bool Tryd.underlying4 e0_1
  obtain ⟨n0_2, y0_2, e0_2⟩ := hF0 2 _ _ rfl rfl
  obtain ⟨a0_2, rfl⟩ := leaf_bool Tryd.underlying4 e0_2
  obtain ⟨n0_3, y0_3, e0_3⟩ := hF0 3 _ _ rfl rfl
  obtain ⟨a0_3, rfl, w0_3⟩ := leaf_int Tryd.underlying37 e0_3
  obtain ⟨n0_4, y0_4, e0_4⟩ := hF0 4 _ _ rfl rfl
  obtain ⟨a0_4, rfl⟩ := leaf_bool Tryd.underlying4 e0_4
  obtain ⟨n0_5, y0_5, e0_5⟩ := hF0 5 _ _ rfl rfl
  obtain ⟨a0_5, rfl, w0_5⟩ := leaf_int Tryd.underlying3 e0_5
  obtain ⟨n0_6, y0_6, e0_6⟩ := hF0 6 _ _ rfl rfl
  obtain ⟨a0_6, rfl, w0_6⟩ := leaf_int Tryd.underlying3 e0_6
  have k1 := h1
  have lt1 : ∀ x ∈ p1, x.block < W.heap.size := by obtain ⟨m, hm⟩ := k1; exact DataW.trod_lt m _ _ _ hm
  obtain ⟨cs1, rfl, cz1, hF1⟩ := open_fields Tryd.underlying95 (by kernel_rfl) (hval 1 95 v1 rfl rfl) h1
  obtain ⟨c1_0, c1_1, c1_2, c1_3, rfl⟩ := arr4 (cz1.trans (by kernel_rfl))
  obtain ⟨n1_0, y1_0, e1_0⟩ := hF1 0 _ _ rfl rfl
  obtain ⟨a1_0, rfl, w1_0⟩ := leaf_str Tryd.underlying9 e1_0
  obtain ⟨n1_1, y1_1, e1_1⟩ := hF1 1 _ _ rfl rfl
  obtain ⟨a1_1, rfl, w1_1⟩ := leaf_str Tryd.underlying9 e1_1
  obtain ⟨n1_2, y1_2, e1_2⟩ := hF1 2 _ _ rfl rfl
  obtain ⟨a1_2, rfl, w1_2⟩ := leaf_int Tryd.underlying3 e1_2
  obtain ⟨n1_3, y1_3, e1_3⟩ := hF1 3 _ _ rfl rfl
  obtain ⟨a1_3, rfl, w1_3⟩ := leaf_int Tryd.underlying3 e1_3
  obtain ⟨a2, rfl, rfl, rfl, y2⟩ := open_string Tryd.underlying9 (hval 2 9 v2 rfl rfl) h2
  have w2 : a2.size ≤ 140737488351232 := by
    have z := sized_string hsz (j := 2) (t := 9) rfl rfl
    rw [Array.length_toList] at z
    exact z
  clear hA0 hval0 hsz0 hsz
  have h := Pure.TunnelBack a0_0 a0_1 a0_2 a0_3 a0_4 a0_5 a0_6 a1_0 a1_1 a1_2 a1_3 a2 w0_0 w0_3 w0_5 w0_6 w1_0 w1_1 w1_2 w1_3 w2
  refine (G.palanquinlaw14_TunnelBack.calls a0_0 a0_1 a0_2 a0_3 a0_4 a0_5 a0_6 a1_0 a1_1 a1_2 a1_3 a2 true W  h ⟨rfl⟩ (laid_gp hL).1 (laid_gp hL).2).mono fun e W' ⟨he, bel⟩ => ?_
  subst he
  exact ⟨_, rfl, _, _, _, [], _, [], hW', trodAll_mk1 (shut_bool Tryd.underlying4 _), (trodAll_cons_mk (Below.trod laidOut (by kernel_rfl) (of_decide_eq_true (by kernel_rfl)) k0 bel lt0) (trodAll_cons_mk (Below.trod laidOut (by kernel_rfl) (of_decide_eq_true (by kernel_rfl)) k1 bel lt1) (trodAll_cons_mk (shut_string Tryd.underlying9 y2) trodAll_mk0))), rfl, bel.frame _, fun h => by cases h⟩
theorem facts : joinedFacts Tryd.prog 17 Tryd.f17 Rows.tunnelBackSpec Rows.tunnelBackRow = true := by
  unfold joinedFacts
  rw [Head.mayEnter, Head.liftsFinal, Head.make]
  kernel_rfl
theorem named : Tryd.prog.funcNamed Rows.tunnelBackRow.func = some 17 := by kernel_rfl
theorem noInstance : Tryd.f17.isInstance Tryd.prog Rows.tunnelBackRow.origin Rows.tunnelBackRow.targs := of_decide_eq_true (by kernel_rfl)
theorem noWrapper : Tryd.f17.isWrapper Tryd.prog Rows.tunnelBackRow.wrapper Rows.tunnelBackRow.mainSum := by
  unfold Func.isWrapper
  rw [if_neg (by decide +kernel)]
  exact ⟨rfl, rfl⟩
theorem over : Rows.tunnelBackRow.holds Tryd.pinned (OpenSpec.ofChange Rows.tunnelBackSpec) :=
  OpenClaim.holds_of_wide 17 Tryd.f17 rfl rfl rfl rfl rfl rfl rfl ⟨rfl, rfl, rfl, rfl, rfl⟩ rfl rfl rfl rfl rfl named Tryd.func17 facts noInstance noWrapper
    (fun os started H enc _ => lifted os started H enc)
theorem proved : Rows.TunnelBackCardSaid :=
  Claim7.holds_tied_plain_at .later [] [.data, .data, .data] true (true, "c64ecd137dc2358eaebb109ba629abceb99b50cfce708964a226cc9f102c8b06") true
    over (fun _ h => by cases h) (by kernel_rfl) (fun _ h => by cases h) tunnelBack_row_tie rfl ⟨rfl, rfl⟩ (by kernel_rfl) rfl
    (fun f fn hf hfn => by
      obtain rfl : f = 17 := Option.some.inj (named.symm.trans hf) |>.symm
      obtain rfl : fn = Tryd.f17 := (Option.some.inj (Tryd.func17.symm.trans hfn)).symm
      exact ⟨by kernel_rfl, fun j t ht => by
        rw [Tryd.params17] at ht
        have hm : t ∈ [93, 95, 9] := by simpa using Array.mem_of_getElem? ht
        have hall : ([93, 95, 9].all fun u => !Tryd.prog.wantsStandIn u) = true := by kernel_rfl
        exact (show Tryd.prog.wantsStandIn t = false by simpa using List.all_eq_true.1 hall t hm)⟩)
    (by kernel_rfl)
#print axioms proved
end Go.Proofs.YtcmalglippmocaaDoor.tunnelBack
namespace Go.Proofs.YtcmalglippmocaaDoor
theorem tunnelBack_holds : Rows.TunnelBackCardSaid := tunnelBack.proved
end Go.Proofs.YtcmalglippmocaaDoor
