import Derived.Test.YtcmalglippmocaaDoorRows
import Derived.Test.YtcmalglippmocaaDoorHead
import Derived.Test.YtcmalglippmocaaDoorMFlowValid11
import Derived.Test.YtcmalglippmocaaDoorMFlowValid12
import Derived.Test.YtcmalglippmocaaDoorTie
import Derived.Test.YtcmalglippmocaaDoorCards
import Derived.WalkKit
import Derived.ProofKit
import Derived.OpenShut
import Derived.ShutString
import Derived.ChangeOld
import Derived.Below
import Derived.SizedLaws
import Derived.Handed
import Derived.Stop.Joined
import Derived.LaidMore
import Derived.SevenTiedAt
namespace Go.Proofs.YtcmalglippmocaaDoor.flowValid
open Go.ChangeShapes Go.WideShapes Go.ChangeAt Go.RowKit Go.Proofs.YtcmalglippmocaaDoor.Pal
open Go.ChangeMaps (open_string shut_string)
theorem own : ownKnob Tryd.prog.godebug = none := by kernel_rfl
theorem laidOut : laidOutB Tryd.prog = true := by kernel_rfl
abbrev laidL : List (String × DataW Unit) := [("palanquin/flow.places", Rows.laid_palanquin_flow_places), ("palanquin/flow.least", Rows.laid_palanquin_flow_least)]
theorem door_met (os : Os) (args : Array Value) : laidMetH Tryd.prog laidL ((World.doorLaid Tryd.prog 400 os).forCall (fun _ _ => 0) ⟨#[], args, []⟩).memory :=
  laidMetH_of_parts3 (fuel := 8) (laidMet_of_run' 8 (by kernel_rfl) (by kernel_rfl)) (by kernel_rfl) (by kernel_rfl)
theorem arr3 {cs : Array Value} (h : cs.size = 3) : ∃ x0 x1 x2 : Value, cs = #[x0, x1, x2] := by
  obtain ⟨l⟩ := cs
  match l, h with
  | [x0, x1, x2], _ => exact ⟨x0, x1, x2, rfl⟩
theorem arr6 {cs : Array Value} (h : cs.size = 6) : ∃ x0 x1 x2 x3 x4 x5 : Value, cs = #[x0, x1, x2, x3, x4, x5] := by
  obtain ⟨l⟩ := cs
  match l, h with
  | [x0, x1, x2, x3, x4, x5], _ => exact ⟨x0, x1, x2, x3, x4, x5, rfl⟩
theorem arr9 {cs : Array Value} (h : cs.size = 9) : ∃ x0 x1 x2 x3 x4 x5 x6 x7 x8 : Value, cs = #[x0, x1, x2, x3, x4, x5, x6, x7, x8] := by
  obtain ⟨l⟩ := cs
  match l, h with
  | [x0, x1, x2, x3, x4, x5, x6, x7, x8], _ => exact ⟨x0, x1, x2, x3, x4, x5, x6, x7, x8, rfl⟩
theorem arr10 {cs : Array Value} (h : cs.size = 10) : ∃ x0 x1 x2 x3 x4 x5 x6 x7 x8 x9 : Value, cs = #[x0, x1, x2, x3, x4, x5, x6, x7, x8, x9] := by
  obtain ⟨l⟩ := cs
  match l, h with
  | [x0, x1, x2, x3, x4, x5, x6, x7, x8, x9], _ => exact ⟨x0, x1, x2, x3, x4, x5, x6, x7, x8, x9, rfl⟩
set_option maxHeartbeats 2000000 in
set_option maxRecDepth 100000 in
theorem lifted (os : Os) (started : os.Started) (H : Type) (enc : TypeId × Value → H) :
    ReturnsInHanded {} Tryd.checked os 16 .any (fun w args => (Rows.flowValidSpec.pre enc Tryd.prog Tryd.f16 [] false w args ∧ laidMetH Tryd.prog laidL w) ∧ sizedMet enc Tryd.prog Tryd.f16 (OpenSpec.ofChange Rows.flowValidSpec) false w args) (Rows.flowValidSpec.post enc Tryd.prog Tryd.f16 false true false false) := by
  refine returnsInHanded_of_change_and (C := Tryd.checked) (X := fun w _ => laidMetH Tryd.prog laidL w) (fun _ _ _ hh h => h.of_heap hh) own started (by kernel_rfl) Tryd.func16
    (ChangeSpec.witness_shaped (enc := enc) (C := Tryd.checked) (os := os) (X := fun w _ => laidMetH Tryd.prog laidL w) false (World.doorLaid Tryd.prog 400 os) #[(.agg #[.int .i64 0, .int .i64 0, .int .i64 0, .int .i64 0, .int .i64 0, .bool false, .bool false, .string ByteArray.empty, .string ByteArray.empty, .string ByteArray.empty]), (.agg #[.int .i64 0, .int .i64 0, .int .i64 0, .int .i64 0, .string ByteArray.empty, .string ByteArray.empty]), (.agg #[.int .i64 0, .int .i64 0, .int .u32 0, .int .u32 0, .int .i64 0, .int .i64 0, .int .i64 0, .string ByteArray.empty, .string ByteArray.empty]), (.agg #[.int .i64 0, .int .i64 0, .string ByteArray.empty]), .bool false] 8 rfl (World.shaped_of_RefB (by kernel_rfl) (by kernel_rfl)) (by kernel_rfl) (by kernel_rfl) (by kernel_rfl) (door_met os _)) ?_
  intro W base args ds gs before hval0 hW hcnd hsz0 hL _
  have hsz : (DataW.weightsEach Tryd.prog (Tryd.f16.params.toList ++ Rows.flowValidSpec.plain.varTypes Tryd.prog) (ds ++ gs)).all (· ≤ reachBytes) = true := hsz0
  have hval : ∀ (j : Nat) t v, Tryd.f16.params[j]? = some t → args[j]? = some v → Value.okWide Tryd.prog W .any base t v := hval0
  have hW' := hW
  obtain ⟨p, q, hA0, hV, rfl, hfz, hnd⟩ := hW
  have hA : DataW.TrodAll enc Tryd.prog W 0 (fun _ => true) true Tryd.f16.params.toList args.toList ds p := hA0
  rw [Tryd.params16] at hA hval hsz
  obtain ⟨v0, vs0, d0, ds0, p0, q0, hargs, rfl, rfl, h0, r0⟩ := trodAll_cons hA
  obtain ⟨v1, vs1, d1, ds1, p1, q1, rfl, rfl, rfl, h1, r1⟩ := trodAll_cons r0
  obtain ⟨v2, vs2, d2, ds2, p2, q2, rfl, rfl, rfl, h2, r2⟩ := trodAll_cons r1
  obtain ⟨v3, vs3, d3, ds3, p3, q3, rfl, rfl, rfl, h3, r3⟩ := trodAll_cons r2
  obtain ⟨v4, vs4, d4, ds4, p4, q4, rfl, rfl, rfl, h4, r4⟩ := trodAll_cons r3
  obtain ⟨rfl, rfl, rfl⟩ := trodAll_nil r4
  obtain rfl : args = #[v0, v1, v2, v3, v4] := by cases args; simp_all
  obtain ⟨rfl, rfl⟩ := trodVars_none hV
  have k0 := h0
  have lt0 : ∀ x ∈ p0, x.block < W.heap.size := by obtain ⟨m, hm⟩ := k0; exact DataW.trod_lt m _ _ _ hm
  obtain ⟨cs0, rfl, cz0, hF0⟩ := open_fields Tryd.underlying69 (by kernel_rfl) (hval 0 69 v0 rfl rfl) h0
  obtain ⟨c0_0, c0_1, c0_2, c0_3, c0_4, c0_5, c0_6, c0_7, c0_8, c0_9, rfl⟩ := arr10 (cz0.trans (by kernel_rfl))
  obtain ⟨n0_0, y0_0, e0_0⟩ := hF0 0 _ _ rfl rfl
  obtain ⟨a0_0, rfl, w0_0⟩ := leaf_int Tryd.underlying3 e0_0
  obtain ⟨n0_1, y0_1, e0_1⟩ := hF0 1 _ _ rfl rfl
  obtain ⟨a0_1, rfl, w0_1⟩ := leaf_int Tryd.underlying3 e0_1
  obtain ⟨n0_2, y0_2, e0_2⟩ := hF0 2 _ _ rfl rfl
  obtain ⟨a0_2, rfl, w0_2⟩ := leaf_int Tryd.underlying3 e0_2
  obtain ⟨n0_3, y0_3, e0_3⟩ := hF0 3 _ _ rfl rfl
  obtain ⟨a0_3, rfl, w0_3⟩ := leaf_int Tryd.underlying3 e0_3
  obtain ⟨n0_4, y0_4, e0_4⟩ := hF0 4 _ _ rfl rfl
  obtain ⟨a0_4, rfl, w0_4⟩ := leaf_int Tryd.underlying3 e0_4
  obtain ⟨n0_5, y0_5, e0_5⟩ := hF0 5 _ _ rfl rfl
  obtain ⟨a0_5, rfl⟩ := leaf_bool Tryd.underlying4 e0_5
  obtain ⟨n0_6, y0_6, e0_6⟩ := hF0 6 _ _ rfl rfl
  obtain ⟨a0_6, rfl⟩ := leaf_bool Tryd.underlying4 e0_6
  obtain ⟨n0_7, y0_7, e0_7⟩ := hF0 7 _ _ rfl rfl
  obtain ⟨a0_7, rfl, w0_7⟩ := leaf_str Tryd.underlying9 e0_7
  obtain ⟨n0_8, y0_8, e0_8⟩ := hF0 8 _ _ rfl rfl
  obtain ⟨a0_8, rfl, w0_8⟩ := leaf_str Tryd.underlying9 e0_8
  obtain ⟨n0_9, y0_9, e0_9⟩ := hF0 9 _ _ rfl rfl
  obtain ⟨a0_9, rfl, w0_9⟩ := leaf_str Tryd.underlying9 e0_9
  have k1 := h1
  have lt1 : ∀ x ∈ p1, x.block < W.heap.size := by obtain ⟨m, hm⟩ := k1; exact DataW.trod_lt m _ _ _ hm
  obtain ⟨cs1, rfl, cz1, hF1⟩ := open_fields Tryd.underlying71 (by kernel_rfl) (hval 1 71 v1 rfl rfl) h1
  obtain ⟨c1_0, c1_1, c1_2, c1_3, c1_4, c1_5, rfl⟩ := arr6 (cz1.trans (by kernel_rfl))
  obtain ⟨n1_0, y1_0, e1_0⟩ := hF1 0 _ _ rfl rfl
  obtain ⟨a1_0, rfl, w1_0⟩ := leaf_int Tryd.underlying3 e1_0
  obtain ⟨n1_1, y1_1, e1_1⟩ := hF1 1 _ _ rfl rfl
  obtain ⟨a1_1, rfl, w1_1⟩ := leaf_int Tryd.underlying3 e1_1
  obtain ⟨n1_2, y1_2, e1_2⟩ := hF1 2 _ _ rfl rfl
  obtain ⟨a1_2, rfl, w1_2⟩ := leaf_int Tryd.underlying3 e1_2
  obtain ⟨n1_3, y1_3, e1_3⟩ := hF1 3 _ _ rfl rfl
  obtain ⟨a1_3, rfl, w1_3⟩ := leaf_int Tryd.underlying3 e1_3
  obtain ⟨n1_4, y1_4, e1_4⟩ := hF1 4 _ _ rfl rfl
  obtain ⟨a1_4, rfl, w1_4⟩ := leaf_str Tryd.underlying9 e1_4
  obtain ⟨n1_5, y1_5, e1_5⟩ := hF1 5 _ _ rfl rfl
  obtain ⟨a1_5, rfl, w1_5⟩ := leaf_str Tryd.underlying9 e1_5
  have k2 := h2
  have lt2 : ∀ x ∈ p2, x.block < W.heap.size := by obtain ⟨m, hm⟩ := k2; exact DataW.trod_lt m _ _ _ hm
  obtain ⟨cs2, rfl, cz2, hF2⟩ := open_fields Tryd.underlying79 (by kernel_rfl) (hval 2 79 v2 rfl rfl) h2
  obtain ⟨c2_0, c2_1, c2_2, c2_3, c2_4, c2_5, c2_6, c2_7, c2_8, rfl⟩ := arr9 (cz2.trans (by kernel_rfl))
  obtain ⟨n2_0, y2_0, e2_0⟩ := hF2 0 _ _ rfl rfl
  obtain ⟨a2_0, rfl, w2_0⟩ := leaf_int Tryd.underlying3 e2_0
  obtain ⟨n2_1, y2_1, e2_1⟩ := hF2 1 _ _ rfl rfl
  obtain ⟨a2_1, rfl, w2_1⟩ := leaf_int Tryd.underlying3 e2_1
  obtain ⟨n2_2, y2_2, e2_2⟩ := hF2 2 _ _ rfl rfl
  obtain ⟨a2_2, rfl, w2_2⟩ := leaf_int Tryd.underlying37 e2_2
  obtain ⟨n2_3, y2_3, e2_3⟩ := hF2 3 _ _ rfl rfl
  obtain ⟨a2_3, rfl, w2_3⟩ := leaf_int Tryd.underlying37 e2_3
  obtain ⟨n2_4, y2_4, e2_4⟩ := hF2 4 _ _ rfl rfl
  obtain ⟨a2_4, rfl, w2_4⟩ := leaf_int Tryd.underlying3 e2_4
  obtain ⟨n2_5, y2_5, e2_5⟩ := hF2 5 _ _ rfl rfl
  obtain ⟨a2_5, rfl, w2_5⟩ := leaf_int Tryd.underlying3 e2_5
  obtain ⟨n2_6, y2_6, e2_6⟩ := hF2 6 _ _ rfl rfl
  obtain ⟨a2_6, rfl, w2_6⟩ := leaf_int Tryd.underlying3 e2_6
  obtain ⟨n2_7, y2_7, e2_7⟩ := hF2 7 _ _ rfl rfl
  obtain ⟨a2_7, rfl, w2_7⟩ := leaf_str Tryd.underlying9 e2_7
  obtain ⟨n2_8, y2_8, e2_8⟩ := hF2 8 _ _ rfl rfl
  obtain ⟨a2_8, rfl, w2_8⟩ := leaf_str Tryd.underlying9 e2_8
  have k3 := h3
  have lt3 : ∀ x ∈ p3, x.block < W.heap.size := by obtain ⟨m, hm⟩ := k3; exact DataW.trod_lt m _ _ _ hm
  obtain ⟨cs3, rfl, cz3, hF3⟩ := open_fields Tryd.underlying81 (by kernel_rfl) (hval 3 81 v3 rfl rfl) h3
  obtain ⟨c3_0, c3_1, c3_2, rfl⟩ := arr3 (cz3.trans (by kernel_rfl))
  obtain ⟨n3_0, y3_0, e3_0⟩ := hF3 0 _ _ rfl rfl
  obtain ⟨a3_0, rfl, w3_0⟩ := leaf_int Tryd.underlying3 e3_0
  obtain ⟨n3_1, y3_1, e3_1⟩ := hF3 1 _ _ rfl rfl
  obtain ⟨a3_1, rfl, w3_1⟩ := leaf_int Tryd.underlying3 e3_1
  obtain ⟨n3_2, y3_2, e3_2⟩ := hF3 2 _ _ rfl rfl
  obtain ⟨a3_2, rfl, w3_2⟩ := leaf_str Tryd.underlying9 e3_2
  obtain ⟨a4, rfl, rfl, rfl⟩ := open_bool Tryd.underlying4 (hval 4 4 v4 rfl rfl) h4
  clear hA0 hval0 hsz0 hsz
  obtain ⟨k, h⟩ := Pure.FlowValid a0_0 a0_1 a0_2 a0_3 a0_4 a0_5 a0_6 a0_7 a0_8 a0_9 a1_0 a1_1 a1_2 a1_3 a1_4 a1_5 a2_0 a2_1 a2_2 a2_3 a2_4 a2_5 a2_6 a2_7 a2_8 a3_0 a3_1 a3_2 a4 w0_0 w0_1 w0_2 w0_3 w0_4 w0_7 w0_8 w0_9 w1_0 w1_1 w1_2 w1_3 w1_4 w1_5 w2_0 w2_1 w2_2 w2_3 w2_4 w2_5 w2_6 w2_7 w2_8 w3_0 w3_1 w3_2
  refine (G.palanquinlaw09_FlowValid.calls k a0_0 a0_1 a0_2 a0_3 a0_4 a0_5 a0_6 a0_7 a0_8 a0_9 a1_0 a1_1 a1_2 a1_3 a1_4 a1_5 a2_0 a2_1 a2_2 a2_3 a2_4 a2_5 a2_6 a2_7 a2_8 a3_0 a3_1 a3_2 a4 true W  h ⟨rfl⟩ (laid_gp2 hL)).mono fun e W' ⟨he, bel⟩ => ?_
  subst he
  exact ⟨_, rfl, _, _, _, [], _, [], hW', trodAll_mk1 (shut_bool Tryd.underlying4 _), (trodAll_cons_mk (Below.trod laidOut (by kernel_rfl) (of_decide_eq_true (by kernel_rfl)) k0 bel lt0) (trodAll_cons_mk (Below.trod laidOut (by kernel_rfl) (of_decide_eq_true (by kernel_rfl)) k1 bel lt1) (trodAll_cons_mk (Below.trod laidOut (by kernel_rfl) (of_decide_eq_true (by kernel_rfl)) k2 bel lt2) (trodAll_cons_mk (Below.trod laidOut (by kernel_rfl) (of_decide_eq_true (by kernel_rfl)) k3 bel lt3) (trodAll_cons_mk (shut_bool Tryd.underlying4 _) trodAll_mk0))))), rfl, bel.frame _, fun h => by cases h⟩
theorem facts : joinedFacts Tryd.prog 16 Tryd.f16 Rows.flowValidSpec Rows.flowValidRow = true := by
  unfold joinedFacts
  rw [Head.mayEnter, Head.liftsFinal, Head.make]
  kernel_rfl
theorem named : Tryd.prog.funcNamed Rows.flowValidRow.func = some 16 := by kernel_rfl
theorem noInstance : Tryd.f16.isInstance Tryd.prog Rows.flowValidRow.origin Rows.flowValidRow.targs := of_decide_eq_true (by kernel_rfl)
theorem noWrapper : Tryd.f16.isWrapper Tryd.prog Rows.flowValidRow.wrapper Rows.flowValidRow.mainSum := by
  unfold Func.isWrapper
  rw [if_neg (by decide +kernel)]
  exact ⟨rfl, rfl⟩
theorem over : Rows.flowValidRow.holds Tryd.pinned (OpenSpec.ofChange Rows.flowValidSpec) :=
  OpenClaim.holds_of_wide 16 Tryd.f16 rfl rfl rfl rfl rfl rfl rfl ⟨rfl, rfl, rfl, rfl, rfl⟩ rfl rfl rfl rfl rfl named Tryd.func16 facts noInstance noWrapper
    (fun os started H enc _ => lifted os started H enc)
theorem proved : Rows.FlowValidCardSaid :=
  Claim7.holds_tied_plain_at .later [] [.data, .data] true (true, "c64ecd137dc2358eaebb109ba629abceb99b50cfce708964a226cc9f102c8b06") true
    over (fun _ h => by cases h) (by kernel_rfl) (fun _ h => by cases h) flowValid_row_tie rfl ⟨rfl, rfl⟩ (by kernel_rfl) rfl
    (fun f fn hf hfn => by
      obtain rfl : f = 16 := Option.some.inj (named.symm.trans hf) |>.symm
      obtain rfl : fn = Tryd.f16 := (Option.some.inj (Tryd.func16.symm.trans hfn)).symm
      exact ⟨by kernel_rfl, fun j t ht => by
        rw [Tryd.params16] at ht
        have hm : t ∈ [69, 71, 79, 81, 4] := by simpa using Array.mem_of_getElem? ht
        have hall : ([69, 71, 79, 81, 4].all fun u => !Tryd.prog.wantsStandIn u) = true := by kernel_rfl
        exact (show Tryd.prog.wantsStandIn t = false by simpa using List.all_eq_true.1 hall t hm)⟩)
    (by kernel_rfl)
#print axioms proved
end Go.Proofs.YtcmalglippmocaaDoor.flowValid
namespace Go.Proofs.YtcmalglippmocaaDoor
theorem flowValid_holds : Rows.FlowValidCardSaid := flowValid.proved
end Go.Proofs.YtcmalglippmocaaDoor
