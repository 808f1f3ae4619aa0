/- The row of the law palanquinlaw20_HashTells, for every input that fits its parameters' types and weighs at most what a machine holds; no other condition. Laid by rowgen.py of this session. -/
import Derived.Test.YtejmipoolbodgaaRows
import Derived.Test.YtejmipoolbodgaaHead
import Derived.Test.YtejmipoolbodgaaGHashTells
import Derived.Test.YtejmipoolbodgaaUHashTells
import Derived.Test.YtejmipoolbodgaaPRow
import Derived.WalkKit
import Derived.ProofKit
import Derived.OpenShut
import Derived.ShutString
import Derived.ChangeOld
import Derived.Below
import Derived.SizedLaws
namespace Go.Proofs.Ytejmipoolbodgaa.hashTells
open Go.ChangeShapes Go.WideShapes Go.ChangeAt Go.RowKit Go.Proofs.Ytejmipoolbodgaa.Pal
open Go.ChangeMaps (open_string shut_string)
set_option linter.unusedVariables false
theorem own : ownKnob Try.prog.godebug = none := by kernel_rfl
theorem laidOut : laidOutB Try.prog = true := by kernel_rfl
theorem arr5 {cs : Array Value} (h : cs.size = 5) : ∃ x0 x1 x2 x3 x4 : Value, cs = #[x0, x1, x2, x3, x4] := by
  obtain ⟨l⟩ := cs
  match l, h with
  | [x0, x1, x2, x3, x4], _ => exact ⟨x0, x1, x2, x3, x4, rfl⟩
set_option maxHeartbeats 2000000 in
set_option maxRecDepth 100000 in
theorem lifted (os : Os) (started : os.Started) (H : Type) (enc : TypeId × Value → H) :
    ReturnsInHanded {} Try.checked os 16 .any (Rows.hashTellsSpec.pre6 enc Try.prog Try.f16 Rows.hashTellsRow.domain false) (Rows.hashTellsSpec.post enc Try.prog Try.f16 false true false false) := by
  refine returnsInHanded_of_change_sized (C := Try.checked) own started (by kernel_rfl) Try.func16
    (ChangeSpec.witness6 (enc := enc) (C := Try.checked) false ⟨#[], #[.slice none 0 0, (.agg #[.int .i64 0, .string ByteArray.empty, .string ByteArray.empty, .int .i64 0, .int .i64 0]), .int .i64 0, .int .i64 0], []⟩ 8 (by kernel_rfl) (by kernel_rfl) (by kernel_rfl) (by kernel_rfl)) ?_
  intro W base args ds gs before hval0 hW hcnd hsz0 _
  have hsz : (DataW.weightsEach Try.prog (Try.f16.params.toList ++ Rows.hashTellsSpec.plain.varTypes Try.prog) (ds ++ gs)).all (· ≤ reachBytes) = true := hsz0
  have hval : ∀ (j : Nat) t v, Try.f16.params[j]? = some t → args[j]? = some v → Value.okWide Try.prog W .any base t v := hval0
  have hW' := hW
  obtain ⟨p, q, hA0, hV, rfl, hfz, hnd⟩ := hW
  have hA : DataW.TrodAll enc Try.prog W 0 (fun _ => true) true Try.f16.params.toList args.toList ds p := hA0
  rw [Try.params16] at hA hval hsz
  obtain ⟨v0, vs0, d0, ds0, p0, q0, hargs, rfl, rfl, h0, r0⟩ := trodAll_cons hA
  obtain ⟨v1, vs1, d1, ds1, p1, q1, rfl, rfl, rfl, h1, r1⟩ := trodAll_cons r0
  obtain ⟨v2, vs2, d2, ds2, p2, q2, rfl, rfl, rfl, h2, r2⟩ := trodAll_cons r1
  obtain ⟨v3, vs3, d3, ds3, p3, q3, rfl, rfl, rfl, h3, r3⟩ := trodAll_cons r2
  obtain ⟨rfl, rfl, rfl⟩ := trodAll_nil r3
  obtain rfl : args = #[v0, v1, v2, v3] := by cases args; simp_all
  obtain ⟨rfl, rfl⟩ := trodVars_none hV
  have k0 := h0
  have lt0 : ∀ x ∈ p0, x.block < W.heap.size := by obtain ⟨m, hm⟩ := k0; exact DataW.trod_lt m _ _ _ hm
  obtain ⟨A0, l0, c0, rfl, hc0, hr0, ws0⟩ := open_texts Try.underlying32 Try.underlying9 (by kernel_rfl) (hval 0 32 v0 rfl rfl) h0
  have w0 : ∀ s ∈ l0, s.size ≤ 140737488351232 := fun s hs => of_decide_eq_true (List.all_eq_true.1 hsz _ (DataW.weights_mem_each (j := 0) (t := 32) rfl rfl _ (ws0 s hs)))
  have k1 := h1
  have lt1 : ∀ x ∈ p1, x.block < W.heap.size := by obtain ⟨m, hm⟩ := k1; exact DataW.trod_lt m _ _ _ hm
  obtain ⟨cs1, rfl, cz1, hF1⟩ := open_fields Try.underlying69 (by kernel_rfl) (hval 1 69 v1 rfl rfl) h1
  obtain ⟨c1_0, c1_1, c1_2, c1_3, c1_4, rfl⟩ := arr5 (cz1.trans (by kernel_rfl))
  obtain ⟨n1_0, y1_0, e1_0⟩ := hF1 0 _ _ rfl rfl
  obtain ⟨a1_0, rfl, w1_0⟩ := leaf_int Try.underlying3 e1_0
  obtain ⟨n1_1, y1_1, e1_1⟩ := hF1 1 _ _ rfl rfl
  obtain ⟨a1_1, rfl, w1_1⟩ := leaf_str Try.underlying9 e1_1
  obtain ⟨n1_2, y1_2, e1_2⟩ := hF1 2 _ _ rfl rfl
  obtain ⟨a1_2, rfl, w1_2⟩ := leaf_str Try.underlying9 e1_2
  obtain ⟨n1_3, y1_3, e1_3⟩ := hF1 3 _ _ rfl rfl
  obtain ⟨a1_3, rfl, w1_3⟩ := leaf_int Try.underlying3 e1_3
  obtain ⟨n1_4, y1_4, e1_4⟩ := hF1 4 _ _ rfl rfl
  obtain ⟨a1_4, rfl, w1_4⟩ := leaf_int Try.underlying3 e1_4
  obtain ⟨a2, rfl, rfl, rfl, w2⟩ := open_int Try.underlying3 (hval 2 3 v2 rfl rfl) h2
  obtain ⟨a3, rfl, rfl, rfl, w3⟩ := open_int Try.underlying3 (hval 3 3 v3 rfl rfl) h3
  clear hA0 hval0 hsz0 hsz
  obtain ⟨k, h⟩ := Pure.HashTells l0 a1_0 a1_1 a1_2 a1_3 a1_4 a2 a3 w0 w1_0 w1_1 w1_2 w1_3 w1_4 w2 w3
  refine (G.palanquinlaw20_HashTells.calls k A0 c0 l0 a1_0 a1_1 a1_2 a1_3 a1_4 a2 a3 true W hr0 hc0 h ⟨rfl⟩).mono fun e W' ⟨he, bel⟩ => ?_
  subst he
  exact ⟨_, rfl, _, _, _, [], _, [], hW', trodAll_mk1 (shut_bool Try.underlying4 _), (trodAll_cons_mk (Below.trod laidOut (by kernel_rfl) (of_decide_eq_true (by kernel_rfl)) k0 bel lt0) (trodAll_cons_mk (Below.trod laidOut (by kernel_rfl) (of_decide_eq_true (by kernel_rfl)) k1 bel lt1) (trodAll_cons_mk (shut_int Try.underlying3 w2) (trodAll_cons_mk (shut_int Try.underlying3 w3) trodAll_mk0)))), rfl, bel.frame _, fun h => by cases h⟩
theorem facts : joinedFacts Try.prog 16 Try.f16 Rows.hashTellsSpec Rows.hashTellsRow = true := by
  unfold joinedFacts
  rw [Head.mayEnter, Head.liftsFinal, Head.make]
  kernel_rfl
theorem named : Try.prog.funcNamed Rows.hashTellsRow.func = some 16 := by kernel_rfl
theorem noInstance : Try.f16.isInstance Try.prog Rows.hashTellsRow.origin Rows.hashTellsRow.targs := of_decide_eq_true (by kernel_rfl)
theorem noWrapper : Try.f16.isWrapper Try.prog Rows.hashTellsRow.wrapper Rows.hashTellsRow.mainSum := by
  unfold Func.isWrapper
  rw [if_neg (by decide +kernel)]
  exact ⟨rfl, rfl⟩
theorem over : Rows.hashTellsRow.holds Try.pinned (OpenSpec.ofChange Rows.hashTellsSpec) :=
  OpenClaim.holds_of_wide 16 Try.f16 rfl rfl rfl rfl rfl rfl rfl ⟨rfl, rfl, rfl, rfl, rfl⟩ rfl rfl rfl rfl rfl named Try.func16 facts noInstance noWrapper
    (fun os started H enc _ => lifted os started H enc)
theorem proved : Rows.HashTellsSaid := over
#print axioms proved
end Go.Proofs.Ytejmipoolbodgaa.hashTells
namespace Go.Proofs.Ytejmipoolbodgaa
/-- The row, under a short name, for the claim. -/
theorem hashTells_holds : Rows.HashTellsSaid := hashTells.proved
end Go.Proofs.Ytejmipoolbodgaa
