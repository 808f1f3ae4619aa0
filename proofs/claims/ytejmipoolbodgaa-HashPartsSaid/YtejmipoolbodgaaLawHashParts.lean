/- The row of the law palanquinlaw20_HashParts, for every input that fits its parameters' types and weighs at most what a machine holds; no other condition. Laid by rowgen.py of this session. -/
import Derived.Test.YtejmipoolbodgaaRows
import Derived.Test.YtejmipoolbodgaaHead
import Derived.Test.YtejmipoolbodgaaGHashParts
import Derived.Test.YtejmipoolbodgaaUHashParts
import Derived.Test.YtejmipoolbodgaaPRow
import Derived.WalkKit
import Derived.ProofKit
import Derived.OpenShut
import Derived.ShutString
import Derived.ChangeOld
import Derived.Below
import Derived.SizedLaws
namespace Go.Proofs.Ytejmipoolbodgaa.hashParts
open Go.ChangeShapes Go.WideShapes Go.ChangeAt Go.RowKit Go.Proofs.Ytejmipoolbodgaa.Pal
open Go.ChangeMaps (open_string shut_string)
set_option linter.unusedVariables false
theorem own : ownKnob Try.prog.godebug = none := by kernel_rfl
theorem laidOut : laidOutB Try.prog = true := by kernel_rfl
theorem arr5 {cs : Array Value} (h : cs.size = 5) : ∃ x0 x1 x2 x3 x4 : Value, cs = #[x0, x1, x2, x3, x4] := by
  obtain ⟨l⟩ := cs
  match l, h with
  | [x0, x1, x2, x3, x4], _ => exact ⟨x0, x1, x2, x3, x4, rfl⟩
set_option maxHeartbeats 2000000 in
set_option maxRecDepth 100000 in
theorem lifted (os : Os) (started : os.Started) (H : Type) (enc : TypeId × Value → H) :
    ReturnsInHanded {} Try.checked os 14 .any (Rows.hashPartsSpec.pre6 enc Try.prog Try.f14 Rows.hashPartsRow.domain false) (Rows.hashPartsSpec.post enc Try.prog Try.f14 false true false false) := by
  refine returnsInHanded_of_change_sized (C := Try.checked) own started (by kernel_rfl) Try.func14
    (ChangeSpec.witness6 (enc := enc) (C := Try.checked) false ⟨#[], #[.string ByteArray.empty, .int .i64 0, (.agg #[.int .i64 0, .string ByteArray.empty, .string ByteArray.empty, .int .i64 0, .int .i64 0]), .int .u16 0], []⟩ 8 (by kernel_rfl) (by kernel_rfl) (by kernel_rfl) (by kernel_rfl)) ?_
  intro W base args ds gs before hval0 hW hcnd hsz0 _
  have hsz : (DataW.weightsEach Try.prog (Try.f14.params.toList ++ Rows.hashPartsSpec.plain.varTypes Try.prog) (ds ++ gs)).all (· ≤ reachBytes) = true := hsz0
  have hval : ∀ (j : Nat) t v, Try.f14.params[j]? = some t → args[j]? = some v → Value.okWide Try.prog W .any base t v := hval0
  have hW' := hW
  obtain ⟨p, q, hA0, hV, rfl, hfz, hnd⟩ := hW
  have hA : DataW.TrodAll enc Try.prog W 0 (fun _ => true) true Try.f14.params.toList args.toList ds p := hA0
  rw [Try.params14] at hA hval hsz
  obtain ⟨v0, vs0, d0, ds0, p0, q0, hargs, rfl, rfl, h0, r0⟩ := trodAll_cons hA
  obtain ⟨v1, vs1, d1, ds1, p1, q1, rfl, rfl, rfl, h1, r1⟩ := trodAll_cons r0
  obtain ⟨v2, vs2, d2, ds2, p2, q2, rfl, rfl, rfl, h2, r2⟩ := trodAll_cons r1
  obtain ⟨v3, vs3, d3, ds3, p3, q3, rfl, rfl, rfl, h3, r3⟩ := trodAll_cons r2
  obtain ⟨rfl, rfl, rfl⟩ := trodAll_nil r3
  obtain rfl : args = #[v0, v1, v2, v3] := by cases args; simp_all
  obtain ⟨rfl, rfl⟩ := trodVars_none hV
  obtain ⟨a0, rfl, rfl, rfl, y0⟩ := open_string Try.underlying9 (hval 0 9 v0 rfl rfl) h0
  have w0 : a0.size ≤ 140737488351232 := by
    have z := sized_string hsz (j := 0) (t := 9) rfl rfl
    rw [Array.length_toList] at z
    exact z
  obtain ⟨a1, rfl, rfl, rfl, w1⟩ := open_int Try.underlying3 (hval 1 3 v1 rfl rfl) h1
  have k2 := h2
  have lt2 : ∀ x ∈ p2, x.block < W.heap.size := by obtain ⟨m, hm⟩ := k2; exact DataW.trod_lt m _ _ _ hm
  obtain ⟨cs2, rfl, cz2, hF2⟩ := open_fields Try.underlying69 (by kernel_rfl) (hval 2 69 v2 rfl rfl) h2
  obtain ⟨c2_0, c2_1, c2_2, c2_3, c2_4, rfl⟩ := arr5 (cz2.trans (by kernel_rfl))
  obtain ⟨n2_0, y2_0, e2_0⟩ := hF2 0 _ _ rfl rfl
  obtain ⟨a2_0, rfl, w2_0⟩ := leaf_int Try.underlying3 e2_0
  obtain ⟨n2_1, y2_1, e2_1⟩ := hF2 1 _ _ rfl rfl
  obtain ⟨a2_1, rfl, w2_1⟩ := leaf_str Try.underlying9 e2_1
  obtain ⟨n2_2, y2_2, e2_2⟩ := hF2 2 _ _ rfl rfl
  obtain ⟨a2_2, rfl, w2_2⟩ := leaf_str Try.underlying9 e2_2
  obtain ⟨n2_3, y2_3, e2_3⟩ := hF2 3 _ _ rfl rfl
  obtain ⟨a2_3, rfl, w2_3⟩ := leaf_int Try.underlying3 e2_3
  obtain ⟨n2_4, y2_4, e2_4⟩ := hF2 4 _ _ rfl rfl
  obtain ⟨a2_4, rfl, w2_4⟩ := leaf_int Try.underlying3 e2_4
  obtain ⟨a3, rfl, rfl, rfl, w3⟩ := open_int Try.underlying29 (hval 3 29 v3 rfl rfl) h3
  clear hA0 hval0 hsz0 hsz
  obtain ⟨k, h⟩ := Pure.HashParts a0 a1 a2_0 a2_1 a2_2 a2_3 a2_4 a3 w0 w1 w2_0 w2_1 w2_2 w2_3 w2_4 w3
  refine (G.palanquinlaw20_HashParts.calls k a0 a1 a2_0 a2_1 a2_2 a2_3 a2_4 a3 true W  h ⟨rfl⟩).mono fun e W' ⟨he, bel⟩ => ?_
  subst he
  exact ⟨_, rfl, _, _, _, [], _, [], hW', trodAll_mk1 (shut_bool Try.underlying4 _), (trodAll_cons_mk (shut_string Try.underlying9 y0) (trodAll_cons_mk (shut_int Try.underlying3 w1) (trodAll_cons_mk (Below.trod laidOut (by kernel_rfl) (of_decide_eq_true (by kernel_rfl)) k2 bel lt2) (trodAll_cons_mk (shut_int Try.underlying29 w3) trodAll_mk0)))), rfl, bel.frame _, fun h => by cases h⟩
theorem facts : joinedFacts Try.prog 14 Try.f14 Rows.hashPartsSpec Rows.hashPartsRow = true := by
  unfold joinedFacts
  rw [Head.mayEnter, Head.liftsFinal, Head.make]
  kernel_rfl
theorem named : Try.prog.funcNamed Rows.hashPartsRow.func = some 14 := by kernel_rfl
theorem noInstance : Try.f14.isInstance Try.prog Rows.hashPartsRow.origin Rows.hashPartsRow.targs := of_decide_eq_true (by kernel_rfl)
theorem noWrapper : Try.f14.isWrapper Try.prog Rows.hashPartsRow.wrapper Rows.hashPartsRow.mainSum := by
  unfold Func.isWrapper
  rw [if_neg (by decide +kernel)]
  exact ⟨rfl, rfl⟩
theorem over : Rows.hashPartsRow.holds Try.pinned (OpenSpec.ofChange Rows.hashPartsSpec) :=
  OpenClaim.holds_of_wide 14 Try.f14 rfl rfl rfl rfl rfl rfl rfl ⟨rfl, rfl, rfl, rfl, rfl⟩ rfl rfl rfl rfl rfl named Try.func14 facts noInstance noWrapper
    (fun os started H enc _ => lifted os started H enc)
theorem proved : Rows.HashPartsSaid := over
#print axioms proved
end Go.Proofs.Ytejmipoolbodgaa.hashParts
namespace Go.Proofs.Ytejmipoolbodgaa
/-- The row, under a short name, for the claim. -/
theorem hashParts_holds : Rows.HashPartsSaid := hashParts.proved
end Go.Proofs.Ytejmipoolbodgaa
