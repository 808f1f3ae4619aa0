/- The row of the law palanquinlaw20_HashApart, for every input that fits its parameters' types and weighs at most what a machine holds; no other condition. Laid by rowgen.py of this session. -/
import Derived.Test.YtejmipoolbodgaaRows
import Derived.Test.YtejmipoolbodgaaHead
import Derived.Test.YtejmipoolbodgaaGHashApart
import Derived.Test.YtejmipoolbodgaaUHashApart
import Derived.Test.YtejmipoolbodgaaPRow
import Derived.WalkKit
import Derived.ProofKit
import Derived.OpenShut
import Derived.ShutString
import Derived.ChangeOld
import Derived.Below
import Derived.SizedLaws
namespace Go.Proofs.Ytejmipoolbodgaa.hashApart
open Go.ChangeShapes Go.WideShapes Go.ChangeAt Go.RowKit Go.Proofs.Ytejmipoolbodgaa.Pal
open Go.ChangeMaps (open_string shut_string)
set_option linter.unusedVariables false
theorem own : ownKnob Try.prog.godebug = none := by kernel_rfl
theorem laidOut : laidOutB Try.prog = true := by kernel_rfl
theorem arr5 {cs : Array Value} (h : cs.size = 5) : ∃ x0 x1 x2 x3 x4 : Value, cs = #[x0, x1, x2, x3, x4] := by
  obtain ⟨l⟩ := cs
  match l, h with
  | [x0, x1, x2, x3, x4], _ => exact ⟨x0, x1, x2, x3, x4, rfl⟩
set_option maxHeartbeats 2000000 in
set_option maxRecDepth 100000 in
theorem lifted (os : Os) (started : os.Started) (H : Type) (enc : TypeId × Value → H) :
    ReturnsInHanded {} Try.checked os 15 .any (Rows.hashApartSpec.pre6 enc Try.prog Try.f15 Rows.hashApartRow.domain false) (Rows.hashApartSpec.post enc Try.prog Try.f15 false true false false) := by
  refine returnsInHanded_of_change_sized (C := Try.checked) own started (by kernel_rfl) Try.func15
    (ChangeSpec.witness6 (enc := enc) (C := Try.checked) false ⟨#[], #[(.agg #[.int .i64 0, .string ByteArray.empty, .string ByteArray.empty, .int .i64 0, .int .i64 0]), (.agg #[.int .i64 0, .string ByteArray.empty, .string ByteArray.empty, .int .i64 0, .int .i64 0])], []⟩ 8 (by kernel_rfl) (by kernel_rfl) (by kernel_rfl) (by kernel_rfl)) ?_
  intro W base args ds gs before hval0 hW hcnd hsz0 _
  have hsz : (DataW.weightsEach Try.prog (Try.f15.params.toList ++ Rows.hashApartSpec.plain.varTypes Try.prog) (ds ++ gs)).all (· ≤ reachBytes) = true := hsz0
  have hval : ∀ (j : Nat) t v, Try.f15.params[j]? = some t → args[j]? = some v → Value.okWide Try.prog W .any base t v := hval0
  have hW' := hW
  obtain ⟨p, q, hA0, hV, rfl, hfz, hnd⟩ := hW
  have hA : DataW.TrodAll enc Try.prog W 0 (fun _ => true) true Try.f15.params.toList args.toList ds p := hA0
  rw [Try.params15] at hA hval hsz
  obtain ⟨v0, vs0, d0, ds0, p0, q0, hargs, rfl, rfl, h0, r0⟩ := trodAll_cons hA
  obtain ⟨v1, vs1, d1, ds1, p1, q1, rfl, rfl, rfl, h1, r1⟩ := trodAll_cons r0
  obtain ⟨rfl, rfl, rfl⟩ := trodAll_nil r1
  obtain rfl : args = #[v0, v1] := by cases args; simp_all
  obtain ⟨rfl, rfl⟩ := trodVars_none hV
  have k0 := h0
  have lt0 : ∀ x ∈ p0, x.block < W.heap.size := by obtain ⟨m, hm⟩ := k0; exact DataW.trod_lt m _ _ _ hm
  obtain ⟨cs0, rfl, cz0, hF0⟩ := open_fields Try.underlying69 (by kernel_rfl) (hval 0 69 v0 rfl rfl) h0
  obtain ⟨c0_0, c0_1, c0_2, c0_3, c0_4, rfl⟩ := arr5 (cz0.trans (by kernel_rfl))
  obtain ⟨n0_0, y0_0, e0_0⟩ := hF0 0 _ _ rfl rfl
  obtain ⟨a0_0, rfl, w0_0⟩ := leaf_int Try.underlying3 e0_0
  obtain ⟨n0_1, y0_1, e0_1⟩ := hF0 1 _ _ rfl rfl
  obtain ⟨a0_1, rfl, w0_1⟩ := leaf_str Try.underlying9 e0_1
  obtain ⟨n0_2, y0_2, e0_2⟩ := hF0 2 _ _ rfl rfl
  obtain ⟨a0_2, rfl, w0_2⟩ := leaf_str Try.underlying9 e0_2
  obtain ⟨n0_3, y0_3, e0_3⟩ := hF0 3 _ _ rfl rfl
  obtain ⟨a0_3, rfl, w0_3⟩ := leaf_int Try.underlying3 e0_3
  obtain ⟨n0_4, y0_4, e0_4⟩ := hF0 4 _ _ rfl rfl
  obtain ⟨a0_4, rfl, w0_4⟩ := leaf_int Try.underlying3 e0_4
  have k1 := h1
  have lt1 : ∀ x ∈ p1, x.block < W.heap.size := by obtain ⟨m, hm⟩ := k1; exact DataW.trod_lt m _ _ _ hm
  obtain ⟨cs1, rfl, cz1, hF1⟩ := open_fields Try.underlying69 (by kernel_rfl) (hval 1 69 v1 rfl rfl) h1
  obtain ⟨c1_0, c1_1, c1_2, c1_3, c1_4, rfl⟩ := arr5 (cz1.trans (by kernel_rfl))
  obtain ⟨n1_0, y1_0, e1_0⟩ := hF1 0 _ _ rfl rfl
  obtain ⟨a1_0, rfl, w1_0⟩ := leaf_int Try.underlying3 e1_0
  obtain ⟨n1_1, y1_1, e1_1⟩ := hF1 1 _ _ rfl rfl
  obtain ⟨a1_1, rfl, w1_1⟩ := leaf_str Try.underlying9 e1_1
  obtain ⟨n1_2, y1_2, e1_2⟩ := hF1 2 _ _ rfl rfl
  obtain ⟨a1_2, rfl, w1_2⟩ := leaf_str Try.underlying9 e1_2
  obtain ⟨n1_3, y1_3, e1_3⟩ := hF1 3 _ _ rfl rfl
  obtain ⟨a1_3, rfl, w1_3⟩ := leaf_int Try.underlying3 e1_3
  obtain ⟨n1_4, y1_4, e1_4⟩ := hF1 4 _ _ rfl rfl
  obtain ⟨a1_4, rfl, w1_4⟩ := leaf_int Try.underlying3 e1_4
  clear hA0 hval0 hsz0 hsz
  obtain ⟨k, h⟩ := Pure.HashApart a0_0 a0_1 a0_2 a0_3 a0_4 a1_0 a1_1 a1_2 a1_3 a1_4 w0_0 w0_1 w0_2 w0_3 w0_4 w1_0 w1_1 w1_2 w1_3 w1_4
  refine (G.palanquinlaw20_HashApart.calls k a0_0 a0_1 a0_2 a0_3 a0_4 a1_0 a1_1 a1_2 a1_3 a1_4 true W  h ⟨rfl⟩).mono fun e W' ⟨he, bel⟩ => ?_
  subst he
  exact ⟨_, rfl, _, _, _, [], _, [], hW', trodAll_mk1 (shut_bool Try.underlying4 _), (trodAll_cons_mk (Below.trod laidOut (by kernel_rfl) (of_decide_eq_true (by kernel_rfl)) k0 bel lt0) (trodAll_cons_mk (Below.trod laidOut (by kernel_rfl) (of_decide_eq_true (by kernel_rfl)) k1 bel lt1) trodAll_mk0)), rfl, bel.frame _, fun h => by cases h⟩
theorem facts : joinedFacts Try.prog 15 Try.f15 Rows.hashApartSpec Rows.hashApartRow = true := by
  unfold joinedFacts
  rw [Head.mayEnter, Head.liftsFinal, Head.make]
  kernel_rfl
theorem named : Try.prog.funcNamed Rows.hashApartRow.func = some 15 := by kernel_rfl
theorem noInstance : Try.f15.isInstance Try.prog Rows.hashApartRow.origin Rows.hashApartRow.targs := of_decide_eq_true (by kernel_rfl)
theorem noWrapper : Try.f15.isWrapper Try.prog Rows.hashApartRow.wrapper Rows.hashApartRow.mainSum := by
  unfold Func.isWrapper
  rw [if_neg (by decide +kernel)]
  exact ⟨rfl, rfl⟩
theorem over : Rows.hashApartRow.holds Try.pinned (OpenSpec.ofChange Rows.hashApartSpec) :=
  OpenClaim.holds_of_wide 15 Try.f15 rfl rfl rfl rfl rfl rfl rfl ⟨rfl, rfl, rfl, rfl, rfl⟩ rfl rfl rfl rfl rfl named Try.func15 facts noInstance noWrapper
    (fun os started H enc _ => lifted os started H enc)
theorem proved : Rows.HashApartSaid := over
#print axioms proved
end Go.Proofs.Ytejmipoolbodgaa.hashApart
namespace Go.Proofs.Ytejmipoolbodgaa
/-- The row, under a short name, for the claim. -/
theorem hashApart_holds : Rows.HashApartSaid := hashApart.proved
end Go.Proofs.Ytejmipoolbodgaa
