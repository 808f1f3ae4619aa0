import Derived.Test.YteeljehkphfmdaaRows
import Derived.Test.YteeljehkphfmdaaHead
import Derived.Test.YteeljehkphfmdaaMWireBack11
import Derived.Test.YteeljehkphfmdaaMWireBack12
import Derived.WalkKit
import Derived.ProofKit
import Derived.OpenShut
import Derived.ShutString
import Derived.ChangeOld
import Derived.Below
import Derived.SizedLaws
namespace Go.Proofs.Yteeljehkphfmdaa.wireBack
open Go.ChangeShapes Go.WideShapes Go.ChangeAt Go.RowKit Go.Proofs.Yteeljehkphfmdaa.Pal
open Go.ChangeMaps (open_string shut_string)
theorem own : ownKnob Try.prog.godebug = none := by kernel_rfl
theorem laidOut : laidOutB Try.prog = true := by kernel_rfl
set_option maxHeartbeats 2000000 in
set_option maxRecDepth 100000 in
theorem lifted (os : Os) (started : os.Started) (H : Type) (enc : TypeId × Value → H) :
    ReturnsInHanded {} Try.checked os 3 .any (Rows.wireBackSpec.pre6 enc Try.prog Try.f3 Rows.wireBackRow.domain false) (Rows.wireBackSpec.post enc Try.prog Try.f3 false true false false) := by
  refine returnsInHanded_of_change_sized (C := Try.checked) own started (by kernel_rfl) Try.func3
    (ChangeSpec.witness6 (enc := enc) (C := Try.checked) false ⟨#[], #[.slice none 0 0, .int .i64 0], []⟩ 8 (by kernel_rfl) (by kernel_rfl) (by kernel_rfl) (by kernel_rfl)) ?_
  intro W base args ds gs before hval0 hW hcnd hsz0 _
  have hsz : (DataW.weightsEach Try.prog (Try.f3.params.toList ++ Rows.wireBackSpec.plain.varTypes Try.prog) (ds ++ gs)).all (· ≤ reachBytes) = true := hsz0
  have hval : ∀ (j : Nat) t v, Try.f3.params[j]? = some t → args[j]? = some v → Value.okWide Try.prog W .any base t v := hval0
  have hW' := hW
  obtain ⟨p, q, hA0, hV, rfl, hfz, hnd⟩ := hW
  have hA : DataW.TrodAll enc Try.prog W 0 (fun _ => true) true Try.f3.params.toList args.toList ds p := hA0
  rw [Try.params3] at hA hval hsz
  obtain ⟨v0, vs0, d0, ds0, p0, q0, hargs, rfl, rfl, h0, r0⟩ := trodAll_cons hA
  obtain ⟨v1, vs1, d1, ds1, p1, q1, rfl, rfl, rfl, h1, r1⟩ := trodAll_cons r0
  obtain ⟨rfl, rfl, rfl⟩ := trodAll_nil r1
  obtain rfl : args = #[v0, v1] := by cases args; simp_all
  obtain ⟨rfl, rfl⟩ := trodVars_none hV
  have k0 := h0
  have lt0 : ∀ x ∈ p0, x.block < W.heap.size := by obtain ⟨m, hm⟩ := k0; exact DataW.trod_lt m _ _ _ hm
  obtain ⟨A0, l0, c0, rfl, hc0, hr0, ws0⟩ := open_calls Try.underlying22 (hval 0 22 v0 rfl rfl) h0
  have w0 : ∀ c ∈ l0, (0 ≤ c.f2 ∧ c.f2 < 18446744073709551616) ∧ c.f3.size ≤ 140737488351232 := fun s hs => ⟨(ws0 s hs).1, of_decide_eq_true (List.all_eq_true.1 hsz _ (DataW.weights_mem_each (j := 0) (t := 22) rfl rfl _ (ws0 s hs).2))⟩
  obtain ⟨a1, rfl, rfl, rfl, w1⟩ := open_int Try.underlying3 (hval 1 3 v1 rfl rfl) h1
  clear hA0 hval0 hsz0 hsz
  have h := Pure.WireBack l0 a1 w0 w1
  refine (G.palanquinlaw01_WireBack.calls A0 c0 l0 a1 true W hr0 hc0 h).mono fun e W' ⟨he, bel⟩ => ?_
  subst he
  exact ⟨_, rfl, _, _, _, [], _, [], hW', trodAll_mk1 (shut_bool Try.underlying4 _), (trodAll_cons_mk (Below.trod laidOut (by kernel_rfl) (of_decide_eq_true (by kernel_rfl)) k0 bel lt0) (trodAll_cons_mk (shut_int Try.underlying3 w1) trodAll_mk0)), rfl, bel.frame _, fun h => by cases h⟩
theorem facts : joinedFacts Try.prog 3 Try.f3 Rows.wireBackSpec Rows.wireBackRow = true := by
  unfold joinedFacts
  rw [Head.mayEnter, Head.liftsFinal, Head.make]
  kernel_rfl
theorem named : Try.prog.funcNamed Rows.wireBackRow.func = some 3 := by kernel_rfl
theorem noInstance : Try.f3.isInstance Try.prog Rows.wireBackRow.origin Rows.wireBackRow.targs := of_decide_eq_true (by kernel_rfl)
theorem noWrapper : Try.f3.isWrapper Try.prog Rows.wireBackRow.wrapper Rows.wireBackRow.mainSum := by
  unfold Func.isWrapper
  rw [if_neg (by decide +kernel)]
  exact ⟨rfl, rfl⟩
theorem over : Rows.wireBackRow.holds Try.pinned (OpenSpec.ofChange Rows.wireBackSpec) :=
  OpenClaim.holds_of_wide 3 Try.f3 rfl rfl rfl rfl rfl rfl rfl ⟨rfl, rfl, rfl, rfl, rfl⟩ rfl rfl rfl rfl rfl named Try.func3 facts noInstance noWrapper
    (fun os started H enc _ => lifted os started H enc)
theorem proved : Rows.WireBackSaid := over
#print axioms proved
end Go.Proofs.Yteeljehkphfmdaa.wireBack
namespace Go.Proofs.Yteeljehkphfmdaa
theorem wireBack_holds : Rows.WireBackSaid := wireBack.proved
end Go.Proofs.Yteeljehkphfmdaa
