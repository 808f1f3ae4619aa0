/- The row of the law palanquinlaw06_Ip6Cuts, for every input that fits its parameters' types and weighs at most what a machine holds; no other condition. Laid by rowgen.py of this session. -/
import Derived.Test.YtejmipoolbodgaaRows
import Derived.Test.YtejmipoolbodgaaHead
import Derived.Test.YtejmipoolbodgaaHIp6Cuts
import Derived.Test.YtejmipoolbodgaaUIp6Cuts
import Derived.Test.YtejmipoolbodgaaPRow
import Derived.WalkKit
import Derived.ProofKit
import Derived.OpenShut
import Derived.ShutString
import Derived.ChangeOld
import Derived.Below
import Derived.SizedLaws
namespace Go.Proofs.Ytejmipoolbodgaa.ip6Cuts
open Go.ChangeShapes Go.WideShapes Go.ChangeAt Go.RowKit Go.Proofs.Ytejmipoolbodgaa.Pal
open Go.ChangeMaps (open_string shut_string)
set_option linter.unusedVariables false
theorem own : ownKnob Try.prog.godebug = none := by kernel_rfl
theorem laidOut : laidOutB Try.prog = true := by kernel_rfl
theorem arr6 {cs : Array Value} (h : cs.size = 6) : ∃ x0 x1 x2 x3 x4 x5 : Value, cs = #[x0, x1, x2, x3, x4, x5] := by
  obtain ⟨l⟩ := cs
  match l, h with
  | [x0, x1, x2, x3, x4, x5], _ => exact ⟨x0, x1, x2, x3, x4, x5, rfl⟩
set_option maxHeartbeats 2000000 in
set_option maxRecDepth 100000 in
theorem lifted (os : Os) (started : os.Started) (H : Type) (enc : TypeId × Value → H) :
    ReturnsInHanded {} Try.checked os 25 .any (Rows.ip6CutsSpec.pre6 enc Try.prog Try.f25 Rows.ip6CutsRow.domain false) (Rows.ip6CutsSpec.post enc Try.prog Try.f25 false true false false) := by
  refine returnsInHanded_of_change_sized (C := Try.checked) own started (by kernel_rfl) Try.func25
    (ChangeSpec.witness6 (enc := enc) (C := Try.checked) false ⟨#[], #[(.agg #[.int .i64 0, .int .i64 0, .int .i64 0, .int .i64 0, .string ByteArray.empty, .string ByteArray.empty]), .string ByteArray.empty, .int .u8 0], []⟩ 8 (by kernel_rfl) (by kernel_rfl) (by kernel_rfl) (by kernel_rfl)) ?_
  intro W base args ds gs before hval0 hW hcnd hsz0 _
  have hsz : (DataW.weightsEach Try.prog (Try.f25.params.toList ++ Rows.ip6CutsSpec.plain.varTypes Try.prog) (ds ++ gs)).all (· ≤ reachBytes) = true := hsz0
  have hval : ∀ (j : Nat) t v, Try.f25.params[j]? = some t → args[j]? = some v → Value.okWide Try.prog W .any base t v := hval0
  have hW' := hW
  obtain ⟨p, q, hA0, hV, rfl, hfz, hnd⟩ := hW
  have hA : DataW.TrodAll enc Try.prog W 0 (fun _ => true) true Try.f25.params.toList args.toList ds p := hA0
  rw [Try.params25] at hA hval hsz
  obtain ⟨v0, vs0, d0, ds0, p0, q0, hargs, rfl, rfl, h0, r0⟩ := trodAll_cons hA
  obtain ⟨v1, vs1, d1, ds1, p1, q1, rfl, rfl, rfl, h1, r1⟩ := trodAll_cons r0
  obtain ⟨v2, vs2, d2, ds2, p2, q2, rfl, rfl, rfl, h2, r2⟩ := trodAll_cons r1
  obtain ⟨rfl, rfl, rfl⟩ := trodAll_nil r2
  obtain rfl : args = #[v0, v1, v2] := by cases args; simp_all
  obtain ⟨rfl, rfl⟩ := trodVars_none hV
  have k0 := h0
  have lt0 : ∀ x ∈ p0, x.block < W.heap.size := by obtain ⟨m, hm⟩ := k0; exact DataW.trod_lt m _ _ _ hm
  obtain ⟨cs0, rfl, cz0, hF0⟩ := open_fields Try.underlying114 (by kernel_rfl) (hval 0 114 v0 rfl rfl) h0
  obtain ⟨c0_0, c0_1, c0_2, c0_3, c0_4, c0_5, rfl⟩ := arr6 (cz0.trans (by kernel_rfl))
  obtain ⟨n0_0, y0_0, e0_0⟩ := hF0 0 _ _ rfl rfl
  obtain ⟨a0_0, rfl, w0_0⟩ := leaf_int Try.underlying3 e0_0
  obtain ⟨n0_1, y0_1, e0_1⟩ := hF0 1 _ _ rfl rfl
  obtain ⟨a0_1, rfl, w0_1⟩ := leaf_int Try.underlying3 e0_1
  obtain ⟨n0_2, y0_2, e0_2⟩ := hF0 2 _ _ rfl rfl
  obtain ⟨a0_2, rfl, w0_2⟩ := leaf_int Try.underlying3 e0_2
  obtain ⟨n0_3, y0_3, e0_3⟩ := hF0 3 _ _ rfl rfl
  obtain ⟨a0_3, rfl, w0_3⟩ := leaf_int Try.underlying3 e0_3
  obtain ⟨n0_4, y0_4, e0_4⟩ := hF0 4 _ _ rfl rfl
  obtain ⟨a0_4, rfl, w0_4⟩ := leaf_str Try.underlying9 e0_4
  obtain ⟨n0_5, y0_5, e0_5⟩ := hF0 5 _ _ rfl rfl
  obtain ⟨a0_5, rfl, w0_5⟩ := leaf_str Try.underlying9 e0_5
  obtain ⟨a1, rfl, rfl, rfl, y1⟩ := open_string Try.underlying9 (hval 1 9 v1 rfl rfl) h1
  have w1 : a1.size ≤ 140737488351232 := by
    have z := sized_string hsz (j := 1) (t := 9) rfl rfl
    rw [Array.length_toList] at z
    exact z
  obtain ⟨a2, rfl, rfl, rfl, w2⟩ := open_int Try.underlying5 (hval 2 5 v2 rfl rfl) h2
  clear hA0 hval0 hsz0 hsz
  have h := Pure.Ip6Cuts a0_0 a0_1 a0_2 a0_3 a0_4 a0_5 a1 a2 w0_0 w0_1 w0_2 w0_3 w0_4 w0_5 w1 w2
  refine (G.palanquinlaw06_Ip6Cuts.calls a0_0 a0_1 a0_2 a0_3 a0_4 a0_5 a1 a2 true W  h).mono fun e W' ⟨he, bel⟩ => ?_
  subst he
  exact ⟨_, rfl, _, _, _, [], _, [], hW', trodAll_mk1 (shut_bool Try.underlying4 _), (trodAll_cons_mk (Below.trod laidOut (by kernel_rfl) (of_decide_eq_true (by kernel_rfl)) k0 bel lt0) (trodAll_cons_mk (shut_string Try.underlying9 y1) (trodAll_cons_mk (shut_int Try.underlying5 w2) trodAll_mk0))), rfl, bel.frame _, fun h => by cases h⟩
theorem facts : joinedFacts Try.prog 25 Try.f25 Rows.ip6CutsSpec Rows.ip6CutsRow = true := by
  unfold joinedFacts
  rw [Head.mayEnter, Head.liftsFinal, Head.make]
  kernel_rfl
theorem named : Try.prog.funcNamed Rows.ip6CutsRow.func = some 25 := by kernel_rfl
theorem noInstance : Try.f25.isInstance Try.prog Rows.ip6CutsRow.origin Rows.ip6CutsRow.targs := of_decide_eq_true (by kernel_rfl)
theorem noWrapper : Try.f25.isWrapper Try.prog Rows.ip6CutsRow.wrapper Rows.ip6CutsRow.mainSum := by
  unfold Func.isWrapper
  rw [if_neg (by decide +kernel)]
  exact ⟨rfl, rfl⟩
theorem over : Rows.ip6CutsRow.holds Try.pinned (OpenSpec.ofChange Rows.ip6CutsSpec) :=
  OpenClaim.holds_of_wide 25 Try.f25 rfl rfl rfl rfl rfl rfl rfl ⟨rfl, rfl, rfl, rfl, rfl⟩ rfl rfl rfl rfl rfl named Try.func25 facts noInstance noWrapper
    (fun os started H enc _ => lifted os started H enc)
theorem proved : Rows.Ip6CutsSaid := over
#print axioms proved
end Go.Proofs.Ytejmipoolbodgaa.ip6Cuts
namespace Go.Proofs.Ytejmipoolbodgaa
/-- The row, under a short name, for the claim. -/
theorem ip6Cuts_holds : Rows.Ip6CutsSaid := ip6Cuts.proved
end Go.Proofs.Ytejmipoolbodgaa
