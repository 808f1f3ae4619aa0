/- The row of the law palanquinlaw07_TcpTells, for every input that fits its parameters' types and weighs at most what a machine holds; no other condition. Laid by rowgen.py of this session. -/
import Derived.Test.YtejmipoolbodgaaRows
import Derived.Test.YtejmipoolbodgaaHead
import Derived.Test.YtejmipoolbodgaaMTcpTells11
import Derived.Test.YtejmipoolbodgaaMTcpTells12
import Derived.WalkKit
import Derived.ProofKit
import Derived.OpenShut
import Derived.ShutString
import Derived.ChangeOld
import Derived.Below
import Derived.SizedLaws
namespace Go.Proofs.Ytejmipoolbodgaa.tcpTells
open Go.ChangeShapes Go.WideShapes Go.ChangeAt Go.RowKit Go.Proofs.Ytejmipoolbodgaa.Pal
open Go.ChangeMaps (open_string shut_string)
set_option linter.unusedVariables false
theorem own : ownKnob Try.prog.godebug = none := by kernel_rfl
theorem laidOut : laidOutB Try.prog = true := by kernel_rfl
theorem arr9 {cs : Array Value} (h : cs.size = 9) : ∃ x0 x1 x2 x3 x4 x5 x6 x7 x8 : Value, cs = #[x0, x1, x2, x3, x4, x5, x6, x7, x8] := by
  obtain ⟨l⟩ := cs
  match l, h with
  | [x0, x1, x2, x3, x4, x5, x6, x7, x8], _ => exact ⟨x0, x1, x2, x3, x4, x5, x6, x7, x8, rfl⟩
set_option maxHeartbeats 2000000 in
set_option maxRecDepth 100000 in
theorem lifted (os : Os) (started : os.Started) (H : Type) (enc : TypeId × Value → H) :
    ReturnsInHanded {} Try.checked os 26 .any (Rows.tcpTellsSpec.pre6 enc Try.prog Try.f26 Rows.tcpTellsRow.domain false) (Rows.tcpTellsSpec.post enc Try.prog Try.f26 false true false false) := by
  refine returnsInHanded_of_change_sized (C := Try.checked) own started (by kernel_rfl) Try.func26
    (ChangeSpec.witness6 (enc := enc) (C := Try.checked) false ⟨#[], #[(.agg #[.int .i64 0, .int .i64 0, .int .u32 0, .int .u32 0, .int .i64 0, .int .i64 0, .int .i64 0, .string ByteArray.empty, .string ByteArray.empty]), .int .i64 0, .string ByteArray.empty], []⟩ 8 (by kernel_rfl) (by kernel_rfl) (by kernel_rfl) (by kernel_rfl)) ?_
  intro W base args ds gs before hval0 hW hcnd hsz0 _
  have hsz : (DataW.weightsEach Try.prog (Try.f26.params.toList ++ Rows.tcpTellsSpec.plain.varTypes Try.prog) (ds ++ gs)).all (· ≤ reachBytes) = true := hsz0
  have hval : ∀ (j : Nat) t v, Try.f26.params[j]? = some t → args[j]? = some v → Value.okWide Try.prog W .any base t v := hval0
  have hW' := hW
  obtain ⟨p, q, hA0, hV, rfl, hfz, hnd⟩ := hW
  have hA : DataW.TrodAll enc Try.prog W 0 (fun _ => true) true Try.f26.params.toList args.toList ds p := hA0
  rw [Try.params26] at hA hval hsz
  obtain ⟨v0, vs0, d0, ds0, p0, q0, hargs, rfl, rfl, h0, r0⟩ := trodAll_cons hA
  obtain ⟨v1, vs1, d1, ds1, p1, q1, rfl, rfl, rfl, h1, r1⟩ := trodAll_cons r0
  obtain ⟨v2, vs2, d2, ds2, p2, q2, rfl, rfl, rfl, h2, r2⟩ := trodAll_cons r1
  obtain ⟨rfl, rfl, rfl⟩ := trodAll_nil r2
  obtain rfl : args = #[v0, v1, v2] := by cases args; simp_all
  obtain ⟨rfl, rfl⟩ := trodVars_none hV
  have k0 := h0
  have lt0 : ∀ x ∈ p0, x.block < W.heap.size := by obtain ⟨m, hm⟩ := k0; exact DataW.trod_lt m _ _ _ hm
  obtain ⟨cs0, rfl, cz0, hF0⟩ := open_fields Try.underlying127 (by kernel_rfl) (hval 0 127 v0 rfl rfl) h0
  obtain ⟨c0_0, c0_1, c0_2, c0_3, c0_4, c0_5, c0_6, c0_7, c0_8, rfl⟩ := arr9 (cz0.trans (by kernel_rfl))
  obtain ⟨n0_0, y0_0, e0_0⟩ := hF0 0 _ _ rfl rfl
  obtain ⟨a0_0, rfl, w0_0⟩ := leaf_int Try.underlying3 e0_0
  obtain ⟨n0_1, y0_1, e0_1⟩ := hF0 1 _ _ rfl rfl
  obtain ⟨a0_1, rfl, w0_1⟩ := leaf_int Try.underlying3 e0_1
  obtain ⟨n0_2, y0_2, e0_2⟩ := hF0 2 _ _ rfl rfl
  obtain ⟨a0_2, rfl, w0_2⟩ := leaf_int Try.underlying125 e0_2
  obtain ⟨n0_3, y0_3, e0_3⟩ := hF0 3 _ _ rfl rfl
  obtain ⟨a0_3, rfl, w0_3⟩ := leaf_int Try.underlying125 e0_3
  obtain ⟨n0_4, y0_4, e0_4⟩ := hF0 4 _ _ rfl rfl
  obtain ⟨a0_4, rfl, w0_4⟩ := leaf_int Try.underlying3 e0_4
  obtain ⟨n0_5, y0_5, e0_5⟩ := hF0 5 _ _ rfl rfl
  obtain ⟨a0_5, rfl, w0_5⟩ := leaf_int Try.underlying3 e0_5
  obtain ⟨n0_6, y0_6, e0_6⟩ := hF0 6 _ _ rfl rfl
  obtain ⟨a0_6, rfl, w0_6⟩ := leaf_int Try.underlying3 e0_6
  obtain ⟨n0_7, y0_7, e0_7⟩ := hF0 7 _ _ rfl rfl
  obtain ⟨a0_7, rfl, w0_7⟩ := leaf_str Try.underlying9 e0_7
  obtain ⟨n0_8, y0_8, e0_8⟩ := hF0 8 _ _ rfl rfl
  obtain ⟨a0_8, rfl, w0_8⟩ := leaf_str Try.underlying9 e0_8
  obtain ⟨a1, rfl, rfl, rfl, w1⟩ := open_int Try.underlying3 (hval 1 3 v1 rfl rfl) h1
  obtain ⟨a2, rfl, rfl, rfl, y2⟩ := open_string Try.underlying9 (hval 2 9 v2 rfl rfl) h2
  have w2 : a2.size ≤ 140737488351232 := by
    have z := sized_string hsz (j := 2) (t := 9) rfl rfl
    rw [Array.length_toList] at z
    exact z
  clear hA0 hval0 hsz0 hsz
  obtain ⟨k, h⟩ := Pure.TcpTells a0_0 a0_1 a0_2 a0_3 a0_4 a0_5 a0_6 a0_7 a0_8 a1 a2 w0_0 w0_1 w0_2 w0_3 w0_4 w0_5 w0_6 w0_7 w0_8 w1 w2
  refine (G.palanquinlaw07_TcpTells.calls k a0_0 a0_1 a0_2 a0_3 a0_4 a0_5 a0_6 a0_7 a0_8 a1 a2 true W  h ⟨rfl⟩).mono fun e W' ⟨he, bel⟩ => ?_
  subst he
  exact ⟨_, rfl, _, _, _, [], _, [], hW', trodAll_mk1 (shut_bool Try.underlying4 _), (trodAll_cons_mk (Below.trod laidOut (by kernel_rfl) (of_decide_eq_true (by kernel_rfl)) k0 bel lt0) (trodAll_cons_mk (shut_int Try.underlying3 w1) (trodAll_cons_mk (shut_string Try.underlying9 y2) trodAll_mk0))), rfl, bel.frame _, fun h => by cases h⟩
theorem facts : joinedFacts Try.prog 26 Try.f26 Rows.tcpTellsSpec Rows.tcpTellsRow = true := by
  unfold joinedFacts
  rw [Head.mayEnter, Head.liftsFinal, Head.make]
  kernel_rfl
theorem named : Try.prog.funcNamed Rows.tcpTellsRow.func = some 26 := by kernel_rfl
theorem noInstance : Try.f26.isInstance Try.prog Rows.tcpTellsRow.origin Rows.tcpTellsRow.targs := of_decide_eq_true (by kernel_rfl)
theorem noWrapper : Try.f26.isWrapper Try.prog Rows.tcpTellsRow.wrapper Rows.tcpTellsRow.mainSum := by
  unfold Func.isWrapper
  rw [if_neg (by decide +kernel)]
  exact ⟨rfl, rfl⟩
theorem over : Rows.tcpTellsRow.holds Try.pinned (OpenSpec.ofChange Rows.tcpTellsSpec) :=
  OpenClaim.holds_of_wide 26 Try.f26 rfl rfl rfl rfl rfl rfl rfl ⟨rfl, rfl, rfl, rfl, rfl⟩ rfl rfl rfl rfl rfl named Try.func26 facts noInstance noWrapper
    (fun os started H enc _ => lifted os started H enc)
theorem proved : Rows.TcpTellsSaid := over
#print axioms proved
end Go.Proofs.Ytejmipoolbodgaa.tcpTells
namespace Go.Proofs.Ytejmipoolbodgaa
/-- The row, under a short name, for the claim. -/
theorem tcpTells_holds : Rows.TcpTellsSaid := tcpTells.proved
end Go.Proofs.Ytejmipoolbodgaa
