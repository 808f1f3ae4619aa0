/- Texts of this session, joined: each is a section. -/
import Derived.Test.YtcmalglippmocaaDoorMFtun13
import Derived.Test.YtcmalglippmocaaDoorMFtun15
import Derived.Test.YtcmalglippmocaaDoorMFtun18
import Derived.Test.YtcmalglippmocaaDoorMFtun10
import Derived.Lib.ConvBytes
import Derived.Laws.IdiomStrings
import Derived.RegionTactic
import Derived.WalkLawsBesides
import Derived.Test.YtcmalglippmocaaDoorMFtun1
import Derived.Deep.Fields
import Derived.Deep.Strs
import Derived.WideShapes
import Derived.ChangeArms
import Derived.Test.YtcmalglippmocaaDoorMFtun2
import Derived.Test.YtcmalglippmocaaDoorTie
import Derived.ProofKit
import Derived.LaidMore
import Derived.OpenShut
set_option linter.unusedVariables false
set_option linter.unusedSimpArgs false
section
namespace Go.Proofs.YtcmalglippmocaaDoor.G
open Go.RowKit Go.Proofs.YtcmalglippmocaaDoorW.PrintWords Go.Proofs.YtcmalglippmocaaDoorW.PrintLast Go.Proofs.YtcmalglippmocaaDoorW.PrintMore Go.Proofs.YtcmalglippmocaaDoor.Pal
attribute [local go_sem high] eqT93
def palanquinlaw14_TunnelFields.f (a0_0 : Int) (a0_1 a0_2 : Bool) (a0_3 : Int) (a0_4 : Bool) (a0_5 a0_6 : Int) (a1 a2 : Int) (a3 : Bool) (a4 : Int) (a5 : ByteArray) : Option Bool := if (0 ≤ a0_3 ∧ a0_3 < 4294967296) ∧ (0 ≤ a1 ∧ a1 < 256) ∧ (0 ≤ a2 ∧ a2 < 256) ∧ 0 ≤ a4 ∧ a4 < 65536 then some true else none
theorem awake14f : palanquinlaw14_awake.f = some true := by decide +kernel
set_option maxHeartbeats 8000000 in
set_option maxRecDepth 100000 in
theorem palanquinlaw14_TunnelFields.calls (a0_0 : Int) (a0_1 a0_2 : Bool) (a0_3 : Int) (a0_4 : Bool) (a0_5 a0_6 : Int) (a1 a2 : Int) (a3 : Bool) (a4 : Int) (a5 : ByteArray) (r : Bool) (w : World) (h : palanquinlaw14_TunnelFields.f a0_0 a0_1 a0_2 a0_3 a0_4 a0_5 a0_6 a1 a2 a3 a4 a5 = some r) (hgV_ : GV w) (hgP_ : GP w) :
    Calls Tryd.prog 18 #[.agg (tunV a0_0 a0_1 a0_2 a0_3 a0_4 a0_5 a0_6), .int .u8 a1, .int .u8 a2, .bool a3, .int .u16 a4, .string a5] w fun e w' => e = .returned (.bool r) ∧ Below w.heap.size w w' := by
  have hv : ((0 ≤ a0_3 ∧ a0_3 < 4294967296) ∧ (0 ≤ a1 ∧ a1 < 256) ∧ (0 ≤ a2 ∧ a2 < 256) ∧ 0 ≤ a4 ∧ a4 < 65536) ∧ true = r := by
    unfold palanquinlaw14_TunnelFields.f at h
    by_cases c : (0 ≤ a0_3 ∧ a0_3 < 4294967296) ∧ (0 ≤ a1 ∧ a1 < 256) ∧ (0 ≤ a2 ∧ a2 < 256) ∧ 0 ≤ a4 ∧ a4 < 65536
    · rw [if_pos c] at h; exact ⟨c, Option.some.inj h⟩
    · rw [if_neg c] at h; cases h
  obtain ⟨hv, rfl⟩ := hv
  have hu := Tryd.underlying93
  have hu2 := Tryd.underlying98
  have HVR := Aside0.mk hv
  have HB := Aside0.mk ((Below.refl w.heap.size w).alloc (Nat.le_refl _) (.cells (tunV a0_0 a0_1 a0_2 a0_3 a0_4 a0_5 a0_6) 93))
  have HK := Aside0.mk (Blk.new w 93 (tunV a0_0 a0_1 a0_2 a0_3 a0_4 a0_5 a0_6))
  have HV := Aside0.mk hgV_
  have HW := Aside0.mk hgP_
  clear hgV_ hgP_ h hv
  go_enter Tryd.func18, Tryd.ntmps18
  go_wp2_with fail
  refine (palanquinlaw14_awake.calls true _ awake14f).mono ?_
  rintro e w2 ⟨rfl, g1⟩
  replace HK := Aside0.mk (HK.out.below g1 HK.out.lt)
  replace HB := Aside0.mk (HB.out.trans (g1.mono HB.out.size))
  clear g1
  by_cases hp : 3000 < a5.size
  · have d1 : decide ((3000 : Int) < (a5.size : Int)) = true := decide_eq_true (by omega)
    have d2 : decide (3000 < a5.size) = true := decide_eq_true hp
    clear hp
    go_wp2
    go_ret
    exact ⟨rfl, HB.out⟩
  have d1 : decide ((3000 : Int) < (a5.size : Int)) = false := decide_eq_false (by omega)
  have d2 : decide (3000 < a5.size) = false := decide_eq_false hp
  have HP := Aside0.mk (show a5.size ≤ 3000 by omega)
  clear hp
  go_upto_region 6 with (fail)
  clear d1 d2
  obtain ⟨A, hA⟩ : ∃ A : ByteArray, A = ⟨#[97, 98, 99, 100]⟩ := ⟨_, rfl⟩
  obtain ⟨B, hB⟩ : ∃ B : ByteArray, B = ⟨#[101, 102, 103, 104]⟩ := ⟨_, rfl⟩
  have HAB := Aside0.mk (show A.size = 4 ∧ B.size = 4 by rw [hA, hB]; exact ⟨rfl, rfl⟩)
  rw [← hA, ← hB]
  clear hA hB
  have HY := Aside0.mk (Blk.new w2 98 (wayV A B 0 50000))
  have HN := Aside0.mk (show w.heap.size ≠ w2.heap.size from Nat.ne_of_lt HK.out.lt)
  have HNB := Aside0.mk (show w.heap.size ≤ w2.heap.size from Nat.le_of_lt HK.out.lt)
  replace HK := Aside0.mk (HK.out.alloc (.cells (wayV A B 0 50000) 98))
  replace HB := Aside0.mk (HB.out.alloc HB.out.size (.cells (wayV A B 0 50000) 98))
  generalize w2.alloc (.cells (wayV A B 0 50000) 98) = W at HY HK HB ⊢
  generalize w2.heap.size = g at HY HN HNB ⊢
  have e0 : W.cell? ⟨w.heap.size, 0, none⟩ = some (.int .i64 a0_0) := HK.out.cell 0 _ rfl
  have e1 : W.cell? ⟨w.heap.size, 1, none⟩ = some (.bool a0_1) := HK.out.cell 1 _ rfl
  have e2 : W.cell? ⟨w.heap.size, 2, none⟩ = some (.bool a0_2) := HK.out.cell 2 _ rfl
  have e3 : W.cell? ⟨w.heap.size, 3, none⟩ = some (.int .u32 a0_3) := HK.out.cell 3 _ rfl
  have e4 : W.cell? ⟨w.heap.size, 4, none⟩ = some (.bool a0_4) := HK.out.cell 4 _ rfl
  have e5 : W.cell? ⟨w.heap.size, 5, none⟩ = some (.int .i64 a0_5) := HK.out.cell 5 _ rfl
  have e6 : W.cell? ⟨w.heap.size, 6, none⟩ = some (.int .i64 a0_6) := HK.out.cell 6 _ rfl
  have y0 : W.cell? ⟨g, 0, none⟩ = some (.string A) := HY.out.cell 0 _ rfl
  have y1 : W.cell? ⟨g, 1, none⟩ = some (.string B) := HY.out.cell 1 _ rfl
  have y2 : W.cell? ⟨g, 2, none⟩ = some (.int .i64 0) := HY.out.cell 2 _ rfl
  have y3 : W.cell? ⟨g, 3, none⟩ = some (.int .i64 50000) := HY.out.cell 3 _ rfl
  go_wp2_with fail
  clear e0 e1 e2 e3 e4 e5 e6 y0 y1 y2 y3
  rcases Pure.TN.wrap_cases (m := a0_0) (s := a0_1) (k := a0_2) (v := a0_3) (df := a0_4) (ttl := a0_5) (tos := a0_6) (id := 0) (port := 50000) (src := A) (dst := B) (inner := a5) HVR.out.1 (by have := HP.out; omega) (by have := HAB.out; omega) (by have := HAB.out; omega) with ⟨proto, pay, he, hw, hpay, hz⟩ | ⟨ee, he0, hput⟩
  case inr =>
    refine (tunnel_Wrap.calls _ _ _ _ _ _ _ A B 0 50000 a5 _ _ _ hput (HV.out.below HB.out) (HW.out.below HB.out)).mono ?_
    rintro e w4 ⟨rfl, g1⟩
    replace HB := Aside0.mk (HB.out.trans (g1.mono HB.out.size))
    have k1 : (ee != 0) = true := bne_iff_ne.mpr he0
    clear g1 he0 hput
    go_wp2
    go_ret
    exact ⟨rfl, HB.out⟩
  obtain ⟨x, hput, hxw, hxs, _⟩ := Pure.TN.wrap_ok (df := a0_4) he hw hpay hz
  have he' : tunErr a0_0 a0_1 a0_2 a0_3 a1 a2 = 0 := Pure.TN.err_of (Pure.TN.err_zero he).1 (by have := HVR.out; omega) (Pure.TN.err_zero he).2.2
  have hw' : tunWayOk A B a4 50000 := ⟨HAB.out.1, HAB.out.2, by have := HVR.out; omega, by omega⟩
  obtain ⟨y, hput2, hyw, hys, -, -, hun⟩ := Pure.TN.wrap_ok (df := a3) he' hw' hpay hz
  generalize (if a0_0 = 3 then (50000 : Int) else 0) = pt at hun
  have HQ := Aside0.mk (Pure.TN.wr_same HAB.out.1 HAB.out.2 hxw hyw)
  have HS := Aside0.mk (show x.size = y.size ∧ 20 ≤ y.size by omega)
  have HPut2 := Aside0.mk hput2
  have HUn := Aside0.mk hun
  refine (tunnel_Wrap.calls _ _ _ _ _ _ _ A B 0 50000 a5 x 0 _ hput (HV.out.below HB.out) (HW.out.below HB.out)).mono ?_
  clear hput hput2 hxw hyw hxs hys hun he he' hw hw' hpay hz
  rintro e w4 ⟨rfl, g1⟩
  replace HK := Aside0.mk (HK.out.below g1 HK.out.lt)
  replace HY := Aside0.mk (HY.out.below g1 HY.out.lt)
  replace HB := Aside0.mk (HB.out.trans (g1.mono HB.out.size))
  clear g1
  have u1 : wrap64 a1 = a1 := by unfold wrap64; have := HVR.out; omega
  have u2 : wrap64 a2 = a2 := by unfold wrap64; have := HVR.out; omega
  have u4 : wrap64 a4 = a4 := by unfold wrap64; have := HVR.out; omega
  have p4 : w4.cell? ⟨w.heap.size, 4, none⟩ = some (.bool a0_4) := HK.out.cell 4 _ rfl
  have p5 : w4.cell? ⟨w.heap.size, 5, none⟩ = some (.int .i64 a0_5) := HK.out.cell 5 _ rfl
  have p6 : w4.cell? ⟨w.heap.size, 6, none⟩ = some (.int .i64 a0_6) := HK.out.cell 6 _ rfl
  have f4 := HK.out.free 4
  have f5 := HK.out.free 5
  have f6 := HK.out.free 6
  have y2 : w4.cell? ⟨g, 2, none⟩ = some (.int .i64 0) := HY.out.cell 2 _ rfl
  have z2 := HY.out.free 2
  have n1 := HN.out
  have n2 : ¬ g = w.heap.size := fun h => HN.out h.symm
  go_upto_region 11 with (fail)
  replace HK := Aside0.mk (show Blk ((((w4.setCell ⟨w.heap.size, 5, none⟩ (.int .i64 a1)).setCell ⟨w.heap.size, 6, none⟩ (.int .i64 a2)).setCell ⟨w.heap.size, 4, none⟩ (.bool a3)).setCell ⟨g, 2, none⟩ (.int .i64 a4)) w.heap.size 93 (tunV a0_0 a0_1 a0_2 a0_3 a3 a1 a2) from ((((HK.out.set 5 (.int .i64 a1)).set 6 (.int .i64 a2)).set 4 (.bool a3)).other ⟨g, 2, none⟩ HN.out (.int .i64 a4)))
  replace HY := Aside0.mk (show Blk ((((w4.setCell ⟨w.heap.size, 5, none⟩ (.int .i64 a1)).setCell ⟨w.heap.size, 6, none⟩ (.int .i64 a2)).setCell ⟨w.heap.size, 4, none⟩ (.bool a3)).setCell ⟨g, 2, none⟩ (.int .i64 a4)) g 98 (wayV A B a4 50000) from ((((HY.out.other ⟨w.heap.size, 5, none⟩ n2 (.int .i64 a1)).other ⟨w.heap.size, 6, none⟩ n2 (.int .i64 a2)).other ⟨w.heap.size, 4, none⟩ n2 (.bool a3)).set 2 (.int .i64 a4)))
  replace HB := Aside0.mk ((((HB.out.setCell (p := ⟨w.heap.size, 5, none⟩) (Nat.le_refl _) (.int .i64 a1)).setCell (p := ⟨w.heap.size, 6, none⟩) (Nat.le_refl _) (.int .i64 a2)).setCell (p := ⟨w.heap.size, 4, none⟩) (Nat.le_refl _) (.bool a3)).setCell (p := ⟨g, 2, none⟩) HNB.out (.int .i64 a4))
  clear p4 p5 p6 f4 f5 f6 y2 z2 n1 n2
  generalize (((w4.setCell ⟨w.heap.size, 5, none⟩ (.int .i64 a1)).setCell ⟨w.heap.size, 6, none⟩ (.int .i64 a2)).setCell ⟨w.heap.size, 4, none⟩ (.bool a3)).setCell ⟨g, 2, none⟩ (.int .i64 a4) = V at HK HY HB ⊢
  have e0 : V.cell? ⟨w.heap.size, 0, none⟩ = some (.int .i64 a0_0) := HK.out.cell 0 _ rfl
  have e1 : V.cell? ⟨w.heap.size, 1, none⟩ = some (.bool a0_1) := HK.out.cell 1 _ rfl
  have e2 : V.cell? ⟨w.heap.size, 2, none⟩ = some (.bool a0_2) := HK.out.cell 2 _ rfl
  have e3 : V.cell? ⟨w.heap.size, 3, none⟩ = some (.int .u32 a0_3) := HK.out.cell 3 _ rfl
  have e4 : V.cell? ⟨w.heap.size, 4, none⟩ = some (.bool a3) := HK.out.cell 4 _ rfl
  have e5 : V.cell? ⟨w.heap.size, 5, none⟩ = some (.int .i64 a1) := HK.out.cell 5 _ rfl
  have e6 : V.cell? ⟨w.heap.size, 6, none⟩ = some (.int .i64 a2) := HK.out.cell 6 _ rfl
  have y0 : V.cell? ⟨g, 0, none⟩ = some (.string A) := HY.out.cell 0 _ rfl
  have y1 : V.cell? ⟨g, 1, none⟩ = some (.string B) := HY.out.cell 1 _ rfl
  have y2 : V.cell? ⟨g, 2, none⟩ = some (.int .i64 a4) := HY.out.cell 2 _ rfl
  have y3 : V.cell? ⟨g, 3, none⟩ = some (.int .i64 50000) := HY.out.cell 3 _ rfl
  go_wp2_with fail
  clear e0 e1 e2 e3 e4 e5 e6 y0 y1 y2 y3
  refine (tunnel_Wrap.calls _ _ _ _ _ _ _ A B a4 50000 a5 y 0 _ HPut2.out (HV.out.below HB.out) (HW.out.below HB.out)).mono ?_
  rintro e w5 ⟨rfl, g1⟩
  replace HK := Aside0.mk (HK.out.below g1 HK.out.lt)
  replace HB := Aside0.mk (HB.out.trans (g1.mono HB.out.size))
  clear g1
  go_upto_region 12 with (fail)
  obtain ⟨q1, q2, q3, q4, q5⟩ := HQ.out
  have s1 : (x.size : Int) = (y.size : Int) := by have := HS.out.1; omega
  have s2 : x.size = y.size := HS.out.1
  rw [s2] at q5
  have b1 : (20 : Int) ≤ (y.size : Int) := by have := HS.out.2; omega
  have b2 : 20 ≤ y.size := HS.out.2
  have b3 : (10 : Int) ≤ (y.size : Int) := by omega
  have b4 : (4 : Int) ≤ (y.size : Int) := by omega
  have b5 : (1 : Int) ≤ (y.size : Int) := by omega
  have b6 : 10 ≤ y.size := by omega
  have b7 : 4 ≤ y.size := by omega
  have b8 : 1 ≤ y.size := by omega
  go_quiet (fail)
  clear q1 q2 q3 q4 q5 s1 s2 b1 b2 b3 b4 b5 b6 b7 b8
  replace HK := Aside0.mk (HK.out.drewN nq)
  replace HB := Aside0.mk (pw_below_drewN HB.out nq)
  generalize w5.drewN nq = w6 at HK HB ⊢
  go_wp2_with fail
  refine (tunnel_Unwrap.calls y _ _ _ _ _ _ _ _ _ _ _ _ _ _ HUn.out (HV.out.below HB.out)).mono ?_
  rintro e w9 ⟨rfl, g1⟩
  replace HK := Aside0.mk (HK.out.below g1 HK.out.lt)
  replace HB := Aside0.mk (HB.out.trans (g1.mono HB.out.size))
  clear g1
  have e0 : w9.cell? ⟨w.heap.size, 0, none⟩ = some (.int .i64 a0_0) := HK.out.cell 0 _ rfl
  have e1 : w9.cell? ⟨w.heap.size, 1, none⟩ = some (.bool a0_1) := HK.out.cell 1 _ rfl
  have e2 : w9.cell? ⟨w.heap.size, 2, none⟩ = some (.bool a0_2) := HK.out.cell 2 _ rfl
  have e3 : w9.cell? ⟨w.heap.size, 3, none⟩ = some (.int .u32 a0_3) := HK.out.cell 3 _ rfl
  have e4 : w9.cell? ⟨w.heap.size, 4, none⟩ = some (.bool a3) := HK.out.cell 4 _ rfl
  have e5 : w9.cell? ⟨w.heap.size, 5, none⟩ = some (.int .i64 a1) := HK.out.cell 5 _ rfl
  have e6 : w9.cell? ⟨w.heap.size, 6, none⟩ = some (.int .i64 a2) := HK.out.cell 6 _ rfl
  have hlt := HK.out.lt
  have hne : ¬ w.heap.size = w9.heap.size := Nat.ne_of_lt HK.out.lt
  have hlt2 : w.heap.size < w9.heap.size + 1 := by omega
  have hne2 : ¬ w.heap.size = w9.heap.size + 1 := by omega
  go_wp2
  go_ret
  exact ⟨rfl, (HB.out.alloc HB.out.size _).alloc (by have := HB.out.size; simp; omega) _⟩
end Go.Proofs.YtcmalglippmocaaDoor.G
end

section
namespace Go.Proofs.YtcmalglippmocaaDoor.Pure
open Go.RowKit Go.Proofs.YtcmalglippmocaaDoorW.PrintWords Go.Proofs.YtcmalglippmocaaDoorW.PrintLast Go.Proofs.YtcmalglippmocaaDoor.G Go.Proofs.YtcmalglippmocaaDoor.Pal
theorem TunnelFields (m : Int) (s k : Bool) (v : Int) (df : Bool) (ttl tos : Int) (a1 a2 : Int) (a3 : Bool) (a4 : Int) (inner : ByteArray) (_ : (Lit.int .i64 m).wf = true) (wv : (Lit.int .u32 v).wf = true) (_ : (Lit.int .i64 ttl).wf = true) (_ : (Lit.int .i64 tos).wf = true) (w1 : (Lit.int .u8 a1).wf = true) (w2 : (Lit.int .u8 a2).wf = true) (w4 : (Lit.int .u16 a4).wf = true) (_ : inner.size ≤ 140737488351232) :
    palanquinlaw14_TunnelFields.f m s k v df ttl tos a1 a2 a3 a4 inner = some true := if_pos (by simp [Lit.wf, IntKind.min, IntKind.max, IntKind.signed, IntKind.bits] at wv w1 w2 w4; omega)
end Go.Proofs.YtcmalglippmocaaDoor.Pure
end

section
namespace Go.Proofs.YtcmalglippmocaaDoor.Pal
open Go.RowKit Go.ChangeShapes Go.WideShapes Go.Deep Go.Proofs.YtcmalglippmocaaDoorW.PrintWords
section
variable {H : Type} {enc : TypeId × Value → H} {P : Program} {w : World} {base : Nat} {spare : Nat → Bool} {held : Bool}
theorem open_fields {r : Reach} {b0 : Nat} {t : TypeId} {fs : Array Field} {v : Value} {d : DataW H} {p : List MemPlace} (hs : P.underlying t = some (.struct fs)) (hone : oneCellFields P fs = true)
    (hv : Value.okWide P w r b0 t v) (h : DataW.Trod enc P w base spare held t v d p) :
    ∃ (cs : Array Value), v = .agg cs ∧ cs.size = P.cellsOf t ∧ ∀ (j : Nat) (f : Field) (c : Value), fs[j]? = some f → cs[j]? = some c → ∃ (n : Nat) (y : DataW H × List MemPlace), DataW.trod enc P w base spare held n f.type [c] = some y := by
  obtain ⟨cs, rfl, hsz⟩ := okWide_struct hs hv
  obtain ⟨fuel, hf⟩ := h
  obtain ⟨xs, n, _, _, _, hlen, hF⟩ := DataW.trod_struct hs hf
  refine ⟨cs, rfl, hsz, fun j f c hj hc => ?_⟩
  obtain ⟨o0, k0⟩ := hone_of hone j f hj
  have hj' : j < xs.length := by rw [hlen]; exact (Array.getElem?_eq_some_iff.1 hj).1
  refine ⟨n, xs[j], ?_⟩
  have e := hF j f hj
  rw [o0, k0, List.getElem?_eq_getElem hj'] at e
  have hc' : (Value.cells (.agg cs)).toList.drop j = c :: (Value.cells (.agg cs)).toList.drop (j + 1) := by
    obtain ⟨hlt, rfl⟩ := Array.getElem?_eq_some_iff.1 hc
    show cs.toList.drop j = cs[j] :: cs.toList.drop (j + 1)
    rw [List.drop_eq_getElem_cons (by simpa using hlt), Array.getElem_toList]
  rw [hc'] at e
  simpa using e
theorem leaf_int {n : Nat} {t : TypeId} {k : IntKind} {c : Value} {y : DataW H × List MemPlace} (ht : P.underlying t = some (.int k)) (h : DataW.trod enc P w base spare held n t [c] = some y) : ∃ a, c = .int k a ∧ (Lit.int k a).wf = true := by
  obtain ⟨a, e1, _, h2⟩ := DataW.trod_int ht h
  exact ⟨a, by simpa using e1, h2⟩
theorem leaf_str {n : Nat} {t : TypeId} {c : Value} {y : DataW H × List MemPlace} (ht : P.underlying t = some .string) (h : DataW.trod enc P w base spare held n t [c] = some y) : ∃ a : ByteArray, c = .string a ∧ a.size ≤ maxLen := by
  obtain ⟨a, e1, _, h2⟩ := DataW.trod_string ht h
  exact ⟨a, by simpa using e1, h2⟩
theorem leaf_bool {n : Nat} {t : TypeId} {c : Value} {y : DataW H × List MemPlace} (ht : P.underlying t = some .bool) (h : DataW.trod enc P w base spare held n t [c] = some y) : ∃ a : Bool, c = .bool a := by
  obtain ⟨a, e1, _⟩ := DataW.trod_bool ht h
  exact ⟨a, by simpa using e1⟩
end
end Go.Proofs.YtcmalglippmocaaDoor.Pal
end

section
namespace Go.Proofs.YtcmalglippmocaaDoor.Pal
open Go.ChangeShapes Go.WideShapes Go.ChangeAt Go.WideElems Go.RowKit Go.Proofs.YtcmalglippmocaaDoor.G
set_option maxRecDepth 100000
section
variable {H : Type} {enc : TypeId × Value → H} {P : Program} {w : World} {base : Nat} {spare : Nat → Bool} {held : Bool}
theorem pair_cells {n : Nat} {t e : TypeId} {cs : List Value} {a b : Int} {p : List MemPlace} (ht : P.underlying t = some (.array 2 e)) (he : P.underlying e = some (.int .i64)) (hc : P.cellsOf e = 1) (hz : P.cellsOf t = 2)
    (h : DataW.trod enc P w base spare held n t cs = some (.agg [.lit (.int .i64 a), .lit (.int .i64 b)], p)) : cs = [.int .i64 a, .int .i64 b] := by
  obtain ⟨xs, m, _, hx, hl, hlen, hel⟩ := DataW.trod_array ht h
  have h0 := hel 0 (by decide)
  have h1 := hel 1 (by decide)
  rw [hc] at h0 h1
  rw [hz] at hl
  match cs, hl with
  | [c0, c1], _ =>
    match xs, hlen with
    | [y0, y1], _ =>
      obtain ⟨k0, e0, x0, _⟩ := DataW.trod_int he (x := y0) (by simpa using h0)
      obtain ⟨k1, e1, x1, _⟩ := DataW.trod_int he (x := y1) (by simpa using h1)
      simp only [Prod.mk.injEq, x0, x1, List.map_cons, List.map_nil, DataW.agg.injEq, List.cons.injEq, DataW.lit.injEq, Lit.int.injEq, true_and, and_true] at hx
      obtain ⟨⟨rfl, rfl⟩, _⟩ := hx
      simp at e0 e1
      rw [e0, e1]
end
section
variable {H : Type} {enc : TypeId × Value → H} {w : World} {base : Nat} {spare : Nat → Bool} {held : Bool}
theorem ver_fields : ∃ f0 f1 f2 : Field, Tryd.prog.underlying 107 = some (.struct #[f0, f1, f2]) ∧ (f0.offset = 0 ∧ f1.offset = 1 ∧ f2.offset = 2) ∧ (Tryd.prog.cellsOf f0.type = 1 ∧ Tryd.prog.cellsOf f1.type = 1 ∧ Tryd.prog.cellsOf f2.type = 1) ∧ Tryd.prog.underlying f0.type = some (.int .i64) ∧ Tryd.prog.underlying f1.type = some (.int .i64) ∧ Tryd.prog.underlying f2.type = some (.int .i64) :=
  ⟨_, _, _, Tryd.underlying107, ⟨rfl, rfl, rfl⟩, ⟨by kernel_rfl, by kernel_rfl, by kernel_rfl⟩, by kernel_rfl, by kernel_rfl, by kernel_rfl⟩
theorem ver_row {n : Nat} {cs : List Value} {a b c : Int} {p : List MemPlace} (h : DataW.trod enc Tryd.prog w base spare held n 107 cs = some (.agg [.lit (.int .i64 a), .lit (.int .i64 b), .lit (.int .i64 c)], p)) : cs = [.int .i64 a, .int .i64 b, .int .i64 c] := by
  obtain ⟨f0, f1, f2, hs, ⟨o0, o1, o2⟩, ⟨z0, z1, z2⟩, t0, t1, t2⟩ := ver_fields
  obtain ⟨xs, m, _, hx, hl, hlen, hF⟩ := DataW.trod_struct hs h
  rw [show Tryd.prog.cellsOf 107 = 3 by kernel_rfl] at hl
  have e0 := hF 0 f0 rfl
  have e1 := hF 1 f1 rfl
  have e2 := hF 2 f2 rfl
  rw [o0, z0] at e0
  rw [o1, z1] at e1
  rw [o2, z2] at e2
  match cs, hl with
  | [c0, c1, c2], _ =>
    match xs, hlen with
    | [y0, y1, y2], _ =>
      obtain ⟨k0, q0, x0, _⟩ := DataW.trod_int t0 (x := y0) (by simpa using e0)
      obtain ⟨k1, q1, x1, _⟩ := DataW.trod_int t1 (x := y1) (by simpa using e1)
      obtain ⟨k2, q2, x2, _⟩ := DataW.trod_int t2 (x := y2) (by simpa using e2)
      simp only [Prod.mk.injEq, x0, x1, x2, List.map_cons, List.map_nil, DataW.agg.injEq, List.cons.injEq, DataW.lit.injEq, Lit.int.injEq, true_and, and_true] at hx
      obtain ⟨⟨rfl, rfl, rfl⟩, _⟩ := hx
      simp at q0 q1 q2
      rw [q0, q1, q2]
theorem ver_rows {n : Nat} {cs : List Value} {p : List MemPlace} (h : DataW.trod enc Tryd.prog w base spare held n 110 cs = some (Rows.laid_palanquin_ipip_versions, p)) : cs = [.int .i64 4, .int .i64 4, .int .i64 2048, .int .i64 6, .int .i64 41, .int .i64 34525] := by
  obtain ⟨xs, m, _, hx, hl, hlen, hel⟩ := DataW.trod_array Tryd.underlying110 h
  have h0 := hel 0 (by decide)
  have h1 := hel 1 (by decide)
  rw [show Tryd.prog.cellsOf 107 = 3 by kernel_rfl] at h0 h1
  rw [show Tryd.prog.cellsOf 110 = 6 by kernel_rfl] at hl
  match cs, hl with
  | [c0, c1, c2, c3, c4, c5], _ =>
    match xs, hlen with
    | [(d0, p0), (d1, p1)], _ =>
      simp only [Rows.laid_palanquin_ipip_versions, Prod.mk.injEq, List.map_cons, List.map_nil, DataW.agg.injEq, List.cons.injEq, and_true] at hx
      obtain ⟨⟨rfl, rfl⟩, _⟩ := hx
      have e0 := ver_row (p := p0) (by simpa using h0)
      have e1 := ver_row (p := p1) (by simpa using h1)
      simp at e0 e1
      obtain ⟨rfl, rfl, rfl⟩ := e0
      obtain ⟨rfl, rfl, rfl⟩ := e1
      rfl
end
theorem tab_of {W : World} {n : String} {g : Nat} {cs : Array Value} {l : List Int} (hg : Tryd.prog.globalNamed n = some g) (hv : W.var? Tryd.prog n = some cs) (hcs : cs.toList = l.map (Value.int .i64)) : TabAt W g l := fun j x hj => by
  rw [World.var?_cell hg hv j, ← Array.getElem?_toList, hcs, List.getElem?_map, hj]
  rfl
theorem gv_of {W : World} {g t : Nat} {cs : Array Value} {f : Nat} {p : List MemPlace} (hg : Tryd.prog.globalNamed "palanquin/ipip.versions" = some g) (ht : (Tryd.prog.globals[g]?).map (·.type) = some t) (hv : W.var? Tryd.prog "palanquin/ipip.versions" = some cs)
    (hd : DataW.trod (fun _ => ()) Tryd.prog W 0 (fun _ => true) false f t cs.toList = some (Rows.laid_palanquin_ipip_versions, p)) : GV W := by
  obtain rfl := Option.some.inj ((show Tryd.prog.globalNamed "palanquin/ipip.versions" = some 0 by kernel_rfl).symm.trans hg)
  obtain rfl := Option.some.inj ((show (Tryd.prog.globals[0]?).map (·.type) = some 110 by kernel_rfl).symm.trans ht)
  exact tab_of hg hv (ver_rows hd)
theorem places_rows {H : Type} {enc : TypeId × Value → H} {w : World} {base : Nat} {spare : Nat → Bool} {held : Bool} {n : Nat} {cs : List Value} {p : List MemPlace} (h : DataW.trod enc Tryd.prog w base spare held n 135 cs = some (Rows.laid_palanquin_flow_places, p)) : cs = [.int .i64 6, .int .i64 16, .int .i64 17, .int .i64 6] := by
  obtain ⟨xs, m, _, hx, hl, hlen, hel⟩ := DataW.trod_array Tryd.underlying135 h
  have h0 := hel 0 (by decide)
  have h1 := hel 1 (by decide)
  rw [show Tryd.prog.cellsOf 134 = 2 by kernel_rfl] at h0 h1
  rw [show Tryd.prog.cellsOf 135 = 4 by kernel_rfl] at hl
  match cs, hl with
  | [c0, c1, c2, c3], _ =>
    match xs, hlen with
    | [(d0, p0), (d1, p1)], _ =>
      simp only [Rows.laid_palanquin_flow_places, Prod.mk.injEq, List.map_cons, List.map_nil, DataW.agg.injEq, List.cons.injEq, and_true] at hx
      obtain ⟨⟨rfl, rfl⟩, _⟩ := hx
      have e0 := pair_cells (p := p0) Tryd.underlying134 (by kernel_rfl) (by kernel_rfl) (by kernel_rfl) (by simpa using h0)
      have e1 := pair_cells (p := p1) Tryd.underlying134 (by kernel_rfl) (by kernel_rfl) (by kernel_rfl) (by simpa using h1)
      simp at e0 e1
      obtain ⟨rfl, rfl⟩ := e0
      obtain ⟨rfl, rfl⟩ := e1
      rfl
theorem laid_gp {W : World} (h : laidMetH Tryd.prog [("palanquin/ipip.versions", Rows.laid_palanquin_ipip_versions), ("palanquin/flow.places", Rows.laid_palanquin_flow_places), ("palanquin/flow.least", Rows.laid_palanquin_flow_least)] W) : GV W ∧ GP W := by
  rw [MakeChecks.laidMetH_plain _ _ _ (by kernel_rfl)] at h
  obtain ⟨ps, ⟨g0, t0, cs0, f0, p0, q0, hg0, ht0, hv0, hd0, ⟨g1, t1, cs1, f1, p1, q1, hg1, ht1, hv1, hd1, ⟨g2, t2, cs2, f2, p2, q2, hg2, ht2, hv2, hd2, _, _⟩, _⟩, _⟩, _, _⟩ := h
  refine ⟨gv_of hg0 ht0 hv0 hd0, ?_, ?_⟩
  · obtain rfl := Option.some.inj ((show Tryd.prog.globalNamed "palanquin/flow.places" = some 1 by kernel_rfl).symm.trans hg1)
    obtain rfl := Option.some.inj ((show (Tryd.prog.globals[1]?).map (·.type) = some 135 by kernel_rfl).symm.trans ht1)
    exact tab_of hg1 hv1 (places_rows hd1)
  · obtain rfl := Option.some.inj ((show Tryd.prog.globalNamed "palanquin/flow.least" = some 2 by kernel_rfl).symm.trans hg2)
    obtain rfl := Option.some.inj ((show (Tryd.prog.globals[2]?).map (·.type) = some 134 by kernel_rfl).symm.trans ht2)
    exact tab_of hg2 hv2 (pair_cells Tryd.underlying134 (by kernel_rfl) (by kernel_rfl) (by kernel_rfl) hd2)
end Go.Proofs.YtcmalglippmocaaDoor.Pal
end
