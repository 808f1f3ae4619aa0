/- Texts of this session, joined: each is a section. -/
import Derived.Test.YtcmalglippmocaaDoorMFtun12
import Derived.Test.YtcmalglippmocaaDoorMFtun17
import Derived.Laws.Tables
import Derived.Deep.RegionHeld3
set_option linter.unusedVariables false
set_option linter.unusedSimpArgs false
section
namespace Go.Proofs.YtcmalglippmocaaDoor.G
open Go.RowKit Go.Proofs.YtcmalglippmocaaDoorW.PrintWords Go.Proofs.YtcmalglippmocaaDoorW.PrintLast Go.Proofs.YtcmalglippmocaaDoorW.PrintMore Go.Proofs.YtcmalglippmocaaDoor.Pal
theorem results_cctt {P : Program} {fn : Func} {p q t u : Tmp} {ty tz : TypeId} (h : fn.results = #[.cell p ty, .cell q tz, .tmp t, .tmp u]) (tmps : Array Value) (w : World) (k l : Nat) (cs ds : Array Value) (d f : TypeDesc)
    (hp : tmps.getD p undef = .pointer (some ⟨k, 0, none⟩)) (hb : Blk w k ty cs) (hu : P.underlying ty = some d) (hd : (match d with | .struct _ | .array _ _ => true | _ => false) = true) (hi : (P.info? ty).map (·.size) = some cs.size)
    (hp2 : tmps.getD q undef = .pointer (some ⟨l, 0, none⟩)) (hb2 : Blk w l tz ds) (hu2 : P.underlying tz = some f) (hd2 : (match f with | .struct _ | .array _ _ => true | _ => false) = true) (hi2 : (P.info? tz).map (·.size) = some ds.size) :
    (results fn tmps).run P w = .ok (.tuple #[.agg cs, .agg ds, tmps.getD t undef, tmps.getD u undef]) w := by
  have hp' : tmps[p]?.getD undef = .pointer (some ⟨k, 0, none⟩) := by simpa using hp
  have hp2' : tmps[q]?.getD undef = .pointer (some ⟨l, 0, none⟩) := by simpa using hp2
  simp [results, h, hp', hp2', asAddr, run_loadVar_row w k ty ty cs (0, 0) d hb hu hd hi, run_loadVar_row w l tz tz ds (0, 0) f hb2 hu2 hd2 hi2]
theorem wpList_store_blk {P : Program} {ops : Array Oper} {rest : List Oper} {o : Oper} {a : Act} {w : World} {Q : Exit → Act → World → Prop} (hgd : o.guard = none) (ty : TypeId) (x y : Operand) (ho : o.op = .store ty x y)
    (g : Nat) (cells : Array Value) (hx : a.eval x = .pointer (some ⟨g, 0, none⟩)) (hy : a.eval y = .agg cells) (t : TypeId) (old : Array Value) (hb : Blk w g t old) (hi : (P.info? ty).map (·.size) = some cells.size) (hold : old.size = cells.size) (h1 : cells.all (·.oneCell') = true)
    (h : ∀ w', Blk w' g t cells → w.grownBy w' (some g) → wpList P ops Q rest (a.put o.dst undef) w') : wpList P ops Q (o :: rest) a w :=
  wpList_store_row hgd ty x y ho g cells hx hy t old hb hi hold h1 (h _ (setRow_heap w g old cells t (0, 0) hb) ⟨rfl, rfl, rfl, by simp [World.setRow], fun i _ hi => setRow_other w g i cells (fun e => hi (by rw [e]))⟩)
theorem wpList_load_blk {P : Program} {ops : Array Oper} {rest : List Oper} {o : Oper} {a : Act} {w : World} {Q : Exit → Act → World → Prop} (hgd : o.guard = none) (ty : TypeId) (x : Operand) (ho : o.op = .load ty x)
    (g : Nat) (hx : a.eval x = .pointer (some ⟨g, 0, none⟩)) (t : TypeId) (cs : Array Value) (d : TypeDesc) (hg : Blk w g t cs) (hu : P.underlying ty = some d) (hd : (match d with | .struct _ | .array _ _ => true | _ => false) = true) (hi : (P.info? ty).map (·.size) = some cs.size)
    (h : wpList P ops Q rest (a.put o.dst (.agg cs)) w) : wpList P ops Q (o :: rest) a w :=
  wpList_load_row hgd ty x ho g hx t cs (0, 0) d hg hu hd hi h
theorem wp_store_blk {P : Program} {o : Oper} {a : Act} {w : World} {K : Act → World → Prop} {Q : Exit → Act → World → Prop} (ty : TypeId) (x y : Operand) (ho : o.op = .store ty x y)
    (g : Nat) (cells : Array Value) (hx : a.eval x = .pointer (some ⟨g, 0, none⟩)) (hy : a.eval y = .agg cells) (t : TypeId) (old : Array Value) (hb : Blk w g t old) (hi : (P.info? ty).map (·.size) = some cells.size) (hold : old.size = cells.size) (h1 : cells.all (·.oneCell') = true)
    (h : ∀ w', Blk w' g t cells → w.grownBy w' (some g) → K (a.put o.dst undef) w') : Oper.wp P o a w K Q :=
  wp_store_row ty x y ho g cells hx hy t old hb hi hold h1 (h _ (setRow_heap w g old cells t (0, 0) hb) ⟨rfl, rfl, rfl, by simp [World.setRow], fun i _ hi => setRow_other w g i cells (fun e => hi (by rw [e]))⟩)
theorem yieldsIf_load_blk {P : Program} {ops : Array Oper} {S : World → Prop} {o : Oper} {a : Act} (hw : Region.wanted o (yielded ops a.tmps) = true) (ty : TypeId) (x : Operand) (ho : o.op = .load ty x)
    (g : Nat) (hx : a.eval x = .pointer (some ⟨g, 0, none⟩)) {t : TypeId} {cs : Array Value} (hS : ∀ w, S w → Blk w g t cs) {d : TypeDesc} (hu : P.underlying ty = some d) (hd : (match d with | .struct _ | .array _ _ => true | _ => false) = true) (hi : (P.info? ty).map (·.size) = some cs.size) : YieldsIf P ops S o (.agg cs) a :=
  .inl ⟨hw, fun w hw' => by
    unfold execOp
    simp only [ho, hx, Instr.loadAt, Instr.sureAddr, Sem.run_bind, Sem.run_pure, Result.andThen_ok, run_loadVar_row w g t ty cs (0, 0) d (hS w hw') hu hd hi]⟩
set_option maxHeartbeats 16000000
set_option maxRecDepth 100000
def UW (k g : Nat) (hd : Array Value) (w w1 : World) : Prop :=
  Hp w1 [(k, 93, tunV 0 false false 0 false 0 0), (k + 1, 98, wayV ⟨#[]⟩ ⟨#[]⟩ 0 0), (g, 69, hd)] ∧ Below k w w1 ∧ w.heap.size = k ∧ k + 2 ≤ g
theorem UW.below {k g : Nat} {hd : Array Value} {w w1 w2 : World} (h : UW k g hd w w1) (hb : Below w1.heap.size w1 w2) : UW k g hd w w2 :=
  ⟨h.1.below hb (fun x hx => (h.1 x hx).lt), h.2.1.trans (hb.mono (by have := h.1.head.lt; omega)), h.2.2⟩
theorem UW.alloc {k g : Nat} {hd : Array Value} {w w1 : World} (h : UW k g hd w w1) (o : Obj) : UW k g hd w (w1.alloc o) := h.below ((Below.refl _ _).alloc (Nat.le_refl _) o)
theorem tunnel_Unwrap.calls (p : ByteArray) (r1 : Int) (r2 r3 : Bool) (r4 : Int) (r5 : Bool) (r6 r7 : Int) (r8 r9 : ByteArray) (r10 r11 : Int) (r12 : ByteArray) (r13 : Int) (w : World) (h : tunnel_Unwrap.f p = some (r1, r2, r3, r4, r5, r6, r7, r8, r9, r10, r11, r12, r13)) (hV : GV w) :
    Calls Tryd.prog 55 #[.string p] w fun e w' => e = .returned (.tuple #[.agg (tunV r1 r2 r3 r4 r5 r6 r7), .agg (wayV r8 r9 r10 r11), .string r12, .int .i64 r13]) ∧ Below w.heap.size w w' := by
  unfold tunnel_Unwrap.f at h
  obtain ⟨⟨a1, a2, a3, a4, a5, a6, a7, a8, a9, a10, a11, a12⟩, hget, h⟩ := Option.bind_eq_some_iff.mp h
  dsimp +instances only at h
  have H := Aside0.mk h
  have HG := Aside0.mk hget
  have HV := Aside0.mk hV
  clear h hget hV
  have hu7 := Tryd.underlying93
  have hu4 := Tryd.underlying98
  have hu10 := Tryd.underlying69
  obtain ⟨k, hk⟩ : ∃ k, w.heap.size = k := ⟨_, rfl⟩
  have HKK := Aside0.mk hk
  have HP0 := Aside0.mk (show Hp ((w.alloc (.cells #[.int .i64 0, .bool false, .bool false, .int .u32 0, .bool false, .int .i64 0, .int .i64 0] 93)).alloc (.cells #[.string ⟨#[]⟩, .string ⟨#[]⟩, .int .i64 0, .int .i64 0] 98)) [(k, 93, #[.int .i64 0, .bool false, .bool false, .int .u32 0, .bool false, .int .i64 0, .int .i64 0]), (k + 1, 98, #[.string ⟨#[]⟩, .string ⟨#[]⟩, .int .i64 0, .int .i64 0])] from .cons (by rw [← hk]; exact (Blk.new w _ _).alloc _) (.cons (by have h := Blk.new (w.alloc (.cells #[.int .i64 0, .bool false, .bool false, .int .u32 0, .bool false, .int .i64 0, .int .i64 0] 93)) 98 #[.string ⟨#[]⟩, .string ⟨#[]⟩, .int .i64 0, .int .i64 0]; rw [World.size_alloc, hk] at h; exact h) (.nil _)))
  have HB := Aside0.mk (show Below k w ((w.alloc (.cells #[.int .i64 0, .bool false, .bool false, .int .u32 0, .bool false, .int .i64 0, .int .i64 0] 93)).alloc (.cells #[.string ⟨#[]⟩, .string ⟨#[]⟩, .int .i64 0, .int .i64 0] 98)) by rw [← hk]; exact twoBoxes w _ _)
  have HS := Aside0.mk (show ((w.alloc (.cells #[.int .i64 0, .bool false, .bool false, .int .u32 0, .bool false, .int .i64 0, .int .i64 0] 93)).alloc (.cells #[.string ⟨#[]⟩, .string ⟨#[]⟩, .int .i64 0, .int .i64 0] 98)).heap.size = k + 2 by rw [World.size_alloc, World.size_alloc, hk])
  go_enter Tryd.func55, Tryd.ntmps55
  clear hk
  go_wp2_with fail
  refine (ip4_Get.calls p _ _ _ _ _ _ _ _ _ _ _ _ _ HG.out).mono ?_
  rintro e w2 ⟨rfl, g1⟩
  replace HP0 := Aside0.mk (HP0.out.below g1 (fun x hx => (HP0.out x hx).lt))
  replace HB := Aside0.mk (HB.out.trans (g1.mono (by have := HS.out; omega)))
  replace HS := Aside0.mk (show k + 2 ≤ w2.heap.size by have := HS.out; have := g1.size; omega)
  clear g1
  have HU := Aside0.mk (show UW k w2.heap.size #[.int .i64 a1, .int .i64 a2, .int .i64 a3, .int .i64 a4, .int .i64 a5, .bool a6, .bool a7, .string a8, .string a9, .string a10] w (w2.alloc (.cells #[.int .i64 a1, .int .i64 a2, .int .i64 a3, .int .i64 a4, .int .i64 a5, .bool a6, .bool a7, .string a8, .string a9, .string a10] 69)) from ⟨.cons (HP0.out.head.alloc _) (.cons (HP0.out.tail.head.alloc _) (.cons (Blk.new _ _ _) (.nil _))), HB.out.alloc (by have := HS.out; omega) _, HKK.out, HS.out⟩)
  clear HP0 HB HS
  go_upto_region 2 with (fail)
  generalize w2.alloc (.cells #[.int .i64 a1, .int .i64 a2, .int .i64 a3, .int .i64 a4, .int .i64 a5, .bool a6, .bool a7, .string a8, .string a9, .string a10] 69) = W at HU ⊢
  generalize w2.heap.size = g at HU ⊢
  rw [HKK.out]
  by_cases he : a12 = 0
  case neg =>
    have hb := Option.some.inj ((if_pos he).symm.trans H.out)
    simp only [tun_bad, Prod.mk.injEq] at hb
    obtain ⟨rfl, rfl, rfl, rfl, rfl, rfl, rfl, rfl, rfl, rfl, rfl, rfl, rfl⟩ := hb
    have k1 : (a12 == 0) = false := beq_eq_false_iff_ne.mpr he
    have k2 : (a12 != 0) = true := bne_iff_ne.mpr he
    clear he H HG
    have HK7 := Aside0.mk HU.out.1.head
    have HK4 := Aside0.mk HU.out.1.tail.head
    have HKB := Aside0.mk HU.out.2.1
    have HKZ := Aside0.mk (show k + 1 < W.heap.size from HK4.out.lt)
    as_aux_lemma =>
    go_wp2_with (refine wpList_store_blk rfl 93 _ _ rfl k _ rfl rfl 93 _ HK7.out (by kernel_rfl) rfl (by kernel_rfl) ?_)
    intro wa h7a ga
    have H4a := Aside0.mk (HK4.out.grown ga (by simp))
    have H7a := Aside0.mk h7a
    have HBa := Aside0.mk (HKB.out.trans (below_of_grown ga (by have := HKZ.out; omega) (Nat.le_refl _)))
    have HZa := Aside0.mk (show k + 1 < wa.heap.size from H4a.out.lt)
    clear h7a ga
    go_wp2_with (refine wpList_store_blk rfl 98 _ _ rfl (k + 1) _ rfl rfl 98 _ H4a.out (by kernel_rfl) rfl (by kernel_rfl) ?_)
    intro wb h4b gb
    have H7b := Aside0.mk (H7a.out.grown gb (by simp))
    have H4b := Aside0.mk h4b
    have HBb := Aside0.mk (HBa.out.trans (below_of_grown gb (by have := HZa.out; omega) (Nat.le_succ _)))
    clear h4b gb
    go_wp2
    exact bodyPost_ret (results_cctt rfl _ _ k (k + 1) (tunV 0 false false 0 false 0 0) (wayV ⟨#[]⟩ ⟨#[]⟩ 0 0) _ _ rfl H7b.out hu7 rfl (by kernel_rfl) rfl H4b.out hu4 rfl (by kernel_rfl)) rfl ⟨rfl, by rw [HKK.out]; exact HBb.out⟩
  have H2 := Aside0.mk ((if_neg (fun h => h he)).symm.trans H.out)
  subst he
  clear H HG
  by_cases hf : a7 = true ∨ a3 ≠ 0
  case pos =>
    have hb := Option.some.inj ((if_pos hf).symm.trans H2.out)
    simp only [tun_bad, Prod.mk.injEq] at hb
    obtain ⟨rfl, rfl, rfl, rfl, rfl, rfl, rfl, rfl, rfl, rfl, rfl, rfl, rfl⟩ := hb
    have HK7 := Aside0.mk HU.out.1.head
    have HK4 := Aside0.mk HU.out.1.tail.head
    have HKB := Aside0.mk HU.out.2.1
    have HKZ := Aside0.mk (show k + 1 < W.heap.size from HK4.out.lt)
    have HHD := Aside0.mk HU.out.1.tail.tail.head
    have x2 : W.cell? ⟨g, 2, none⟩ = some (.int .i64 a3) := HHD.out.cell 2 _ rfl
    have x6 : W.cell? ⟨g, 6, none⟩ = some (.bool a7) := HHD.out.cell 6 _ rfl
    clear H2 HHD
    cases a7 with
    | true =>
      clear hf
      as_aux_lemma =>
      go_wp2_with (refine wpList_store_blk rfl 93 _ _ rfl k _ rfl rfl 93 _ HK7.out (by kernel_rfl) rfl (by kernel_rfl) ?_)
      intro wa h7a ga
      have H4a := Aside0.mk (HK4.out.grown ga (by simp))
      have H7a := Aside0.mk h7a
      have HBa := Aside0.mk (HKB.out.trans (below_of_grown ga (by have := HKZ.out; omega) (Nat.le_refl _)))
      have HZa := Aside0.mk (show k + 1 < wa.heap.size from H4a.out.lt)
      clear h7a ga
      go_wp2_with (refine wpList_store_blk rfl 98 _ _ rfl (k + 1) _ rfl rfl 98 _ H4a.out (by kernel_rfl) rfl (by kernel_rfl) ?_)
      intro wb h4b gb
      have H7b := Aside0.mk (H7a.out.grown gb (by simp))
      have H4b := Aside0.mk h4b
      have HBb := Aside0.mk (HBa.out.trans (below_of_grown gb (by have := HZa.out; omega) (Nat.le_succ _)))
      clear h4b gb
      go_wp2
      exact bodyPost_ret (results_cctt rfl _ _ k (k + 1) (tunV 0 false false 0 false 0 0) (wayV ⟨#[]⟩ ⟨#[]⟩ 0 0) _ _ rfl H7b.out hu7 rfl (by kernel_rfl) rfl H4b.out hu4 rfl (by kernel_rfl)) rfl ⟨rfl, by rw [HKK.out]; exact HBb.out⟩
    | false =>
      have k3 : (a3 != 0) = true := bne_iff_ne.mpr (by rcases hf with h | h; exact absurd h (by decide); exact h)
      clear hf
      as_aux_lemma =>
      go_wp2_with (refine wpList_store_blk rfl 93 _ _ rfl k _ rfl rfl 93 _ HK7.out (by kernel_rfl) rfl (by kernel_rfl) ?_)
      intro wa h7a ga
      have H4a := Aside0.mk (HK4.out.grown ga (by simp))
      have H7a := Aside0.mk h7a
      have HBa := Aside0.mk (HKB.out.trans (below_of_grown ga (by have := HKZ.out; omega) (Nat.le_refl _)))
      have HZa := Aside0.mk (show k + 1 < wa.heap.size from H4a.out.lt)
      clear h7a ga
      go_wp2_with (refine wpList_store_blk rfl 98 _ _ rfl (k + 1) _ rfl rfl 98 _ H4a.out (by kernel_rfl) rfl (by kernel_rfl) ?_)
      intro wb h4b gb
      have H7b := Aside0.mk (H7a.out.grown gb (by simp))
      have H4b := Aside0.mk h4b
      have HBb := Aside0.mk (HBa.out.trans (below_of_grown gb (by have := HZa.out; omega) (Nat.le_succ _)))
      clear h4b gb
      go_wp2
      exact bodyPost_ret (results_cctt rfl _ _ k (k + 1) (tunV 0 false false 0 false 0 0) (wayV ⟨#[]⟩ ⟨#[]⟩ 0 0) _ _ rfl H7b.out hu7 rfl (by kernel_rfl) rfl H4b.out hu4 rfl (by kernel_rfl)) rfl ⟨rfl, by rw [HKK.out]; exact HBb.out⟩
  have H3 := Aside0.mk ((if_neg hf).symm.trans H2.out)
  obtain ⟨rfl, rfl⟩ : a7 = false ∧ a3 = 0 := ⟨by cases a7; rfl; exact absurd (.inl rfl) hf, Classical.byContradiction fun hn => hf (.inr hn)⟩
  clear hf H2
  obtain ⟨⟨t1, t2, t3, t4, t5, t6, t7⟩, hgt, h4⟩ := Option.bind_eq_some_iff.mp H3.out
  dsimp +instances only at h4
  have HT := Aside0.mk hgt
  have H4 := Aside0.mk h4
  clear hgt h4 H3
  have HHD := Aside0.mk HU.out.1.tail.tail.head
  have x2 : W.cell? ⟨g, 2, none⟩ = some (.int .i64 0) := HHD.out.cell 2 _ rfl
  have x6 : W.cell? ⟨g, 6, none⟩ = some (.bool false) := HHD.out.cell 6 _ rfl
  go_upto_region 6 with (fail)
  clear x2 x6 HHD
  go_wp2_with fail
  go_loopg [9] 3 (fun kq v9 wr => ∃ i : Nat, v9 = .int .i64 (i : Int) ∧ Aside0 (1 ≤ i ∧ i + kq = 4) ∧ Aside0 ((2 ≤ i → a5 ≠ 4 ∧ a5 ≠ 41) ∧ (3 ≤ i → a5 ≠ 47) ∧ (4 ≤ i → a5 ≠ 17)) ∧ Aside0 (UW k g #[.int .i64 a1, .int .i64 a2, .int .i64 0, .int .i64 a4, .int .i64 a5, .bool a6, .bool false, .string a8, .string a9, .string a10] w wr))
  case atStart => exact ⟨1, rfl, ⟨by omega⟩, ⟨fun h => absurd h (by decide), fun h => absurd h (by decide), fun h => absurd h (by decide)⟩, HU⟩
  case round =>
    clear HU
    obtain ⟨i, rfl, HI, HY, HU⟩ := hrel
    have h5 : i = 1 ∨ i = 2 ∨ i = 3 ∨ i = 4 := by have := HI.out; omega
    rcases h5 with rfl | rfl | rfl | rfl
    · have hsel : True := trivial
      go_wp2_with fail
      refine (tunnel_modes.calls _).mono ?_
      rintro e w4 ⟨b, s1, s2, s3, rfl, hm, hb⟩
      have HU1 := Aside0.mk (HU.out.below hb)
      have l1 := (hm.look false).1
      rw [if_neg (by decide)] at l1
      have HMD := Aside0.mk hm
      clear hb hm HU
      go_upto_region 10 with (fail)
      clear l1
      have HU2 := Aside0.mk (HU1.out.alloc (.cells #[fnv 121, fnv 122, fnv 123, .slice (some ⟨s1, 0, none⟩) 2 2, fnv 124] 161))
      have HM2 := Aside0.mk (Blk.new w4 161 #[fnv 121, fnv 122, fnv 123, .slice (some ⟨s1, 0, none⟩) 2 2, fnv 124])
      have HSL := Aside0.mk ((HMD.out.2.alloc (.cells #[fnv 121, fnv 122, fnv 123, .slice (some ⟨s1, 0, none⟩) 2 2, fnv 124] 161)))
      clear HU1 HMD
      generalize w4.alloc (.cells #[fnv 121, fnv 122, fnv 123, .slice (some ⟨s1, 0, none⟩) 2 2, fnv 124] 161) = W2 at HU2 HM2 HSL ⊢
      generalize w4.heap.size = gm at HM2 ⊢
      have m3 : W2.cell? ⟨gm, 3, none⟩ = some (.slice (some ⟨s1, 0, none⟩) 2 2) := HM2.out.cell 3 _ rfl
      have q0 : W2.cell? ⟨s1, 0, none⟩ = some (.int .i64 4) := HSL.out.head.cell 0 _ rfl
      have q1 : W2.cell? ⟨s1, 1, none⟩ = some (.int .i64 41) := HSL.out.head.cell 1 _ rfl
      have HHD := Aside0.mk HU2.out.1.tail.tail.head
      have x4 : W2.cell? ⟨g, 4, none⟩ = some (.int .i64 a5) := HHD.out.cell 4 _ rfl
      go_wp2_with fail
      clear m3
      go_loopg [49] 2 (fun kq v49 wz => ∃ j : Nat, v49 = .int .i64 (j : Int) ∧ Aside0 (j + kq = 2) ∧ Aside0 ((1 ≤ j → a5 ≠ 4) ∧ (2 ≤ j → a5 ≠ 41)) ∧ wz = W2)
      case atStart => exact ⟨0, rfl, ⟨by omega⟩, ⟨fun h => absurd h (by decide), fun h => absurd h (by decide)⟩, rfl⟩
      case round =>
        obtain ⟨j, rfl, HJ, HN, rfl⟩ := hrel
        have hj : j = 0 ∨ j = 1 ∨ j = 2 := by have := HJ.out; omega
        rcases hj with rfl | rfl | rfl
        · by_cases hp : a5 = 4
          · subst hp
            as_aux_lemma =>
            have hx : ∃ x e, ipip_Get.f 4 a11 = some (x, e) ∧ (t1, t2, t3, t4, t5, t6, t7) = (1, false, false, 0, 0, x, e) := by
              have h := HT.out
              unfold tunGet at h
              rw [if_pos (by decide)] at h
              obtain ⟨⟨q1, q2⟩, h1, h2⟩ := Option.bind_eq_some_iff.mp h
              exact ⟨q1, q2, h1, (Option.some.inj h2).symm⟩
            obtain ⟨x, ee, hg, hq⟩ := hx
            simp only [Prod.mk.injEq] at hq
            obtain ⟨rfl, rfl, rfl, rfl, rfl, rfl, rfl⟩ := hq
            have HGt := Aside0.mk hg
            clear hg HT
            have HT0 := Aside0.mk ((Blk.new wr 93 #[.int .i64 1, .bool false, .bool false, .int .u32 0, .bool a6, .int .i64 a4, .int .i64 a1]).alloc (.cells #[.string a8, .string a9, .int .i64 a2, .int .i64 0] 98))
            have HW0 := Aside0.mk (show Blk ((wr.alloc (.cells #[.int .i64 1, .bool false, .bool false, .int .u32 0, .bool a6, .int .i64 a4, .int .i64 a1] 93)).alloc (.cells #[.string a8, .string a9, .int .i64 a2, .int .i64 0] 98)) (wr.heap.size + 1) 98 #[.string a8, .string a9, .int .i64 a2, .int .i64 0] by have h := Blk.new (wr.alloc (.cells #[.int .i64 1, .bool false, .bool false, .int .u32 0, .bool a6, .int .i64 a4, .int .i64 a1] 93)) 98 #[.string a8, .string a9, .int .i64 a2, .int .i64 0]; rw [World.size_alloc] at h; exact h)
            have HU3 := Aside0.mk ((HU2.out.alloc (.cells #[.int .i64 1, .bool false, .bool false, .int .u32 0, .bool a6, .int .i64 a4, .int .i64 a1] 93)).alloc (.cells #[.string a8, .string a9, .int .i64 a2, .int .i64 0] 98))
            have HM3 := Aside0.mk ((HM2.out.alloc (.cells #[.int .i64 1, .bool false, .bool false, .int .u32 0, .bool a6, .int .i64 a4, .int .i64 a1] 93)).alloc (.cells #[.string a8, .string a9, .int .i64 a2, .int .i64 0] 98))
            have HG3 := Aside0.mk (show g < wr.heap.size ∧ k + 1 < wr.heap.size from ⟨HU2.out.1.tail.tail.head.lt, HU2.out.1.tail.head.lt⟩)
            have HHD := Aside0.mk HU2.out.1.tail.tail.head
            have x0 : wr.cell? ⟨g, 0, none⟩ = some (.int .i64 a1) := HHD.out.cell 0 _ rfl
            have x1 : wr.cell? ⟨g, 1, none⟩ = some (.int .i64 a2) := HHD.out.cell 1 _ rfl
            have x3 : wr.cell? ⟨g, 3, none⟩ = some (.int .i64 a4) := HHD.out.cell 3 _ rfl
            have x5 : wr.cell? ⟨g, 5, none⟩ = some (.bool a6) := HHD.out.cell 5 _ rfl
            have x7 : wr.cell? ⟨g, 7, none⟩ = some (.string a8) := HHD.out.cell 7 _ rfl
            have x8 : wr.cell? ⟨g, 8, none⟩ = some (.string a9) := HHD.out.cell 8 _ rfl
            have hgl := HHD.out.lt
            have hgn : ¬ g = wr.heap.size := Nat.ne_of_lt hgl
            go_upto_region 16 with (fail)
            clear x0 x1 x3 x5 x7 x8 HHD hgl hgn
            generalize (wr.alloc (.cells #[.int .i64 1, .bool false, .bool false, .int .u32 0, .bool a6, .int .i64 a4, .int .i64 a1] 93)).alloc (.cells #[.string a8, .string a9, .int .i64 a2, .int .i64 0] 98) = W3 at HT0 HW0 HU3 HM3 ⊢
            generalize wr.heap.size = kt at HT0 HW0 HG3 ⊢
            have HHD := Aside0.mk HU3.out.1.tail.tail.head
            have m4 : W3.cell? ⟨gm, 4, none⟩ = some (fnv 124) := HM3.out.cell 4 _ rfl
            go_wp2_with (refine wpList_load_blk rfl 69 _ rfl g rfl _ _ _ HHD.out hu10 rfl (by kernel_rfl) ?_)
            clear m4 HHD
            refine (get4.calls a1 a2 0 a4 4 a6 false a8 a9 a10 a11 W3 kt (kt + 1) _ _ HGt.out (HV.out.below (by rw [HKK.out]; exact HU3.out.2.1))).mono ?_
            rintro e' w5 ⟨rfl, g5⟩
            have HT5 := Aside0.mk (HT0.out.below g5 HT0.out.lt)
            have HW5 := Aside0.mk (HW0.out.below g5 HW0.out.lt)
            have HB5 := Aside0.mk (g5.mono (Nat.le_of_lt HT0.out.lt))
            have HU5 := Aside0.mk (show Hp w5 [(k, 93, #[.int .i64 0, .bool false, .bool false, .int .u32 0, .bool false, .int .i64 0, .int .i64 0]), (k + 1, 98, #[.string ⟨#[]⟩, .string ⟨#[]⟩, .int .i64 0, .int .i64 0])] ∧ Below k w w5 from ⟨.cons (HU3.out.1.head.below HB5.out (by have := HG3.out; omega)) (.cons (HU3.out.1.tail.head.below HB5.out HG3.out.2) (.nil _)), HU3.out.2.1.trans (HB5.out.mono (by have := HG3.out; omega))⟩)
            have HG5 := Aside0.mk (show kt ≠ k ∧ kt + 1 ≠ k ∧ kt ≠ k + 1 ∧ kt + 1 ≠ k + 1 by have := HG3.out; omega)
            clear g5 HT0 HW0 HU3 HM3
            have HK7 := Aside0.mk HU5.out.1.head
            have HK4 := Aside0.mk HU5.out.1.tail.head
            have HKB := Aside0.mk HU5.out.2
            have HKZ := Aside0.mk (show k + 1 < w5.heap.size from HK4.out.lt)
            by_cases he : t7 = 0
            case neg =>
              have hb := Option.some.inj ((if_pos he).symm.trans H4.out)
              simp only [tun_bad, Prod.mk.injEq] at hb
              obtain ⟨rfl, rfl, rfl, rfl, rfl, rfl, rfl, rfl, rfl, rfl, rfl, rfl, rfl⟩ := hb
              have k2 : (t7 != 0) = true := bne_iff_ne.mpr he
              clear he
              as_aux_lemma =>
              go_wp2_with (refine wpList_store_blk rfl 93 _ _ rfl k _ rfl rfl 93 _ HK7.out (by kernel_rfl) rfl (by kernel_rfl) ?_)
              intro wa h7a ga
              have H4a := Aside0.mk (HK4.out.grown ga (by simp))
              have H7a := Aside0.mk h7a
              have HBa := Aside0.mk (HKB.out.trans (below_of_grown ga (by have := HKZ.out; omega) (Nat.le_refl _)))
              have HZa := Aside0.mk (show k + 1 < wa.heap.size from H4a.out.lt)
              clear h7a ga
              go_wp2_with (refine wpList_store_blk rfl 98 _ _ rfl (k + 1) _ rfl rfl 98 _ H4a.out (by kernel_rfl) rfl (by kernel_rfl) ?_)
              intro wb h4b gb
              have H7b := Aside0.mk (H7a.out.grown gb (by simp))
              have H4b := Aside0.mk h4b
              have HBb := Aside0.mk (HBa.out.trans (below_of_grown gb (by have := HZa.out; omega) (Nat.le_succ _)))
              clear h4b gb
              go_wp2
              exact bodyPost_ret (results_cctt rfl _ _ k (k + 1) (tunV 0 false false 0 false 0 0) (wayV ⟨#[]⟩ ⟨#[]⟩ 0 0) _ _ rfl H7b.out hu7 rfl (by kernel_rfl) rfl H4b.out hu4 rfl (by kernel_rfl)) rfl ⟨rfl, by rw [HKK.out]; exact HBb.out⟩
            have hb := Option.some.inj ((if_neg (fun h => h he)).symm.trans H4.out)
            simp only [Prod.mk.injEq] at hb
            obtain ⟨rfl, rfl, rfl, rfl, rfl, rfl, rfl, rfl, rfl, rfl, rfl, rfl, rfl⟩ := hb
            subst he
            go_upto_region 19 with (fail)
            refine wp_region_held_drew (S := fun ws => Blk ws kt 93 #[.int .i64 1, .bool false, .bool false, .int .u32 0, .bool a6, .int .i64 a4, .int .i64 a1] ∧ Blk ws (kt + 1) 98 #[.string a8, .string a9, .int .i64 a2, .int .i64 0]) (by kernel_rfl) ⟨HT5.out.drew, HW5.out.drew⟩ (fun hHeld => ?_)
            refine wpAnyH_take (i := 0) rfl (by kernel_rfl) (by kernel_rfl) (by kernel_rfl) (fun _ _ _ h => h) (yieldsIf_load_blk (by rfl) 93 _ rfl kt rfl (fun ws h => h.1) hu7 rfl (by kernel_rfl)) hHeld ?_
            simp only [Act.put, List.setIfInBounds_toArray, List.set_cons_zero, List.set_cons_succ, List.getElem_toArray, List.getElem_cons_zero, List.getElem_cons_succ]
            refine wpAnyH_take (i := 1) rfl (by kernel_rfl) (by kernel_rfl) (by kernel_rfl) (fun _ _ _ h => h) (yieldsIf_load_blk (by rfl) 98 _ rfl (kt + 1) rfl (fun ws h => h.2) hu4 rfl (by kernel_rfl)) hHeld ?_
            simp only [Act.put, List.setIfInBounds_toArray, List.set_cons_zero, List.set_cons_succ, List.getElem_toArray, List.getElem_cons_zero, List.getElem_cons_succ]
            refine wpAnyH_take (i := 2) rfl (by kernel_rfl) (by kernel_rfl) (by kernel_rfl) (fun _ _ _ h => h) (v := .string t6) (Or.inl ⟨by rfl, fun ws _ => rfl⟩) hHeld ?_
            simp only [Act.put, List.setIfInBounds_toArray, List.set_cons_zero, List.set_cons_succ, List.getElem_toArray, List.getElem_cons_zero, List.getElem_cons_succ]
            refine wpAnyH_ready (rs := [3]) (by kernel_rfl) (by simp) ?_
            refine AllReadyH.cons rfl (fun K hK => ?_) .nil
            rw [if_pos (by rfl)]
            refine wp_store_blk 93 _ _ rfl k _ rfl rfl 93 _ HK7.out.drew (by kernel_rfl) rfl (by kernel_rfl) ?_
            intro wa h7a ga
            refine hK.out _ _ ⟨HT5.out.drew.grown ga HG5.out.1, HW5.out.drew.grown ga HG5.out.2.1⟩ (fun hHeld2 => ?_)
            clear hK K hHeld
            have H4a := Aside0.mk (HK4.out.drew.grown ga (by simp))
            have H7a := Aside0.mk h7a
            have HBa := Aside0.mk (HKB.out.drew.trans (below_of_grown ga (by have := HKZ.out; show k ≤ w5.heap.size; omega) (Nat.le_refl _)))
            have HZa := Aside0.mk (show k + 1 < wa.heap.size from H4a.out.lt)
            clear h7a ga
            simp only [Act.put, List.setIfInBounds_toArray, List.set_cons_zero, List.set_cons_succ, List.getElem_toArray, List.getElem_cons_zero, List.getElem_cons_succ]
            refine wpAnyH_ready (rs := [4]) (by kernel_rfl) (by simp) ?_
            refine AllReadyH.cons rfl (fun K hK => ?_) .nil
            rw [if_pos (by rfl)]
            refine wp_store_blk 98 _ _ rfl (k + 1) _ rfl rfl 98 _ H4a.out (by kernel_rfl) rfl (by kernel_rfl) ?_
            intro wb h4b gb
            refine hK.out _ _ ⟨hHeld2.1.grown gb HG5.out.2.2.1, hHeld2.2.grown gb HG5.out.2.2.2⟩ (fun hHeld3 => ?_)
            clear hK K hHeld2
            have H7b := Aside0.mk (H7a.out.grown gb (by simp))
            have H4b := Aside0.mk h4b
            have HBb := Aside0.mk (HBa.out.trans (below_of_grown gb (by have := HZa.out; omega) (Nat.le_succ _)))
            clear h4b gb
            simp only [Act.put, List.setIfInBounds_toArray, List.set_cons_zero, List.set_cons_succ, List.getElem_toArray, List.getElem_cons_zero, List.getElem_cons_succ]
            refine wpAnyH_take (i := 5) rfl (by kernel_rfl) (by kernel_rfl) (by kernel_rfl) (fun _ _ _ h => h) (v := .string t6) (Or.inl ⟨by rfl, fun ws _ => rfl⟩) hHeld3 ?_
            simp only [Act.put, List.setIfInBounds_toArray, List.set_cons_zero, List.set_cons_succ, List.getElem_toArray, List.getElem_cons_zero, List.getElem_cons_succ]
            refine wpAnyH_take (i := 6) rfl (by kernel_rfl) (by kernel_rfl) (by kernel_rfl) (fun _ _ _ h => h) (v := .int .i64 0) (Or.inl ⟨by rfl, fun ws _ => rfl⟩) hHeld3 ?_
            simp only [Act.put, List.setIfInBounds_toArray, List.set_cons_zero, List.set_cons_succ, List.getElem_toArray, List.getElem_cons_zero, List.getElem_cons_succ]
            refine wpAnyH_done (by kernel_rfl) ?_ _
            go_wp2
            exact bodyPost_ret (results_cctt rfl _ _ k (k + 1) #[.int .i64 1, .bool false, .bool false, .int .u32 0, .bool a6, .int .i64 a4, .int .i64 a1] #[.string a8, .string a9, .int .i64 a2, .int .i64 0] _ _ rfl H7b.out hu7 rfl (by kernel_rfl) rfl H4b.out hu4 rfl (by kernel_rfl)) rfl ⟨rfl, by rw [HKK.out]; exact HBb.out⟩
          · as_aux_lemma =>
            have k1 : ((4 : Int) != a5) = true := bne_iff_ne.mpr (fun h => hp h.symm)
            have HPn := Aside0.mk hp
            clear hp
            go_wp2
            go_roundg 1
            case measure => have := HJ.out; omega
            case rel => exact ⟨1, rfl, ⟨by omega⟩, ⟨fun _ => HPn.out, fun h => absurd h (by decide)⟩, rfl⟩
        · by_cases hp : a5 = 41
          · subst hp
            as_aux_lemma =>
            have hx : ∃ x e, ipip_Get.f 41 a11 = some (x, e) ∧ (t1, t2, t3, t4, t5, t6, t7) = (1, false, false, 0, 0, x, e) := by
              have h := HT.out
              unfold tunGet at h
              rw [if_pos (by decide)] at h
              obtain ⟨⟨q1, q2⟩, h1, h2⟩ := Option.bind_eq_some_iff.mp h
              exact ⟨q1, q2, h1, (Option.some.inj h2).symm⟩
            obtain ⟨x, ee, hg, hq⟩ := hx
            simp only [Prod.mk.injEq] at hq
            obtain ⟨rfl, rfl, rfl, rfl, rfl, rfl, rfl⟩ := hq
            have HGt := Aside0.mk hg
            clear hg HT
            have HT0 := Aside0.mk ((Blk.new wr 93 #[.int .i64 1, .bool false, .bool false, .int .u32 0, .bool a6, .int .i64 a4, .int .i64 a1]).alloc (.cells #[.string a8, .string a9, .int .i64 a2, .int .i64 0] 98))
            have HW0 := Aside0.mk (show Blk ((wr.alloc (.cells #[.int .i64 1, .bool false, .bool false, .int .u32 0, .bool a6, .int .i64 a4, .int .i64 a1] 93)).alloc (.cells #[.string a8, .string a9, .int .i64 a2, .int .i64 0] 98)) (wr.heap.size + 1) 98 #[.string a8, .string a9, .int .i64 a2, .int .i64 0] by have h := Blk.new (wr.alloc (.cells #[.int .i64 1, .bool false, .bool false, .int .u32 0, .bool a6, .int .i64 a4, .int .i64 a1] 93)) 98 #[.string a8, .string a9, .int .i64 a2, .int .i64 0]; rw [World.size_alloc] at h; exact h)
            have HU3 := Aside0.mk ((HU2.out.alloc (.cells #[.int .i64 1, .bool false, .bool false, .int .u32 0, .bool a6, .int .i64 a4, .int .i64 a1] 93)).alloc (.cells #[.string a8, .string a9, .int .i64 a2, .int .i64 0] 98))
            have HM3 := Aside0.mk ((HM2.out.alloc (.cells #[.int .i64 1, .bool false, .bool false, .int .u32 0, .bool a6, .int .i64 a4, .int .i64 a1] 93)).alloc (.cells #[.string a8, .string a9, .int .i64 a2, .int .i64 0] 98))
            have HG3 := Aside0.mk (show g < wr.heap.size ∧ k + 1 < wr.heap.size from ⟨HU2.out.1.tail.tail.head.lt, HU2.out.1.tail.head.lt⟩)
            have HHD := Aside0.mk HU2.out.1.tail.tail.head
            have x0 : wr.cell? ⟨g, 0, none⟩ = some (.int .i64 a1) := HHD.out.cell 0 _ rfl
            have x1 : wr.cell? ⟨g, 1, none⟩ = some (.int .i64 a2) := HHD.out.cell 1 _ rfl
            have x3 : wr.cell? ⟨g, 3, none⟩ = some (.int .i64 a4) := HHD.out.cell 3 _ rfl
            have x5 : wr.cell? ⟨g, 5, none⟩ = some (.bool a6) := HHD.out.cell 5 _ rfl
            have x7 : wr.cell? ⟨g, 7, none⟩ = some (.string a8) := HHD.out.cell 7 _ rfl
            have x8 : wr.cell? ⟨g, 8, none⟩ = some (.string a9) := HHD.out.cell 8 _ rfl
            have hgl := HHD.out.lt
            have hgn : ¬ g = wr.heap.size := Nat.ne_of_lt hgl
            go_upto_region 16 with (fail)
            clear x0 x1 x3 x5 x7 x8 HHD hgl hgn
            generalize (wr.alloc (.cells #[.int .i64 1, .bool false, .bool false, .int .u32 0, .bool a6, .int .i64 a4, .int .i64 a1] 93)).alloc (.cells #[.string a8, .string a9, .int .i64 a2, .int .i64 0] 98) = W3 at HT0 HW0 HU3 HM3 ⊢
            generalize wr.heap.size = kt at HT0 HW0 HG3 ⊢
            have HHD := Aside0.mk HU3.out.1.tail.tail.head
            have m4 : W3.cell? ⟨gm, 4, none⟩ = some (fnv 124) := HM3.out.cell 4 _ rfl
            go_wp2_with (refine wpList_load_blk rfl 69 _ rfl g rfl _ _ _ HHD.out hu10 rfl (by kernel_rfl) ?_)
            clear m4 HHD
            refine (get4.calls a1 a2 0 a4 41 a6 false a8 a9 a10 a11 W3 kt (kt + 1) _ _ HGt.out (HV.out.below (by rw [HKK.out]; exact HU3.out.2.1))).mono ?_
            rintro e' w5 ⟨rfl, g5⟩
            have HT5 := Aside0.mk (HT0.out.below g5 HT0.out.lt)
            have HW5 := Aside0.mk (HW0.out.below g5 HW0.out.lt)
            have HB5 := Aside0.mk (g5.mono (Nat.le_of_lt HT0.out.lt))
            have HU5 := Aside0.mk (show Hp w5 [(k, 93, #[.int .i64 0, .bool false, .bool false, .int .u32 0, .bool false, .int .i64 0, .int .i64 0]), (k + 1, 98, #[.string ⟨#[]⟩, .string ⟨#[]⟩, .int .i64 0, .int .i64 0])] ∧ Below k w w5 from ⟨.cons (HU3.out.1.head.below HB5.out (by have := HG3.out; omega)) (.cons (HU3.out.1.tail.head.below HB5.out HG3.out.2) (.nil _)), HU3.out.2.1.trans (HB5.out.mono (by have := HG3.out; omega))⟩)
            have HG5 := Aside0.mk (show kt ≠ k ∧ kt + 1 ≠ k ∧ kt ≠ k + 1 ∧ kt + 1 ≠ k + 1 by have := HG3.out; omega)
            clear g5 HT0 HW0 HU3 HM3
            have HK7 := Aside0.mk HU5.out.1.head
            have HK4 := Aside0.mk HU5.out.1.tail.head
            have HKB := Aside0.mk HU5.out.2
            have HKZ := Aside0.mk (show k + 1 < w5.heap.size from HK4.out.lt)
            by_cases he : t7 = 0
            case neg =>
              have hb := Option.some.inj ((if_pos he).symm.trans H4.out)
              simp only [tun_bad, Prod.mk.injEq] at hb
              obtain ⟨rfl, rfl, rfl, rfl, rfl, rfl, rfl, rfl, rfl, rfl, rfl, rfl, rfl⟩ := hb
              have k2 : (t7 != 0) = true := bne_iff_ne.mpr he
              clear he
              as_aux_lemma =>
              go_wp2_with (refine wpList_store_blk rfl 93 _ _ rfl k _ rfl rfl 93 _ HK7.out (by kernel_rfl) rfl (by kernel_rfl) ?_)
              intro wa h7a ga
              have H4a := Aside0.mk (HK4.out.grown ga (by simp))
              have H7a := Aside0.mk h7a
              have HBa := Aside0.mk (HKB.out.trans (below_of_grown ga (by have := HKZ.out; omega) (Nat.le_refl _)))
              have HZa := Aside0.mk (show k + 1 < wa.heap.size from H4a.out.lt)
              clear h7a ga
              go_wp2_with (refine wpList_store_blk rfl 98 _ _ rfl (k + 1) _ rfl rfl 98 _ H4a.out (by kernel_rfl) rfl (by kernel_rfl) ?_)
              intro wb h4b gb
              have H7b := Aside0.mk (H7a.out.grown gb (by simp))
              have H4b := Aside0.mk h4b
              have HBb := Aside0.mk (HBa.out.trans (below_of_grown gb (by have := HZa.out; omega) (Nat.le_succ _)))
              clear h4b gb
              go_wp2
              exact bodyPost_ret (results_cctt rfl _ _ k (k + 1) (tunV 0 false false 0 false 0 0) (wayV ⟨#[]⟩ ⟨#[]⟩ 0 0) _ _ rfl H7b.out hu7 rfl (by kernel_rfl) rfl H4b.out hu4 rfl (by kernel_rfl)) rfl ⟨rfl, by rw [HKK.out]; exact HBb.out⟩
            have hb := Option.some.inj ((if_neg (fun h => h he)).symm.trans H4.out)
            simp only [Prod.mk.injEq] at hb
            obtain ⟨rfl, rfl, rfl, rfl, rfl, rfl, rfl, rfl, rfl, rfl, rfl, rfl, rfl⟩ := hb
            subst he
            go_upto_region 19 with (fail)
            refine wp_region_held_drew (S := fun ws => Blk ws kt 93 #[.int .i64 1, .bool false, .bool false, .int .u32 0, .bool a6, .int .i64 a4, .int .i64 a1] ∧ Blk ws (kt + 1) 98 #[.string a8, .string a9, .int .i64 a2, .int .i64 0]) (by kernel_rfl) ⟨HT5.out.drew, HW5.out.drew⟩ (fun hHeld => ?_)
            refine wpAnyH_take (i := 0) rfl (by kernel_rfl) (by kernel_rfl) (by kernel_rfl) (fun _ _ _ h => h) (yieldsIf_load_blk (by rfl) 93 _ rfl kt rfl (fun ws h => h.1) hu7 rfl (by kernel_rfl)) hHeld ?_
            simp only [Act.put, List.setIfInBounds_toArray, List.set_cons_zero, List.set_cons_succ, List.getElem_toArray, List.getElem_cons_zero, List.getElem_cons_succ]
            refine wpAnyH_take (i := 1) rfl (by kernel_rfl) (by kernel_rfl) (by kernel_rfl) (fun _ _ _ h => h) (yieldsIf_load_blk (by rfl) 98 _ rfl (kt + 1) rfl (fun ws h => h.2) hu4 rfl (by kernel_rfl)) hHeld ?_
            simp only [Act.put, List.setIfInBounds_toArray, List.set_cons_zero, List.set_cons_succ, List.getElem_toArray, List.getElem_cons_zero, List.getElem_cons_succ]
            refine wpAnyH_take (i := 2) rfl (by kernel_rfl) (by kernel_rfl) (by kernel_rfl) (fun _ _ _ h => h) (v := .string t6) (Or.inl ⟨by rfl, fun ws _ => rfl⟩) hHeld ?_
            simp only [Act.put, List.setIfInBounds_toArray, List.set_cons_zero, List.set_cons_succ, List.getElem_toArray, List.getElem_cons_zero, List.getElem_cons_succ]
            refine wpAnyH_ready (rs := [3]) (by kernel_rfl) (by simp) ?_
            refine AllReadyH.cons rfl (fun K hK => ?_) .nil
            rw [if_pos (by rfl)]
            refine wp_store_blk 93 _ _ rfl k _ rfl rfl 93 _ HK7.out.drew (by kernel_rfl) rfl (by kernel_rfl) ?_
            intro wa h7a ga
            refine hK.out _ _ ⟨HT5.out.drew.grown ga HG5.out.1, HW5.out.drew.grown ga HG5.out.2.1⟩ (fun hHeld2 => ?_)
            clear hK K hHeld
            have H4a := Aside0.mk (HK4.out.drew.grown ga (by simp))
            have H7a := Aside0.mk h7a
            have HBa := Aside0.mk (HKB.out.drew.trans (below_of_grown ga (by have := HKZ.out; show k ≤ w5.heap.size; omega) (Nat.le_refl _)))
            have HZa := Aside0.mk (show k + 1 < wa.heap.size from H4a.out.lt)
            clear h7a ga
            simp only [Act.put, List.setIfInBounds_toArray, List.set_cons_zero, List.set_cons_succ, List.getElem_toArray, List.getElem_cons_zero, List.getElem_cons_succ]
            refine wpAnyH_ready (rs := [4]) (by kernel_rfl) (by simp) ?_
            refine AllReadyH.cons rfl (fun K hK => ?_) .nil
            rw [if_pos (by rfl)]
            refine wp_store_blk 98 _ _ rfl (k + 1) _ rfl rfl 98 _ H4a.out (by kernel_rfl) rfl (by kernel_rfl) ?_
            intro wb h4b gb
            refine hK.out _ _ ⟨hHeld2.1.grown gb HG5.out.2.2.1, hHeld2.2.grown gb HG5.out.2.2.2⟩ (fun hHeld3 => ?_)
            clear hK K hHeld2
            have H7b := Aside0.mk (H7a.out.grown gb (by simp))
            have H4b := Aside0.mk h4b
            have HBb := Aside0.mk (HBa.out.trans (below_of_grown gb (by have := HZa.out; omega) (Nat.le_succ _)))
            clear h4b gb
            simp only [Act.put, List.setIfInBounds_toArray, List.set_cons_zero, List.set_cons_succ, List.getElem_toArray, List.getElem_cons_zero, List.getElem_cons_succ]
            refine wpAnyH_take (i := 5) rfl (by kernel_rfl) (by kernel_rfl) (by kernel_rfl) (fun _ _ _ h => h) (v := .string t6) (Or.inl ⟨by rfl, fun ws _ => rfl⟩) hHeld3 ?_
            simp only [Act.put, List.setIfInBounds_toArray, List.set_cons_zero, List.set_cons_succ, List.getElem_toArray, List.getElem_cons_zero, List.getElem_cons_succ]
            refine wpAnyH_take (i := 6) rfl (by kernel_rfl) (by kernel_rfl) (by kernel_rfl) (fun _ _ _ h => h) (v := .int .i64 0) (Or.inl ⟨by rfl, fun ws _ => rfl⟩) hHeld3 ?_
            simp only [Act.put, List.setIfInBounds_toArray, List.set_cons_zero, List.set_cons_succ, List.getElem_toArray, List.getElem_cons_zero, List.getElem_cons_succ]
            refine wpAnyH_done (by kernel_rfl) ?_ _
            go_wp2
            exact bodyPost_ret (results_cctt rfl _ _ k (k + 1) #[.int .i64 1, .bool false, .bool false, .int .u32 0, .bool a6, .int .i64 a4, .int .i64 a1] #[.string a8, .string a9, .int .i64 a2, .int .i64 0] _ _ rfl H7b.out hu7 rfl (by kernel_rfl) rfl H4b.out hu4 rfl (by kernel_rfl)) rfl ⟨rfl, by rw [HKK.out]; exact HBb.out⟩
          · as_aux_lemma =>
            have k1 : ((41 : Int) != a5) = true := bne_iff_ne.mpr (fun h => hp h.symm)
            have HPn := Aside0.mk hp
            clear hp
            go_wp2
            go_roundg 0
            case measure => have := HJ.out; omega
            case rel => exact ⟨2, rfl, ⟨by omega⟩, ⟨fun _ => HN.out.1 (by decide), fun _ => HPn.out⟩, rfl⟩
        · as_aux_lemma =>
          clear x4 HHD q0 q1
          go_wp2
          go_roundg 2
          case measure => have := HI.out; omega
          case rel => exact ⟨2, rfl, ⟨by omega⟩, ⟨fun _ => ⟨HN.out.1 (by decide), HN.out.2 (by decide)⟩, fun h => absurd h (by decide), fun h => absurd h (by decide)⟩, HU2⟩
    · have hsel : True := trivial
      go_wp2_with fail
      refine (tunnel_modes.calls _).mono ?_
      rintro e w4 ⟨b, s1, s2, s3, rfl, hm, hb⟩
      have HU1 := Aside0.mk (HU.out.below hb)
      have l1 := (hm.look false).2.1
      rw [if_neg (by decide)] at l1
      have HMD := Aside0.mk hm
      clear hb hm HU
      go_upto_region 10 with (fail)
      clear l1
      have HU2 := Aside0.mk (HU1.out.alloc (.cells #[fnv 125, fnv 126, fnv 128, .slice (some ⟨s2, 0, none⟩) 1 1, fnv 129] 161))
      have HM2 := Aside0.mk (Blk.new w4 161 #[fnv 125, fnv 126, fnv 128, .slice (some ⟨s2, 0, none⟩) 1 1, fnv 129])
      have HSL := Aside0.mk ((HMD.out.2.alloc (.cells #[fnv 125, fnv 126, fnv 128, .slice (some ⟨s2, 0, none⟩) 1 1, fnv 129] 161)))
      clear HU1 HMD
      generalize w4.alloc (.cells #[fnv 125, fnv 126, fnv 128, .slice (some ⟨s2, 0, none⟩) 1 1, fnv 129] 161) = W2 at HU2 HM2 HSL ⊢
      generalize w4.heap.size = gm at HM2 ⊢
      have m3 : W2.cell? ⟨gm, 3, none⟩ = some (.slice (some ⟨s2, 0, none⟩) 1 1) := HM2.out.cell 3 _ rfl
      have q0 : W2.cell? ⟨s2, 0, none⟩ = some (.int .i64 47) := HSL.out.tail.head.cell 0 _ rfl
      have HHD := Aside0.mk HU2.out.1.tail.tail.head
      have x4 : W2.cell? ⟨g, 4, none⟩ = some (.int .i64 a5) := HHD.out.cell 4 _ rfl
      go_wp2_with fail
      clear m3
      go_loopg [49] 1 (fun kq v49 wz => ∃ j : Nat, v49 = .int .i64 (j : Int) ∧ Aside0 (j + kq = 1) ∧ Aside0 ((1 ≤ j → a5 ≠ 47)) ∧ wz = W2)
      case atStart => exact ⟨0, rfl, ⟨by omega⟩, ⟨fun h => absurd h (by decide)⟩, rfl⟩
      case round =>
        obtain ⟨j, rfl, HJ, HN, rfl⟩ := hrel
        have hj : j = 0 ∨ j = 1 := by have := HJ.out; omega
        rcases hj with rfl | rfl
        · by_cases hp : a5 = 47
          · subst hp
            as_aux_lemma =>
            have hx : ∃ S K V x e, gre_Get.f a11 = some (S, K, V, x, e) ∧ (t1, t2, t3, t4, t5, t6, t7) = (2, S, K, V, 0, x, e) := by
              have h := HT.out
              unfold tunGet at h
              rw [if_neg (by decide), if_pos rfl] at h
              obtain ⟨⟨q1, q2, q3, q4, q5⟩, h1, h2⟩ := Option.bind_eq_some_iff.mp h
              exact ⟨q1, q2, q3, q4, q5, h1, (Option.some.inj h2).symm⟩
            obtain ⟨S, K, V, x, ee, hg, hq⟩ := hx
            simp only [Prod.mk.injEq] at hq
            obtain ⟨rfl, rfl, rfl, rfl, rfl, rfl, rfl⟩ := hq
            have HGt := Aside0.mk hg
            clear hg HT
            have HT0 := Aside0.mk ((Blk.new wr 93 #[.int .i64 2, .bool false, .bool false, .int .u32 0, .bool a6, .int .i64 a4, .int .i64 a1]).alloc (.cells #[.string a8, .string a9, .int .i64 a2, .int .i64 0] 98))
            have HW0 := Aside0.mk (show Blk ((wr.alloc (.cells #[.int .i64 2, .bool false, .bool false, .int .u32 0, .bool a6, .int .i64 a4, .int .i64 a1] 93)).alloc (.cells #[.string a8, .string a9, .int .i64 a2, .int .i64 0] 98)) (wr.heap.size + 1) 98 #[.string a8, .string a9, .int .i64 a2, .int .i64 0] by have h := Blk.new (wr.alloc (.cells #[.int .i64 2, .bool false, .bool false, .int .u32 0, .bool a6, .int .i64 a4, .int .i64 a1] 93)) 98 #[.string a8, .string a9, .int .i64 a2, .int .i64 0]; rw [World.size_alloc] at h; exact h)
            have HU3 := Aside0.mk ((HU2.out.alloc (.cells #[.int .i64 2, .bool false, .bool false, .int .u32 0, .bool a6, .int .i64 a4, .int .i64 a1] 93)).alloc (.cells #[.string a8, .string a9, .int .i64 a2, .int .i64 0] 98))
            have HM3 := Aside0.mk ((HM2.out.alloc (.cells #[.int .i64 2, .bool false, .bool false, .int .u32 0, .bool a6, .int .i64 a4, .int .i64 a1] 93)).alloc (.cells #[.string a8, .string a9, .int .i64 a2, .int .i64 0] 98))
            have HG3 := Aside0.mk (show g < wr.heap.size ∧ k + 1 < wr.heap.size from ⟨HU2.out.1.tail.tail.head.lt, HU2.out.1.tail.head.lt⟩)
            have HHD := Aside0.mk HU2.out.1.tail.tail.head
            have x0 : wr.cell? ⟨g, 0, none⟩ = some (.int .i64 a1) := HHD.out.cell 0 _ rfl
            have x1 : wr.cell? ⟨g, 1, none⟩ = some (.int .i64 a2) := HHD.out.cell 1 _ rfl
            have x3 : wr.cell? ⟨g, 3, none⟩ = some (.int .i64 a4) := HHD.out.cell 3 _ rfl
            have x5 : wr.cell? ⟨g, 5, none⟩ = some (.bool a6) := HHD.out.cell 5 _ rfl
            have x7 : wr.cell? ⟨g, 7, none⟩ = some (.string a8) := HHD.out.cell 7 _ rfl
            have x8 : wr.cell? ⟨g, 8, none⟩ = some (.string a9) := HHD.out.cell 8 _ rfl
            have hgl := HHD.out.lt
            have hgn : ¬ g = wr.heap.size := Nat.ne_of_lt hgl
            go_upto_region 16 with (fail)
            clear x0 x1 x3 x5 x7 x8 HHD hgl hgn
            generalize (wr.alloc (.cells #[.int .i64 2, .bool false, .bool false, .int .u32 0, .bool a6, .int .i64 a4, .int .i64 a1] 93)).alloc (.cells #[.string a8, .string a9, .int .i64 a2, .int .i64 0] 98) = W3 at HT0 HW0 HU3 HM3 ⊢
            generalize wr.heap.size = kt at HT0 HW0 HG3 ⊢
            have HHD := Aside0.mk HU3.out.1.tail.tail.head
            have m4 : W3.cell? ⟨gm, 4, none⟩ = some (fnv 129) := HM3.out.cell 4 _ rfl
            go_wp2_with (refine wpList_load_blk rfl 69 _ rfl g rfl _ _ _ HHD.out hu10 rfl (by kernel_rfl) ?_)
            clear m4 HHD
            refine (get8.calls a1 a2 0 a4 47 a6 false a8 a9 a10 a11 W3 kt (kt + 1) _ _ _ _ _ HGt.out (HV.out.below (by rw [HKK.out]; exact HU3.out.2.1)) _ (Nat.lt_succ_self _) rfl HT0.out _ HW0.out).mono ?_
            rintro e' w5 ⟨rfl, g5, q5, q6⟩
            have HT5 := Aside0.mk (show Blk w5 kt 93 #[.int .i64 2, .bool t2, .bool t3, .int .u32 t4, .bool a6, .int .i64 a4, .int .i64 a1] from q5)
            have HW5 := Aside0.mk q6
            have HB5 := Aside0.mk g5
            clear q5 q6
            have HU5 := Aside0.mk (show Hp w5 [(k, 93, #[.int .i64 0, .bool false, .bool false, .int .u32 0, .bool false, .int .i64 0, .int .i64 0]), (k + 1, 98, #[.string ⟨#[]⟩, .string ⟨#[]⟩, .int .i64 0, .int .i64 0])] ∧ Below k w w5 from ⟨.cons (HU3.out.1.head.below HB5.out (by have := HG3.out; omega)) (.cons (HU3.out.1.tail.head.below HB5.out HG3.out.2) (.nil _)), HU3.out.2.1.trans (HB5.out.mono (by have := HG3.out; omega))⟩)
            have HG5 := Aside0.mk (show kt ≠ k ∧ kt + 1 ≠ k ∧ kt ≠ k + 1 ∧ kt + 1 ≠ k + 1 by have := HG3.out; omega)
            clear g5 HT0 HW0 HU3 HM3
            have HK7 := Aside0.mk HU5.out.1.head
            have HK4 := Aside0.mk HU5.out.1.tail.head
            have HKB := Aside0.mk HU5.out.2
            have HKZ := Aside0.mk (show k + 1 < w5.heap.size from HK4.out.lt)
            by_cases he : t7 = 0
            case neg =>
              have hb := Option.some.inj ((if_pos he).symm.trans H4.out)
              simp only [tun_bad, Prod.mk.injEq] at hb
              obtain ⟨rfl, rfl, rfl, rfl, rfl, rfl, rfl, rfl, rfl, rfl, rfl, rfl, rfl⟩ := hb
              have k2 : (t7 != 0) = true := bne_iff_ne.mpr he
              clear he
              as_aux_lemma =>
              go_wp2_with (refine wpList_store_blk rfl 93 _ _ rfl k _ rfl rfl 93 _ HK7.out (by kernel_rfl) rfl (by kernel_rfl) ?_)
              intro wa h7a ga
              have H4a := Aside0.mk (HK4.out.grown ga (by simp))
              have H7a := Aside0.mk h7a
              have HBa := Aside0.mk (HKB.out.trans (below_of_grown ga (by have := HKZ.out; omega) (Nat.le_refl _)))
              have HZa := Aside0.mk (show k + 1 < wa.heap.size from H4a.out.lt)
              clear h7a ga
              go_wp2_with (refine wpList_store_blk rfl 98 _ _ rfl (k + 1) _ rfl rfl 98 _ H4a.out (by kernel_rfl) rfl (by kernel_rfl) ?_)
              intro wb h4b gb
              have H7b := Aside0.mk (H7a.out.grown gb (by simp))
              have H4b := Aside0.mk h4b
              have HBb := Aside0.mk (HBa.out.trans (below_of_grown gb (by have := HZa.out; omega) (Nat.le_succ _)))
              clear h4b gb
              go_wp2
              exact bodyPost_ret (results_cctt rfl _ _ k (k + 1) (tunV 0 false false 0 false 0 0) (wayV ⟨#[]⟩ ⟨#[]⟩ 0 0) _ _ rfl H7b.out hu7 rfl (by kernel_rfl) rfl H4b.out hu4 rfl (by kernel_rfl)) rfl ⟨rfl, by rw [HKK.out]; exact HBb.out⟩
            have hb := Option.some.inj ((if_neg (fun h => h he)).symm.trans H4.out)
            simp only [Prod.mk.injEq] at hb
            obtain ⟨rfl, rfl, rfl, rfl, rfl, rfl, rfl, rfl, rfl, rfl, rfl, rfl, rfl⟩ := hb
            subst he
            go_upto_region 19 with (fail)
            refine wp_region_held_drew (S := fun ws => Blk ws kt 93 #[.int .i64 2, .bool t2, .bool t3, .int .u32 t4, .bool a6, .int .i64 a4, .int .i64 a1] ∧ Blk ws (kt + 1) 98 #[.string a8, .string a9, .int .i64 a2, .int .i64 0]) (by kernel_rfl) ⟨HT5.out.drew, HW5.out.drew⟩ (fun hHeld => ?_)
            refine wpAnyH_take (i := 0) rfl (by kernel_rfl) (by kernel_rfl) (by kernel_rfl) (fun _ _ _ h => h) (yieldsIf_load_blk (by rfl) 93 _ rfl kt rfl (fun ws h => h.1) hu7 rfl (by kernel_rfl)) hHeld ?_
            simp only [Act.put, List.setIfInBounds_toArray, List.set_cons_zero, List.set_cons_succ, List.getElem_toArray, List.getElem_cons_zero, List.getElem_cons_succ]
            refine wpAnyH_take (i := 1) rfl (by kernel_rfl) (by kernel_rfl) (by kernel_rfl) (fun _ _ _ h => h) (yieldsIf_load_blk (by rfl) 98 _ rfl (kt + 1) rfl (fun ws h => h.2) hu4 rfl (by kernel_rfl)) hHeld ?_
            simp only [Act.put, List.setIfInBounds_toArray, List.set_cons_zero, List.set_cons_succ, List.getElem_toArray, List.getElem_cons_zero, List.getElem_cons_succ]
            refine wpAnyH_take (i := 2) rfl (by kernel_rfl) (by kernel_rfl) (by kernel_rfl) (fun _ _ _ h => h) (v := .string t6) (Or.inl ⟨by rfl, fun ws _ => rfl⟩) hHeld ?_
            simp only [Act.put, List.setIfInBounds_toArray, List.set_cons_zero, List.set_cons_succ, List.getElem_toArray, List.getElem_cons_zero, List.getElem_cons_succ]
            refine wpAnyH_ready (rs := [3]) (by kernel_rfl) (by simp) ?_
            refine AllReadyH.cons rfl (fun K hK => ?_) .nil
            rw [if_pos (by rfl)]
            refine wp_store_blk 93 _ _ rfl k _ rfl rfl 93 _ HK7.out.drew (by kernel_rfl) rfl (by kernel_rfl) ?_
            intro wa h7a ga
            refine hK.out _ _ ⟨HT5.out.drew.grown ga HG5.out.1, HW5.out.drew.grown ga HG5.out.2.1⟩ (fun hHeld2 => ?_)
            clear hK K hHeld
            have H4a := Aside0.mk (HK4.out.drew.grown ga (by simp))
            have H7a := Aside0.mk h7a
            have HBa := Aside0.mk (HKB.out.drew.trans (below_of_grown ga (by have := HKZ.out; show k ≤ w5.heap.size; omega) (Nat.le_refl _)))
            have HZa := Aside0.mk (show k + 1 < wa.heap.size from H4a.out.lt)
            clear h7a ga
            simp only [Act.put, List.setIfInBounds_toArray, List.set_cons_zero, List.set_cons_succ, List.getElem_toArray, List.getElem_cons_zero, List.getElem_cons_succ]
            refine wpAnyH_ready (rs := [4]) (by kernel_rfl) (by simp) ?_
            refine AllReadyH.cons rfl (fun K hK => ?_) .nil
            rw [if_pos (by rfl)]
            refine wp_store_blk 98 _ _ rfl (k + 1) _ rfl rfl 98 _ H4a.out (by kernel_rfl) rfl (by kernel_rfl) ?_
            intro wb h4b gb
            refine hK.out _ _ ⟨hHeld2.1.grown gb HG5.out.2.2.1, hHeld2.2.grown gb HG5.out.2.2.2⟩ (fun hHeld3 => ?_)
            clear hK K hHeld2
            have H7b := Aside0.mk (H7a.out.grown gb (by simp))
            have H4b := Aside0.mk h4b
            have HBb := Aside0.mk (HBa.out.trans (below_of_grown gb (by have := HZa.out; omega) (Nat.le_succ _)))
            clear h4b gb
            simp only [Act.put, List.setIfInBounds_toArray, List.set_cons_zero, List.set_cons_succ, List.getElem_toArray, List.getElem_cons_zero, List.getElem_cons_succ]
            refine wpAnyH_take (i := 5) rfl (by kernel_rfl) (by kernel_rfl) (by kernel_rfl) (fun _ _ _ h => h) (v := .string t6) (Or.inl ⟨by rfl, fun ws _ => rfl⟩) hHeld3 ?_
            simp only [Act.put, List.setIfInBounds_toArray, List.set_cons_zero, List.set_cons_succ, List.getElem_toArray, List.getElem_cons_zero, List.getElem_cons_succ]
            refine wpAnyH_take (i := 6) rfl (by kernel_rfl) (by kernel_rfl) (by kernel_rfl) (fun _ _ _ h => h) (v := .int .i64 0) (Or.inl ⟨by rfl, fun ws _ => rfl⟩) hHeld3 ?_
            simp only [Act.put, List.setIfInBounds_toArray, List.set_cons_zero, List.set_cons_succ, List.getElem_toArray, List.getElem_cons_zero, List.getElem_cons_succ]
            refine wpAnyH_done (by kernel_rfl) ?_ _
            go_wp2
            exact bodyPost_ret (results_cctt rfl _ _ k (k + 1) #[.int .i64 2, .bool t2, .bool t3, .int .u32 t4, .bool a6, .int .i64 a4, .int .i64 a1] #[.string a8, .string a9, .int .i64 a2, .int .i64 0] _ _ rfl H7b.out hu7 rfl (by kernel_rfl) rfl H4b.out hu4 rfl (by kernel_rfl)) rfl ⟨rfl, by rw [HKK.out]; exact HBb.out⟩
          · as_aux_lemma =>
            have k1 : ((47 : Int) != a5) = true := bne_iff_ne.mpr (fun h => hp h.symm)
            have HPn := Aside0.mk hp
            clear hp
            go_wp2
            go_roundg 0
            case measure => have := HJ.out; omega
            case rel => exact ⟨1, rfl, ⟨by omega⟩, ⟨fun _ => HPn.out⟩, rfl⟩
        · as_aux_lemma =>
          clear x4 HHD q0
          go_wp2
          go_roundg 1
          case measure => have := HI.out; omega
          case rel => exact ⟨3, rfl, ⟨by omega⟩, ⟨fun _ => HY.out.1 (by decide), fun _ => HN.out (by decide), fun h => absurd h (by decide)⟩, HU2⟩
    · have hsel : True := trivial
      go_wp2_with fail
      refine (tunnel_modes.calls _).mono ?_
      rintro e w4 ⟨b, s1, s2, s3, rfl, hm, hb⟩
      have HU1 := Aside0.mk (HU.out.below hb)
      have l1 := (hm.look false).2.2
      rw [if_neg (by decide)] at l1
      have HMD := Aside0.mk hm
      clear hb hm HU
      go_upto_region 10 with (fail)
      clear l1
      have HU2 := Aside0.mk (HU1.out.alloc (.cells #[fnv 130, fnv 131, fnv 132, .slice (some ⟨s3, 0, none⟩) 1 1, fnv 133] 161))
      have HM2 := Aside0.mk (Blk.new w4 161 #[fnv 130, fnv 131, fnv 132, .slice (some ⟨s3, 0, none⟩) 1 1, fnv 133])
      have HSL := Aside0.mk ((HMD.out.2.alloc (.cells #[fnv 130, fnv 131, fnv 132, .slice (some ⟨s3, 0, none⟩) 1 1, fnv 133] 161)))
      clear HU1 HMD
      generalize w4.alloc (.cells #[fnv 130, fnv 131, fnv 132, .slice (some ⟨s3, 0, none⟩) 1 1, fnv 133] 161) = W2 at HU2 HM2 HSL ⊢
      generalize w4.heap.size = gm at HM2 ⊢
      have m3 : W2.cell? ⟨gm, 3, none⟩ = some (.slice (some ⟨s3, 0, none⟩) 1 1) := HM2.out.cell 3 _ rfl
      have q0 : W2.cell? ⟨s3, 0, none⟩ = some (.int .i64 17) := HSL.out.tail.tail.head.cell 0 _ rfl
      have HHD := Aside0.mk HU2.out.1.tail.tail.head
      have x4 : W2.cell? ⟨g, 4, none⟩ = some (.int .i64 a5) := HHD.out.cell 4 _ rfl
      go_wp2_with fail
      clear m3
      go_loopg [49] 1 (fun kq v49 wz => ∃ j : Nat, v49 = .int .i64 (j : Int) ∧ Aside0 (j + kq = 1) ∧ Aside0 ((1 ≤ j → a5 ≠ 17)) ∧ wz = W2)
      case atStart => exact ⟨0, rfl, ⟨by omega⟩, ⟨fun h => absurd h (by decide)⟩, rfl⟩
      case round =>
        obtain ⟨j, rfl, HJ, HN, rfl⟩ := hrel
        have hj : j = 0 ∨ j = 1 := by have := HJ.out; omega
        rcases hj with rfl | rfl
        · by_cases hp : a5 = 17
          · subst hp
            as_aux_lemma =>
            have hx : ∃ P S x e, gue_Get.f a8 a9 a11 = some (P, S, x, e) ∧ (t1, t2, t3, t4, t5, t6, t7) = (3, S, false, 0, P, x, e) := by
              have h := HT.out
              unfold tunGet at h
              rw [if_neg (by decide), if_neg (by decide), if_pos rfl] at h
              obtain ⟨⟨q1, q2, q3, q4⟩, h1, h2⟩ := Option.bind_eq_some_iff.mp h
              exact ⟨q1, q2, q3, q4, h1, (Option.some.inj h2).symm⟩
            obtain ⟨P, S, x, ee, hg, hq⟩ := hx
            simp only [Prod.mk.injEq] at hq
            obtain ⟨rfl, rfl, rfl, rfl, rfl, rfl, rfl⟩ := hq
            have HGt := Aside0.mk hg
            clear hg HT
            have HT0 := Aside0.mk ((Blk.new wr 93 #[.int .i64 3, .bool false, .bool false, .int .u32 0, .bool a6, .int .i64 a4, .int .i64 a1]).alloc (.cells #[.string a8, .string a9, .int .i64 a2, .int .i64 0] 98))
            have HW0 := Aside0.mk (show Blk ((wr.alloc (.cells #[.int .i64 3, .bool false, .bool false, .int .u32 0, .bool a6, .int .i64 a4, .int .i64 a1] 93)).alloc (.cells #[.string a8, .string a9, .int .i64 a2, .int .i64 0] 98)) (wr.heap.size + 1) 98 #[.string a8, .string a9, .int .i64 a2, .int .i64 0] by have h := Blk.new (wr.alloc (.cells #[.int .i64 3, .bool false, .bool false, .int .u32 0, .bool a6, .int .i64 a4, .int .i64 a1] 93)) 98 #[.string a8, .string a9, .int .i64 a2, .int .i64 0]; rw [World.size_alloc] at h; exact h)
            have HU3 := Aside0.mk ((HU2.out.alloc (.cells #[.int .i64 3, .bool false, .bool false, .int .u32 0, .bool a6, .int .i64 a4, .int .i64 a1] 93)).alloc (.cells #[.string a8, .string a9, .int .i64 a2, .int .i64 0] 98))
            have HM3 := Aside0.mk ((HM2.out.alloc (.cells #[.int .i64 3, .bool false, .bool false, .int .u32 0, .bool a6, .int .i64 a4, .int .i64 a1] 93)).alloc (.cells #[.string a8, .string a9, .int .i64 a2, .int .i64 0] 98))
            have HG3 := Aside0.mk (show g < wr.heap.size ∧ k + 1 < wr.heap.size from ⟨HU2.out.1.tail.tail.head.lt, HU2.out.1.tail.head.lt⟩)
            have HHD := Aside0.mk HU2.out.1.tail.tail.head
            have x0 : wr.cell? ⟨g, 0, none⟩ = some (.int .i64 a1) := HHD.out.cell 0 _ rfl
            have x1 : wr.cell? ⟨g, 1, none⟩ = some (.int .i64 a2) := HHD.out.cell 1 _ rfl
            have x3 : wr.cell? ⟨g, 3, none⟩ = some (.int .i64 a4) := HHD.out.cell 3 _ rfl
            have x5 : wr.cell? ⟨g, 5, none⟩ = some (.bool a6) := HHD.out.cell 5 _ rfl
            have x7 : wr.cell? ⟨g, 7, none⟩ = some (.string a8) := HHD.out.cell 7 _ rfl
            have x8 : wr.cell? ⟨g, 8, none⟩ = some (.string a9) := HHD.out.cell 8 _ rfl
            have hgl := HHD.out.lt
            have hgn : ¬ g = wr.heap.size := Nat.ne_of_lt hgl
            go_upto_region 16 with (fail)
            clear x0 x1 x3 x5 x7 x8 HHD hgl hgn
            generalize (wr.alloc (.cells #[.int .i64 3, .bool false, .bool false, .int .u32 0, .bool a6, .int .i64 a4, .int .i64 a1] 93)).alloc (.cells #[.string a8, .string a9, .int .i64 a2, .int .i64 0] 98) = W3 at HT0 HW0 HU3 HM3 ⊢
            generalize wr.heap.size = kt at HT0 HW0 HG3 ⊢
            have HHD := Aside0.mk HU3.out.1.tail.tail.head
            have m4 : W3.cell? ⟨gm, 4, none⟩ = some (fnv 133) := HM3.out.cell 4 _ rfl
            go_wp2_with (refine wpList_load_blk rfl 69 _ rfl g rfl _ _ _ HHD.out hu10 rfl (by kernel_rfl) ?_)
            clear m4 HHD
            refine (get12.calls a1 a2 0 a4 17 a6 false a8 a9 a10 a11 W3 kt (kt + 1) _ _ _ _ HGt.out (HV.out.below (by rw [HKK.out]; exact HU3.out.2.1)) _ (Nat.lt_succ_self _) rfl HT0.out _ rfl HW0.out).mono ?_
            rintro e' w5 ⟨rfl, g5, q5, q6⟩
            have HT5 := Aside0.mk (show Blk w5 kt 93 #[.int .i64 3, .bool t2, .bool false, .int .u32 0, .bool a6, .int .i64 a4, .int .i64 a1] from q5)
            have HW5 := Aside0.mk (show Blk w5 (kt + 1) 98 #[.string a8, .string a9, .int .i64 a2, .int .i64 t5] from q6)
            have HB5 := Aside0.mk g5
            clear q5 q6
            have HU5 := Aside0.mk (show Hp w5 [(k, 93, #[.int .i64 0, .bool false, .bool false, .int .u32 0, .bool false, .int .i64 0, .int .i64 0]), (k + 1, 98, #[.string ⟨#[]⟩, .string ⟨#[]⟩, .int .i64 0, .int .i64 0])] ∧ Below k w w5 from ⟨.cons (HU3.out.1.head.below HB5.out (by have := HG3.out; omega)) (.cons (HU3.out.1.tail.head.below HB5.out HG3.out.2) (.nil _)), HU3.out.2.1.trans (HB5.out.mono (by have := HG3.out; omega))⟩)
            have HG5 := Aside0.mk (show kt ≠ k ∧ kt + 1 ≠ k ∧ kt ≠ k + 1 ∧ kt + 1 ≠ k + 1 by have := HG3.out; omega)
            clear g5 HT0 HW0 HU3 HM3
            have HK7 := Aside0.mk HU5.out.1.head
            have HK4 := Aside0.mk HU5.out.1.tail.head
            have HKB := Aside0.mk HU5.out.2
            have HKZ := Aside0.mk (show k + 1 < w5.heap.size from HK4.out.lt)
            by_cases he : t7 = 0
            case neg =>
              have hb := Option.some.inj ((if_pos he).symm.trans H4.out)
              simp only [tun_bad, Prod.mk.injEq] at hb
              obtain ⟨rfl, rfl, rfl, rfl, rfl, rfl, rfl, rfl, rfl, rfl, rfl, rfl, rfl⟩ := hb
              have k2 : (t7 != 0) = true := bne_iff_ne.mpr he
              clear he
              as_aux_lemma =>
              go_wp2_with (refine wpList_store_blk rfl 93 _ _ rfl k _ rfl rfl 93 _ HK7.out (by kernel_rfl) rfl (by kernel_rfl) ?_)
              intro wa h7a ga
              have H4a := Aside0.mk (HK4.out.grown ga (by simp))
              have H7a := Aside0.mk h7a
              have HBa := Aside0.mk (HKB.out.trans (below_of_grown ga (by have := HKZ.out; omega) (Nat.le_refl _)))
              have HZa := Aside0.mk (show k + 1 < wa.heap.size from H4a.out.lt)
              clear h7a ga
              go_wp2_with (refine wpList_store_blk rfl 98 _ _ rfl (k + 1) _ rfl rfl 98 _ H4a.out (by kernel_rfl) rfl (by kernel_rfl) ?_)
              intro wb h4b gb
              have H7b := Aside0.mk (H7a.out.grown gb (by simp))
              have H4b := Aside0.mk h4b
              have HBb := Aside0.mk (HBa.out.trans (below_of_grown gb (by have := HZa.out; omega) (Nat.le_succ _)))
              clear h4b gb
              go_wp2
              exact bodyPost_ret (results_cctt rfl _ _ k (k + 1) (tunV 0 false false 0 false 0 0) (wayV ⟨#[]⟩ ⟨#[]⟩ 0 0) _ _ rfl H7b.out hu7 rfl (by kernel_rfl) rfl H4b.out hu4 rfl (by kernel_rfl)) rfl ⟨rfl, by rw [HKK.out]; exact HBb.out⟩
            have hb := Option.some.inj ((if_neg (fun h => h he)).symm.trans H4.out)
            simp only [Prod.mk.injEq] at hb
            obtain ⟨rfl, rfl, rfl, rfl, rfl, rfl, rfl, rfl, rfl, rfl, rfl, rfl, rfl⟩ := hb
            subst he
            go_upto_region 19 with (fail)
            refine wp_region_held_drew (S := fun ws => Blk ws kt 93 #[.int .i64 3, .bool t2, .bool false, .int .u32 0, .bool a6, .int .i64 a4, .int .i64 a1] ∧ Blk ws (kt + 1) 98 #[.string a8, .string a9, .int .i64 a2, .int .i64 t5]) (by kernel_rfl) ⟨HT5.out.drew, HW5.out.drew⟩ (fun hHeld => ?_)
            refine wpAnyH_take (i := 0) rfl (by kernel_rfl) (by kernel_rfl) (by kernel_rfl) (fun _ _ _ h => h) (yieldsIf_load_blk (by rfl) 93 _ rfl kt rfl (fun ws h => h.1) hu7 rfl (by kernel_rfl)) hHeld ?_
            simp only [Act.put, List.setIfInBounds_toArray, List.set_cons_zero, List.set_cons_succ, List.getElem_toArray, List.getElem_cons_zero, List.getElem_cons_succ]
            refine wpAnyH_take (i := 1) rfl (by kernel_rfl) (by kernel_rfl) (by kernel_rfl) (fun _ _ _ h => h) (yieldsIf_load_blk (by rfl) 98 _ rfl (kt + 1) rfl (fun ws h => h.2) hu4 rfl (by kernel_rfl)) hHeld ?_
            simp only [Act.put, List.setIfInBounds_toArray, List.set_cons_zero, List.set_cons_succ, List.getElem_toArray, List.getElem_cons_zero, List.getElem_cons_succ]
            refine wpAnyH_take (i := 2) rfl (by kernel_rfl) (by kernel_rfl) (by kernel_rfl) (fun _ _ _ h => h) (v := .string t6) (Or.inl ⟨by rfl, fun ws _ => rfl⟩) hHeld ?_
            simp only [Act.put, List.setIfInBounds_toArray, List.set_cons_zero, List.set_cons_succ, List.getElem_toArray, List.getElem_cons_zero, List.getElem_cons_succ]
            refine wpAnyH_ready (rs := [3]) (by kernel_rfl) (by simp) ?_
            refine AllReadyH.cons rfl (fun K hK => ?_) .nil
            rw [if_pos (by rfl)]
            refine wp_store_blk 93 _ _ rfl k _ rfl rfl 93 _ HK7.out.drew (by kernel_rfl) rfl (by kernel_rfl) ?_
            intro wa h7a ga
            refine hK.out _ _ ⟨HT5.out.drew.grown ga HG5.out.1, HW5.out.drew.grown ga HG5.out.2.1⟩ (fun hHeld2 => ?_)
            clear hK K hHeld
            have H4a := Aside0.mk (HK4.out.drew.grown ga (by simp))
            have H7a := Aside0.mk h7a
            have HBa := Aside0.mk (HKB.out.drew.trans (below_of_grown ga (by have := HKZ.out; show k ≤ w5.heap.size; omega) (Nat.le_refl _)))
            have HZa := Aside0.mk (show k + 1 < wa.heap.size from H4a.out.lt)
            clear h7a ga
            simp only [Act.put, List.setIfInBounds_toArray, List.set_cons_zero, List.set_cons_succ, List.getElem_toArray, List.getElem_cons_zero, List.getElem_cons_succ]
            refine wpAnyH_ready (rs := [4]) (by kernel_rfl) (by simp) ?_
            refine AllReadyH.cons rfl (fun K hK => ?_) .nil
            rw [if_pos (by rfl)]
            refine wp_store_blk 98 _ _ rfl (k + 1) _ rfl rfl 98 _ H4a.out (by kernel_rfl) rfl (by kernel_rfl) ?_
            intro wb h4b gb
            refine hK.out _ _ ⟨hHeld2.1.grown gb HG5.out.2.2.1, hHeld2.2.grown gb HG5.out.2.2.2⟩ (fun hHeld3 => ?_)
            clear hK K hHeld2
            have H7b := Aside0.mk (H7a.out.grown gb (by simp))
            have H4b := Aside0.mk h4b
            have HBb := Aside0.mk (HBa.out.trans (below_of_grown gb (by have := HZa.out; omega) (Nat.le_succ _)))
            clear h4b gb
            simp only [Act.put, List.setIfInBounds_toArray, List.set_cons_zero, List.set_cons_succ, List.getElem_toArray, List.getElem_cons_zero, List.getElem_cons_succ]
            refine wpAnyH_take (i := 5) rfl (by kernel_rfl) (by kernel_rfl) (by kernel_rfl) (fun _ _ _ h => h) (v := .string t6) (Or.inl ⟨by rfl, fun ws _ => rfl⟩) hHeld3 ?_
            simp only [Act.put, List.setIfInBounds_toArray, List.set_cons_zero, List.set_cons_succ, List.getElem_toArray, List.getElem_cons_zero, List.getElem_cons_succ]
            refine wpAnyH_take (i := 6) rfl (by kernel_rfl) (by kernel_rfl) (by kernel_rfl) (fun _ _ _ h => h) (v := .int .i64 0) (Or.inl ⟨by rfl, fun ws _ => rfl⟩) hHeld3 ?_
            simp only [Act.put, List.setIfInBounds_toArray, List.set_cons_zero, List.set_cons_succ, List.getElem_toArray, List.getElem_cons_zero, List.getElem_cons_succ]
            refine wpAnyH_done (by kernel_rfl) ?_ _
            go_wp2
            exact bodyPost_ret (results_cctt rfl _ _ k (k + 1) #[.int .i64 3, .bool t2, .bool false, .int .u32 0, .bool a6, .int .i64 a4, .int .i64 a1] #[.string a8, .string a9, .int .i64 a2, .int .i64 t5] _ _ rfl H7b.out hu7 rfl (by kernel_rfl) rfl H4b.out hu4 rfl (by kernel_rfl)) rfl ⟨rfl, by rw [HKK.out]; exact HBb.out⟩
          · as_aux_lemma =>
            have k1 : ((17 : Int) != a5) = true := bne_iff_ne.mpr (fun h => hp h.symm)
            have HPn := Aside0.mk hp
            clear hp
            go_wp2
            go_roundg 0
            case measure => have := HJ.out; omega
            case rel => exact ⟨1, rfl, ⟨by omega⟩, ⟨fun _ => HPn.out⟩, rfl⟩
        · as_aux_lemma =>
          clear x4 HHD q0
          go_wp2
          go_roundg 0
          case measure => have := HI.out; omega
          case rel => exact ⟨4, rfl, ⟨by omega⟩, ⟨fun _ => HY.out.1 (by decide), fun _ => HY.out.2.1 (by decide), fun _ => HN.out (by decide)⟩, HU2⟩
    · as_aux_lemma =>
      have ht : (t1, t2, t3, t4, t5, t6, t7) = (0, false, false, 0, 0, ⟨#[]⟩, 6) := by
        have h := HT.out
        unfold tunGet at h
        have y := HY.out
        rw [if_neg (by rintro (h | h); exact (y.1 (by decide)).1 h; exact (y.1 (by decide)).2 h), if_neg (y.2.1 (by decide)), if_neg (y.2.2 (by decide))] at h
        exact (Option.some.inj h).symm
      simp only [Prod.mk.injEq] at ht
      obtain ⟨rfl, rfl, rfl, rfl, rfl, rfl, rfl⟩ := ht
      have hb := Option.some.inj ((if_pos (by decide)).symm.trans H4.out)
      simp only [tun_bad, Prod.mk.injEq] at hb
      obtain ⟨rfl, rfl, rfl, rfl, rfl, rfl, rfl, rfl, rfl, rfl, rfl, rfl, rfl⟩ := hb
      clear HT H4 HY
      have HK7 := Aside0.mk HU.out.1.head
      have HK4 := Aside0.mk HU.out.1.tail.head
      have HKB := Aside0.mk HU.out.2.1
      have HKZ := Aside0.mk (show k + 1 < wr.heap.size from HK4.out.lt)
      go_wp2_with (refine wpList_store_blk rfl 93 _ _ rfl k _ rfl rfl 93 _ HK7.out (by kernel_rfl) rfl (by kernel_rfl) ?_)
      intro wa h7a ga
      have H4a := Aside0.mk (HK4.out.grown ga (by simp))
      have H7a := Aside0.mk h7a
      have HBa := Aside0.mk (HKB.out.trans (below_of_grown ga (by have := HKZ.out; omega) (Nat.le_refl _)))
      have HZa := Aside0.mk (show k + 1 < wa.heap.size from H4a.out.lt)
      clear h7a ga
      go_wp2_with (refine wpList_store_blk rfl 98 _ _ rfl (k + 1) _ rfl rfl 98 _ H4a.out (by kernel_rfl) rfl (by kernel_rfl) ?_)
      intro wb h4b gb
      have H7b := Aside0.mk (H7a.out.grown gb (by simp))
      have H4b := Aside0.mk h4b
      have HBb := Aside0.mk (HBa.out.trans (below_of_grown gb (by have := HZa.out; omega) (Nat.le_succ _)))
      clear h4b gb
      go_wp2
      exact bodyPost_ret (results_cctt rfl _ _ k (k + 1) (tunV 0 false false 0 false 0 0) (wayV ⟨#[]⟩ ⟨#[]⟩ 0 0) _ _ rfl H7b.out hu7 rfl (by kernel_rfl) rfl H4b.out hu4 rfl (by kernel_rfl)) rfl ⟨rfl, by rw [HKK.out]; exact HBb.out⟩
end Go.Proofs.YtcmalglippmocaaDoor.G
end
