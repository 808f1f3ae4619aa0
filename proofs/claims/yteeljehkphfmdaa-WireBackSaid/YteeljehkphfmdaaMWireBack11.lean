/- Texts of this session, joined: each is a section. -/
import Derived.Test.YteeljehkphfmdaaMWireBack7
import Derived.Test.YteeljehkphfmdaaMWireBack10
import Derived.Test.YteeljehkphfmdaaMWireBack4
set_option linter.unusedVariables false
set_option linter.unusedSimpArgs false
section
namespace Go.Proofs.Yteeljehkphfmdaa.G
open Go.RowKit Go.Proofs.YteeljehkphfmdaaW.PrintWords Go.Proofs.YteeljehkphfmdaaW.PrintLast Go.Proofs.YteeljehkphfmdaaW.PrintMore Go.Proofs.Yteeljehkphfmdaa.Pal Go.Proofs.Yteeljehkphfmdaa.Pure
theorem infoCall : (Try.prog.info? 27).map (fun i => (i.zero, i.size, i.bytes)) = some (some (.agg #[(.int .i64 0), (.int .i64 0), (.int .u64 0), (.string ⟨#[]⟩)]), 4, 40) := by kernel_rfl
def WB (B : Nat) (w w1 : World) (v : Value) (out : List S27) : Prop := Kd.R k27 27 w1 B (fun _ => True) v out ∧ Below B w w1 ∧ w.heap.size = B
theorem WB.size {B : Nat} {w w1 : World} {v : Value} {out : List S27} (h : WB B w w1 v out) : B ≤ w1.heap.size := by have := h.2.1.size; rw [h.2.2] at this; exact this
def WC (B g : Nat) (w w1 : World) (v : Value) (out : List S27) (x : Array Value) : Prop :=
  Kd.R k27 27 w1 B (fun k => k ≠ g) v out ∧ Below B w w1 ∧ w.heap.size = B ∧ Blk w1 g 27 x ∧ B ≤ g
theorem WB.new {B : Nat} {w w1 : World} {v : Value} {out : List S27} (h : WB B w w1 v out) (x : Array Value) : WC B w1.heap.size w (w1.alloc (.cells x 27)) v out x :=
  ⟨Kd.R_alloc (Kd.R_mono (Kd.R_bound h.1) (fun k hk => by have := hk.2.2.1; omega)) _, h.2.1.alloc h.size _, h.2.2, Blk.new _ _ _, h.size⟩
theorem WC.put {B g : Nat} {w w1 : World} {v : Value} {out : List S27} {x : Array Value} (h : WC B g w w1 v out x) (i : Nat) (u : Value) : WC B g w (w1.setCell ⟨g, i, none⟩ u) v out (x.setIfInBounds i u) :=
  ⟨Kd.R_far h.1 (fun k hk => hk) _, h.2.1.setCell h.2.2.2.2 _, h.2.2.1, h.2.2.2.1.set i u, h.2.2.2.2⟩
theorem WC.drewN {B g : Nat} {w w1 : World} {v : Value} {out : List S27} {x : Array Value} (h : WC B g w w1 v out x) (q : Nat) : WC B g w (w1.drewN q) v out x :=
  ⟨Kd.R_drewN h.1 q, pw_below_drewN h.2.1 q, h.2.2.1, h.2.2.2.1.drewN q, h.2.2.2.2⟩
theorem WC.row {B g : Nat} {w w1 : World} {v : Value} {out : List S27} {x : Array Value} (h : WC B g w w1 v out x) {A : Option Addr} {l : List S27} (hC : Kd.C k27 w A l.length l) : Kd.C k27 w1 A l.length l := Kd.C_below hC (by rw [h.2.2.1]; exact h.2.1)
theorem WC.size {B g : Nat} {w w1 : World} {v : Value} {out : List S27} {x : Array Value} (h : WC B g w w1 v out x) : B ≤ w1.heap.size := by have := h.2.1.size; rw [h.2.2.1] at this; exact this
theorem WC.next {B g : Nat} {w w1 w2 : World} {v v1 : Value} {out out1 : List S27} {x : Array Value} (h : WC B g w w1 v out x) (hb : Below B w1 w2) (hR : Kd.R k27 27 w2 B (fun k => k ≠ g) v1 out1) : WB B w w2 v1 out1 :=
  ⟨Kd.R_mono hR (fun _ _ => trivial), h.2.1.trans hb, h.2.2.1⟩
theorem WC.cells {B g : Nat} {w w1 : World} {v : Value} {out : List S27} {x : Array Value} (h : WC B g w w1 v out x) (i : Nat) (u : Value) (hx : x[i]? = some u) : w1.cell? ⟨g, i, none⟩ = some u ∧ w1.frozen? ⟨g, i, none⟩ = false :=
  ⟨h.2.2.2.1.cell i _ hx, h.2.2.2.1.free i⟩
theorem WC.newer {B g : Nat} {w w1 : World} {v : Value} {out : List S27} {x : Array Value} (h : WC B g w w1 v out x) {k : Nat} (hk : w1.heap.size ≤ k) : k ≠ g := by have := h.2.2.2.1.lt; omega
theorem call_mkM (w : World) (base : Nat) (ok : Nat → Prop) (x : S27) : k27.M w base ok x [.int .i64 x.f0, .int .i64 x.f1, .int .u64 x.f2, .string x.f3] := ⟨[.int .i64 x.f0], [.int .i64 x.f1, .int .u64 x.f2, .string x.f3], rfl, rfl, ⟨[.int .i64 x.f1], [.int .u64 x.f2, .string x.f3], rfl, rfl, ⟨[.int .u64 x.f2], [.string x.f3], rfl, rfl, rfl⟩⟩⟩
abbrev cv (q : S27) : Array Value := #[.int .i64 q.f0, .int .i64 q.f1, .int .u64 q.f2, .string q.f3]

theorem maskU (i : Nat) (hi : i ≤ 63) (x : Int) (h : 0 ≤ x ∧ x < 18446744073709551616) : Go.bits .and .u64 x (IntKind.u64.wrap (IntKind.u64.wrap ((2 ^ i : Nat) : Int) - 1)) = x % ((2 ^ i : Nat) : Int) := by
  obtain ⟨a, rfl⟩ := Int.eq_ofNat_of_zero_le h.1
  have hp : (2 : Nat) ^ i ≤ 2 ^ 63 := Nat.pow_le_pow_right (by decide) hi
  have h1 : 1 ≤ (2 : Nat) ^ i := Nat.one_le_two_pow
  have e3 : a &&& (2 ^ i - 1) = a % 2 ^ i := Nat.and_two_pow_sub_one_eq_mod a i
  generalize 2 ^ i = N at *
  have e1 : IntKind.u64.wrap (N : Int) = (N : Int) := by rw [IntKind.wrap_u64]; omega
  have e2 : IntKind.u64.wrap ((N : Int) - 1) = ((N - 1 : Nat) : Int) := by rw [IntKind.wrap_u64]; omega
  rw [e1, e2, u64_and' a (N - 1) (by omega) (by omega), e3]
  rfl
theorem WC.endN {B g : Nat} {w w1 : World} {v : Value} {out : List S27} {q : S27} (h : WC B g w w1 v out (cv q)) (n : Nat) {x : Int} (e : cv (nrm q) = #[.int .i64 q.f0, .int .i64 q.f1, .int .u64 x, .string q.f3]) : WC B g w ((w1.drewN n).setCell ⟨g, 2, none⟩ (.int .u64 x)) v out (cv (nrm q)) := by
  have h1 := (h.drewN n).put 2 (.int .u64 x)
  rw [e]
  exact h1
set_option maxHeartbeats 8000000 in
set_option maxRecDepth 100000 in
theorem back_main (l : List S27) (cut : Int) (A : Option Addr) (c : Nat) (w : World) (hC : Kd.C k27 w A l.length l) (hc : l.length ≤ c) (hs : ∀ x ∈ l, (0 ≤ x.f2 ∧ x.f2 < 18446744073709551616) ∧ x.f3.size ≤ 140737488351232) :
    Calls Try.prog 3 #[.slice A l.length c, .int .i64 cut] w fun e w' => e = .returned (.bool true) ∧ Below w.heap.size w w' := by
  obtain ⟨b, hf, hB⟩ := few_is2 l (fun c hc => (hs c hc).2) 1000 (by omega)
  obtain ⟨B, hBB⟩ : ∃ B, w.heap.size = B := ⟨_, rfl⟩
  have HBB := Aside0.mk hBB
  have HF := Aside0.mk hf
  have HS := Aside0.mk (And.intro hs hB)
  have HR := Aside0.mk (And.intro hC hc)
  have HB := Aside0.mk (show Below B w w from Below.refl _ _)
  clear hf hs hB hC hc hBB
  go_enter Try.func3, Try.ntmps3
  rw [HBB.out]
  go_wp2_with fail
  refine (palanquinlaw01_awake.calls true _ rfl).mono ?_
  rintro e' w2 ⟨rfl, g1⟩
  replace HB := Aside0.mk (HB.out.trans (g1.mono (by rw [HBB.out]; exact Nat.le_refl _)))
  clear g1
  go_wp2_with fail
  refine (palanquinlaw01_few.calls 1000 A c l b _ (Kd.C_below HR.out.1 (by rw [HBB.out]; exact HB.out)) HR.out.2 HF.out).mono ?_
  rintro e' w3 ⟨rfl, i3, rfl⟩
  replace HB := Aside0.mk (pw_below_drewN HB.out i3)
  generalize w2.drewN i3 = w3 at HB ⊢
  cases b with
  | false =>
    go_wp2
    go_ret
    exact ⟨rfl, HB.out⟩
  | true =>
  have HO := Aside0.mk (show okS l from ⟨(HS.out.2 rfl).1, fun c hc => ⟨(HS.out.1 c hc).1, (HS.out.2 rfl).2 c hc⟩⟩)
  clear HS HF
  have HW := Aside0.mk (show WB B w w3 (.slice none 0 0) [] from ⟨Kd.R_nil _ _ _ _ _, HB.out, HBB.out⟩)
  clear HB
  go_upto_region 6 with (fail)
  go_wp2_with fail
  go_loopg [6, 5] l.length (fun kq v6 v5 wr => ∃ (j : Nat), v6 = .int .i64 (j : Int) ∧ Aside0 (j + kq = l.length) ∧ Aside0 (WB B w wr v5 ((l.take j).map nrm)))
  case atStart => exact ⟨0, rfl, ⟨by omega⟩, HW⟩
  case round =>
    clear HW
    obtain ⟨j, rfl, HJ, HW⟩ := hrel
    by_cases hlt : j < l.length
    case neg =>
      have q1 : decide ((j : Int) < (l.length : Int)) = false := decide_eq_false (by omega)
      have q2 : decide (j < l.length) = false := decide_eq_false hlt
      have hj : (l.take j).map nrm = l.map nrm := by rw [List.take_of_length_le (by omega)]
      rw [hj] at HW
      have HK := Aside0.mk (And.intro (nrm_okS HO.out) (nrm_all HO.out))
      generalize l.map nrm = m at HW HK
      clear hlt hj
      obtain ⟨A2, c2, rfl, hcap, hC2⟩ := Kd.R_reads HW.out.1
      have H2 := Aside0.mk (And.intro hcap hC2)
      have HB := Aside0.mk HW.out.2.1
      have HZ := Aside0.mk HW.out.size
      clear HW hcap hC2 HO HJ HR
      as_aux_lemma =>
      go_wp2_with fail
      clear q1 q2
      have HN := Aside0.mk (WAt.new wr)
      have HB2 := Aside0.mk ((Below.refl wr.heap.size wr).alloc (Nat.le_refl _) (.cells #[.pointer none, .slice none 0 0] 34))
      have HU := Aside0.mk (rfl : wr.heap.size = wr.heap.size)
      generalize wr.alloc (.cells #[.pointer none, .slice none 0 0] 34) = W at HN HB2 ⊢
      refine (write_calls wr.heap.size [] wr A2 c2 m H2.out.1 HK.out.1 H2.out.2 W (Nat.le_refl _) HB2.out HN.out (by simp)).mono ?_
      rintro e' w4 ⟨rfl, g1, g2⟩
      replace HN := Aside0.mk (show WAt wr.heap.size (wcat m) w4 from g1)
      replace HB2 := Aside0.mk (HB2.out.trans g2)
      clear g1 g2
      go_wp2_with fail
      refine (Writer_String.calls wr.heap.size (wcat m) _ HN.out).mono ?_
      rintro e' w5 ⟨rfl, g1, g2⟩
      replace HB2 := Aside0.mk (HB2.out.trans g2)
      clear g1 g2 HN
      have ht : (⟨(wcat m).toArray⟩ : ByteArray) = txt (wcat m) := rfl
      have HT := Aside0.mk (And.intro (bl_txt (wcat m)) (txt_size (wcat m)))
      have HL := Aside0.mk (show (wcat m).length ≤ 505000 by have h := wcat_take_len HK.out.1 m.length; rwa [List.take_length] at h)
      rw [ht]
      generalize txt (wcat m) = t at HT ⊢
      clear ht
      have HRd := Aside0.mk (show palanquinlaw01_read.f t m = some (answ t.size 0 m, 0) from (if_pos ⟨by have := HT.out.2; have := HL.out; omega, by have := HK.out.1.1; omega, okN_noOK HK.out.2⟩).trans (congrArg some (reads_all t m 0 HK.out.2 (Nat.zero_le _) (by rw [List.drop_zero, HT.out.1]))))
      have HX := Aside0.mk (And.intro (answ_length t.size 0 m) (And.intro (fun i c y => answ_at t.size m 0 i c y) (fun y => answ_last t.size m 0 y)))
      generalize ha : answ t.size 0 m = a at HRd HX
      have HA := Aside0.mk ha
      clear ha
      go_wp2_with fail
      refine (palanquinlaw01_read.calls t A2 c2 m a 0 _ (Kd.C_below H2.out.2 HB2.out) H2.out.1 HRd.out).mono ?_
      rintro e' w6 ⟨v0, rfl, hR, hb⟩
      replace HB2 := Aside0.mk (HB2.out.trans (hb.mono HB2.out.size))
      obtain ⟨A3, c3, rfl, hcap3, hC3⟩ := Kd.R_reads hR
      have H3 := Aside0.mk (And.intro hcap3 hC3)
      clear hR hb hcap3 hC3 HRd
      rw [HX.out.1]
      go_wp2_with fail
      go_loopg [12] m.length (fun kq v12 wz => ∃ i : Nat, v12 = .int .i64 (i : Int) ∧ Aside0 (i + kq = m.length) ∧ ∃ q, wz = w6.drewN q)
      case atStart => exact ⟨0, rfl, ⟨by omega⟩, 0, rfl⟩
      case round =>
        obtain ⟨i, rfl, HI, q0, rfl⟩ := hrel
        by_cases hlt : i < m.length
        case pos =>
          as_aux_lemma =>
          have q1 : decide ((i : Int) < (m.length : Int)) = true := decide_eq_true (by omega)
          have q2 : decide (i < m.length) = true := decide_eq_true hlt
          have hla : i < a.length := by rw [HX.out.1]; exact hlt
          obtain ⟨ad, eA, x0, x1, x2, x3⟩ := at_T27 (Kd.C_drewN (Kd.C_below H2.out.2 HB2.out) q0) (i : Int) (by omega) (by omega)
          obtain ⟨ad', eA', y0, y1, y2, y3⟩ := at_T43 (Kd.C_drewN H3.out.2 q0) (i : Int) (by omega) (by omega)
          subst eA eA'
          have HE := Aside0.mk (HX.out.2.1 i (rd_T27 m (i : Int)) (rd_T43 a (i : Int)) (by rw [rd_getElem m i hlt]; simp [hlt]) (by simp [rd_T43, List.getD_eq_getElem?_getD, hla]))
          have HO := Aside0.mk (HK.out.2 (rd_T27 m (i : Int)) (by rw [rd_getElem m i hlt]; exact List.getElem_mem hlt))
          generalize rd_T27 m (i : Int) = q at *
          generalize rd_T43 a (i : Int) = y at *
          rw [Int.toNat_natCast] at x0 x1 x2 x3 y0 y1 y2 y3
          have p1 := eq_true hlt
          have HJ := Aside0.mk hlt
          clear hlt hla
          have hw : wrap64 ((i : Int) + 1) = ((i + 1 : Nat) : Int) := by have := HK.out.1.1; have := HJ.out; unfold wrap64; omega
          by_cases h4 : q.f0 = 4
          · have e1 := (HE.out.2).trans (if_pos h4)
            rw [e1] at y1
            have d0 : decide (q.f0 < 4) = false := decide_eq_false (by omega)
            have d1 : (q.f0 == 4) = true := beq_iff_eq.mpr h4
            have d2 : (q.f3.toList != q.f3.toList) = false := bne_self_eq_false _
            clear h4 e1 HE x1 x2 y0 y2 y3
            go_wp2_with fail
            --REG 27a
            refine wp_region_held_drew (S := fun ws => ws.cell? (ad.add (i * 4)) = some (.int .i64 q.f0) ∧ ws.cell? ⟨(ad.add (i * 4)).block, (ad.add (i * 4)).off + 3, none⟩ = some (.string q.f3) ∧ ws.cell? ⟨(ad'.add (i * 4)).block, (ad'.add (i * 4)).off + 1, none⟩ = some (.string q.f3)) (by kernel_rfl) ⟨x0, x3, y1⟩ (fun hHeld => ?_)
            refine wpAnyH_take (i := 0) (v := ?_) rfl (by kernel_rfl) (by kernel_rfl) (by kernel_rfl) (fun _ _ _ h => h) (Or.inl ⟨by rfl, ?_⟩) hHeld ?_
            rotate_left
            · (intro ws hS; obtain ⟨h0, h1, h2⟩ := hS; go_simp; try (with_reducible rfl))
            simp only [Act.put, List.setIfInBounds_toArray, List.set_cons_zero, List.set_cons_succ, List.getElem_toArray, List.getElem_cons_zero, List.getElem_cons_succ]
            refine wpAnyH_take (i := 1) (v := ?_) rfl (by kernel_rfl) (by kernel_rfl) (by kernel_rfl) (fun _ _ _ h => h) (Or.inl ⟨by rfl, ?_⟩) hHeld ?_
            rotate_left
            · (intro ws hS; obtain ⟨h0, h1, h2⟩ := hS; go_simp; try (with_reducible rfl))
            simp only [Act.put, List.setIfInBounds_toArray, List.set_cons_zero, List.set_cons_succ, List.getElem_toArray, List.getElem_cons_zero, List.getElem_cons_succ]
            refine wpAnyH_take (i := 2) (v := ?_) rfl (by kernel_rfl) (by kernel_rfl) (by kernel_rfl) (fun _ _ _ h => h) (Or.inl ⟨by rfl, ?_⟩) hHeld ?_
            rotate_left
            · (intro ws hS; obtain ⟨h0, h1, h2⟩ := hS; go_simp; try (with_reducible rfl))
            simp only [Act.put, List.setIfInBounds_toArray, List.set_cons_zero, List.set_cons_succ, List.getElem_toArray, List.getElem_cons_zero, List.getElem_cons_succ]
            refine wpAnyH_take (i := 3) (v := ?_) rfl (by kernel_rfl) (by kernel_rfl) (by kernel_rfl) (fun _ _ _ h => h) (Or.inl ⟨by rfl, ?_⟩) hHeld ?_
            rotate_left
            · (intro ws hS; obtain ⟨h0, h1, h2⟩ := hS; go_simp; try (with_reducible rfl))
            simp only [Act.put, List.setIfInBounds_toArray, List.set_cons_zero, List.set_cons_succ, List.getElem_toArray, List.getElem_cons_zero, List.getElem_cons_succ]
            refine wpAnyH_take (i := 4) (v := ?_) rfl (by kernel_rfl) (by kernel_rfl) (by kernel_rfl) (fun _ _ _ h => h) (Or.inl ⟨by rfl, ?_⟩) hHeld ?_
            rotate_left
            · (intro ws hS; obtain ⟨h0, h1, h2⟩ := hS; go_simp; try (with_reducible rfl))
            simp only [Act.put, List.setIfInBounds_toArray, List.set_cons_zero, List.set_cons_succ, List.getElem_toArray, List.getElem_cons_zero, List.getElem_cons_succ]
            refine wpAnyH_take (i := 5) (v := ?_) rfl (by kernel_rfl) (by kernel_rfl) (by kernel_rfl) (fun _ _ _ h => h) (Or.inl ⟨by rfl, ?_⟩) hHeld ?_
            rotate_left
            · (intro ws hS; obtain ⟨h0, h1, h2⟩ := hS; go_simp; try (with_reducible rfl))
            simp only [Act.put, List.setIfInBounds_toArray, List.set_cons_zero, List.set_cons_succ, List.getElem_toArray, List.getElem_cons_zero, List.getElem_cons_succ]
            refine wpAnyH_take (i := 6) (v := ?_) rfl (by kernel_rfl) (by kernel_rfl) (by kernel_rfl) (fun _ _ _ h => h) (Or.inl ⟨by rfl, ?_⟩) hHeld ?_
            rotate_left
            · (intro ws hS; obtain ⟨h0, h1, h2⟩ := hS; go_simp; try (with_reducible rfl))
            simp only [Act.put, List.setIfInBounds_toArray, List.set_cons_zero, List.set_cons_succ, List.getElem_toArray, List.getElem_cons_zero, List.getElem_cons_succ]
            refine wpAnyH_take (i := 7) rfl (by kernel_rfl) (by kernel_rfl) (by kernel_rfl) (fun _ _ _ h => h) (Or.inr ⟨by rfl, rfl⟩) hHeld ?_
            simp only [Act.put, List.setIfInBounds_toArray, List.set_cons_zero, List.set_cons_succ, List.getElem_toArray, List.getElem_cons_zero, List.getElem_cons_succ]
            refine wpAnyH_take (i := 8) rfl (by kernel_rfl) (by kernel_rfl) (by kernel_rfl) (fun _ _ _ h => h) (Or.inr ⟨by rfl, rfl⟩) hHeld ?_
            simp only [Act.put, List.setIfInBounds_toArray, List.set_cons_zero, List.set_cons_succ, List.getElem_toArray, List.getElem_cons_zero, List.getElem_cons_succ]
            refine wpAnyH_take (i := 9) rfl (by kernel_rfl) (by kernel_rfl) (by kernel_rfl) (fun _ _ _ h => h) (Or.inr ⟨by rfl, rfl⟩) hHeld ?_
            simp only [Act.put, List.setIfInBounds_toArray, List.set_cons_zero, List.set_cons_succ, List.getElem_toArray, List.getElem_cons_zero, List.getElem_cons_succ]
            refine wpAnyH_take (i := 10) rfl (by kernel_rfl) (by kernel_rfl) (by kernel_rfl) (fun _ _ _ h => h) (Or.inr ⟨by rfl, rfl⟩) hHeld ?_
            simp only [Act.put, List.setIfInBounds_toArray, List.set_cons_zero, List.set_cons_succ, List.getElem_toArray, List.getElem_cons_zero, List.getElem_cons_succ]
            refine wpAnyH_take (i := 11) rfl (by kernel_rfl) (by kernel_rfl) (by kernel_rfl) (fun _ _ _ h => h) (Or.inr ⟨by rfl, rfl⟩) hHeld ?_
            simp only [Act.put, List.setIfInBounds_toArray, List.set_cons_zero, List.set_cons_succ, List.getElem_toArray, List.getElem_cons_zero, List.getElem_cons_succ]
            refine wpAnyH_take (i := 12) rfl (by kernel_rfl) (by kernel_rfl) (by kernel_rfl) (fun _ _ _ h => h) (Or.inr ⟨by rfl, rfl⟩) hHeld ?_
            simp only [Act.put, List.setIfInBounds_toArray, List.set_cons_zero, List.set_cons_succ, List.getElem_toArray, List.getElem_cons_zero, List.getElem_cons_succ]
            refine wpAnyH_take (i := 13) rfl (by kernel_rfl) (by kernel_rfl) (by kernel_rfl) (fun _ _ _ h => h) (Or.inr ⟨by rfl, rfl⟩) hHeld ?_
            simp only [Act.put, List.setIfInBounds_toArray, List.set_cons_zero, List.set_cons_succ, List.getElem_toArray, List.getElem_cons_zero, List.getElem_cons_succ]
            refine wpAnyH_take (i := 14) rfl (by kernel_rfl) (by kernel_rfl) (by kernel_rfl) (fun _ _ _ h => h) (Or.inr ⟨by rfl, rfl⟩) hHeld ?_
            simp only [Act.put, List.setIfInBounds_toArray, List.set_cons_zero, List.set_cons_succ, List.getElem_toArray, List.getElem_cons_zero, List.getElem_cons_succ]
            refine wpAnyH_take (i := 15) rfl (by kernel_rfl) (by kernel_rfl) (by kernel_rfl) (fun _ _ _ h => h) (Or.inr ⟨by rfl, rfl⟩) hHeld ?_
            simp only [Act.put, List.setIfInBounds_toArray, List.set_cons_zero, List.set_cons_succ, List.getElem_toArray, List.getElem_cons_zero, List.getElem_cons_succ]
            refine wpAnyH_take (i := 16) rfl (by kernel_rfl) (by kernel_rfl) (by kernel_rfl) (fun _ _ _ h => h) (Or.inr ⟨by rfl, rfl⟩) hHeld ?_
            simp only [Act.put, List.setIfInBounds_toArray, List.set_cons_zero, List.set_cons_succ, List.getElem_toArray, List.getElem_cons_zero, List.getElem_cons_succ]
            refine wpAnyH_take (i := 17) rfl (by kernel_rfl) (by kernel_rfl) (by kernel_rfl) (fun _ _ _ h => h) (Or.inr ⟨by rfl, rfl⟩) hHeld ?_
            simp only [Act.put, List.setIfInBounds_toArray, List.set_cons_zero, List.set_cons_succ, List.getElem_toArray, List.getElem_cons_zero, List.getElem_cons_succ]
            refine wpAnyH_take (i := 18) (v := ?_) rfl (by kernel_rfl) (by kernel_rfl) (by kernel_rfl) (fun _ _ _ h => h) (Or.inl ⟨by rfl, ?_⟩) hHeld ?_
            rotate_left
            · (intro ws hS; obtain ⟨h0, h1, h2⟩ := hS; go_simp; try (with_reducible rfl))
            simp only [Act.put, List.setIfInBounds_toArray, List.set_cons_zero, List.set_cons_succ, List.getElem_toArray, List.getElem_cons_zero, List.getElem_cons_succ]
            refine wpAnyH_take (i := 19) (v := ?_) rfl (by kernel_rfl) (by kernel_rfl) (by kernel_rfl) (fun _ _ _ h => h) (Or.inl ⟨by rfl, ?_⟩) hHeld ?_
            rotate_left
            · (intro ws hS; obtain ⟨h0, h1, h2⟩ := hS; go_simp; try (with_reducible rfl))
            simp only [Act.put, List.setIfInBounds_toArray, List.set_cons_zero, List.set_cons_succ, List.getElem_toArray, List.getElem_cons_zero, List.getElem_cons_succ]
            refine wpAnyH_take (i := 20) (v := ?_) rfl (by kernel_rfl) (by kernel_rfl) (by kernel_rfl) (fun _ _ _ h => h) (Or.inl ⟨by rfl, ?_⟩) hHeld ?_
            rotate_left
            · (intro ws hS; obtain ⟨h0, h1, h2⟩ := hS; go_simp; try (with_reducible rfl))
            simp only [Act.put, List.setIfInBounds_toArray, List.set_cons_zero, List.set_cons_succ, List.getElem_toArray, List.getElem_cons_zero, List.getElem_cons_succ]
            refine wpAnyH_take (i := 21) (v := ?_) rfl (by kernel_rfl) (by kernel_rfl) (by kernel_rfl) (fun _ _ _ h => h) (Or.inl ⟨by rfl, ?_⟩) hHeld ?_
            rotate_left
            · (intro ws hS; obtain ⟨h0, h1, h2⟩ := hS; go_simp; try (with_reducible rfl))
            simp only [Act.put, List.setIfInBounds_toArray, List.set_cons_zero, List.set_cons_succ, List.getElem_toArray, List.getElem_cons_zero, List.getElem_cons_succ]
            refine wpAnyH_take (i := 22) (v := ?_) rfl (by kernel_rfl) (by kernel_rfl) (by kernel_rfl) (fun _ _ _ h => h) (Or.inl ⟨by rfl, ?_⟩) hHeld ?_
            rotate_left
            · (intro ws hS; obtain ⟨h0, h1, h2⟩ := hS; go_simp; try (with_reducible rfl))
            simp only [Act.put, List.setIfInBounds_toArray, List.set_cons_zero, List.set_cons_succ, List.getElem_toArray, List.getElem_cons_zero, List.getElem_cons_succ]
            refine wpAnyH_take (i := 23) (v := ?_) rfl (by kernel_rfl) (by kernel_rfl) (by kernel_rfl) (fun _ _ _ h => h) (Or.inl ⟨by rfl, ?_⟩) hHeld ?_
            rotate_left
            · (intro ws hS; obtain ⟨h0, h1, h2⟩ := hS; go_simp; try (with_reducible rfl))
            simp only [Act.put, List.setIfInBounds_toArray, List.set_cons_zero, List.set_cons_succ, List.getElem_toArray, List.getElem_cons_zero, List.getElem_cons_succ]
            refine wpAnyH_take (i := 24) (v := ?_) rfl (by kernel_rfl) (by kernel_rfl) (by kernel_rfl) (fun _ _ _ h => h) (Or.inl ⟨by rfl, ?_⟩) hHeld ?_
            rotate_left
            · (intro ws hS; obtain ⟨h0, h1, h2⟩ := hS; go_simp; try (with_reducible rfl))
            simp only [Act.put, List.setIfInBounds_toArray, List.set_cons_zero, List.set_cons_succ, List.getElem_toArray, List.getElem_cons_zero, List.getElem_cons_succ]
            refine wpAnyH_take (i := 25) (v := ?_) rfl (by kernel_rfl) (by kernel_rfl) (by kernel_rfl) (fun _ _ _ h => h) (Or.inl ⟨by rfl, ?_⟩) hHeld ?_
            rotate_left
            · (intro ws hS; obtain ⟨h0, h1, h2⟩ := hS; go_simp; try (with_reducible rfl))
            simp only [Act.put, List.setIfInBounds_toArray, List.set_cons_zero, List.set_cons_succ, List.getElem_toArray, List.getElem_cons_zero, List.getElem_cons_succ]
            refine wpAnyH_take (i := 26) (v := ?_) rfl (by kernel_rfl) (by kernel_rfl) (by kernel_rfl) (fun _ _ _ h => h) (Or.inl ⟨by rfl, ?_⟩) hHeld ?_
            rotate_left
            · (intro ws hS; obtain ⟨h0, h1, h2⟩ := hS; go_simp; try (with_reducible rfl))
            simp only [Act.put, List.setIfInBounds_toArray, List.set_cons_zero, List.set_cons_succ, List.getElem_toArray, List.getElem_cons_zero, List.getElem_cons_succ]
            refine wpAnyH_take (i := 27) (v := ?_) rfl (by kernel_rfl) (by kernel_rfl) (by kernel_rfl) (fun _ _ _ h => h) (Or.inl ⟨by rfl, ?_⟩) hHeld ?_
            rotate_left
            · (intro ws hS; obtain ⟨h0, h1, h2⟩ := hS; go_simp; try (with_reducible rfl))
            simp only [Act.put, List.setIfInBounds_toArray, List.set_cons_zero, List.set_cons_succ, List.getElem_toArray, List.getElem_cons_zero, List.getElem_cons_succ]
            refine wpAnyH_take (i := 28) (v := ?_) rfl (by kernel_rfl) (by kernel_rfl) (by kernel_rfl) (fun _ _ _ h => h) (Or.inl ⟨by rfl, ?_⟩) hHeld ?_
            rotate_left
            · (intro ws hS; obtain ⟨h0, h1, h2⟩ := hS; go_simp; try (with_reducible rfl))
            simp only [Act.put, List.setIfInBounds_toArray, List.set_cons_zero, List.set_cons_succ, List.getElem_toArray, List.getElem_cons_zero, List.getElem_cons_succ]
            refine wpAnyH_take (i := 29) (v := ?_) rfl (by kernel_rfl) (by kernel_rfl) (by kernel_rfl) (fun _ _ _ h => h) (Or.inl ⟨by rfl, ?_⟩) hHeld ?_
            rotate_left
            · (intro ws hS; obtain ⟨h0, h1, h2⟩ := hS; go_simp; try (with_reducible rfl))
            simp only [Act.put, List.setIfInBounds_toArray, List.set_cons_zero, List.set_cons_succ, List.getElem_toArray, List.getElem_cons_zero, List.getElem_cons_succ]
            refine wpAnyH_take (i := 30) (v := ?_) rfl (by kernel_rfl) (by kernel_rfl) (by kernel_rfl) (fun _ _ _ h => h) (Or.inl ⟨by rfl, ?_⟩) hHeld ?_
            rotate_left
            · (intro ws hS; obtain ⟨h0, h1, h2⟩ := hS; go_simp; try (with_reducible rfl))
            simp only [Act.put, List.setIfInBounds_toArray, List.set_cons_zero, List.set_cons_succ, List.getElem_toArray, List.getElem_cons_zero, List.getElem_cons_succ]
            refine wpAnyH_take (i := 31) (v := ?_) rfl (by kernel_rfl) (by kernel_rfl) (by kernel_rfl) (fun _ _ _ h => h) (Or.inl ⟨by rfl, ?_⟩) hHeld ?_
            rotate_left
            · (intro ws hS; obtain ⟨h0, h1, h2⟩ := hS; go_simp; try (with_reducible rfl))
            simp only [Act.put, List.setIfInBounds_toArray, List.set_cons_zero, List.set_cons_succ, List.getElem_toArray, List.getElem_cons_zero, List.getElem_cons_succ]
            refine wpAnyH_take (i := 32) (v := ?_) rfl (by kernel_rfl) (by kernel_rfl) (by kernel_rfl) (fun _ _ _ h => h) (Or.inl ⟨by rfl, ?_⟩) hHeld ?_
            rotate_left
            · (intro ws hS; obtain ⟨h0, h1, h2⟩ := hS; go_simp; try (with_reducible rfl))
            simp only [Act.put, List.setIfInBounds_toArray, List.set_cons_zero, List.set_cons_succ, List.getElem_toArray, List.getElem_cons_zero, List.getElem_cons_succ]
            refine wpAnyH_take (i := 33) (v := ?_) rfl (by kernel_rfl) (by kernel_rfl) (by kernel_rfl) (fun _ _ _ h => h) (Or.inl ⟨by rfl, ?_⟩) hHeld ?_
            rotate_left
            · (intro ws hS; obtain ⟨h0, h1, h2⟩ := hS; go_simp; try (with_reducible rfl))
            simp only [Act.put, List.setIfInBounds_toArray, List.set_cons_zero, List.set_cons_succ, List.getElem_toArray, List.getElem_cons_zero, List.getElem_cons_succ]
            refine wpAnyH_take (i := 34) (v := ?_) rfl (by kernel_rfl) (by kernel_rfl) (by kernel_rfl) (fun _ _ _ h => h) (Or.inl ⟨by rfl, ?_⟩) hHeld ?_
            rotate_left
            · (intro ws hS; obtain ⟨h0, h1, h2⟩ := hS; go_simp; try (with_reducible rfl))
            simp only [Act.put, List.setIfInBounds_toArray, List.set_cons_zero, List.set_cons_succ, List.getElem_toArray, List.getElem_cons_zero, List.getElem_cons_succ]
            refine wpAnyH_take (i := 35) (v := ?_) rfl (by kernel_rfl) (by kernel_rfl) (by kernel_rfl) (fun _ _ _ h => h) (Or.inl ⟨by rfl, ?_⟩) hHeld ?_
            rotate_left
            · (intro ws hS; obtain ⟨h0, h1, h2⟩ := hS; go_simp; try (with_reducible rfl))
            simp only [Act.put, List.setIfInBounds_toArray, List.set_cons_zero, List.set_cons_succ, List.getElem_toArray, List.getElem_cons_zero, List.getElem_cons_succ]
            refine wpAnyH_take (i := 36) (v := ?_) rfl (by kernel_rfl) (by kernel_rfl) (by kernel_rfl) (fun _ _ _ h => h) (Or.inl ⟨by rfl, ?_⟩) hHeld ?_
            rotate_left
            · (intro ws hS; obtain ⟨h0, h1, h2⟩ := hS; go_simp; try (with_reducible rfl))
            simp only [Act.put, List.setIfInBounds_toArray, List.set_cons_zero, List.set_cons_succ, List.getElem_toArray, List.getElem_cons_zero, List.getElem_cons_succ]
            refine wpAnyH_take (i := 37) (v := ?_) rfl (by kernel_rfl) (by kernel_rfl) (by kernel_rfl) (fun _ _ _ h => h) (Or.inl ⟨by rfl, ?_⟩) hHeld ?_
            rotate_left
            · (intro ws hS; obtain ⟨h0, h1, h2⟩ := hS; go_simp; try (with_reducible rfl))
            simp only [Act.put, List.setIfInBounds_toArray, List.set_cons_zero, List.set_cons_succ, List.getElem_toArray, List.getElem_cons_zero, List.getElem_cons_succ]
            refine wpAnyH_take (i := 38) (v := ?_) rfl (by kernel_rfl) (by kernel_rfl) (by kernel_rfl) (fun _ _ _ h => h) (Or.inl ⟨by rfl, ?_⟩) hHeld ?_
            rotate_left
            · (intro ws hS; obtain ⟨h0, h1, h2⟩ := hS; go_simp; try (with_reducible rfl))
            simp only [Act.put, List.setIfInBounds_toArray, List.set_cons_zero, List.set_cons_succ, List.getElem_toArray, List.getElem_cons_zero, List.getElem_cons_succ]
            refine wpAnyH_take (i := 39) (v := ?_) rfl (by kernel_rfl) (by kernel_rfl) (by kernel_rfl) (fun _ _ _ h => h) (Or.inl ⟨by rfl, ?_⟩) hHeld ?_
            rotate_left
            · (intro ws hS; obtain ⟨h0, h1, h2⟩ := hS; go_simp; try (with_reducible rfl))
            simp only [Act.put, List.setIfInBounds_toArray, List.set_cons_zero, List.set_cons_succ, List.getElem_toArray, List.getElem_cons_zero, List.getElem_cons_succ]
            refine wpAnyH_done (by kernel_rfl) ?_ _
            --END 27a
            clear x0 x3 y1
            go_wp2
            go_roundg (m.length - (i + 1))
            case measure => have := HI.out; have := HJ.out; omega
            case rel => exact ⟨i + 1, by rw [hw], ⟨by have := HJ.out; omega⟩, _, rfl⟩
          · have e1 := (HE.out.1).trans (if_neg h4)
            rw [e1] at y0
            have d0 : decide (q.f0 < 4) = true := decide_eq_true (by have := HO.out; unfold okN at this; omega)
            have d1 : (q.f0 == 4) = false := beq_eq_false_iff_ne.mpr h4
            have d2 : (q.f2 != q.f2) = false := bne_self_eq_false _
            clear h4 e1 HE x1 x3 y1 y2 y3
            go_wp2_with fail
            --REG 27b
            refine wp_region_held_drew (S := fun ws => ws.cell? (ad.add (i * 4)) = some (.int .i64 q.f0) ∧ ws.cell? ⟨(ad.add (i * 4)).block, (ad.add (i * 4)).off + 2, none⟩ = some (.int .u64 q.f2) ∧ ws.cell? (ad'.add (i * 4)) = some (.int .u64 q.f2)) (by kernel_rfl) ⟨x0, x2, y0⟩ (fun hHeld => ?_)
            refine wpAnyH_take (i := 0) (v := ?_) rfl (by kernel_rfl) (by kernel_rfl) (by kernel_rfl) (fun _ _ _ h => h) (Or.inl ⟨by rfl, ?_⟩) hHeld ?_
            rotate_left
            · (intro ws hS; obtain ⟨h0, h1, h2⟩ := hS; go_simp; try (with_reducible rfl))
            simp only [Act.put, List.setIfInBounds_toArray, List.set_cons_zero, List.set_cons_succ, List.getElem_toArray, List.getElem_cons_zero, List.getElem_cons_succ]
            refine wpAnyH_take (i := 1) (v := ?_) rfl (by kernel_rfl) (by kernel_rfl) (by kernel_rfl) (fun _ _ _ h => h) (Or.inl ⟨by rfl, ?_⟩) hHeld ?_
            rotate_left
            · (intro ws hS; obtain ⟨h0, h1, h2⟩ := hS; go_simp; try (with_reducible rfl))
            simp only [Act.put, List.setIfInBounds_toArray, List.set_cons_zero, List.set_cons_succ, List.getElem_toArray, List.getElem_cons_zero, List.getElem_cons_succ]
            refine wpAnyH_take (i := 2) (v := ?_) rfl (by kernel_rfl) (by kernel_rfl) (by kernel_rfl) (fun _ _ _ h => h) (Or.inl ⟨by rfl, ?_⟩) hHeld ?_
            rotate_left
            · (intro ws hS; obtain ⟨h0, h1, h2⟩ := hS; go_simp; try (with_reducible rfl))
            simp only [Act.put, List.setIfInBounds_toArray, List.set_cons_zero, List.set_cons_succ, List.getElem_toArray, List.getElem_cons_zero, List.getElem_cons_succ]
            refine wpAnyH_take (i := 3) (v := ?_) rfl (by kernel_rfl) (by kernel_rfl) (by kernel_rfl) (fun _ _ _ h => h) (Or.inl ⟨by rfl, ?_⟩) hHeld ?_
            rotate_left
            · (intro ws hS; obtain ⟨h0, h1, h2⟩ := hS; go_simp; try (with_reducible rfl))
            simp only [Act.put, List.setIfInBounds_toArray, List.set_cons_zero, List.set_cons_succ, List.getElem_toArray, List.getElem_cons_zero, List.getElem_cons_succ]
            refine wpAnyH_take (i := 4) (v := ?_) rfl (by kernel_rfl) (by kernel_rfl) (by kernel_rfl) (fun _ _ _ h => h) (Or.inl ⟨by rfl, ?_⟩) hHeld ?_
            rotate_left
            · (intro ws hS; obtain ⟨h0, h1, h2⟩ := hS; go_simp; try (with_reducible rfl))
            simp only [Act.put, List.setIfInBounds_toArray, List.set_cons_zero, List.set_cons_succ, List.getElem_toArray, List.getElem_cons_zero, List.getElem_cons_succ]
            refine wpAnyH_take (i := 5) (v := ?_) rfl (by kernel_rfl) (by kernel_rfl) (by kernel_rfl) (fun _ _ _ h => h) (Or.inl ⟨by rfl, ?_⟩) hHeld ?_
            rotate_left
            · (intro ws hS; obtain ⟨h0, h1, h2⟩ := hS; go_simp; try (with_reducible rfl))
            simp only [Act.put, List.setIfInBounds_toArray, List.set_cons_zero, List.set_cons_succ, List.getElem_toArray, List.getElem_cons_zero, List.getElem_cons_succ]
            refine wpAnyH_take (i := 6) (v := ?_) rfl (by kernel_rfl) (by kernel_rfl) (by kernel_rfl) (fun _ _ _ h => h) (Or.inl ⟨by rfl, ?_⟩) hHeld ?_
            rotate_left
            · (intro ws hS; obtain ⟨h0, h1, h2⟩ := hS; go_simp; try (with_reducible rfl))
            simp only [Act.put, List.setIfInBounds_toArray, List.set_cons_zero, List.set_cons_succ, List.getElem_toArray, List.getElem_cons_zero, List.getElem_cons_succ]
            refine wpAnyH_take (i := 7) (v := ?_) rfl (by kernel_rfl) (by kernel_rfl) (by kernel_rfl) (fun _ _ _ h => h) (Or.inl ⟨by rfl, ?_⟩) hHeld ?_
            rotate_left
            · (intro ws hS; obtain ⟨h0, h1, h2⟩ := hS; go_simp; try (with_reducible rfl))
            simp only [Act.put, List.setIfInBounds_toArray, List.set_cons_zero, List.set_cons_succ, List.getElem_toArray, List.getElem_cons_zero, List.getElem_cons_succ]
            refine wpAnyH_take (i := 8) (v := ?_) rfl (by kernel_rfl) (by kernel_rfl) (by kernel_rfl) (fun _ _ _ h => h) (Or.inl ⟨by rfl, ?_⟩) hHeld ?_
            rotate_left
            · (intro ws hS; obtain ⟨h0, h1, h2⟩ := hS; go_simp; try (with_reducible rfl))
            simp only [Act.put, List.setIfInBounds_toArray, List.set_cons_zero, List.set_cons_succ, List.getElem_toArray, List.getElem_cons_zero, List.getElem_cons_succ]
            refine wpAnyH_take (i := 9) (v := ?_) rfl (by kernel_rfl) (by kernel_rfl) (by kernel_rfl) (fun _ _ _ h => h) (Or.inl ⟨by rfl, ?_⟩) hHeld ?_
            rotate_left
            · (intro ws hS; obtain ⟨h0, h1, h2⟩ := hS; go_simp; try (with_reducible rfl))
            simp only [Act.put, List.setIfInBounds_toArray, List.set_cons_zero, List.set_cons_succ, List.getElem_toArray, List.getElem_cons_zero, List.getElem_cons_succ]
            refine wpAnyH_take (i := 10) (v := ?_) rfl (by kernel_rfl) (by kernel_rfl) (by kernel_rfl) (fun _ _ _ h => h) (Or.inl ⟨by rfl, ?_⟩) hHeld ?_
            rotate_left
            · (intro ws hS; obtain ⟨h0, h1, h2⟩ := hS; go_simp; try (with_reducible rfl))
            simp only [Act.put, List.setIfInBounds_toArray, List.set_cons_zero, List.set_cons_succ, List.getElem_toArray, List.getElem_cons_zero, List.getElem_cons_succ]
            refine wpAnyH_take (i := 11) (v := ?_) rfl (by kernel_rfl) (by kernel_rfl) (by kernel_rfl) (fun _ _ _ h => h) (Or.inl ⟨by rfl, ?_⟩) hHeld ?_
            rotate_left
            · (intro ws hS; obtain ⟨h0, h1, h2⟩ := hS; go_simp; try (with_reducible rfl))
            simp only [Act.put, List.setIfInBounds_toArray, List.set_cons_zero, List.set_cons_succ, List.getElem_toArray, List.getElem_cons_zero, List.getElem_cons_succ]
            refine wpAnyH_take (i := 12) (v := ?_) rfl (by kernel_rfl) (by kernel_rfl) (by kernel_rfl) (fun _ _ _ h => h) (Or.inl ⟨by rfl, ?_⟩) hHeld ?_
            rotate_left
            · (intro ws hS; obtain ⟨h0, h1, h2⟩ := hS; go_simp; try (with_reducible rfl))
            simp only [Act.put, List.setIfInBounds_toArray, List.set_cons_zero, List.set_cons_succ, List.getElem_toArray, List.getElem_cons_zero, List.getElem_cons_succ]
            refine wpAnyH_take (i := 13) (v := ?_) rfl (by kernel_rfl) (by kernel_rfl) (by kernel_rfl) (fun _ _ _ h => h) (Or.inl ⟨by rfl, ?_⟩) hHeld ?_
            rotate_left
            · (intro ws hS; obtain ⟨h0, h1, h2⟩ := hS; go_simp; try (with_reducible rfl))
            simp only [Act.put, List.setIfInBounds_toArray, List.set_cons_zero, List.set_cons_succ, List.getElem_toArray, List.getElem_cons_zero, List.getElem_cons_succ]
            refine wpAnyH_take (i := 14) (v := ?_) rfl (by kernel_rfl) (by kernel_rfl) (by kernel_rfl) (fun _ _ _ h => h) (Or.inl ⟨by rfl, ?_⟩) hHeld ?_
            rotate_left
            · (intro ws hS; obtain ⟨h0, h1, h2⟩ := hS; go_simp; try (with_reducible rfl))
            simp only [Act.put, List.setIfInBounds_toArray, List.set_cons_zero, List.set_cons_succ, List.getElem_toArray, List.getElem_cons_zero, List.getElem_cons_succ]
            refine wpAnyH_take (i := 15) (v := ?_) rfl (by kernel_rfl) (by kernel_rfl) (by kernel_rfl) (fun _ _ _ h => h) (Or.inl ⟨by rfl, ?_⟩) hHeld ?_
            rotate_left
            · (intro ws hS; obtain ⟨h0, h1, h2⟩ := hS; go_simp; try (with_reducible rfl))
            simp only [Act.put, List.setIfInBounds_toArray, List.set_cons_zero, List.set_cons_succ, List.getElem_toArray, List.getElem_cons_zero, List.getElem_cons_succ]
            refine wpAnyH_take (i := 16) (v := ?_) rfl (by kernel_rfl) (by kernel_rfl) (by kernel_rfl) (fun _ _ _ h => h) (Or.inl ⟨by rfl, ?_⟩) hHeld ?_
            rotate_left
            · (intro ws hS; obtain ⟨h0, h1, h2⟩ := hS; go_simp; try (with_reducible rfl))
            simp only [Act.put, List.setIfInBounds_toArray, List.set_cons_zero, List.set_cons_succ, List.getElem_toArray, List.getElem_cons_zero, List.getElem_cons_succ]
            refine wpAnyH_take (i := 17) (v := ?_) rfl (by kernel_rfl) (by kernel_rfl) (by kernel_rfl) (fun _ _ _ h => h) (Or.inl ⟨by rfl, ?_⟩) hHeld ?_
            rotate_left
            · (intro ws hS; obtain ⟨h0, h1, h2⟩ := hS; go_simp; try (with_reducible rfl))
            simp only [Act.put, List.setIfInBounds_toArray, List.set_cons_zero, List.set_cons_succ, List.getElem_toArray, List.getElem_cons_zero, List.getElem_cons_succ]
            refine wpAnyH_take (i := 18) (v := ?_) rfl (by kernel_rfl) (by kernel_rfl) (by kernel_rfl) (fun _ _ _ h => h) (Or.inl ⟨by rfl, ?_⟩) hHeld ?_
            rotate_left
            · (intro ws hS; obtain ⟨h0, h1, h2⟩ := hS; go_simp; try (with_reducible rfl))
            simp only [Act.put, List.setIfInBounds_toArray, List.set_cons_zero, List.set_cons_succ, List.getElem_toArray, List.getElem_cons_zero, List.getElem_cons_succ]
            refine wpAnyH_take (i := 19) (v := ?_) rfl (by kernel_rfl) (by kernel_rfl) (by kernel_rfl) (fun _ _ _ h => h) (Or.inl ⟨by rfl, ?_⟩) hHeld ?_
            rotate_left
            · (intro ws hS; obtain ⟨h0, h1, h2⟩ := hS; go_simp; try (with_reducible rfl))
            simp only [Act.put, List.setIfInBounds_toArray, List.set_cons_zero, List.set_cons_succ, List.getElem_toArray, List.getElem_cons_zero, List.getElem_cons_succ]
            refine wpAnyH_take (i := 20) (v := ?_) rfl (by kernel_rfl) (by kernel_rfl) (by kernel_rfl) (fun _ _ _ h => h) (Or.inl ⟨by rfl, ?_⟩) hHeld ?_
            rotate_left
            · (intro ws hS; obtain ⟨h0, h1, h2⟩ := hS; go_simp; try (with_reducible rfl))
            simp only [Act.put, List.setIfInBounds_toArray, List.set_cons_zero, List.set_cons_succ, List.getElem_toArray, List.getElem_cons_zero, List.getElem_cons_succ]
            refine wpAnyH_take (i := 21) (v := ?_) rfl (by kernel_rfl) (by kernel_rfl) (by kernel_rfl) (fun _ _ _ h => h) (Or.inl ⟨by rfl, ?_⟩) hHeld ?_
            rotate_left
            · (intro ws hS; obtain ⟨h0, h1, h2⟩ := hS; go_simp; try (with_reducible rfl))
            simp only [Act.put, List.setIfInBounds_toArray, List.set_cons_zero, List.set_cons_succ, List.getElem_toArray, List.getElem_cons_zero, List.getElem_cons_succ]
            refine wpAnyH_take (i := 22) (v := ?_) rfl (by kernel_rfl) (by kernel_rfl) (by kernel_rfl) (fun _ _ _ h => h) (Or.inl ⟨by rfl, ?_⟩) hHeld ?_
            rotate_left
            · (intro ws hS; obtain ⟨h0, h1, h2⟩ := hS; go_simp; try (with_reducible rfl))
            simp only [Act.put, List.setIfInBounds_toArray, List.set_cons_zero, List.set_cons_succ, List.getElem_toArray, List.getElem_cons_zero, List.getElem_cons_succ]
            refine wpAnyH_take (i := 23) (v := ?_) rfl (by kernel_rfl) (by kernel_rfl) (by kernel_rfl) (fun _ _ _ h => h) (Or.inl ⟨by rfl, ?_⟩) hHeld ?_
            rotate_left
            · (intro ws hS; obtain ⟨h0, h1, h2⟩ := hS; go_simp; try (with_reducible rfl))
            simp only [Act.put, List.setIfInBounds_toArray, List.set_cons_zero, List.set_cons_succ, List.getElem_toArray, List.getElem_cons_zero, List.getElem_cons_succ]
            refine wpAnyH_take (i := 24) (v := ?_) rfl (by kernel_rfl) (by kernel_rfl) (by kernel_rfl) (fun _ _ _ h => h) (Or.inl ⟨by rfl, ?_⟩) hHeld ?_
            rotate_left
            · (intro ws hS; obtain ⟨h0, h1, h2⟩ := hS; go_simp; try (with_reducible rfl))
            simp only [Act.put, List.setIfInBounds_toArray, List.set_cons_zero, List.set_cons_succ, List.getElem_toArray, List.getElem_cons_zero, List.getElem_cons_succ]
            refine wpAnyH_take (i := 25) (v := ?_) rfl (by kernel_rfl) (by kernel_rfl) (by kernel_rfl) (fun _ _ _ h => h) (Or.inl ⟨by rfl, ?_⟩) hHeld ?_
            rotate_left
            · (intro ws hS; obtain ⟨h0, h1, h2⟩ := hS; go_simp; try (with_reducible rfl))
            simp only [Act.put, List.setIfInBounds_toArray, List.set_cons_zero, List.set_cons_succ, List.getElem_toArray, List.getElem_cons_zero, List.getElem_cons_succ]
            refine wpAnyH_take (i := 26) (v := ?_) rfl (by kernel_rfl) (by kernel_rfl) (by kernel_rfl) (fun _ _ _ h => h) (Or.inl ⟨by rfl, ?_⟩) hHeld ?_
            rotate_left
            · (intro ws hS; obtain ⟨h0, h1, h2⟩ := hS; go_simp; try (with_reducible rfl))
            simp only [Act.put, List.setIfInBounds_toArray, List.set_cons_zero, List.set_cons_succ, List.getElem_toArray, List.getElem_cons_zero, List.getElem_cons_succ]
            refine wpAnyH_take (i := 27) rfl (by kernel_rfl) (by kernel_rfl) (by kernel_rfl) (fun _ _ _ h => h) (Or.inr ⟨by rfl, rfl⟩) hHeld ?_
            simp only [Act.put, List.setIfInBounds_toArray, List.set_cons_zero, List.set_cons_succ, List.getElem_toArray, List.getElem_cons_zero, List.getElem_cons_succ]
            refine wpAnyH_take (i := 28) rfl (by kernel_rfl) (by kernel_rfl) (by kernel_rfl) (fun _ _ _ h => h) (Or.inr ⟨by rfl, rfl⟩) hHeld ?_
            simp only [Act.put, List.setIfInBounds_toArray, List.set_cons_zero, List.set_cons_succ, List.getElem_toArray, List.getElem_cons_zero, List.getElem_cons_succ]
            refine wpAnyH_take (i := 29) rfl (by kernel_rfl) (by kernel_rfl) (by kernel_rfl) (fun _ _ _ h => h) (Or.inr ⟨by rfl, rfl⟩) hHeld ?_
            simp only [Act.put, List.setIfInBounds_toArray, List.set_cons_zero, List.set_cons_succ, List.getElem_toArray, List.getElem_cons_zero, List.getElem_cons_succ]
            refine wpAnyH_take (i := 30) rfl (by kernel_rfl) (by kernel_rfl) (by kernel_rfl) (fun _ _ _ h => h) (Or.inr ⟨by rfl, rfl⟩) hHeld ?_
            simp only [Act.put, List.setIfInBounds_toArray, List.set_cons_zero, List.set_cons_succ, List.getElem_toArray, List.getElem_cons_zero, List.getElem_cons_succ]
            refine wpAnyH_take (i := 31) rfl (by kernel_rfl) (by kernel_rfl) (by kernel_rfl) (fun _ _ _ h => h) (Or.inr ⟨by rfl, rfl⟩) hHeld ?_
            simp only [Act.put, List.setIfInBounds_toArray, List.set_cons_zero, List.set_cons_succ, List.getElem_toArray, List.getElem_cons_zero, List.getElem_cons_succ]
            refine wpAnyH_take (i := 32) rfl (by kernel_rfl) (by kernel_rfl) (by kernel_rfl) (fun _ _ _ h => h) (Or.inr ⟨by rfl, rfl⟩) hHeld ?_
            simp only [Act.put, List.setIfInBounds_toArray, List.set_cons_zero, List.set_cons_succ, List.getElem_toArray, List.getElem_cons_zero, List.getElem_cons_succ]
            refine wpAnyH_take (i := 33) rfl (by kernel_rfl) (by kernel_rfl) (by kernel_rfl) (fun _ _ _ h => h) (Or.inr ⟨by rfl, rfl⟩) hHeld ?_
            simp only [Act.put, List.setIfInBounds_toArray, List.set_cons_zero, List.set_cons_succ, List.getElem_toArray, List.getElem_cons_zero, List.getElem_cons_succ]
            refine wpAnyH_take (i := 34) rfl (by kernel_rfl) (by kernel_rfl) (by kernel_rfl) (fun _ _ _ h => h) (Or.inr ⟨by rfl, rfl⟩) hHeld ?_
            simp only [Act.put, List.setIfInBounds_toArray, List.set_cons_zero, List.set_cons_succ, List.getElem_toArray, List.getElem_cons_zero, List.getElem_cons_succ]
            refine wpAnyH_take (i := 35) rfl (by kernel_rfl) (by kernel_rfl) (by kernel_rfl) (fun _ _ _ h => h) (Or.inr ⟨by rfl, rfl⟩) hHeld ?_
            simp only [Act.put, List.setIfInBounds_toArray, List.set_cons_zero, List.set_cons_succ, List.getElem_toArray, List.getElem_cons_zero, List.getElem_cons_succ]
            refine wpAnyH_take (i := 36) rfl (by kernel_rfl) (by kernel_rfl) (by kernel_rfl) (fun _ _ _ h => h) (Or.inr ⟨by rfl, rfl⟩) hHeld ?_
            simp only [Act.put, List.setIfInBounds_toArray, List.set_cons_zero, List.set_cons_succ, List.getElem_toArray, List.getElem_cons_zero, List.getElem_cons_succ]
            refine wpAnyH_take (i := 37) rfl (by kernel_rfl) (by kernel_rfl) (by kernel_rfl) (fun _ _ _ h => h) (Or.inr ⟨by rfl, rfl⟩) hHeld ?_
            simp only [Act.put, List.setIfInBounds_toArray, List.set_cons_zero, List.set_cons_succ, List.getElem_toArray, List.getElem_cons_zero, List.getElem_cons_succ]
            refine wpAnyH_take (i := 38) (v := ?_) rfl (by kernel_rfl) (by kernel_rfl) (by kernel_rfl) (fun _ _ _ h => h) (Or.inl ⟨by rfl, ?_⟩) hHeld ?_
            rotate_left
            · (intro ws hS; obtain ⟨h0, h1, h2⟩ := hS; go_simp; try (with_reducible rfl))
            simp only [Act.put, List.setIfInBounds_toArray, List.set_cons_zero, List.set_cons_succ, List.getElem_toArray, List.getElem_cons_zero, List.getElem_cons_succ]
            refine wpAnyH_take (i := 39) (v := ?_) rfl (by kernel_rfl) (by kernel_rfl) (by kernel_rfl) (fun _ _ _ h => h) (Or.inl ⟨by rfl, ?_⟩) hHeld ?_
            rotate_left
            · (intro ws hS; obtain ⟨h0, h1, h2⟩ := hS; go_simp; try (with_reducible rfl))
            simp only [Act.put, List.setIfInBounds_toArray, List.set_cons_zero, List.set_cons_succ, List.getElem_toArray, List.getElem_cons_zero, List.getElem_cons_succ]
            refine wpAnyH_done (by kernel_rfl) ?_ _
            --END 27b
            clear x0 x2 y0
            go_wp2
            go_roundg (m.length - (i + 1))
            case measure => have := HI.out; have := HJ.out; omega
            case rel => exact ⟨i + 1, by rw [hw], ⟨by have := HJ.out; omega⟩, _, rfl⟩
        case neg =>
          have q1 : decide ((i : Int) < (m.length : Int)) = false := decide_eq_false (by omega)
          have q2 : decide (i < m.length) = false := decide_eq_false hlt
          have HB3 := Aside0.mk (pw_below_drewN HB2.out q0)
          have H4 := Aside0.mk (And.intro H3.out.1 (Kd.C_drewN H3.out.2 q0))
          generalize w6.drewN q0 = w7 at HB3 H4 ⊢
          clear hlt HB2 H3 HI
          have dc : (decide (cut < 0) = true ∨ decide (cut < 0) = false ∧ decide (cut ≥ (t.size : Int)) = true) ∨ (decide (cut < 0) = false ∧ decide (cut ≥ (t.size : Int)) = false ∧ 0 ≤ cut ∧ cut < (t.size : Int)) := by
            by_cases h : cut < 0
            · exact .inl (.inl (decide_eq_true h))
            · by_cases h2 : cut ≥ (t.size : Int)
              · exact .inl (.inr ⟨decide_eq_false h, decide_eq_true h2⟩)
              · exact .inr ⟨decide_eq_false h, decide_eq_false h2, by omega, by omega⟩
          by_cases hne : m.length = 0
          · as_aux_lemma =>
            have e0 : decide ((m.length : Int) > 0) = false := decide_eq_false (by omega)
            have e2 : decide (0 < m.length) = false := decide_eq_false (by omega)
            have e1 : ((m.length : Int) == 0) = true := beq_iff_eq.mpr (by omega)
            have hz : t.size = 0 := by have h := HT.out.2; rw [List.length_eq_zero_iff.mp hne] at h; exact h
            have HE := Aside0.mk (show Below w.heap.size w w7 by rw [HBB.out]; exact HB.out.trans (HB3.out.mono HZ.out))
            rcases dc with (d0 | ⟨d0, d1⟩) | ⟨d0, d1, d2, d3⟩
            · clear hne hz
              go_wp2
              go_ret
              exact ⟨rfl, by rw [← HBB.out]; exact HE.out⟩
            · clear hne hz
              go_wp2
              go_ret
              exact ⟨rfl, by rw [← HBB.out]; exact HE.out⟩
            · exact absurd d3 (by omega)
          have e0 : decide ((m.length : Int) > 0) = true := decide_eq_true (by omega)
          have e2 : decide (0 < m.length) = true := decide_eq_true (by omega)
          have e1 : ((m.length : Int) == 0) = false := beq_eq_false_iff_ne.mpr (by omega)
          have hs : wrap64 ((m.length : Int) - 1) = ((m.length - 1 : Nat) : Int) := by have := HK.out.1.1; unfold wrap64; omega
          obtain ⟨ad', eA', y0, y1, y2, y3⟩ := at_T43 H4.out.2 ((m.length - 1 : Nat) : Int) (by omega) (by have := HX.out.1; omega)
          have e3 : (rd_T43 a ((m.length - 1 : Nat) : Int)).f3 = 0 := by
            have h := HX.out.2.2 (rd_T43 a ((m.length - 1 : Nat) : Int)) (by have := HX.out.1; simp [rd_T43, List.getD_eq_getElem?_getD, show m.length - 1 < a.length by omega]) (fun h => hne (by rw [h]; rfl))
            rw [h, HT.out.2]
            omega
          rw [e3, Int.toNat_natCast] at y3
          have p1 : (m.length - 1 < m.length) = True := eq_true (by omega)
          clear e3 y0 y1 y2
          have HNE := Aside0.mk hne
          clear hne
          rcases dc with (d0 | ⟨d0, d1⟩) | ⟨d0, d1, d2, d3⟩
          · as_aux_lemma =>
            have HE := Aside0.mk (show Below w.heap.size w w7 by rw [HBB.out]; exact HB.out.trans (HB3.out.mono HZ.out))
            subst eA'
            go_wp2
            go_ret
            exact ⟨rfl, by rw [← HBB.out]; exact HE.out⟩
          · as_aux_lemma =>
            have HE := Aside0.mk (show Below w.heap.size w w7 by rw [HBB.out]; exact HB.out.trans (HB3.out.mono HZ.out))
            subst eA'
            go_wp2
            go_ret
            exact ⟨rfl, by rw [← HBB.out]; exact HE.out⟩
          subst eA'
          go_wp2_with fail
          obtain ⟨cu, rfl⟩ := Int.eq_ofNat_of_zero_le d2
          rw [Int.toNat_natCast]
          have hcu : cu < t.size := by omega
          have hus : (t.extract 0 cu).size = cu := by rw [ByteArray.size_extract]; omega
          have HU2 := Aside0.mk (And.intro (show bl (t.extract 0 cu) = (bl t).take (t.extract 0 cu).size by rw [hus, bl_extract, List.drop_zero]) (show (t.extract 0 cu).size < t.size by omega))
          generalize t.extract 0 cu = u at HU2 ⊢
          have hrc := reads_cut t u t.size m 0 HK.out.2 (Nat.zero_le _) HU2.out.2 HU2.out.1 (by rw [List.drop_zero, HT.out.1])
          rw [HA.out] at hrc
          obtain ⟨hr2, hrl, hri⟩ := hrc
          have HRb := Aside0.mk (show palanquinlaw01_read.f u m = some ((reads u 0 m).1, 2) from (if_pos ⟨by have := HU2.out.2; have := HT.out.2; have := HL.out; omega, by have := HK.out.1.1; omega, okN_noOK HK.out.2⟩).trans (congrArg some (by rw [← hr2])))
          generalize (reads u 0 m).1 = b at hrl hri HRb
          have HI2 := Aside0.mk (And.intro hrl hri)
          have g0 : decide ((b.length : Int) ≥ (m.length : Int)) = false := decide_eq_false (by omega)
          have g1 : decide (m.length ≤ b.length) = false := decide_eq_false (by omega)
          clear hcu hus hr2 hrl hri d0 d1 d2 d3 y3 p1 e0 e1 e2 hs q1 q2
          refine (palanquinlaw01_read.calls u A2 c2 m b 2 _ (Kd.C_below H2.out.2 HB3.out) H2.out.1 HRb.out).mono ?_
          rintro e' w8 ⟨v1, rfl, hR, hb8⟩
          have HB4 := Aside0.mk (HB3.out.trans (hb8.mono HB3.out.size))
          obtain ⟨A4, c4, rfl, hcap4, hC4⟩ := Kd.R_reads hR
          have H5 := Aside0.mk (And.intro (Kd.C_below H4.out.2 hb8) hC4)
          clear hR hb8 hcap4 hC4 HRb H4
          go_wp2_with fail
          clear g0 g1
          go_loopg [15] b.length (fun kq v15 wz => ∃ i : Nat, v15 = .int .i64 (i : Int) ∧ Aside0 (i + kq = b.length) ∧ ∃ q, wz = w8.drewN q)
          case atStart => exact ⟨0, rfl, ⟨by omega⟩, 0, rfl⟩
          case round =>
            obtain ⟨i, rfl, HI, q0, rfl⟩ := hrel
            by_cases hlt : i < b.length
            case pos =>
              as_aux_lemma =>
              have q1 : decide ((i : Int) < (b.length : Int)) = true := decide_eq_true (by omega)
              have q2 : decide (i < b.length) = true := decide_eq_true hlt
              have hla : i < a.length := by have := HX.out.1; have := HI2.out.1; omega
              obtain ⟨ad, eA, x0, x1, x2, x3⟩ := at_T43 (Kd.C_drewN H5.out.2 q0) (i : Int) (by omega) (by omega)
              obtain ⟨ad2, eA2, y0, y1, y2, y3⟩ := at_T43 (Kd.C_drewN H5.out.1 q0) (i : Int) (by omega) (by omega)
              obtain rfl := Option.some.inj eA2
              subst eA
              obtain ⟨s0, s1, s2⟩ := HI2.out.2 i (rd_T43 b (i : Int)) (rd_T43 a (i : Int)) (by simp [rd_T43, List.getD_eq_getElem?_getD, hlt]) (by simp [rd_T43, List.getD_eq_getElem?_getD, hla])
              rw [← s0] at y0
              rw [← s1] at y1
              rw [← s2] at y2
              clear s0 s1 s2 x3 y3 eA2
              generalize rd_T43 b (i : Int) = q at *
              rw [Int.toNat_natCast] at x0 x1 x2 y0 y1 y2
              have p1 := eq_true hlt
              have p2 : (i < m.length) = True := eq_true (by have := HX.out.1; omega)
              have hw : wrap64 ((i : Int) + 1) = ((i + 1 : Nat) : Int) := by have := HK.out.1.1; have := HI2.out.1; unfold wrap64; omega
              have HJ := Aside0.mk hlt
              clear hlt hla
              have f0 : (q.f0 != q.f0) = false := bne_self_eq_false _
              have f1 : (q.f1.toList != q.f1.toList) = false := bne_self_eq_false _
              have f2 : (q.f2 != q.f2) = false := bne_self_eq_false _
              go_wp2_with fail
              --REG 37
              refine wp_region_held_drew (S := fun ws => ws.cell? (ad.add (i * 4)) = some (.int .u64 q.f0) ∧ ws.cell? ⟨(ad.add (i * 4)).block, (ad.add (i * 4)).off + 1, none⟩ = some (.string q.f1) ∧ ws.cell? ⟨(ad.add (i * 4)).block, (ad.add (i * 4)).off + 2, none⟩ = some (.int .i64 q.f2) ∧ ws.cell? (ad'.add (i * 4)) = some (.int .u64 q.f0) ∧ ws.cell? ⟨(ad'.add (i * 4)).block, (ad'.add (i * 4)).off + 1, none⟩ = some (.string q.f1) ∧ ws.cell? ⟨(ad'.add (i * 4)).block, (ad'.add (i * 4)).off + 2, none⟩ = some (.int .i64 q.f2)) (by kernel_rfl) ⟨x0, x1, x2, y0, y1, y2⟩ (fun hHeld => ?_)
              refine wpAnyH_take (i := 0) (v := ?_) rfl (by kernel_rfl) (by kernel_rfl) (by kernel_rfl) (fun _ _ _ h => h) (Or.inl ⟨by rfl, ?_⟩) hHeld ?_
              rotate_left
              · (intro ws hS; obtain ⟨h0, h1, h2, h3, h4, h5⟩ := hS; go_simp; try (with_reducible rfl))
              simp only [Act.put, List.setIfInBounds_toArray, List.set_cons_zero, List.set_cons_succ, List.getElem_toArray, List.getElem_cons_zero, List.getElem_cons_succ]
              refine wpAnyH_take (i := 1) (v := ?_) rfl (by kernel_rfl) (by kernel_rfl) (by kernel_rfl) (fun _ _ _ h => h) (Or.inl ⟨by rfl, ?_⟩) hHeld ?_
              rotate_left
              · (intro ws hS; obtain ⟨h0, h1, h2, h3, h4, h5⟩ := hS; go_simp; try (with_reducible rfl))
              simp only [Act.put, List.setIfInBounds_toArray, List.set_cons_zero, List.set_cons_succ, List.getElem_toArray, List.getElem_cons_zero, List.getElem_cons_succ]
              refine wpAnyH_take (i := 2) (v := ?_) rfl (by kernel_rfl) (by kernel_rfl) (by kernel_rfl) (fun _ _ _ h => h) (Or.inl ⟨by rfl, ?_⟩) hHeld ?_
              rotate_left
              · (intro ws hS; obtain ⟨h0, h1, h2, h3, h4, h5⟩ := hS; go_simp; try (with_reducible rfl))
              simp only [Act.put, List.setIfInBounds_toArray, List.set_cons_zero, List.set_cons_succ, List.getElem_toArray, List.getElem_cons_zero, List.getElem_cons_succ]
              refine wpAnyH_take (i := 3) (v := ?_) rfl (by kernel_rfl) (by kernel_rfl) (by kernel_rfl) (fun _ _ _ h => h) (Or.inl ⟨by rfl, ?_⟩) hHeld ?_
              rotate_left
              · (intro ws hS; obtain ⟨h0, h1, h2, h3, h4, h5⟩ := hS; go_simp; try (with_reducible rfl))
              simp only [Act.put, List.setIfInBounds_toArray, List.set_cons_zero, List.set_cons_succ, List.getElem_toArray, List.getElem_cons_zero, List.getElem_cons_succ]
              refine wpAnyH_take (i := 4) (v := ?_) rfl (by kernel_rfl) (by kernel_rfl) (by kernel_rfl) (fun _ _ _ h => h) (Or.inl ⟨by rfl, ?_⟩) hHeld ?_
              rotate_left
              · (intro ws hS; obtain ⟨h0, h1, h2, h3, h4, h5⟩ := hS; go_simp; try (with_reducible rfl))
              simp only [Act.put, List.setIfInBounds_toArray, List.set_cons_zero, List.set_cons_succ, List.getElem_toArray, List.getElem_cons_zero, List.getElem_cons_succ]
              refine wpAnyH_take (i := 5) (v := ?_) rfl (by kernel_rfl) (by kernel_rfl) (by kernel_rfl) (fun _ _ _ h => h) (Or.inl ⟨by rfl, ?_⟩) hHeld ?_
              rotate_left
              · (intro ws hS; obtain ⟨h0, h1, h2, h3, h4, h5⟩ := hS; go_simp; try (with_reducible rfl))
              simp only [Act.put, List.setIfInBounds_toArray, List.set_cons_zero, List.set_cons_succ, List.getElem_toArray, List.getElem_cons_zero, List.getElem_cons_succ]
              refine wpAnyH_take (i := 6) (v := ?_) rfl (by kernel_rfl) (by kernel_rfl) (by kernel_rfl) (fun _ _ _ h => h) (Or.inl ⟨by rfl, ?_⟩) hHeld ?_
              rotate_left
              · (intro ws hS; obtain ⟨h0, h1, h2, h3, h4, h5⟩ := hS; go_simp; try (with_reducible rfl))
              simp only [Act.put, List.setIfInBounds_toArray, List.set_cons_zero, List.set_cons_succ, List.getElem_toArray, List.getElem_cons_zero, List.getElem_cons_succ]
              refine wpAnyH_take (i := 7) (v := ?_) rfl (by kernel_rfl) (by kernel_rfl) (by kernel_rfl) (fun _ _ _ h => h) (Or.inl ⟨by rfl, ?_⟩) hHeld ?_
              rotate_left
              · (intro ws hS; obtain ⟨h0, h1, h2, h3, h4, h5⟩ := hS; go_simp; try (with_reducible rfl))
              simp only [Act.put, List.setIfInBounds_toArray, List.set_cons_zero, List.set_cons_succ, List.getElem_toArray, List.getElem_cons_zero, List.getElem_cons_succ]
              refine wpAnyH_take (i := 8) (v := ?_) rfl (by kernel_rfl) (by kernel_rfl) (by kernel_rfl) (fun _ _ _ h => h) (Or.inl ⟨by rfl, ?_⟩) hHeld ?_
              rotate_left
              · (intro ws hS; obtain ⟨h0, h1, h2, h3, h4, h5⟩ := hS; go_simp; try (with_reducible rfl))
              simp only [Act.put, List.setIfInBounds_toArray, List.set_cons_zero, List.set_cons_succ, List.getElem_toArray, List.getElem_cons_zero, List.getElem_cons_succ]
              refine wpAnyH_take (i := 9) (v := ?_) rfl (by kernel_rfl) (by kernel_rfl) (by kernel_rfl) (fun _ _ _ h => h) (Or.inl ⟨by rfl, ?_⟩) hHeld ?_
              rotate_left
              · (intro ws hS; obtain ⟨h0, h1, h2, h3, h4, h5⟩ := hS; go_simp; try (with_reducible rfl))
              simp only [Act.put, List.setIfInBounds_toArray, List.set_cons_zero, List.set_cons_succ, List.getElem_toArray, List.getElem_cons_zero, List.getElem_cons_succ]
              refine wpAnyH_take (i := 10) (v := ?_) rfl (by kernel_rfl) (by kernel_rfl) (by kernel_rfl) (fun _ _ _ h => h) (Or.inl ⟨by rfl, ?_⟩) hHeld ?_
              rotate_left
              · (intro ws hS; obtain ⟨h0, h1, h2, h3, h4, h5⟩ := hS; go_simp; try (with_reducible rfl))
              simp only [Act.put, List.setIfInBounds_toArray, List.set_cons_zero, List.set_cons_succ, List.getElem_toArray, List.getElem_cons_zero, List.getElem_cons_succ]
              refine wpAnyH_take (i := 11) (v := ?_) rfl (by kernel_rfl) (by kernel_rfl) (by kernel_rfl) (fun _ _ _ h => h) (Or.inl ⟨by rfl, ?_⟩) hHeld ?_
              rotate_left
              · (intro ws hS; obtain ⟨h0, h1, h2, h3, h4, h5⟩ := hS; go_simp; try (with_reducible rfl))
              simp only [Act.put, List.setIfInBounds_toArray, List.set_cons_zero, List.set_cons_succ, List.getElem_toArray, List.getElem_cons_zero, List.getElem_cons_succ]
              refine wpAnyH_take (i := 12) (v := ?_) rfl (by kernel_rfl) (by kernel_rfl) (by kernel_rfl) (fun _ _ _ h => h) (Or.inl ⟨by rfl, ?_⟩) hHeld ?_
              rotate_left
              · (intro ws hS; obtain ⟨h0, h1, h2, h3, h4, h5⟩ := hS; go_simp; try (with_reducible rfl))
              simp only [Act.put, List.setIfInBounds_toArray, List.set_cons_zero, List.set_cons_succ, List.getElem_toArray, List.getElem_cons_zero, List.getElem_cons_succ]
              refine wpAnyH_take (i := 13) (v := ?_) rfl (by kernel_rfl) (by kernel_rfl) (by kernel_rfl) (fun _ _ _ h => h) (Or.inl ⟨by rfl, ?_⟩) hHeld ?_
              rotate_left
              · (intro ws hS; obtain ⟨h0, h1, h2, h3, h4, h5⟩ := hS; go_simp; try (with_reducible rfl))
              simp only [Act.put, List.setIfInBounds_toArray, List.set_cons_zero, List.set_cons_succ, List.getElem_toArray, List.getElem_cons_zero, List.getElem_cons_succ]
              refine wpAnyH_take (i := 14) (v := ?_) rfl (by kernel_rfl) (by kernel_rfl) (by kernel_rfl) (fun _ _ _ h => h) (Or.inl ⟨by rfl, ?_⟩) hHeld ?_
              rotate_left
              · (intro ws hS; obtain ⟨h0, h1, h2, h3, h4, h5⟩ := hS; go_simp; try (with_reducible rfl))
              simp only [Act.put, List.setIfInBounds_toArray, List.set_cons_zero, List.set_cons_succ, List.getElem_toArray, List.getElem_cons_zero, List.getElem_cons_succ]
              refine wpAnyH_take (i := 15) (v := ?_) rfl (by kernel_rfl) (by kernel_rfl) (by kernel_rfl) (fun _ _ _ h => h) (Or.inl ⟨by rfl, ?_⟩) hHeld ?_
              rotate_left
              · (intro ws hS; obtain ⟨h0, h1, h2, h3, h4, h5⟩ := hS; go_simp; try (with_reducible rfl))
              simp only [Act.put, List.setIfInBounds_toArray, List.set_cons_zero, List.set_cons_succ, List.getElem_toArray, List.getElem_cons_zero, List.getElem_cons_succ]
              refine wpAnyH_take (i := 16) (v := ?_) rfl (by kernel_rfl) (by kernel_rfl) (by kernel_rfl) (fun _ _ _ h => h) (Or.inl ⟨by rfl, ?_⟩) hHeld ?_
              rotate_left
              · (intro ws hS; obtain ⟨h0, h1, h2, h3, h4, h5⟩ := hS; go_simp; try (with_reducible rfl))
              simp only [Act.put, List.setIfInBounds_toArray, List.set_cons_zero, List.set_cons_succ, List.getElem_toArray, List.getElem_cons_zero, List.getElem_cons_succ]
              refine wpAnyH_take (i := 17) (v := ?_) rfl (by kernel_rfl) (by kernel_rfl) (by kernel_rfl) (fun _ _ _ h => h) (Or.inl ⟨by rfl, ?_⟩) hHeld ?_
              rotate_left
              · (intro ws hS; obtain ⟨h0, h1, h2, h3, h4, h5⟩ := hS; go_simp; try (with_reducible rfl))
              simp only [Act.put, List.setIfInBounds_toArray, List.set_cons_zero, List.set_cons_succ, List.getElem_toArray, List.getElem_cons_zero, List.getElem_cons_succ]
              refine wpAnyH_take (i := 18) (v := ?_) rfl (by kernel_rfl) (by kernel_rfl) (by kernel_rfl) (fun _ _ _ h => h) (Or.inl ⟨by rfl, ?_⟩) hHeld ?_
              rotate_left
              · (intro ws hS; obtain ⟨h0, h1, h2, h3, h4, h5⟩ := hS; go_simp; try (with_reducible rfl))
              simp only [Act.put, List.setIfInBounds_toArray, List.set_cons_zero, List.set_cons_succ, List.getElem_toArray, List.getElem_cons_zero, List.getElem_cons_succ]
              refine wpAnyH_take (i := 19) (v := ?_) rfl (by kernel_rfl) (by kernel_rfl) (by kernel_rfl) (fun _ _ _ h => h) (Or.inl ⟨by rfl, ?_⟩) hHeld ?_
              rotate_left
              · (intro ws hS; obtain ⟨h0, h1, h2, h3, h4, h5⟩ := hS; go_simp; try (with_reducible rfl))
              simp only [Act.put, List.setIfInBounds_toArray, List.set_cons_zero, List.set_cons_succ, List.getElem_toArray, List.getElem_cons_zero, List.getElem_cons_succ]
              refine wpAnyH_take (i := 20) (v := ?_) rfl (by kernel_rfl) (by kernel_rfl) (by kernel_rfl) (fun _ _ _ h => h) (Or.inl ⟨by rfl, ?_⟩) hHeld ?_
              rotate_left
              · (intro ws hS; obtain ⟨h0, h1, h2, h3, h4, h5⟩ := hS; go_simp; try (with_reducible rfl))
              simp only [Act.put, List.setIfInBounds_toArray, List.set_cons_zero, List.set_cons_succ, List.getElem_toArray, List.getElem_cons_zero, List.getElem_cons_succ]
              refine wpAnyH_take (i := 21) (v := ?_) rfl (by kernel_rfl) (by kernel_rfl) (by kernel_rfl) (fun _ _ _ h => h) (Or.inl ⟨by rfl, ?_⟩) hHeld ?_
              rotate_left
              · (intro ws hS; obtain ⟨h0, h1, h2, h3, h4, h5⟩ := hS; go_simp; try (with_reducible rfl))
              simp only [Act.put, List.setIfInBounds_toArray, List.set_cons_zero, List.set_cons_succ, List.getElem_toArray, List.getElem_cons_zero, List.getElem_cons_succ]
              refine wpAnyH_take (i := 22) (v := ?_) rfl (by kernel_rfl) (by kernel_rfl) (by kernel_rfl) (fun _ _ _ h => h) (Or.inl ⟨by rfl, ?_⟩) hHeld ?_
              rotate_left
              · (intro ws hS; obtain ⟨h0, h1, h2, h3, h4, h5⟩ := hS; go_simp; try (with_reducible rfl))
              simp only [Act.put, List.setIfInBounds_toArray, List.set_cons_zero, List.set_cons_succ, List.getElem_toArray, List.getElem_cons_zero, List.getElem_cons_succ]
              refine wpAnyH_take (i := 23) (v := ?_) rfl (by kernel_rfl) (by kernel_rfl) (by kernel_rfl) (fun _ _ _ h => h) (Or.inl ⟨by rfl, ?_⟩) hHeld ?_
              rotate_left
              · (intro ws hS; obtain ⟨h0, h1, h2, h3, h4, h5⟩ := hS; go_simp; try (with_reducible rfl))
              simp only [Act.put, List.setIfInBounds_toArray, List.set_cons_zero, List.set_cons_succ, List.getElem_toArray, List.getElem_cons_zero, List.getElem_cons_succ]
              refine wpAnyH_take (i := 24) (v := ?_) rfl (by kernel_rfl) (by kernel_rfl) (by kernel_rfl) (fun _ _ _ h => h) (Or.inl ⟨by rfl, ?_⟩) hHeld ?_
              rotate_left
              · (intro ws hS; obtain ⟨h0, h1, h2, h3, h4, h5⟩ := hS; go_simp; try (with_reducible rfl))
              simp only [Act.put, List.setIfInBounds_toArray, List.set_cons_zero, List.set_cons_succ, List.getElem_toArray, List.getElem_cons_zero, List.getElem_cons_succ]
              refine wpAnyH_take (i := 25) (v := ?_) rfl (by kernel_rfl) (by kernel_rfl) (by kernel_rfl) (fun _ _ _ h => h) (Or.inl ⟨by rfl, ?_⟩) hHeld ?_
              rotate_left
              · (intro ws hS; obtain ⟨h0, h1, h2, h3, h4, h5⟩ := hS; go_simp; try (with_reducible rfl))
              simp only [Act.put, List.setIfInBounds_toArray, List.set_cons_zero, List.set_cons_succ, List.getElem_toArray, List.getElem_cons_zero, List.getElem_cons_succ]
              refine wpAnyH_take (i := 26) (v := ?_) rfl (by kernel_rfl) (by kernel_rfl) (by kernel_rfl) (fun _ _ _ h => h) (Or.inl ⟨by rfl, ?_⟩) hHeld ?_
              rotate_left
              · (intro ws hS; obtain ⟨h0, h1, h2, h3, h4, h5⟩ := hS; go_simp; try (with_reducible rfl))
              simp only [Act.put, List.setIfInBounds_toArray, List.set_cons_zero, List.set_cons_succ, List.getElem_toArray, List.getElem_cons_zero, List.getElem_cons_succ]
              refine wpAnyH_take (i := 27) (v := ?_) rfl (by kernel_rfl) (by kernel_rfl) (by kernel_rfl) (fun _ _ _ h => h) (Or.inl ⟨by rfl, ?_⟩) hHeld ?_
              rotate_left
              · (intro ws hS; obtain ⟨h0, h1, h2, h3, h4, h5⟩ := hS; go_simp; try (with_reducible rfl))
              simp only [Act.put, List.setIfInBounds_toArray, List.set_cons_zero, List.set_cons_succ, List.getElem_toArray, List.getElem_cons_zero, List.getElem_cons_succ]
              refine wpAnyH_take (i := 28) (v := ?_) rfl (by kernel_rfl) (by kernel_rfl) (by kernel_rfl) (fun _ _ _ h => h) (Or.inl ⟨by rfl, ?_⟩) hHeld ?_
              rotate_left
              · (intro ws hS; obtain ⟨h0, h1, h2, h3, h4, h5⟩ := hS; go_simp; try (with_reducible rfl))
              simp only [Act.put, List.setIfInBounds_toArray, List.set_cons_zero, List.set_cons_succ, List.getElem_toArray, List.getElem_cons_zero, List.getElem_cons_succ]
              refine wpAnyH_take (i := 29) (v := ?_) rfl (by kernel_rfl) (by kernel_rfl) (by kernel_rfl) (fun _ _ _ h => h) (Or.inl ⟨by rfl, ?_⟩) hHeld ?_
              rotate_left
              · (intro ws hS; obtain ⟨h0, h1, h2, h3, h4, h5⟩ := hS; go_simp; try (with_reducible rfl))
              simp only [Act.put, List.setIfInBounds_toArray, List.set_cons_zero, List.set_cons_succ, List.getElem_toArray, List.getElem_cons_zero, List.getElem_cons_succ]
              refine wpAnyH_take (i := 30) (v := ?_) rfl (by kernel_rfl) (by kernel_rfl) (by kernel_rfl) (fun _ _ _ h => h) (Or.inl ⟨by rfl, ?_⟩) hHeld ?_
              rotate_left
              · (intro ws hS; obtain ⟨h0, h1, h2, h3, h4, h5⟩ := hS; go_simp; try (with_reducible rfl))
              simp only [Act.put, List.setIfInBounds_toArray, List.set_cons_zero, List.set_cons_succ, List.getElem_toArray, List.getElem_cons_zero, List.getElem_cons_succ]
              refine wpAnyH_take (i := 31) (v := ?_) rfl (by kernel_rfl) (by kernel_rfl) (by kernel_rfl) (fun _ _ _ h => h) (Or.inl ⟨by rfl, ?_⟩) hHeld ?_
              rotate_left
              · (intro ws hS; obtain ⟨h0, h1, h2, h3, h4, h5⟩ := hS; go_simp; try (with_reducible rfl))
              simp only [Act.put, List.setIfInBounds_toArray, List.set_cons_zero, List.set_cons_succ, List.getElem_toArray, List.getElem_cons_zero, List.getElem_cons_succ]
              refine wpAnyH_take (i := 32) (v := ?_) rfl (by kernel_rfl) (by kernel_rfl) (by kernel_rfl) (fun _ _ _ h => h) (Or.inl ⟨by rfl, ?_⟩) hHeld ?_
              rotate_left
              · (intro ws hS; obtain ⟨h0, h1, h2, h3, h4, h5⟩ := hS; go_simp; try (with_reducible rfl))
              simp only [Act.put, List.setIfInBounds_toArray, List.set_cons_zero, List.set_cons_succ, List.getElem_toArray, List.getElem_cons_zero, List.getElem_cons_succ]
              refine wpAnyH_take (i := 33) (v := ?_) rfl (by kernel_rfl) (by kernel_rfl) (by kernel_rfl) (fun _ _ _ h => h) (Or.inl ⟨by rfl, ?_⟩) hHeld ?_
              rotate_left
              · (intro ws hS; obtain ⟨h0, h1, h2, h3, h4, h5⟩ := hS; go_simp; try (with_reducible rfl))
              simp only [Act.put, List.setIfInBounds_toArray, List.set_cons_zero, List.set_cons_succ, List.getElem_toArray, List.getElem_cons_zero, List.getElem_cons_succ]
              refine wpAnyH_take (i := 34) (v := ?_) rfl (by kernel_rfl) (by kernel_rfl) (by kernel_rfl) (fun _ _ _ h => h) (Or.inl ⟨by rfl, ?_⟩) hHeld ?_
              rotate_left
              · (intro ws hS; obtain ⟨h0, h1, h2, h3, h4, h5⟩ := hS; go_simp; try (with_reducible rfl))
              simp only [Act.put, List.setIfInBounds_toArray, List.set_cons_zero, List.set_cons_succ, List.getElem_toArray, List.getElem_cons_zero, List.getElem_cons_succ]
              refine wpAnyH_take (i := 35) (v := ?_) rfl (by kernel_rfl) (by kernel_rfl) (by kernel_rfl) (fun _ _ _ h => h) (Or.inl ⟨by rfl, ?_⟩) hHeld ?_
              rotate_left
              · (intro ws hS; obtain ⟨h0, h1, h2, h3, h4, h5⟩ := hS; go_simp; try (with_reducible rfl))
              simp only [Act.put, List.setIfInBounds_toArray, List.set_cons_zero, List.set_cons_succ, List.getElem_toArray, List.getElem_cons_zero, List.getElem_cons_succ]
              refine wpAnyH_take (i := 36) (v := ?_) rfl (by kernel_rfl) (by kernel_rfl) (by kernel_rfl) (fun _ _ _ h => h) (Or.inl ⟨by rfl, ?_⟩) hHeld ?_
              rotate_left
              · (intro ws hS; obtain ⟨h0, h1, h2, h3, h4, h5⟩ := hS; go_simp; try (with_reducible rfl))
              simp only [Act.put, List.setIfInBounds_toArray, List.set_cons_zero, List.set_cons_succ, List.getElem_toArray, List.getElem_cons_zero, List.getElem_cons_succ]
              refine wpAnyH_done (by kernel_rfl) ?_ _
              --END 37
              clear x0 x1 x2 y0 y1 y2
              go_wp2
              go_roundg (b.length - (i + 1))
              case measure => have := HI.out; have := HJ.out; omega
              case rel => exact ⟨i + 1, by rw [hw], ⟨by have := HJ.out; omega⟩, _, rfl⟩
            case neg =>
              have q1 : decide ((i : Int) < (b.length : Int)) = false := decide_eq_false (by omega)
              have q2 : decide (i < b.length) = false := decide_eq_false hlt
              have HE := Aside0.mk (show Below w.heap.size w (w8.drewN q0) by rw [HBB.out]; exact pw_below_drewN (HB.out.trans (HB4.out.mono HZ.out)) q0)
              clear hlt
              go_wp2
              go_ret
              exact ⟨rfl, by rw [← HBB.out]; exact HE.out⟩
    --POS
    have q1 : decide ((j : Int) < (l.length : Int)) = true := decide_eq_true (by omega)
    have q2 : decide (j < l.length) = true := decide_eq_true hlt
    have HT := Aside0.mk hlt
    clear hlt
    obtain ⟨ad, eA, x0, x1, x2, x3⟩ := at_T27 (Kd.C_below HR.out.1 (by rw [HW.out.2.2]; exact HW.out.2.1)) (j : Int) (by omega) (by have := HT.out; omega)
    subst eA
    have HQ := Aside0.mk (okS_at HO.out HT.out)
    have HN := Aside0.mk (rfl : nrm (rd_T27 l (j : Int)) = nrm (rd_T27 l (j : Int)))
    have HX := Aside0.mk (show (l.take (j + 1)).map nrm = (l.take j).map nrm ++ [nrm (rd_T27 l (j : Int))] by
      rw [rd_getElem l j HT.out, List.take_succ_eq_append_getElem HT.out, List.map_append]; rfl)
    generalize hq : rd_T27 l (j : Int) = q at *
    rw [Int.toNat_natCast] at x0 x1 x2 x3
    have p1 := eq_true HT.out
    clear hq
    go_upto_region 10 with (fail)
    have HC := Aside0.mk (HW.out.new (cv q))
    generalize hg : wr.heap.size = g at HC ⊢
    generalize wr.alloc (.cells (cv q) 27) = W at HC ⊢
    clear HW x0 x1 x2 x3 q1 q2 hg
    have y0 : W.cell? ⟨g, 0, none⟩ = some (.int .i64 q.f0) := (HC.out.cells 0 _ rfl).1
    have y1 : W.cell? ⟨g, 1, none⟩ = some (.int .i64 q.f1) := (HC.out.cells 1 _ rfl).1
    have y2 : W.cell? ⟨g, 2, none⟩ = some (.int .u64 q.f2) := (HC.out.cells 2 _ rfl).1
    have y3 : W.cell? ⟨g, 3, none⟩ = some (.string q.f3) := (HC.out.cells 3 _ rfl).1
    have z0 := (HC.out.cells 0 _ rfl).2
    have z1 := (HC.out.cells 1 _ rfl).2
    have z2 := (HC.out.cells 2 _ rfl).2
    go_upto_block 2 with (fail)
    go_cut [6, 5, 7] from 21 to 57 (fun v6 v5 v7 wc => v6 = .int .i64 (j : Int) ∧ v7 = .pointer (some ⟨g, 0, none⟩) ∧ Aside0 (WC B g w wc v5 ((l.take j).map nrm) (cv (nrm q))))
    case first =>
      by_cases k0 : q.f0 = 0
      case pos =>
        as_aux_lemma =>
        have d0 : (q.f0 == 0) = true := beq_iff_eq.mpr k0
        have hS : palanquinref01_Size.f q.f0 = some 1 := if_pos k0
        have HZ := Aside0.mk hS
        have HM := Aside0.mk (show cv (nrm q) = #[.int .i64 q.f0, .int .i64 q.f1, .int .u64 (Go.bits .and .u64 q.f2 (IntKind.u64.wrap (IntKind.u64.wrap 256 - 1))), .string q.f3] by rw [show nrm q = ⟨q.f0, q.f1, q.f2 % 256, q.f3⟩ from if_pos k0, show Go.bits .and .u64 q.f2 (IntKind.u64.wrap (IntKind.u64.wrap 256 - 1)) = q.f2 % 256 from maskU 8 (by decide) _ HQ.out.1])
        clear hS k0
        have e8 : IntKind.i64.wrap 8 = 8 := by decide
        go_wp2_with fail
        go_region_with ((go_at_call 6; refine (palanquinref01_Size.calls _ _ _ HZ.out).mono ?_; rintro e w' ⟨rfl, i, rfl⟩))
        all_goals
          go_wp2_with fail
          go_meet
          exact ⟨rfl, rfl, ⟨HC.out.endN _ HM.out⟩⟩
      by_cases k1 : q.f0 = 1
      case pos =>
        as_aux_lemma =>
        have d0 : (q.f0 == 0) = false := beq_eq_false_iff_ne.mpr k0
        have d1 : (q.f0 == 1) = true := beq_iff_eq.mpr k1
        have hS : palanquinref01_Size.f q.f0 = some 2 := (if_neg k0).trans (if_pos k1)
        have HZ := Aside0.mk hS
        have HM := Aside0.mk (show cv (nrm q) = #[.int .i64 q.f0, .int .i64 q.f1, .int .u64 (Go.bits .and .u64 q.f2 (IntKind.u64.wrap (IntKind.u64.wrap 65536 - 1))), .string q.f3] by rw [show nrm q = ⟨q.f0, q.f1, q.f2 % 65536, q.f3⟩ from (if_neg k0).trans (if_pos k1), show Go.bits .and .u64 q.f2 (IntKind.u64.wrap (IntKind.u64.wrap 65536 - 1)) = q.f2 % 65536 from maskU 16 (by decide) _ HQ.out.1])
        clear hS k0 k1
        have e8 : IntKind.i64.wrap 16 = 16 := by decide
        go_wp2_with fail
        go_region_with ((go_at_call 6; refine (palanquinref01_Size.calls _ _ _ HZ.out).mono ?_; rintro e w' ⟨rfl, i, rfl⟩))
        all_goals
          go_wp2_with fail
          go_meet
          exact ⟨rfl, rfl, ⟨HC.out.endN _ HM.out⟩⟩
      by_cases k2 : q.f0 = 2
      case pos =>
        as_aux_lemma =>
        have d0 : (q.f0 == 0) = false := beq_eq_false_iff_ne.mpr k0
        have d1 : (q.f0 == 1) = false := beq_eq_false_iff_ne.mpr k1
        have d2 : (q.f0 == 2) = true := beq_iff_eq.mpr k2
        have hS : palanquinref01_Size.f q.f0 = some 4 := (if_neg k0).trans ((if_neg k1).trans (if_pos k2))
        have HZ := Aside0.mk hS
        have HM := Aside0.mk (show cv (nrm q) = #[.int .i64 q.f0, .int .i64 q.f1, .int .u64 (Go.bits .and .u64 q.f2 (IntKind.u64.wrap (IntKind.u64.wrap 4294967296 - 1))), .string q.f3] by rw [show nrm q = ⟨q.f0, q.f1, q.f2 % 4294967296, q.f3⟩ from (if_neg k0).trans ((if_neg k1).trans (if_pos k2)), show Go.bits .and .u64 q.f2 (IntKind.u64.wrap (IntKind.u64.wrap 4294967296 - 1)) = q.f2 % 4294967296 from maskU 32 (by decide) _ HQ.out.1])
        clear hS k0 k1 k2
        have e8 : IntKind.i64.wrap 32 = 32 := by decide
        go_wp2_with fail
        go_region_with ((go_at_call 6; refine (palanquinref01_Size.calls _ _ _ HZ.out).mono ?_; rintro e w' ⟨rfl, i, rfl⟩))
        all_goals
          go_wp2_with fail
          go_meet
          exact ⟨rfl, rfl, ⟨HC.out.endN _ HM.out⟩⟩
      by_cases k3 : q.f0 = 3
      case pos =>
        as_aux_lemma =>
        have d0 : (q.f0 == 0) = false := beq_eq_false_iff_ne.mpr k0
        have d1 : (q.f0 == 1) = false := beq_eq_false_iff_ne.mpr k1
        have d2 : (q.f0 == 2) = false := beq_eq_false_iff_ne.mpr k2
        have d3 : (q.f0 == 3) = true := beq_iff_eq.mpr k3
        have HM := Aside0.mk (show nrm q = q from (if_neg k0).trans ((if_neg k1).trans ((if_neg k2).trans (if_pos k3))))
        clear k0 k1 k2 k3
        go_wp2_with fail
        go_meet
        exact ⟨rfl, rfl, ⟨by rw [HM.out]; exact HC.out⟩⟩
      have d0 : (q.f0 == 0) = false := beq_eq_false_iff_ne.mpr k0
      have d1 : (q.f0 == 1) = false := beq_eq_false_iff_ne.mpr k1
      have d2 : (q.f0 == 2) = false := beq_eq_false_iff_ne.mpr k2
      have d3 : (q.f0 == 3) = false := beq_eq_false_iff_ne.mpr k3
      have HM := Aside0.mk (show nrm q = ⟨4, (q.f3.size : Int), q.f2, q.f3⟩ from (if_neg k0).trans ((if_neg k1).trans ((if_neg k2).trans (if_neg k3))))
      clear k0 k1 k2 k3
      go_wp2_with fail
      go_meet
      exact ⟨rfl, rfl, ⟨by rw [HM.out]; exact (HC.out.put 0 (.int .i64 4)).put 1 (.int .i64 (q.f3.size : Int))⟩⟩
    case rest =>
      obtain ⟨rfl, rfl, HC'⟩ := hcut
      clear HC y0 y1 y2 y3 z0 z1 z2
      have HN2 := Aside0.mk HX.out
      generalize nrm q = n at HC' HN2
      have y0 : wc.cell? ⟨g, 0, none⟩ = some (.int .i64 n.f0) := (HC'.out.cells 0 _ rfl).1
      have y1 : wc.cell? ⟨g, 1, none⟩ = some (.int .i64 n.f1) := (HC'.out.cells 1 _ rfl).1
      have y2 : wc.cell? ⟨g, 2, none⟩ = some (.int .u64 n.f2) := (HC'.out.cells 2 _ rfl).1
      have y3 : wc.cell? ⟨g, 3, none⟩ = some (.string n.f3) := (HC'.out.cells 3 _ rfl).1
      go_wp2_with ((with_reducible refine gate_builtin (b := .append) (xs := #[.tmp 54, .tmp 56]) rfl ?_); (try (refine gate_guard (by rfl) ?_; dsimp only)); at_builtin; refine Kd.R_append k27 (w0 := wc) B rfl (.tmp 54) (.tmp 56) 22 27 (.agg #[(.int .i64 0), (.int .i64 0), (.int .u64 0), (.string ⟨#[]⟩)]) 40 rfl Try.underlying22 infoCall rfl (by decide) (by omega) _ _ n [.int .i64 n.f0, .int .i64 n.f1, .int .u64 n.f2, .string n.f3] (fun k => k ≠ g) (fun _ => False) rfl (by first | (go_simp; done) | (go_simp; rfl)) (call_mkM _ _ _ n) (fun _ hk => hk.elim) (fun k hk => HC'.out.newer hk) HC'.out.1 (Below.refl _ _) HC'.out.size (by have := HJ.out; have := HT.out; have := HO.out.1; rw [List.length_map, List.length_take]; omega) ?_; intro v1 w6 hR hb hg1 hat1; obtain ⟨A9, n9, e9⟩ := Kd.R_slice hR; subst e9; have HW := Aside0.mk (HC'.out.next hb hR); clear hR hb hg1 hat1 y0 y1 y2 y3)
      have hl : (List.map nrm (List.take j l) ++ [n]).length = min j l.length + 1 := by simp
      rw [hl, ← HN2.out] at HW
      have hw : wrap64 ((j : Int) + 1) = ((j + 1 : Nat) : Int) := by have := HO.out.1; have := HT.out; unfold wrap64; omega
      clear hl
      go_wp2_with (fail)
      go_roundg (l.length - (j + 1))
      case measure => have := HJ.out; have := HT.out; omega
      case rel => exact ⟨j + 1, by rw [hw], ⟨by have := HT.out; omega⟩, HW⟩
    --ENDPOS
def palanquinlaw01_WireBack.f (l0 : List S27) (a1 : Int) : Option Bool := if (∀ c ∈ l0, (0 ≤ c.f2 ∧ c.f2 < 18446744073709551616) ∧ c.f3.size ≤ 140737488351232) then some true else none
theorem palanquinlaw01_WireBack.calls (A0 : Option Addr) (c0 : Nat) (l0 : List S27) (a1 : Int) (r : Bool) (w : World) (hr0 : Kd.C k27 w A0 l0.length l0) (hc0 : l0.length ≤ c0) (h : palanquinlaw01_WireBack.f l0 a1 = some r) :
    Calls Try.prog 3 #[.slice A0 l0.length c0, .int .i64 a1] w fun e w' => e = .returned (.bool r) ∧ Below w.heap.size w w' := by
  unfold palanquinlaw01_WireBack.f at h
  split at h
  case isFalse => exact absurd h (by simp)
  rename_i hs
  obtain rfl := Option.some.inj h
  exact back_main l0 a1 A0 c0 w hr0 hc0 hs
end Go.Proofs.Yteeljehkphfmdaa.G
end
