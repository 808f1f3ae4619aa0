/- Texts of this session, joined: each is a section. -/
import Derived.Test.YteeljehkphfmdaaMWireBack6
import Derived.Deep.CutRange
import Derived.Deep.DeepCutAuto
set_option linter.unusedVariables false
set_option linter.unusedSimpArgs false
section
namespace Go.Proofs.Yteeljehkphfmdaa.G
open Go.RowKit Go.Proofs.YteeljehkphfmdaaW.PrintWords Go.Proofs.YteeljehkphfmdaaW.PrintLast Go.Proofs.YteeljehkphfmdaaW.PrintMore Go.Proofs.Yteeljehkphfmdaa.Pal
theorem infoAns : (Try.prog.info? 43).map (fun i => (i.zero, i.size, i.bytes)) = some (some (.agg #[(.int .u64 0), (.string ⟨#[]⟩), (.int .i64 0), (.int .i64 0)]), 4, 40) := by kernel_rfl
def RI (B : Nat) (w w1 : World) (s : ByteArray) (A : Option Addr) (c : Nat) (l : List S27) (n : Nat) (v : Value) (out : List S43) : Prop :=
  Rd w1 (B + 3) s n ∧ Hp w1 [(B, 22, #[.slice A l.length c]), (B + 1, 38, #[v]), (B + 2, 39, #[.int .i64 0])] ∧ Kd.R k43 43 w1 (B + 4) (fun k => B + 3 < k) v out ∧ Below B w w1 ∧ w.heap.size = B
theorem RI.facts {B : Nat} {w w1 : World} {s : ByteArray} {A : Option Addr} {c : Nat} {l : List S27} {n : Nat} {v : Value} {out : List S43} (h : RI B w w1 s A c l n v out) :
    w1.cell? ⟨B, 0, none⟩ = some (.slice A l.length c) ∧ w1.cell? ⟨B + 1, 0, none⟩ = some v ∧ w1.frozen? ⟨B + 1, 0, none⟩ = false :=
  ⟨h.2.1.head.cell 0 _ rfl, h.2.1.tail.head.cell 0 _ rfl, h.2.1.tail.head.free 0⟩
theorem RI.went {B : Nat} {w w1 w2 : World} {s : ByteArray} {A : Option Addr} {c : Nat} {l : List S27} {n m : Nat} {v : Value} {out : List S43} (h : RI B w w1 s A c l n v out) (hw : Went w1 w2 (B + 3) s m) : RI B w w2 s A c l m v out :=
  ⟨hw.2, h.2.1.grown hw.1 (by simp), Kd.R_grown h.2.2.1 hw.1 (fun k hk e => by injection e with e; omega), h.2.2.2.1.trans (below_of_grown hw.1 (by have := h.1.1.lt; omega) (by omega)), h.2.2.2.2⟩
theorem RI.below {B : Nat} {w w1 w2 : World} {s : ByteArray} {A : Option Addr} {c : Nat} {l : List S27} {n : Nat} {v : Value} {out : List S43} (h : RI B w w1 s A c l n v out) (hb : Below w1.heap.size w1 w2) : RI B w w2 s A c l n v out :=
  ⟨h.1.below hb, h.2.1.below hb (by have := h.1.1.lt; simp; omega), Kd.R_below h.2.2.1 hb, h.2.2.2.1.trans (hb.mono (by have := h.1.1.lt; omega)), h.2.2.2.2⟩
theorem RI.row {B : Nat} {w w1 : World} {s : ByteArray} {A : Option Addr} {c : Nat} {l : List S27} {n : Nat} {v : Value} {out : List S43} (h : RI B w w1 s A c l n v out) (hC : Kd.C k27 w A l.length l) : Kd.C k27 w1 A l.length l :=
  Kd.C_below hC (by rw [h.2.2.2.2]; exact h.2.2.2.1)
def RA (B g : Nat) (w w1 : World) (s : ByteArray) (A : Option Addr) (c : Nat) (l : List S27) (n : Nat) (v : Value) (out : List S43) (x : Array Value) : Prop :=
  Rd w1 (B + 3) s n ∧ Hp w1 [(B, 22, #[.slice A l.length c]), (B + 1, 38, #[v]), (B + 2, 39, #[.int .i64 0]), (g, 43, x)] ∧ Kd.R k43 43 w1 (B + 4) (fun k => B + 3 < k ∧ k ≠ g) v out ∧ Below B w w1 ∧ w.heap.size = B ∧ B + 3 < g
theorem RI.new {B : Nat} {w w1 : World} {s : ByteArray} {A : Option Addr} {c : Nat} {l : List S27} {n : Nat} {v : Value} {out : List S43} (h : RI B w w1 s A c l n v out) (x : Array Value) : RA B w1.heap.size w (w1.alloc (.cells x 43)) s A c l n v out x :=
  ⟨h.1.below ((Below.refl _ _).alloc (Nat.le_refl _) _), .cons (h.2.1.head.alloc _) (.cons (h.2.1.tail.head.alloc _) (.cons (h.2.1.tail.tail.head.alloc _) (.cons (Blk.new w1 _ _) (.nil _)))), Kd.R_alloc (Kd.R_mono (Kd.R_bound h.2.2.1) (fun k hk => ⟨hk.1, by have := hk.2.2.1; omega⟩)) _, h.2.2.2.1.alloc (by have := h.1.1.lt; omega) _, h.2.2.2.2, by have := h.1.1.lt; omega⟩
theorem RA.went {B g : Nat} {w w1 w2 : World} {s : ByteArray} {A : Option Addr} {c : Nat} {l : List S27} {n m : Nat} {v : Value} {out : List S43} {x : Array Value} (h : RA B g w w1 s A c l n v out x) (hw : Went w1 w2 (B + 3) s m) : RA B g w w2 s A c l m v out x :=
  ⟨hw.2, h.2.1.grown hw.1 (by have := h.2.2.2.2.2; simp; omega), Kd.R_grown h.2.2.1 hw.1 (fun k hk e => by injection e with e; omega), h.2.2.2.1.trans (below_of_grown hw.1 (by have := h.1.1.lt; omega) (by omega)), h.2.2.2.2⟩
theorem RA.drewN {B g : Nat} {w w1 : World} {s : ByteArray} {A : Option Addr} {c : Nat} {l : List S27} {n : Nat} {v : Value} {out : List S43} {x : Array Value} (h : RA B g w w1 s A c l n v out x) (q : Nat) : RA B g w (w1.drewN q) s A c l n v out x :=
  ⟨h.1, h.2.1.drewN q, Kd.R_drewN h.2.2.1 q, pw_below_drewN h.2.2.2.1 q, h.2.2.2.2⟩
theorem RA.put {B g : Nat} {w w1 : World} {s : ByteArray} {A : Option Addr} {c : Nat} {l : List S27} {n : Nat} {v : Value} {out : List S43} {x : Array Value} (h : RA B g w w1 s A c l n v out x) (i : Nat) (u : Value) : RA B g w (w1.setCell ⟨g, i, none⟩ u) s A c l n v out (x.setIfInBounds i u) :=
  ⟨⟨h.1.1.other _ (by have := h.2.2.2.2.2; simp; omega) _, h.1.2⟩, Hp.set (l1 := [_, _, _]) (l2 := []) h.2.1 i u (by have := h.2.2.2.2.2; simp; omega) (by simp), Kd.R_far h.2.2.1 (fun k hk => hk.2) _, h.2.2.2.1.setCell (by have := h.2.2.2.2.2; simp; omega) _, h.2.2.2.2⟩
theorem RA.row {B g : Nat} {w w1 : World} {s : ByteArray} {A : Option Addr} {c : Nat} {l : List S27} {n : Nat} {v : Value} {out : List S43} {x : Array Value} (h : RA B g w w1 s A c l n v out x) (hC : Kd.C k27 w A l.length l) : Kd.C k27 w1 A l.length l :=
  Kd.C_below hC (by rw [h.2.2.2.2.1]; exact h.2.2.2.1)
theorem RA.facts {B g : Nat} {w w1 : World} {s : ByteArray} {A : Option Addr} {c : Nat} {l : List S27} {n : Nat} {v : Value} {out : List S43} {x : Array Value} (h : RA B g w w1 s A c l n v out x) :
    w1.cell? ⟨B, 0, none⟩ = some (.slice A l.length c) ∧ (w1.cell? ⟨B + 1, 0, none⟩ = some v ∧ w1.frozen? ⟨B + 1, 0, none⟩ = false) ∧ ∀ i, w1.frozen? ⟨g, i, none⟩ = false :=
  ⟨h.2.1.head.cell 0 _ rfl, ⟨h.2.1.tail.head.cell 0 _ rfl, h.2.1.tail.head.free 0⟩, fun i => h.2.1.tail.tail.tail.head.free i⟩
theorem RA.cells {B g : Nat} {w w1 : World} {s : ByteArray} {A : Option Addr} {c : Nat} {l : List S27} {n : Nat} {v : Value} {out : List S43} {x : Array Value} (h : RA B g w w1 s A c l n v out x) (i : Nat) (u : Value) (hx : x[i]? = some u) : w1.cell? ⟨g, i, none⟩ = some u ∧ w1.frozen? ⟨g, i, none⟩ = false :=
  ⟨h.2.1.tail.tail.tail.head.cell i _ hx, h.2.1.tail.tail.tail.head.free i⟩
theorem be_small (s : ByteArray) (n z : Nat) (hz : z ≤ 8) : IntKind.u64.wrap ((be (bl (s.extract n (n + z))) : Nat) : Int) = ((be (bl (s.extract n (n + z))) : Nat) : Int) := by
  have h := be_lt_of (bl (s.extract n (n + z))) 8 (by rw [bl_length]; simp only [ByteArray.size_extract]; omega)
  exact wraps_u64 _ (by omega) (by omega)
theorem TakeW.went (R : Nat) (s : ByteArray) (n m : Nat) (w : World) (h : Rd w R s n) (hm : n + m ≤ s.size) :
    Calls Try.prog 23 #[.pointer (some ⟨R, 0, none⟩), .int .i64 (m : Int)] w fun e w' => e = .returned (.string (s.extract n (n + m))) ∧ Went w w' R s (n + m) := by
  refine (Reader_Take.yes R s n m w h hm).mono ?_
  rintro e w' ⟨rfl, k, j, rfl⟩
  exact ⟨rfl, Went.take h m hm k j⟩
theorem RA.newer {B g : Nat} {w w1 : World} {s : ByteArray} {A : Option Addr} {c : Nat} {l : List S27} {n : Nat} {v : Value} {out : List S43} {x : Array Value} (h : RA B g w w1 s A c l n v out x) {k : Nat} (hk : w1.heap.size ≤ k) : B + 3 < k ∧ k ≠ g :=
  ⟨by have := h.1.1.lt; omega, by have := h.2.1.tail.tail.tail.head.lt; omega⟩
theorem RA.big {B g : Nat} {w w1 : World} {s : ByteArray} {A : Option Addr} {c : Nat} {l : List S27} {n : Nat} {v : Value} {out : List S43} {x : Array Value} (h : RA B g w w1 s A c l n v out x) : B + 4 ≤ w1.heap.size := by have := h.1.1.lt; omega
def RB (B : Nat) (w w1 : World) (s : ByteArray) (A : Option Addr) (c : Nat) (l : List S27) (n : Nat) (v v1 : Value) (out : List S43) : Prop :=
  Rd w1 (B + 3) s n ∧ Hp w1 [(B, 22, #[.slice A l.length c]), (B + 1, 38, #[v]), (B + 2, 39, #[.int .i64 0])] ∧ Kd.R k43 43 w1 (B + 4) (fun k => B + 3 < k) v1 out ∧ (Below B w w1 ∧ w.heap.size = B) ∧ w1.cell? ⟨B + 1, 0, none⟩ = some v ∧ w1.frozen? ⟨B + 1, 0, none⟩ = false
theorem RA.next {B g : Nat} {w w1 w2 : World} {s : ByteArray} {A : Option Addr} {c : Nat} {l : List S27} {n : Nat} {v v1 : Value} {out out1 : List S43} {x : Array Value} (h : RA B g w w1 s A c l n v out x) (hb : Below (B + 4) w1 w2) (hR : Kd.R k43 43 w2 (B + 4) (fun k => B + 3 < k ∧ k ≠ g) v1 out1) : RB B w w2 s A c l n v v1 out1 :=
  ⟨⟨h.1.1.below hb (by omega), h.1.2⟩, Hp.below (.cons h.2.1.head (.cons h.2.1.tail.head (.cons h.2.1.tail.tail.head (.nil _)))) hb (by simp), Kd.R_mono hR (fun _ hk => hk.1), ⟨h.2.2.2.1.trans (hb.mono (by omega)), h.2.2.2.2.1⟩, (h.2.1.tail.head.below hb (by omega)).cell 0 _ rfl, (h.2.1.tail.head.below hb (by omega)).free 0⟩
theorem RB.back {B : Nat} {w w1 : World} {s : ByteArray} {A : Option Addr} {c : Nat} {l : List S27} {n : Nat} {v v1 : Value} {out : List S43} (h : RB B w w1 s A c l n v v1 out) : RI B w (w1.setCell ⟨B + 1, 0, none⟩ v1) s A c l n v1 out :=
  ⟨⟨h.1.1.other _ (by simp) _, h.1.2⟩, Hp.set (l1 := [_]) (l2 := [_]) h.2.1 0 v1 (by simp) (by simp), Kd.R_far h.2.2.1 (fun k hk e => by simp at e; omega) _, h.2.2.2.1.1.setCell (by simp) _, h.2.2.2.1.2⟩
theorem RA.back {B g : Nat} {w w1 : World} {s : ByteArray} {A : Option Addr} {c : Nat} {l : List S27} {n : Nat} {v : Value} {out : List S43} {x : Array Value} (h : RA B g w w1 s A c l n v out x) : RI B w w1 s A c l n v out :=
  ⟨h.1, .cons h.2.1.head (.cons h.2.1.tail.head (.cons h.2.1.tail.tail.head (.nil _))), Kd.R_mono h.2.2.1 (fun _ hk => hk.1), h.2.2.2.1, h.2.2.2.2.1⟩

set_option maxHeartbeats 4000000 in
set_option maxRecDepth 100000 in
theorem read1 (B : Nat) (w : World) (s : ByteArray) (A : Option Addr) (c : Nat) (l : List S27) (hc : l.length ≤ c) (hl : l.length ≤ 1000) (hC : Kd.C k27 w A l.length l) (e : Int) (outs : List S43) (hr : RdRest s 0 (l.drop 0) [] outs e) (hst : noOK l) (w1 : World) (h : RI B w w1 s A c l 0 (.slice none 0 0) []) :
    Calls Try.prog 20 #[.pointer (some ⟨B + 3, 0, none⟩), .pointer (some ⟨B, 0, none⟩), .pointer (some ⟨B + 1, 0, none⟩)] w1 fun e' w2 => e' = did e ∧ ∃ n v, RI B w w2 s A c l n v outs := by
  have HL := Aside0.mk (And.intro hc hl)
  have HC := Aside0.mk hC
  have HR := Aside0.mk hr
  have HN := Aside0.mk hst
  have HI := Aside0.mk h
  clear hc hl hC hr hst h
  go_enter Try.func20, Try.ntmps20
  go_wp2
  go_loopg [4] l.length (fun kq v4 wr => ∃ (j n : Nat) (v : Value) (out : List S43), v4 = .int .i64 (j : Int) ∧ Aside0 (j + kq = l.length) ∧ Aside0 (out.length ≤ j) ∧ Aside0 (RI B w wr s A c l n v out) ∧ Aside0 (RdRest s n (l.drop j) out outs e))
  case atStart => exact ⟨0, 0, _, [], rfl, ⟨by omega⟩, ⟨by simp⟩, HI, HR⟩
  case round =>
    clear HI HR
    obtain ⟨j, n, v, out, rfl, HK, HO, HI, HR⟩ := hrel
    obtain ⟨c0, c1, z1⟩ := HI.out.facts
    clear c1 z1
    by_cases hlt : j < l.length
    case neg =>
      have q1 : decide ((j : Int) < (l.length : Int)) = false := decide_eq_false (by omega)
      have q2 : decide (j < l.length) = false := decide_eq_false hlt
      have HD := Aside0.mk (HR.out.done (by omega))
      clear hlt
      go_wp2
      go_end0
      exact ⟨by rw [HD.out.1]; rfl, n, v, by rw [HD.out.2]; exact HI.out⟩
    have q1 : decide ((j : Int) < (l.length : Int)) = true := decide_eq_true (by omega)
    have q2 : decide (j < l.length) = true := decide_eq_true hlt
    have HJ := Aside0.mk hlt
    clear hlt
    go_upto_region 4 with (fail)
    have HA := Aside0.mk (HI.out.new #[.int .u64 0, .string ⟨#[]⟩, .int .i64 0, .int .i64 0])
    have HG := Aside0.mk HI.out
    generalize hg : wr.heap.size = g at HA ⊢
    generalize wr.alloc (.cells #[.int .u64 0, .string ⟨#[]⟩, .int .i64 0, .int .i64 0] 43) = W at HA ⊢
    clear HI c0 q1 q2 hg HG
    obtain ⟨c0, ⟨c1, z1⟩, z2⟩ := HA.out.facts
    clear c1 z1
    obtain ⟨ad, eA, x0, x1, x2, x3⟩ := at_T27 (HA.out.row HC.out) (j : Int) (by omega) (by have := HJ.out; omega)
    subst eA
    have HT := Aside0.mk (@RdRest.step s n · j l out outs e · HR.out HJ.out)
    generalize hq : rd_T27 l (j : Int) = q at *
    rw [Int.toNat_natCast] at x0 x1 x2 x3
    have p1 := eq_true (show j < l.length from HJ.out)
    have HQ := Aside0.mk hq
    clear hq
    go_upto_block 2 with (fail)
    go_cut [4, 5] from 6 to 79 (fun v4 v5 wc => v4 = .int .i64 (j : Int) ∧ v5 = .pointer (some ⟨g, 0, none⟩) ∧ ∃ (m : Nat) (a : S43) (y2 y3 : Value), Aside0 (RA B g w wc s (some ad) c l m v out #[.int .u64 a.f0, .string a.f1, y2, y3]) ∧ Aside0 (RdRest s m (l.drop (j + 1)) (out ++ [a]) outs e) ∧ Aside0 (a.f2 = (m : Int) ∧ a.f3 = (s.size : Int) - (m : Int) ∧ m ≤ s.size))
    case first =>
      by_cases k0 : q.f0 = 0
      · as_aux_lemma =>
        have d0 : (q.f0 == 0) = true := beq_iff_eq.mpr k0
        have TO := told_0 (s := s) (n := n) k0
        clear k0
        by_cases hz : n + 1 ≤ s.size
        · rw [numT_ok hz] at TO
          have HM := Aside0.mk (HT.out _ _ TO)
          have HP := Aside0.mk TO
          have HZ := Aside0.mk hz
          clear TO hz HT
          go_wp2_with (fail)
          refine (Reader_U8.yes _ _ _ _ HA.out.1 HZ.out).mono ?_
          rintro e' w2 ⟨rfl, g1⟩
          replace HA := Aside0.mk (HA.out.went g1)
          clear g1 x0 c0 z2
          obtain ⟨y2, z2⟩ := HA.out.cells 0 _ rfl
          have hw := be_small s n 1 (by decide)
          go_wp2_with (fail)
          go_meet
          case rel => exact ⟨rfl, rfl, _, _, _, _, ⟨HA.out.put 0 _⟩, HM, ⟨told_at (by have := HZ.out; omega) HP.out⟩⟩
        · rw [numT_no (by omega)] at TO
          have HE := Aside0.mk (HR.out.stop HJ.out (HQ.out.symm ▸ TO))
          have HZ := Aside0.mk (show s.size < n + 1 by omega)
          clear TO hz HT
          go_wp2_with (fail)
          refine (Reader_U8.no _ _ _ _ HA.out.1 HZ.out).mono ?_
          rintro e' w2 ⟨rfl, i2, rfl⟩
          exact ⟨rfl, by rw [HE.out.1]; rfl, _, _, by rw [HE.out.2]; exact (HA.out.drewN i2).back⟩
      have d0 : (q.f0 == 0) = false := beq_eq_false_iff_ne.mpr k0
      by_cases k1 : q.f0 = 1
      · as_aux_lemma =>
        have d1 : (q.f0 == 1) = true := beq_iff_eq.mpr k1
        have TO := told_1 (s := s) (n := n) k1
        clear k1
        by_cases hz : n + 2 ≤ s.size
        · rw [numT_ok hz] at TO
          have HM := Aside0.mk (HT.out _ _ TO)
          have HP := Aside0.mk TO
          have HZ := Aside0.mk hz
          clear TO hz HT
          go_wp2_with (fail)
          refine (Reader_U16.yes _ _ _ _ HA.out.1 HZ.out).mono ?_
          rintro e' w2 ⟨rfl, g1⟩
          replace HA := Aside0.mk (HA.out.went g1)
          clear g1 x0 c0 z2
          obtain ⟨y2, z2⟩ := HA.out.cells 0 _ rfl
          have hw := be_small s n 2 (by decide)
          go_wp2_with (fail)
          go_meet
          case rel => exact ⟨rfl, rfl, _, _, _, _, ⟨HA.out.put 0 _⟩, HM, ⟨told_at (by have := HZ.out; omega) HP.out⟩⟩
        · rw [numT_no (by omega)] at TO
          have HE := Aside0.mk (HR.out.stop HJ.out (HQ.out.symm ▸ TO))
          have HZ := Aside0.mk (show s.size < n + 2 by omega)
          clear TO hz HT
          go_wp2_with (fail)
          refine (Reader_U16.no _ _ _ _ HA.out.1 HZ.out).mono ?_
          rintro e' w2 ⟨rfl, i2, rfl⟩
          exact ⟨rfl, by rw [HE.out.1]; rfl, _, _, by rw [HE.out.2]; exact (HA.out.drewN i2).back⟩
      have d1 : (q.f0 == 1) = false := beq_eq_false_iff_ne.mpr k1
      by_cases k2 : q.f0 = 2
      · as_aux_lemma =>
        have d2 : (q.f0 == 2) = true := beq_iff_eq.mpr k2
        have TO := told_2 (s := s) (n := n) k2
        clear k2
        by_cases hz : n + 4 ≤ s.size
        · rw [numT_ok hz] at TO
          have HM := Aside0.mk (HT.out _ _ TO)
          have HP := Aside0.mk TO
          have HZ := Aside0.mk hz
          clear TO hz HT
          go_wp2_with (fail)
          refine (Reader_U32.yes _ _ _ _ HA.out.1 HZ.out).mono ?_
          rintro e' w2 ⟨rfl, g1⟩
          replace HA := Aside0.mk (HA.out.went g1)
          clear g1 x0 c0 z2
          obtain ⟨y2, z2⟩ := HA.out.cells 0 _ rfl
          have hw := be_small s n 4 (by decide)
          go_wp2_with (fail)
          go_meet
          case rel => exact ⟨rfl, rfl, _, _, _, _, ⟨HA.out.put 0 _⟩, HM, ⟨told_at (by have := HZ.out; omega) HP.out⟩⟩
        · rw [numT_no (by omega)] at TO
          have HE := Aside0.mk (HR.out.stop HJ.out (HQ.out.symm ▸ TO))
          have HZ := Aside0.mk (show s.size < n + 4 by omega)
          clear TO hz HT
          go_wp2_with (fail)
          refine (Reader_U32.no _ _ _ _ HA.out.1 HZ.out).mono ?_
          rintro e' w2 ⟨rfl, i2, rfl⟩
          exact ⟨rfl, by rw [HE.out.1]; rfl, _, _, by rw [HE.out.2]; exact (HA.out.drewN i2).back⟩
      have d2 : (q.f0 == 2) = false := beq_eq_false_iff_ne.mpr k2
      by_cases k3 : q.f0 = 3
      · as_aux_lemma =>
        have d3 : (q.f0 == 3) = true := beq_iff_eq.mpr k3
        have TO := told_3 (s := s) (n := n) k3
        clear k3
        by_cases hz : n + 8 ≤ s.size
        · rw [numT_ok hz] at TO
          have HM := Aside0.mk (HT.out _ _ TO)
          have HP := Aside0.mk TO
          have HZ := Aside0.mk hz
          clear TO hz HT
          go_wp2_with (fail)
          refine (Reader_U64.yes _ _ _ _ HA.out.1 HZ.out).mono ?_
          rintro e' w2 ⟨rfl, g1⟩
          replace HA := Aside0.mk (HA.out.went g1)
          clear g1 x0 c0 z2
          obtain ⟨y2, z2⟩ := HA.out.cells 0 _ rfl
          have hw := be_small s n 8 (by decide)
          go_wp2_with (fail)
          go_meet
          case rel => exact ⟨rfl, rfl, _, _, _, _, ⟨HA.out.put 0 _⟩, HM, ⟨told_at (by have := HZ.out; omega) HP.out⟩⟩
        · rw [numT_no (by omega)] at TO
          have HE := Aside0.mk (HR.out.stop HJ.out (HQ.out.symm ▸ TO))
          have HZ := Aside0.mk (show s.size < n + 8 by omega)
          clear TO hz HT
          go_wp2_with (fail)
          refine (Reader_U64.no _ _ _ _ HA.out.1 HZ.out).mono ?_
          rintro e' w2 ⟨rfl, i2, rfl⟩
          exact ⟨rfl, by rw [HE.out.1]; rfl, _, _, by rw [HE.out.2]; exact (HA.out.drewN i2).back⟩
      have d3 : (q.f0 == 3) = false := beq_eq_false_iff_ne.mpr k3
      by_cases k4 : q.f0 = 4
      · as_aux_lemma =>
        have d4 : (q.f0 == 4) = true := beq_iff_eq.mpr k4
        by_cases hz : q.f1 < 0 ∨ (s.size : Int) < n + q.f1
        · have HE := Aside0.mk (HR.out.stop HJ.out (HQ.out.symm ▸ told_4n k4 hz))
          have HZ := Aside0.mk hz
          clear hz HT k0 k1 k2 k3 k4
          go_wp2_with (fail)
          refine (Reader_Take.no _ _ _ _ _ HA.out.1 HZ.out).mono ?_
          rintro e' w2 ⟨rfl, i2, rfl⟩
          exact ⟨rfl, by rw [HE.out.1]; rfl, _, _, by rw [HE.out.2]; exact (HA.out.drewN i2).back⟩
        · obtain ⟨i, hi⟩ := Int.eq_ofNat_of_zero_le (show 0 ≤ q.f1 by omega)
          have TO := told_4 k4 i hi (s := s) (n := n) (by omega)
          have HM := Aside0.mk (HT.out _ _ TO)
          have HP := Aside0.mk TO
          have HZ := Aside0.mk (show n + i ≤ s.size by omega)
          rw [hi] at x1
          clear TO hz HT hi k0 k1 k2 k3 k4
          go_wp2_with (fail)
          refine (TakeW.went _ _ _ _ _ HA.out.1 HZ.out).mono ?_
          rintro e' w2 ⟨rfl, g1⟩
          replace HA := Aside0.mk (HA.out.went g1)
          clear g1 x0 x1 c0 z2
          obtain ⟨y2, z2⟩ := HA.out.cells 1 _ rfl
          go_wp2_with (fail)
          go_meet
          case rel => exact ⟨rfl, rfl, _, _, _, _, ⟨HA.out.put 1 _⟩, HM, ⟨told_at (by have := HZ.out; omega) HP.out⟩⟩
      have d4 : (q.f0 == 4) = false := beq_eq_false_iff_ne.mpr k4
      by_cases k5 : q.f0 = 5
      · as_aux_lemma =>
        have d5 : (q.f0 == 5) = true := beq_iff_eq.mpr k5
        have TO := told_5 k5 (s := s) (n := n)
        have HM := Aside0.mk (HT.out _ _ TO)
        have HP := Aside0.mk TO
        have HZ := Aside0.mk HA.out.1.2.1
        clear TO HT k0 k1 k2 k3 k4 k5
        go_wp2_with (fail)
        refine (Reader_Rest.calls _ _ _ _ HA.out.1).mono ?_
        rintro e' w2 ⟨rfl, g1⟩
        replace HA := Aside0.mk (HA.out.went g1)
        clear g1 x0 x1 c0 z2
        obtain ⟨y2, z2⟩ := HA.out.cells 1 _ rfl
        go_wp2_with (fail)
        go_meet
        case rel => exact ⟨rfl, rfl, _, _, _, _, ⟨HA.out.put 1 _⟩, HM, ⟨told_at HZ.out HP.out⟩⟩
      have d5 : (q.f0 == 5) = false := beq_eq_false_iff_ne.mpr k5
      have k6 : q.f0 < 0 ∨ 5 < q.f0 := by omega
      by_cases k7 : Int.tmod q.f2 2 = 0
      · as_aux_lemma =>
        have d7 : (Int.tmod q.f2 2 == 0) = true := beq_iff_eq.mpr k7
        have TO := told_6 k6 k7 (s := s) (n := n)
        have HM := Aside0.mk (HT.out _ _ TO)
        have HP := Aside0.mk TO
        have HZ := Aside0.mk HA.out.1.2.1
        clear TO HT k0 k1 k2 k3 k4 k5 k6 k7
        go_wp2_with (fail)
        go_quiet ((go_at_call 25; refine (Reader_Need.yes _ _ _).mono ?_; rintro e' w2 ⟨rfl, rfl⟩; (first | exact ⟨rfl, 0, rfl⟩ | exact ⟨rfl, _, rfl⟩)))
        go_wp2_with (fail)
        go_meet
        case rel => exact ⟨rfl, rfl, _, _, _, _, ⟨HA.out.drewN _⟩, HM, ⟨told_at HZ.out HP.out⟩⟩
      · as_aux_lemma =>
        have d7 : (Int.tmod q.f2 2 == 0) = false := beq_eq_false_iff_ne.mpr k7
        have HE := Aside0.mk (HR.out.stop HJ.out (HQ.out.symm ▸ told_6n k6 k7))
        rw [HQ.out] at HE
        have HF := Aside0.mk (show q.f1 ≠ 0 from HQ.out ▸ noOK_at HN.out HJ.out (HQ.out.symm ▸ k6))
        clear HT k0 k1 k2 k3 k4 k5 k6 k7
        go_wp2_with (fail)
        go_region_with ((go_at_call 25; refine (Reader_Need.no _ _ _).mono ?_; rintro e' w2 ⟨rfl, rfl⟩; refine panicOut1 ?_))
        all_goals exact ⟨rfl, by rw [HE.out.1]; exact (if_neg HF.out).symm, _, _, by rw [HE.out.2]; first | exact (HA.out.drewN _).back | exact ((HA.out.drewN 1).drewN _).back⟩
    case rest =>
      obtain ⟨rfl, rfl, m, a, y2, y3, HA', HM, HP⟩ := hcut
      clear HA HT HQ x0 x1 x2 x3 c0 z2 p1
      have HA := HA'
      clear HA'
      go_wp2_with (fail)
      refine (Reader_At.calls _ _ _ _ HA.out.1).mono ?_
      rintro e' w2 ⟨rfl, i1, rfl⟩
      replace HA := Aside0.mk (HA.out.drewN i1)
      generalize wc.drewN i1 = w3 at HA ⊢
      go_wp2_with (fail)
      refine (Reader_Left.calls _ _ _ _ HA.out.1).mono ?_
      rintro e' w2 ⟨rfl, i2, rfl⟩
      replace HA := Aside0.mk (HA.out.drewN i2)
      generalize w3.drewN i2 = w4 at HA ⊢
      obtain ⟨y4, z4⟩ := HA.out.cells 2 _ rfl
      obtain ⟨y5, z5⟩ := HA.out.cells 3 _ rfl
      go_upto_region 19 with (fail)
      replace HA := Aside0.mk ((HA.out.put 2 (.int .i64 (m : Int))).put 3 (.int .i64 ((s.size : Int) - (m : Int))))
      clear y4 z4 y5 z5
      have hz : (#[Value.int .u64 a.f0, .string a.f1, y2, y3].setIfInBounds 2 (Value.int .i64 (m : Int))).setIfInBounds 3 (Value.int .i64 ((s.size : Int) - (m : Int))) = #[.int .u64 a.f0, .string a.f1, .int .i64 a.f2, .int .i64 a.f3] := by
        rw [HP.out.1, HP.out.2.1]; rfl
      rw [hz] at HA
      clear hz
      rw [← HP.out.2.1, ← HP.out.1] at HA ⊢
      generalize (w4.setCell ⟨g, 2, none⟩ (.int .i64 a.f2)).setCell ⟨g, 3, none⟩ (.int .i64 a.f3) = w5 at HA ⊢
      obtain ⟨y0, z0⟩ := HA.out.cells 0 _ rfl
      obtain ⟨y1, z1⟩ := HA.out.cells 1 _ rfl
      obtain ⟨y2', z2'⟩ := HA.out.cells 2 _ rfl
      obtain ⟨y3', z3'⟩ := HA.out.cells 3 _ rfl
      obtain ⟨c0, ⟨c1, z4⟩, _⟩ := HA.out.facts
      clear z0 z1 z2' z3' c0
      go_wp2_with ((with_reducible refine gate_builtin (b := .append) (xs := #[.tmp 76, .tmp 78]) rfl ?_); (try (refine gate_guard (by rfl) ?_; dsimp only)); at_builtin; refine Kd.R_append k43 (w0 := w5) (B + 4) rfl (.tmp 76) (.tmp 78) 38 43 (.agg #[(.int .u64 0), (.string ⟨#[]⟩), (.int .i64 0), (.int .i64 0)]) 40 rfl Try.underlying38 infoAns rfl (by decide) (by omega) v out a [.int .u64 a.f0, .string a.f1, .int .i64 a.f2, .int .i64 a.f3] (fun k => B + 3 < k ∧ k ≠ g) (fun _ => False) rfl (by first | (go_simp; done) | (go_simp; rfl)) (k43_mkM _ _ _ a) (fun _ hk => hk.elim) (fun k hk => HA.out.newer hk) HA.out.2.2.1 (Below.refl _ _) HA.out.big (by have := HO.out; have := HL.out.2; have := HJ.out; omega) ?_; intro v1 w6 hR hb hg1 hat1; obtain ⟨A9, n9, e9⟩ := Kd.R_slice hR; subst e9; replace HA := Aside0.mk (HA.out.next hb hR); clear hR hb hg1 hat1 y0 y1 y2' y3' c1 z4; obtain ⟨c1, z4⟩ := HA.out.2.2.2.2)
      have HI := Aside0.mk HA.out.back
      try simp only [List.length_append, List.length_cons, List.length_nil, Nat.zero_add] at HI
      clear HA c1 z4
      have hw : wrap64 ((j : Int) + 1) = ((j + 1 : Nat) : Int) := by have := HL.out; have := HJ.out; unfold wrap64; omega
      go_wp2_with (fail)
      go_roundg (l.length - (j + 1))
      case measure => have := HK.out; have := HJ.out; omega
      case rel => exact ⟨j + 1, m, _, out ++ [a], by rw [hw], ⟨by have := HJ.out; omega⟩, ⟨by rw [List.length_append]; have := HO.out; simp; omega⟩, HI, HM⟩

def palanquinlaw01_read.f (a0 : ByteArray) (l1 : List S27) : Option (List S43 × Int) := if a0.size ≤ 140737488351232 ∧ l1.length ≤ 1000 ∧ noOK l1 then some (reads a0 0 l1) else none
set_option maxHeartbeats 1000000 in
set_option maxRecDepth 100000 in
theorem palanquinlaw01_read.calls (a0 : ByteArray) (A1 : Option Addr) (c1 : Nat) (l1 : List S27) (r1 : List S43) (r2 : Int) (w : World) (hr1 : Kd.C k27 w A1 l1.length l1) (hc1 : l1.length ≤ c1) (h : palanquinlaw01_read.f a0 l1 = some (r1, r2)) :
    Calls Try.prog 9 #[.string a0, .slice A1 l1.length c1] w fun e w' => ∃ v0_ : Value, e = .returned (.tuple #[v0_, .int .i64 r2]) ∧ Kd.R k43 43 w' w.heap.size (fun _ => True) v0_ r1 ∧ Below w.heap.size w w' := by
  unfold palanquinlaw01_read.f at h
  split at h
  case isFalse => exact absurd h (by simp)
  rename_i hs
  have hrr := Option.some.inj h
  clear h
  have hmf : ∀ (fn : Fn) (first cap : Array Value) (w : World), (Instr.makeFunc fn first cap).run Try.prog w = .ok (.func fn first cap) w := fun _ _ _ _ => rfl
  have HQ := Aside0.mk (show Calls Try.prog 10 #[.string a0, .func (.func 20) #[] #[.pointer (some ⟨w.heap.size, 0, none⟩), .pointer (some ⟨w.heap.size + 1, 0, none⟩)]] ((w.alloc (.cells #[.slice A1 l1.length c1] 22)).alloc (.cells #[.slice none 0 0] 38)) fun e' w' => e' = .returned (.int .i64 r2) ∧ ∃ (n : Nat) (v : Value), Below w.heap.size w w' ∧ Kd.R k43 43 w' w.heap.size (fun _ => True) v r1 ∧ w'.cell? ⟨w.heap.size + 1, 0, none⟩ = some v by
    obtain ⟨W, hW⟩ : ∃ W, W = (w.alloc (.cells #[.slice A1 l1.length c1] 22)).alloc (.cells #[.slice none 0 0] 38) := ⟨_, rfl⟩
    have hk : W.heap.size = w.heap.size + 2 := by rw [hW]; simp
    have b0 : Blk W w.heap.size 22 #[.slice A1 l1.length c1] := by rw [hW]; exact (Blk.new w _ _).alloc _
    have b1 : Blk W (w.heap.size + 1) 38 #[.slice none 0 0] := by
      rw [hW]
      have := Blk.new (w.alloc (.cells #[.slice A1 l1.length c1] 22)) 38 #[.slice none 0 0]
      rwa [World.size_alloc] at this
    have hb : Below w.heap.size w W := by rw [hW]; exact ((Below.refl _ _).alloc (Nat.le_refl _) _).alloc (by simp) _
    rw [← hW]
    clear hW
    have hrd := readW_rd W a0 hs.1
    have hres := readW_res W a0
    have hbl := readW_below W a0
    rw [hk] at hrd hres hbl
    have hG : RI w.heap.size w (readW W a0) a0 A1 c1 l1 0 (.slice none 0 0) [] := ⟨hrd, .cons (b0.below hbl (by omega)) (.cons (b1.below hbl (by omega)) (.cons hres (.nil _))), Kd.R_nil _ _ _ _ _, hb.trans (hbl.mono (by omega)), rfl⟩
    have h1 := Read_calls 20 #[.pointer (some ⟨w.heap.size, 0, none⟩), .pointer (some ⟨w.heap.size + 1, 0, none⟩)] a0 r2 W (fun w2 => ∃ n v, RI w.heap.size w w2 a0 A1 c1 l1 n v r1) (fun _ _ => rfl)
    rw [hk] at h1
    refine (h1 ?_).mono ?_
    · refine (read1 w.heap.size w a0 A1 c1 l1 hc1 hs.2.1 hr1 r2 r1 ⟨by rw [List.drop_zero, hrr], by rw [List.drop_zero, hrr]; rfl⟩ hs.2.2 _ hG).mono ?_
      rintro e w2 ⟨rfl, n, v, h⟩
      exact ⟨rfl, h.2.1.tail.tail.head, n, v, h⟩
    · rintro e w' ⟨rfl, w2, ⟨n, v, h⟩, hg⟩
      exact ⟨rfl, n, v, h.2.2.2.1.trans (below_of_grown hg (by have := h.1.1.lt; omega) (by omega)), Kd.R_mono (Kd.R_lower (Kd.R_grown h.2.2.1 hg (fun k hk e => by injection e with e; omega)) (by omega)) (fun _ _ => trivial), (h.2.1.tail.head.grown hg (by omega)).cell 0 _ rfl⟩)
  clear hs hrr hr1 hc1
  go_enter Try.func9, Try.ntmps9
  go_wp2_with fail
  refine HQ.out.mono ?_
  rintro e w2 ⟨rfl, n, v, hb, hR, c1⟩
  have HB := Aside0.mk hb
  have HR := Aside0.mk hR
  clear HQ hb hR
  go_wp2
  go_ret2
  exact ⟨v, rfl, HR.out, HB.out⟩
end Go.Proofs.Yteeljehkphfmdaa.G
end
