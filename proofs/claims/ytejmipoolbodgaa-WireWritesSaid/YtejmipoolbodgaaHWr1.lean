/- By hand: palanquinlaw01.write: what calls write; the law WireWrites: its walk, for the answer true alone. -/
import Derived.Test.YtejmipoolbodgaaHLaw01
import Derived.Test.YtejmipoolbodgaaPWrites
namespace Go.Proofs.Ytejmipoolbodgaa.G
open Go.RowKit Go.Proofs.YtejmipoolbodgaaW.PrintWords Go.Proofs.YtejmipoolbodgaaW.PrintLast Go.Proofs.YtejmipoolbodgaaW.PrintMore Go.Proofs.Ytejmipoolbodgaa.Pal Go.Proofs.Ytejmipoolbodgaa.Pure
set_option linter.unusedVariables false
set_option linter.unusedSimpArgs false
theorem wr_u8 (x : Int) (h : 0 ≤ x ∧ x < 18446744073709551616) (n : Nat) : nb n (IntKind.u64.wrap (wrap64 x)).toNat = nb n x.toNat := by
  rw [show IntKind.u64.wrap (wrap64 x) = x by rw [IntKind.wrap_u64]; unfold wrap64; omega]
theorem wr_u32 (x : Int) (h : 0 ≤ x ∧ x < 18446744073709551616) : nb 4 (IntKind.u64.wrap (x % 4294967296)).toNat = nb 4 x.toNat := by
  obtain ⟨x, rfl⟩ := Int.eq_ofNat_of_zero_le h.1
  rw [show IntKind.u64.wrap ((x : Int) % 4294967296) = ((x % 256 ^ 4 : Nat) : Int) by rw [IntKind.wrap_u64]; omega, Int.toNat_natCast, Int.toNat_natCast, nb_mod]
theorem wr_u64 (x : Int) (h : 0 ≤ x ∧ x < 18446744073709551616) (n : Nat) : nb n (IntKind.u64.wrap x).toNat = nb n x.toNat := by
  rw [show IntKind.u64.wrap x = x by rw [IntKind.wrap_u64]; omega]
theorem WAt.lt {b : Nat} {l : List UInt8} {w : World} (h : WAt b l w) : b < w.heap.size := by
  obtain ⟨v, h | h⟩ := h
  · exact h.lt
  · exact h.lt
theorem WAt.below {b : Nat} {l : List UInt8} {w w' : World} (h : WAt b l w) (k : Below w.heap.size w w') : WAt b l w' := by
  have go : ∀ {p v : Value}, WP b p v l w → WP b p v l w' := fun {p v} h => ⟨(k.block b h.lt).trans h.1, h.2.1.kept (row := none) ⟨k.os, k.tape, k.output, k.size, fun i hi _ => k.block i hi⟩ (by cases v.ownBlock <;> simp), h.2.2⟩
  obtain ⟨v, h | h⟩ := h
  · exact ⟨v, .inl (go h)⟩
  · exact ⟨v, .inr (go h)⟩

set_option maxHeartbeats 4000000 in
set_option maxRecDepth 100000 in
theorem write_calls (b : Nat) (L : List UInt8) (w0 : World) (A : Option Addr) (c : Nat) (l : List S87) (hc : l.length ≤ c) (hok : okS l) (hC : Kd.C k87 w0 A l.length l) (w : World) (hw0 : w0.heap.size ≤ b) (hb : Below w0.heap.size w0 w) (h : WAt b L w) (hL : L.length ≤ 1000000) :
    Calls Try.prog 78 #[self b, .slice A l.length c] w fun e' w2 => e' = .returned (.tuple #[]) ∧ WAt b (L ++ wcat l) w2 ∧ Below b w w2 := by
  have HL := Aside0.mk (And.intro hc hL)
  have HK := Aside0.mk hok
  have HC := Aside0.mk hC
  have HW := Aside0.mk (And.intro hw0 hb)
  have HI := Aside0.mk h
  clear hc hok hC hw0 hb h hL
  go_enter Try.func78, Try.ntmps78
  go_wp2
  go_loopg [4] l.length (fun kq v4 wr => ∃ j : Nat, v4 = .int .i64 (j : Int) ∧ Aside0 (j + kq = l.length) ∧ Aside0 (WAt b (L ++ wcat (l.take j)) wr) ∧ Aside0 (Below b w wr))
  case atStart => exact ⟨0, rfl, ⟨by omega⟩, ⟨by simpa [wcat] using HI.out⟩, ⟨Below.refl _ _⟩⟩
  case round =>
    clear HI
    obtain ⟨j, rfl, HJ, HI, HB⟩ := hrel
    by_cases hlt : j < l.length
    case neg =>
      have q1 : decide ((j : Int) < (l.length : Int)) = false := decide_eq_false (by omega)
      have q2 : decide (j < l.length) = false := decide_eq_false hlt
      have HT := Aside0.mk (show l.take j = l from List.take_of_length_le (by omega))
      clear hlt
      go_wp2
      go_end0
      exact ⟨rfl, by have := HI.out; rwa [HT.out] at this, HB.out⟩
    have q1 : decide ((j : Int) < (l.length : Int)) = true := decide_eq_true (by omega)
    have q2 : decide (j < l.length) = true := decide_eq_true hlt
    obtain ⟨ad, eA, x0, x1, x2, x3⟩ := at_T87 (Kd.C_below HC.out (HW.out.2.trans (HB.out.mono HW.out.1))) (j : Int) (by omega) (by omega)
    subst eA
    have HQ := Aside0.mk (okS_at HK.out hlt)
    have HT := Aside0.mk (show wcat (l.take (j + 1)) = wcat (l.take j) ++ wcall (rd_T87 l (j : Int)) from wcat_take hlt)
    have HZ := Aside0.mk (show (L ++ wcat (l.take j)).length + 5000 ≤ 140737488355328 by rw [List.length_append]; have := wcat_take_len HK.out j; have := HL.out.2; omega)
    have hw : wrap64 ((j : Int) + 1) = ((j + 1 : Nat) : Int) := by have := HK.out.1; unfold wrap64; omega
    generalize hq : rd_T87 l (j : Int) = q at *
    rw [Int.toNat_natCast] at x0 x1 x2 x3
    have p1 := eq_true hlt
    have HV := Aside0.mk hlt
    clear hlt hq
    by_cases k0 : q.f0 = 0
    · as_aux_lemma =>
      have d0 : (q.f0 == 0) = true := beq_iff_eq.mpr k0
      have HE := Aside0.mk (wcall_0 k0)
      clear k0
      go_wp2_with (fail)
      refine (Writer_U8.calls b _ _ _ HI.out (by have := HZ.out; omega)).mono ?_
      rintro e' w2 ⟨rfl, g1, g2⟩
      replace HI := Aside0.mk g1
      replace HB := Aside0.mk (HB.out.trans g2)
      clear g1 g2 x0 x1 x2 x3
      go_wp2_with (fail)
      go_roundg (l.length - (j + 1))
      case measure => have := HJ.out; have := HV.out; omega
      case rel => exact ⟨j + 1, by rw [hw], ⟨by have := HV.out; omega⟩, ⟨by rw [HT.out, HE.out, ← List.append_assoc, ← wr_u8 _ HQ.out.1 1]; exact HI.out⟩, HB⟩
    have d0 : (q.f0 == 0) = false := beq_eq_false_iff_ne.mpr k0
    by_cases k1 : q.f0 = 1
    · as_aux_lemma =>
      have d1 : (q.f0 == 1) = true := beq_iff_eq.mpr k1
      have HE := Aside0.mk (wcall_1 k1)
      clear k0 k1
      go_wp2_with (fail)
      refine (Writer_U16.calls b _ _ _ HI.out (by have := HZ.out; omega)).mono ?_
      rintro e' w2 ⟨rfl, g1, g2⟩
      replace HI := Aside0.mk g1
      replace HB := Aside0.mk (HB.out.trans g2)
      clear g1 g2 x0 x1 x2 x3
      go_wp2_with (fail)
      go_roundg (l.length - (j + 1))
      case measure => have := HJ.out; have := HV.out; omega
      case rel => exact ⟨j + 1, by rw [hw], ⟨by have := HV.out; omega⟩, ⟨by rw [HT.out, HE.out, ← List.append_assoc, ← wr_u8 _ HQ.out.1 2]; exact HI.out⟩, HB⟩
    have d1 : (q.f0 == 1) = false := beq_eq_false_iff_ne.mpr k1
    by_cases k2 : q.f0 = 2
    · as_aux_lemma =>
      have d2 : (q.f0 == 2) = true := beq_iff_eq.mpr k2
      have HE := Aside0.mk (wcall_2 k2)
      clear k0 k1 k2
      go_wp2_with (fail)
      refine (Writer_U32.calls b _ _ _ HI.out (by omega) (by omega) (by have := HZ.out; omega)).mono ?_
      rintro e' w2 ⟨rfl, g1, g2⟩
      replace HI := Aside0.mk g1
      replace HB := Aside0.mk (HB.out.trans g2)
      clear g1 g2 x0 x1 x2 x3
      go_wp2_with (fail)
      go_roundg (l.length - (j + 1))
      case measure => have := HJ.out; have := HV.out; omega
      case rel => exact ⟨j + 1, by rw [hw], ⟨by have := HV.out; omega⟩, ⟨by rw [HT.out, HE.out, ← List.append_assoc, ← wr_u32 _ HQ.out.1]; exact HI.out⟩, HB⟩
    have d2 : (q.f0 == 2) = false := beq_eq_false_iff_ne.mpr k2
    by_cases k3 : q.f0 = 3
    · as_aux_lemma =>
      have d3 : (q.f0 == 3) = true := beq_iff_eq.mpr k3
      have HE := Aside0.mk (wcall_3 k3)
      clear k0 k1 k2 k3
      go_wp2_with (fail)
      refine (Writer_U64.calls b _ _ _ HI.out HQ.out.1.1 HQ.out.1.2 (by have := HZ.out; omega)).mono ?_
      rintro e' w2 ⟨rfl, g1, g2⟩
      replace HI := Aside0.mk g1
      replace HB := Aside0.mk (HB.out.trans g2)
      clear g1 g2 x0 x1 x2 x3
      go_wp2_with (fail)
      go_roundg (l.length - (j + 1))
      case measure => have := HJ.out; have := HV.out; omega
      case rel => exact ⟨j + 1, by rw [hw], ⟨by have := HV.out; omega⟩, ⟨by rw [HT.out, HE.out, ← List.append_assoc, ← wr_u64 _ HQ.out.1 8]; exact HI.out⟩, HB⟩
    have d3 : (q.f0 == 3) = false := beq_eq_false_iff_ne.mpr k3
    as_aux_lemma =>
      have HE := Aside0.mk (wcall_4 k0 k1 k2 k3)
      clear k0 k1 k2 k3
      go_wp2_with (fail)
      refine (Writer_Text.calls b _ _ _ HI.out (by have := HZ.out; have := HQ.out.2; omega)).mono ?_
      rintro e' w2 ⟨rfl, g1, g2⟩
      replace HI := Aside0.mk g1
      replace HB := Aside0.mk (HB.out.trans g2)
      clear g1 g2 x0 x1 x2 x3
      go_wp2_with (fail)
      go_roundg (l.length - (j + 1))
      case measure => have := HJ.out; have := HV.out; omega
      case rel => exact ⟨j + 1, by rw [hw], ⟨by have := HV.out; omega⟩, ⟨by rw [HT.out, HE.out, ← List.append_assoc]; exact HI.out⟩, HB⟩

/-- The law's answer is true wherever its calls' numbers and texts are as they may be in memory. -/
def okW (l : List S87) : Prop := ∀ c ∈ l, (0 ≤ c.f2 ∧ c.f2 < 18446744073709551616) ∧ c.f3.size ≤ 140737488351232
instance (l : List S87) : Decidable (okW l) := by unfold okW; infer_instance
def palanquinlaw01_WireWrites.f (l0 : List S87) : Option Bool := if okW l0 then some true else none
set_option maxHeartbeats 2000000 in
set_option maxRecDepth 100000 in
theorem palanquinlaw01_WireWrites.calls (A0 : Option Addr) (c0 : Nat) (l0 : List S87) (r : Bool) (w : World) (hr0 : Kd.C k87 w A0 l0.length l0) (hc0 : l0.length ≤ c0) (h : palanquinlaw01_WireWrites.f l0 = some r) :
    Calls Try.prog 17 #[.slice A0 l0.length c0] w fun e w' => e = .returned (.bool r) ∧ Below w.heap.size w w' := by
  unfold palanquinlaw01_WireWrites.f at h
  split at h
  case isFalse => exact absurd h (by simp)
  rename_i hs
  obtain rfl := Option.some.inj h
  clear h
  obtain ⟨b, hf, hB⟩ := few_is2 l0 (fun c hc => (hs c hc).2) 1000 (by omega)
  have HF := Aside0.mk hf
  have HS := Aside0.mk (And.intro hs hB)
  have HR := Aside0.mk (And.intro hr0 hc0)
  have HB := Aside0.mk (Below.refl w.heap.size w)
  clear hf hs hB hr0 hc0
  go_enter Try.func17, Try.ntmps17
  go_wp2_with fail
  refine (palanquinlaw01_awake.calls true _ rfl).mono ?_
  rintro e' w2 ⟨rfl, g1⟩
  replace HB := Aside0.mk (HB.out.trans g1)
  clear g1
  go_wp2_with fail
  refine (palanquinlaw01_few.calls 1000 A0 c0 l0 b _ (Kd.C_below HR.out.1 HB.out) HR.out.2 HF.out).mono ?_
  rintro e' w3 ⟨rfl, i3, rfl⟩
  replace HB := Aside0.mk (pw_below_drewN HB.out i3)
  generalize w2.drewN i3 = w3 at HB ⊢
  cases b with
  | false =>
    go_wp2
    go_ret
    exact ⟨rfl, HB.out⟩
  | true =>
  have HO := Aside0.mk (show okS l0 from ⟨(HS.out.2 rfl).1, fun c hc => ⟨(HS.out.1 c hc).1, (HS.out.2 rfl).2 c hc⟩⟩)
  clear HS HF
  go_wp2_with fail
  have HN := Aside0.mk (WAt.new w3)
  have HZ := Aside0.mk HB.out.size
  replace HB := Aside0.mk (HB.out.alloc HB.out.size (.cells #[.pointer none, .slice none 0 0] 82))
  generalize hb : w3.heap.size = b at HN HZ ⊢
  generalize w3.alloc (.cells #[.pointer none, .slice none 0 0] 82) = W at HN HB ⊢
  clear hb
  refine (write_calls b [] w A0 c0 l0 HR.out.2 HO.out HR.out.1 W HZ.out HB.out HN.out (by simp)).mono ?_
  rintro e' w4 ⟨rfl, g1, g2⟩
  replace HN := Aside0.mk (show WAt b (wcat l0) w4 from g1)
  replace HB := Aside0.mk (HB.out.trans (g2.mono HZ.out))
  clear g1 g2
  go_wp2_with fail
  refine (palanquinref01_Write.calls 1000 A0 c0 l0 (txt (wcat l0)) _ (Kd.C_below HR.out.1 HB.out) HR.out.2 (write_is l0 HO.out 1000 (by omega))).mono ?_
  rintro e' w5 ⟨rfl, g1⟩
  replace HN := Aside0.mk (HN.out.below g1)
  replace HB := Aside0.mk (HB.out.trans (g1.mono (by have := HB.out.size; omega)))
  clear g1
  go_wp2_with fail
  refine (Writer_String.calls b (wcat l0) _ HN.out).mono ?_
  rintro e' w6 ⟨rfl, g1, g2⟩
  replace HN := Aside0.mk g1
  replace HB := Aside0.mk (HB.out.trans (g2.mono HZ.out))
  clear g1 g2
  have ht : (⟨(wcat l0).toArray⟩ : ByteArray) = txt (wcat l0) := rfl
  have hl := txt_size (wcat l0)
  rw [ht]
  generalize txt (wcat l0) = t at hl ⊢
  clear ht
  have k1 : (t.toList == t.toList) = true := beq_self_eq_true _
  go_wp2_with fail
  refine (Writer_Len.calls b (wcat l0) _ HN.out).mono ?_
  rintro e' w7 ⟨rfl, rfl⟩
  rw [← hl]
  go_wp2
  go_ret
  exact ⟨by simp, HB.out⟩
end Go.Proofs.Ytejmipoolbodgaa.G
