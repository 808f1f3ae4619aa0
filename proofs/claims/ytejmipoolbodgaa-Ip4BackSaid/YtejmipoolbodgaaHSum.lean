/- By hand: sum.fold, sum.Sum's closure, sum.Sum: what they return is the plain checksum of all parts' bytes. -/
import Derived.Test.YtejmipoolbodgaaG0
import Derived.Test.YtejmipoolbodgaaPSum
import Derived.Test.YtejmipoolbodgaaPBits
namespace Go.Proofs.Ytejmipoolbodgaa.G
open Go.RowKit Go.Proofs.YtejmipoolbodgaaW.PrintWords Go.Proofs.YtejmipoolbodgaaW.PrintLast Go.Proofs.YtejmipoolbodgaaW.PrintMore Go.Proofs.Ytejmipoolbodgaa.Pal
set_option linter.unusedVariables false
set_option linter.unusedSimpArgs false

def sum_fold.f (a0 : Int) : Option Int := if 0 ≤ a0 ∧ a0 ≤ 18446744073709551615 then some ((fold16 a0.toNat : Nat) : Int) else none

def addW (t : Int) (o : Bool) (b : Int) : Int := t + if o then b else b * 256
set_option maxHeartbeats 400000 in
set_option maxRecDepth 100000 in
theorem sum_add.calls (b t : Int) (o : Bool) (po pt : Nat) (w : World) (hb0 : 0 ≤ b) (hb1 : b ≤ 255) (ht0 : 0 ≤ t) (ht1 : t ≤ 18446744073709486000)
    (h1 : w.cell? ⟨po, 0, none⟩ = some (.bool o)) (h2 : w.cell? ⟨pt, 0, none⟩ = some (.int .u64 t)) (f1 : w.frozen? ⟨po, 0, none⟩ = false) (f2 : w.frozen? ⟨pt, 0, none⟩ = false) (hne : ¬ po = pt) :
    Calls Try.prog 120 #[.int .u8 b, .pointer (some ⟨po, 0, none⟩), .pointer (some ⟨pt, 0, none⟩)] w fun e w' => e = .returned (.tuple #[]) ∧ w' = (w.setCell ⟨pt, 0, none⟩ (.int .u64 (addW t o b))).setCell ⟨po, 0, none⟩ (.bool (!o)) := by
  have hnot : ∀ (x : Bool) (w : World), (Op.unary .not (.bool x)).run Try.prog w = .ok (.bool (!x)) w := fun _ _ => rfl
  cases o
  · go_enter Try.func120, Try.ntmps120
    go_wp2
    go_end0
    exact ⟨rfl, by simp [addW]⟩
  · go_enter Try.func120, Try.ntmps120
    go_wp2
    go_end0
    exact ⟨rfl, by simp [addW]⟩

theorem and_low (x : Nat) (h : x ≤ 18446744073709551615) : Go.bits .and .u64 (x : Int) 65535 = ((x % 65536 : Nat) : Int) := by
  have e := u64_and' x 65535 (by omega) (by decide)
  rw [Nat.and_two_pow_sub_one_eq_mod x 16] at e
  exact e

set_option maxHeartbeats 400000 in
theorem sum_fold.calls (a0 : Int) (r : Int) (w : World) (h : sum_fold.f a0 = some r) :
    Calls Try.prog 121 #[.int .u64 a0] w fun e w' => e = .returned (.int .i64 r) ∧ Below w.heap.size w w' := by
  unfold sum_fold.f at h
  by_cases hc : 0 ≤ a0 ∧ a0 ≤ 18446744073709551615
  case neg => rw [if_neg hc] at h; exact absurd h (by simp)
  rw [if_pos hc] at h
  have H := Aside0.mk (Option.some.inj h)
  obtain ⟨h0, hk⟩ := hc
  clear h
  go_enter Try.func121, Try.ntmps121
  go_wp2
  go_loopg [0] a0.toNat (fun kq v0 w' => ∃ x : Nat, v0 = .int .u64 (x : Int) ∧ Aside0 (fold16 x = fold16 a0.toNat) ∧ Aside0 (x ≤ kq ∧ x ≤ 18446744073709551615) ∧ Aside0 (Below w.heap.size w w'))
  case atStart => exact ⟨a0.toNat, by rw [Int.toNat_of_nonneg h0], ⟨rfl⟩, ⟨by omega⟩, ⟨Below.refl _ _⟩⟩
  case round =>
    obtain ⟨x, rfl, HA, HK, HB⟩ := hrel
    have hx := HK.out.2
    clear hk h0
    by_cases hlt : 65535 < x
    · have e1 := and_low x hx
      go_wp2
      go_roundg (x % 65536 + x / 65536)
      case measure => have := HK.out; omega
      case rel => exact ⟨x % 65536 + x / 65536, by simp, ⟨by rw [fold16_step]; exact HA.out⟩, ⟨by omega⟩, HB⟩
    · have e2 : wrap64 (x : Int) = x := by unfold wrap64; omega
      have HX := Aside0.mk (fold16_id x (by omega))
      go_wp2
      go_ret
      exact ⟨by have h1 := H.out; have h2 := HA.out; have h3 := HX.out; rw [h2] at h3; rw [← h1, h3]; rfl, HB.out⟩

def SumInv (w wr : World) (bs : List UInt8) : Prop :=
  Below w.heap.size w wr ∧ wr.heap[w.heap.size]? = some (.cells #[.int .u64 (tot false bs : Nat)] 64 (0, 0)) ∧ wr.heap[w.heap.size + 1]? = some (.cells #[.bool (odd bs)] 4 (0, 0))
theorem SumInv.start (w : World) : SumInv w ((w.alloc (.cells #[.int .u64 0] 64)).alloc (.cells #[.bool false] 4)) [] := by
  refine ⟨((Below.refl _ _).alloc (Nat.le_refl _) _).alloc (by simp) _, ?_, ?_⟩
  · rw [Below.heap_alloc _ _ _ (by simp)]
    exact heap_alloc_new w _
  · have := heap_alloc_new (w.alloc (.cells #[.int .u64 0] 64)) (.cells #[.bool false] 4)
    rwa [World.size_alloc] at this
theorem SumInv.step {w wr : World} {bs : List UInt8} (h : SumInv w wr bs) (b : UInt8) :
    SumInv w ((wr.setCell ⟨w.heap.size, 0, none⟩ (.int .u64 (addW (tot false bs : Nat) (odd bs) (b.toNat : Int)))).setCell ⟨w.heap.size + 1, 0, none⟩ (.bool (!odd bs))) (bs ++ [b]) := by
  obtain ⟨h1, h2, h3⟩ := h
  refine ⟨(h1.setCell (by simp) _).setCell (by simp) _, ?_, ?_⟩
  · rw [Below.heap_setCell _ _ _ _ (by simp), one_setCell h2, tot_snoc, addW]
    cases odd bs <;> simp
  · rw [odd_snoc]
    exact one_setCell (by rw [Below.heap_setCell _ _ _ _ (by simp)]; exact h3)

theorem SumInv.facts {w wr : World} {bs : List UInt8} (h : SumInv w wr bs) :
    wr.cell? ⟨w.heap.size, 0, none⟩ = some (.int .u64 (tot false bs : Nat)) ∧ wr.frozen? ⟨w.heap.size, 0, none⟩ = false ∧ wr.cell? ⟨w.heap.size + 1, 0, none⟩ = some (.bool (odd bs)) ∧ wr.frozen? ⟨w.heap.size + 1, 0, none⟩ = false :=
  ⟨cell_of_one h.2.1, free_of_one h.2.1, cell_of_one h.2.2, free_of_one h.2.2⟩

set_option maxHeartbeats 400000 in
theorem sum_Sum.walk (A0 : Option Addr) (c0 : Nat) (l0 : List ByteArray) (w : World) (hr0 : Kd.C Kd.string w A0 l0.length l0) (hc0 : l0.length ≤ c0) (hs : (cat l0).length ≤ 1099511627776) :
    Calls Try.prog 37 #[.slice A0 l0.length c0] w fun e w' => e = .returned (.int .i64 (csum (cat l0) : Nat)) ∧ Below w.heap.size w w' := by
  have hmf : ∀ (fn : Fn) (first cap : Array Value) (w : World), (Instr.makeFunc fn first cap).run Try.prog w = .ok (.func fn first cap) w := fun _ _ _ _ => rfl
  have HR := Aside0.mk hr0
  have HS := Aside0.mk hs
  clear hr0 hs
  go_enter Try.func37, Try.ntmps37
  go_wp2
  go_loopg [12] l0.length (fun kq v12 wr => ∃ i : Nat, v12 = .int .i64 (i : Int) ∧ Aside0 (i + kq = l0.length) ∧ SumInv w wr (cat (l0.take i)))
  case atStart => exact ⟨0, rfl, ⟨by omega⟩, SumInv.start w⟩
  case round =>
    obtain ⟨i, rfl, HK, HI⟩ := hrel
    by_cases hlt : i < l0.length
    · obtain ⟨ad, rfl, hcell⟩ := Kd.at_string (Kd.C_below HR.out HI.1) (i : Int) (by omega) (by omega)
      rw [Int.toNat_natCast] at hcell
      have HP : Aside0 (rdOf ByteArray.empty l0 (i : Int) = l0[i]) := ⟨by simp [rdOf, List.getD_eq_getElem?_getD, List.getElem?_eq_getElem hlt]⟩
      generalize rdOf ByteArray.empty l0 (i : Int) = p at hcell HP
      have HL : Aside0 ((cat (l0.take i)).length + p.size ≤ 1099511627776) := ⟨by
        have h1 := HS.out
        have h2 : cat l0 = cat (l0.take i) ++ (bl p ++ cat (l0.drop (i + 1))) := by
          conv => lhs; rw [← List.take_append_drop i l0]
          rw [List.drop_eq_getElem_cons hlt, ← HP.out]
          simp [cat]
        rw [h2, List.length_append, List.length_append, bl_length] at h1
        omega⟩
      go_wp2
      obtain ⟨wo, rfl⟩ : ∃ wo : World, wo = wr := ⟨_, rfl⟩
      clear hcell
      go_loopg [18] p.size (fun kq v18 wr => ∃ j : Nat, v18 = .int .i64 (j : Int) ∧ Aside0 (j + kq = p.size) ∧ SumInv w wr (cat (l0.take i) ++ (bl p).take j))
      case atStart => exact ⟨0, rfl, ⟨by omega⟩, by rw [List.take_zero, List.append_nil]; exact HI⟩
      case round =>
        obtain ⟨j, rfl, HKj, HJ⟩ := hrel
        by_cases hj : j < p.size
        · obtain ⟨c1, c2, c3, c4⟩ := HJ.facts
          have htot := tot_le (cat (l0.take i) ++ (bl p).take j) false
          have hlen : (cat (l0.take i) ++ (bl p).take j).length ≤ 1099511627776 := by
            have := HL.out
            rw [List.length_append, List.length_take, bl_length]
            omega
          have HT : Aside0 ((bl p).take (j + 1) = (bl p).take j ++ [p[j]]) := ⟨by
            rw [List.take_succ_eq_append_getElem (by rw [bl_length]; exact hj)]
            rfl⟩
          have hbyte := p[j].toNat_lt
          have hw : wrap64 ((j : Int) + 1) = ((j + 1 : Nat) : Int) := by have := HL.out; unfold wrap64; omega
          go_wp2_with fail
          refine (sum_add.calls _ _ _ _ _ _ (by omega) (by omega) (by omega) (by omega) c3 c1 c4 c2 (by omega)).mono ?_
          rintro e w' ⟨rfl, rfl⟩
          have HN := Aside0.mk (HJ.step p[j])
          clear c1 c2 c3 c4
          go_wp2
          go_roundg (p.size - (j + 1))
          case measure => have := HKj.out; omega
          case rel => exact ⟨j + 1, by first | rfl | rw [hw], ⟨by have := HKj.out; omega⟩, by rw [HT.out, ← List.append_assoc]; exact HN.out⟩
        · have HT : Aside0 ((bl p).take j = bl p) := ⟨List.take_of_length_le (by rw [bl_length]; omega)⟩
          have HT2 : Aside0 (cat (l0.take (i + 1)) = cat (l0.take i) ++ bl p) := ⟨by
            rw [List.take_succ_eq_append_getElem hlt, ← HP.out]
            simp [cat]⟩
          have hlen : l0.length ≤ 9223372036854775807 := HR.out.2.1
          have hw : wrap64 ((i : Int) + 1) = ((i + 1 : Nat) : Int) := by unfold wrap64; omega
          go_wp2
          go_roundg (l0.length - (i + 1))
          case measure => have := HK.out; omega
          case rel => exact ⟨i + 1, by rfl, ⟨by omega⟩, by rw [HT2.out, ← HT.out]; exact HJ⟩
    · have HT : Aside0 (l0.take i = l0) := ⟨List.take_of_length_le (by omega)⟩
      rw [HT.out] at HI
      obtain ⟨c1, c2, c3, c4⟩ := HI.facts
      have htot := tot_le (cat l0) false
      have hlen := HS.out
      have hfold := fold16_le (tot false (cat l0))
      have hx := i64_xor_ones (fold16 (tot false (cat l0))) (by omega)
      go_wp2_with fail
      refine (sum_fold.calls _ ((fold16 (tot false (cat l0)) : Nat) : Int) _ (by unfold sum_fold.f; rw [if_pos (by omega), Int.toNat_natCast])).mono ?_
      rintro e w' ⟨rfl, hB⟩
      have HB := Aside0.mk hB
      have HI' := Aside0.mk HI
      clear hB HI c1 c2 c3 c4 htot hlen
      go_wp2
      go_ret
      exact ⟨rfl, HI'.out.1.trans (HB.out.mono HI'.out.1.size)⟩

def sum_Sum.f (l0 : List ByteArray) : Option Int := if (cat l0).length ≤ 1099511627776 then some (csum (cat l0) : Nat) else none
theorem sum_Sum.calls (A0 : Option Addr) (c0 : Nat) (l0 : List ByteArray) (r : Int) (w : World) (hr0 : Kd.C Kd.string w A0 l0.length l0) (hc0 : l0.length ≤ c0) (h : sum_Sum.f l0 = some r) :
    Calls Try.prog 37 #[.slice A0 l0.length c0] w fun e w' => e = .returned (.int .i64 r) ∧ Below w.heap.size w w' := by
  unfold sum_Sum.f at h
  by_cases hs : (cat l0).length ≤ 1099511627776
  · rw [if_pos hs] at h
    obtain rfl := Option.some.inj h
    exact sum_Sum.walk A0 c0 l0 w hr0 hc0 hs
  · rw [if_neg hs] at h
    exact absurd h (by simp)
end Go.Proofs.Ytejmipoolbodgaa.G
