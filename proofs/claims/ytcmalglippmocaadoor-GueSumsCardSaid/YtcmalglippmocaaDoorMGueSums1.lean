/- Texts of this session, joined: each is a section. -/
import Derived.Test.YtcmalglippmocaaDoorMGueb1
import Derived.Test.YtcmalglippmocaaDoorMGueb7
import Derived.Lib.ConvBytes
import Derived.Laws.IdiomStrings
import Derived.RegionTactic
import Derived.WalkLawsBesides
import Derived.Test.YtcmalglippmocaaDoorWWords
import Derived.Deep.Fields
import Derived.Deep.Strs
import Derived.WideShapes
import Derived.ChangeArms
import Derived.Test.YtcmalglippmocaaDoorTie
import Derived.ProofKit
import Derived.LaidMore
import Derived.OpenShut
set_option linter.unusedVariables false
set_option linter.unusedSimpArgs false
section
namespace Go.Proofs.YtcmalglippmocaaDoor.G
open Go.RowKit Go.Proofs.YtcmalglippmocaaDoorW.PrintWords Go.Proofs.YtcmalglippmocaaDoorW.PrintLast Go.Proofs.YtcmalglippmocaaDoorW.PrintMore
attribute [local go_sem] max2_int min2_int max_two min_two max_three min_three max_four min_four   -- for this text's walks alone
set_option linter.unusedVariables false
set_option linter.unusedSimpArgs false

theorem eqA40 (d : Nat) (w : World) (x0 y0 : Bool) (x1 y1 : Bool) (x2 y2 : Int) :
    (Op.equalIn (d + 2) 40 (.agg #[.bool x0, .bool x1, .int .u32 x2]) (.agg #[.bool y0, .bool y1, .int .u32 y2])).run Tryd.prog w = .ok (x0 == y0 && (x1 == y1 && (x2 == y2))) w := by
  refine eqA_of Tryd.underlying40 (by kernel_rfl) ?_
  refine eqf_cons (by rfl) (by go_simp; rfl) (by go_simp; rfl) (by go_simp) ?_
  refine eqf_cons (by rfl) (by go_simp; rfl) (by go_simp; rfl) (by go_simp) ?_
  exact eqf_last (by rfl) (by go_simp; rfl) (by go_simp; rfl) (by go_simp)
end Go.Proofs.YtcmalglippmocaaDoor.G
end

section
namespace Go.Proofs.YtcmalglippmocaaDoor.G
open Go.RowKit Go.Proofs.YtcmalglippmocaaDoorW.PrintWords Go.Proofs.YtcmalglippmocaaDoorW.PrintLast Go.Proofs.YtcmalglippmocaaDoorW.PrintMore
attribute [local go_sem] max2_int min2_int max_two min_two max_three min_three max_four min_four   -- for this text's walks alone
set_option linter.unusedVariables false
set_option linter.unusedSimpArgs false

theorem eqA55 (d : Nat) (w : World) (x0 y0 : Int) (x1 y1 : Bool) :
    (Op.equalIn (d + 2) 55 (.agg #[.int .i64 x0, .bool x1]) (.agg #[.int .i64 y0, .bool y1])).run Tryd.prog w = .ok (x0 == y0 && (x1 == y1)) w := by
  refine eqA_of Tryd.underlying55 (by kernel_rfl) ?_
  refine eqf_cons (by rfl) (by go_simp; rfl) (by go_simp; rfl) (by go_simp) ?_
  exact eqf_last (by rfl) (by go_simp; rfl) (by go_simp; rfl) (by go_simp)
end Go.Proofs.YtcmalglippmocaaDoor.G
end

section
/- Plain facts: a datagram with the sum, one bit of it turned, is none, but where that makes the sum 0; nor is it one between other addresses. -/
namespace Go.Proofs.YtcmalglippmocaaDoor.Pure
open Go.RowKit Go.Proofs.YtcmalglippmocaaDoorW.PrintWords Go.Proofs.YtcmalglippmocaaDoorW.PrintLast Go.Proofs.YtcmalglippmocaaDoor.G Go.Proofs.YtcmalglippmocaaDoor.Pal
set_option linter.unusedVariables false
theorem fin_bad {n sp q : Int} {P : ByteArray} : ∃ e, gue_fin sp q n P false = (0, false, ⟨#[]⟩, e) ∧ e ≠ 0 := by
  have : gueErr q false P ≠ 0 := by
    unfold gueErr
    by_cases hq : q ≠ 6080
    · rw [if_pos hq]; decide
    · rw [if_neg hq, if_pos rfl]; decide
  exact ⟨_, by unfold gue_fin; rw [if_neg this], this⟩
theorem sealed_zero {port : Int} {a b x : ByteArray} (he : (a.size + b.size) % 2 = 0) : csum (bl (psB a b 17 ((gueRaw port x (gueC true port a b x)).size : Int)) ++ bl (gueRaw port x (gueC true port a b x))) = 0 := by
  have h := right_sealed (s := true) (port := port) (a := a) (b := b) (x := x) he
  have h0 : gueC true port a b x ≠ 0 := fun h => absurd ((gueC_zero _ _ _ _ _).1 h) (by decide)
  unfold rightB at h
  rw [if_neg (by omega)] at h
  exact of_decide_eq_true h
theorem get_flip {port : Int} {a b x z : ByteArray} {i : Nat} (ha : a.size ≤ 300) (hb : b.size ≤ 300) (he : (a.size + b.size) % 2 = 0) (hx : x.size ≤ 65523)
    (hz : bl z = Pal.flip (bl (gueRaw port x (gueC true port a b x))) i) (hi : i / 8 < 12 + x.size) (hn : be (bl (z.extract 6 8)) ≠ 0) : ∃ e, gue_Get.f a b z = some (0, false, ⟨#[]⟩, e) ∧ e ≠ 0 := by
  have hys := raw_size port x (gueC true port a b x)
  have hzs : z.size = 12 + x.size := by rw [← bl_length, hz, flip_length, bl_length, hys]
  have h0 := sealed_zero (port := port) (a := a) (b := b) (x := x) he
  unfold gue_Get.f
  rw [get_is (by omega), Option.bind_some]
  by_cases hu : udpErr z = 0
  · rw [if_pos hu]
    dsimp +instances only
    rw [if_neg (by decide), right_some ha hb (by omega), Option.bind_some]
    have hr : rightB ((be (bl (z.extract 6 8)) : Nat) : Int) a b z = false := by
      unfold rightB
      rw [if_neg (by omega), hzs, ← hys, hz, ← flip_right]
      refine decide_eq_false ?_
      exact flip_wrong _ _ (by rw [List.length_append, bl_length, bl_length, hys]; omega) h0
    rw [hr]
    obtain ⟨e, h1, h2⟩ := fin_bad (n := ((be (bl (z.extract 6 8)) : Nat) : Int)) (sp := ((be (bl (z.extract 0 2)) : Nat) : Int)) (q := ((be (bl (z.extract 2 4)) : Nat) : Int)) (P := z.extract 8 z.size)
    exact ⟨e, congrArg some h1, h2⟩
  · rw [if_neg hu]
    dsimp +instances only
    rw [if_pos hu]
    exact ⟨_, rfl, hu⟩
theorem psB_flip {a b z : ByteArray} {p n : Int} {i : Nat} (hz : bl z = Pal.flip (bl b) i) (hi : i / 8 < b.size) : bl (psB a z p n) = Pal.flip (bl (psB a b p n)) (8 * a.size + i) := by
  unfold psB
  rw [bl_append, bl_append, bl_append, bl_append, hz, List.append_assoc, List.append_assoc, ← bl_length a, flip_right, flip_left _ _ _ (by rw [bl_length]; exact hi)]
theorem get_other13 {s : Bool} {port : Int} {a b x z : ByteArray} {i : Nat} (h : (verOf x).2.2.2 = 0) (hp : in16 port) (ha : a.size ≤ 300) (hb : b.size ≤ 300) (he : (a.size + b.size) % 2 = 0) (hx : x.size ≤ 65523)
    (hz : bl z = Pal.flip (bl b) i) (hi : i / 8 < b.size) : gue_Get.f a z (gueRaw port x (gueC s port a b x)) = some (if s then (0, false, ⟨#[]⟩, 5) else (port, false, x, 0)) := by
  have hzs : z.size = b.size := by rw [← bl_length, hz, flip_length, bl_length]
  rw [gue_get_raw h hx hp ha (by omega) (gueC_le _ _ _ _ _)]
  cases s with
  | false => rfl
  | true =>
    have h0 : gueC true port a b x ≠ 0 := fun h => absurd ((gueC_zero _ _ _ _ _).1 h) (by decide)
    have hc := sealed_zero (port := port) (a := a) (b := b) (x := x) he
    have hr : rightB ((gueC true port a b x : Nat) : Int) a z (gueRaw port x (gueC true port a b x)) = false := by
      unfold rightB
      rw [if_neg (by omega)]
      refine decide_eq_false ?_
      have hl : (8 * a.size + i) / 8 < (bl (psB a b 17 ((gueRaw port x (gueC true port a b x)).size : Int))).length := by rw [bl_length, psB_size]; omega
      rw [psB_flip hz hi, ← flip_left _ _ _ hl]
      exact flip_wrong _ _ (by rw [List.length_append]; omega) hc
    rw [hr]
    rfl
theorem be_two (s : ByteArray) (i : Nat) (h : i + 1 < s.size) : be (bl (s.extract i (i + 2))) = ((bl s)[i]'(by rw [bl_length]; omega)).toNat * 256 + ((bl s)[i + 1]'(by rw [bl_length]; omega)).toNat := by
  have hb := bl_length s
  have d0 := List.drop_eq_getElem_cons (l := bl s) (i := i) (by omega)
  have d1 := List.drop_eq_getElem_cons (l := bl s) (i := i + 1) (by omega)
  have e : bl (s.extract i (i + 2)) = [(bl s)[i]'(by omega), (bl s)[i + 1]'(by omega)] := by
    rw [cut_bl, List.drop_take, show i + 2 - i = 2 by omega, d0, d1]
    rfl
  have e2 : ∀ x y : UInt8, be [x, y] = x.toNat * 256 + y.toNat := fun x y => by
    rw [show [x, y] = [x] ++ [y] from rfl, be_snoc]
    simp [be]
  rw [e, e2]
end Go.Proofs.YtcmalglippmocaaDoor.Pure
end

section
/- By hand: the law GueSums: its walk, for the answer true alone. -/
namespace Go.Proofs.YtcmalglippmocaaDoor.G
open Go.RowKit Go.Proofs.YtcmalglippmocaaDoorW.PrintWords Go.Proofs.YtcmalglippmocaaDoorW.PrintLast Go.Proofs.YtcmalglippmocaaDoorW.PrintMore Go.Proofs.YtcmalglippmocaaDoor.Pal
set_option linter.unusedVariables false
set_option linter.unusedSimpArgs false
attribute [local go_sem high] eqA55
def palanquinlaw13_GueSums.f (a0 : Int) (a1 : ByteArray) (a2 : Int) : Option Bool := some true

set_option maxHeartbeats 8000000 in
set_option maxRecDepth 100000 in
theorem palanquinlaw13_GueSums.calls (a0 : Int) (a1 : ByteArray) (a2 : Int) (r : Bool) (w : World) (h : palanquinlaw13_GueSums.f a0 a1 a2 = some r) (hgV_ : GV w) (hgP_ : GP w) :
    Calls Tryd.prog 12 #[.int .i64 a0, .string a1, .int .i64 a2] w fun e w' => e = .returned (.bool r) ∧ Below w.heap.size w w' := by
  obtain rfl := Option.some.inj h
  have hu := Tryd.underlying55
  have HB := Aside0.mk (Below.refl w.heap.size w)
  have HV := Aside0.mk hgV_
  have HW := Aside0.mk hgP_
  clear hgV_ hgP_ h
  go_enter Tryd.func12, Tryd.ntmps12
  go_wp2_with fail
  refine (palanquinlaw13_awake.calls true _ Pure.awake13 (HV.out.below HB.out) (HW.out.below HB.out)).mono ?_
  rintro e w2 ⟨rfl, g1⟩
  replace HB := Aside0.mk (HB.out.trans (g1.mono HB.out.size))
  clear g1
  by_cases hp : 3000 < a1.size
  · have d1 : decide ((3000 : Int) < (a1.size : Int)) = true := decide_eq_true (by omega)
    have d2 : decide (3000 < a1.size) = true := decide_eq_true hp
    clear hp
    go_wp2
    go_ret
    exact ⟨rfl, HB.out⟩
  have d1 : decide ((3000 : Int) < (a1.size : Int)) = false := decide_eq_false (by omega)
  have d2 : decide (3000 < a1.size) = false := decide_eq_false hp
  have HP := Aside0.mk (show a1.size ≤ 3000 by omega)
  clear hp
  go_wp2_with fail
  clear d1 d2
  obtain ⟨A, hA⟩ : ∃ A : ByteArray, A = ⟨#[97, 98, 99, 100]⟩ := ⟨_, rfl⟩
  obtain ⟨B, hB⟩ : ∃ B : ByteArray, B = ⟨#[101, 102, 103, 104]⟩ := ⟨_, rfl⟩
  have HAB := Aside0.mk (show A.size = 4 ∧ B.size = 4 by rw [hA, hB]; exact ⟨rfl, rfl⟩)
  have HAd := Aside0.mk hA
  have HBd := Aside0.mk hB
  rw [← hA, ← hB]
  clear hA hB
  rcases Pure.gue_put_some a0 true (a := A) (b := B) (x := a1) (by have := HP.out; omega) (by have := HAB.out; omega) (by have := HAB.out; omega) with ⟨hv, hz, hi, hput⟩ | ⟨e0, he0, hput, _⟩
  case inr =>
    refine (gue_Put.calls a0 true A B a1 _ _ _ (hput true A B) (HV.out.below HB.out) (HW.out.below HB.out)).mono ?_
    rintro e w4 ⟨rfl, g1⟩
    replace HB := Aside0.mk (HB.out.trans (g1.mono HB.out.size))
    have k1 : (e0 != 0) = true := bne_iff_ne.mpr he0
    clear g1 he0 hput
    go_wp2
    go_ret
    exact ⟨rfl, HB.out⟩
  obtain ⟨x, hx⟩ : ∃ x, x = Pure.gueRaw a0 a1 (Pure.gueC true a0 A B a1) := ⟨_, rfl⟩
  have hxs : x.size = 12 + a1.size := by rw [hx]; exact Pure.raw_size _ _ _
  refine (gue_Put.calls a0 true A B a1 x 0 _ (by rw [hx]; exact hput) (HV.out.below HB.out) (HW.out.below HB.out)).mono ?_
  have HX := Aside0.mk hx
  have HI0 := Aside0.mk hz
  have HS := Aside0.mk hxs
  clear hput hx hxs hv hz hi
  rintro e w4 ⟨rfl, g1⟩
  replace HB := Aside0.mk (HB.out.trans (g1.mono HB.out.size))
  clear g1
  have z1 : decide ((0 : Int) < (x.size : Int)) = true := decide_eq_true (by have := HS.out; omega)
  have z2 : decide (0 < x.size) = true := decide_eq_true (by have := HS.out; omega)
  have b4 : wrap64 (8 * (x.size : Int)) = 8 * (x.size : Int) := by unfold wrap64; have := HS.out; have := HP.out; omega
  by_cases c1 : a2 < 0
  · have b1 : decide (a2 < 0) = true := decide_eq_true c1
    clear c1
    go_wp2
    go_ret
    exact ⟨rfl, HB.out⟩
  have b1 : decide (a2 < 0) = false := decide_eq_false c1
  obtain ⟨i, rfl⟩ := Int.eq_ofNat_of_zero_le (show 0 ≤ a2 by omega)
  clear c1
  by_cases c2 : 8 * x.size ≤ i
  · have b2 : decide (8 * (x.size : Int) ≤ (i : Int)) = true := decide_eq_true (by omega)
    have b3 : decide (8 * x.size ≤ i) = true := decide_eq_true c2
    clear c2
    go_wp2
    go_ret
    exact ⟨rfl, HB.out⟩
  have b2 : decide (8 * (x.size : Int) ≤ (i : Int)) = false := decide_eq_false (by omega)
  have b3 : decide (8 * x.size ≤ i) = false := decide_eq_false c2
  have HI := Aside0.mk (show i / 8 < x.size by omega)
  clear c2 z1 z2
  have hcv := fun (wx : World) => Lib.run_convert_string_bytes (P := Tryd.prog) wx 9 23 5 x Tryd.underlying9 Tryd.underlying23 Tryd.underlying5
  go_wp2
  clear hcv b1 b2 b3 b4
  have hcell : ∀ j, j < x.size → (Lib.bytesWorld w4 5 x).cell? ⟨w4.heap.size, j, none⟩ = some (.int .u8 ((bl x).getD j 0).toNat) := fun j hj => Lib.bytesWorld_cell _ _ _ _ hj
  have hfree : ∀ j, j < x.size → (Lib.bytesWorld w4 5 x).frozen? ⟨w4.heap.size, j, none⟩ = false := fun j hj => by
    have h := Lib.bytesWorld_at_new w4 5 x
    have hz : j < (Lib.bytesCells w4 5 x).size := by unfold Lib.bytesCells; rw [Array.size_append, Array.size_map]; exact Nat.lt_of_lt_of_le hj (Nat.le_add_right _ _)
    simp [World.frozen?, h]; omega
  have HWs := Aside0.mk (show w.heap.size ≤ w4.heap.size from HB.out.size)
  replace HB := Aside0.mk (HB.out.trans (show Below w.heap.size w4 (Lib.bytesWorld w4 5 x) from ⟨rfl, rfl, rfl, by rw [Lib.bytesWorld_size]; omega, fun k hk => Lib.bytesWorld_at_old _ _ _ _ (Nat.lt_of_lt_of_le hk HB.out.size)⟩))
  generalize grownCap w4 x.size 0 5 = cap
  generalize Lib.bytesWorld w4 5 x = w7 at hcell hfree HB ⊢
  generalize w4.heap.size = b at hcell hfree HWs ⊢
  have HJ := Aside0.mk (show i < 9223372036854775808 by have := HI.out; have := HS.out; have := HP.out; omega)
  obtain ⟨j, hj⟩ : ∃ j, j = i / 8 := ⟨_, rfl⟩
  have HI2 := Aside0.mk (show j < x.size by have := HI.out; omega)
  have q0 : wrap64 ((i : Int) / 8) = (j : Int) := by unfold wrap64; have := HJ.out; omega
  have q1 : IntKind.i64.wrap ((i : Int) / 8) = (j : Int) := by rw [IntKind.wrap_i64]; have := HJ.out; omega
  have q2 : ((j : Int) < (x.size : Int)) = True := eq_true (by have := HI2.out; omega)
  have q3 : (j < x.size) = True := eq_true HI2.out
  have f0 := hcell j HI2.out
  have f1 := hfree j HI2.out
  have HH := Aside0.mk hcell
  have HQ := Aside0.mk hj
  clear hcell hfree hj
  go_region
  have hv := flip_bits ((bl x).getD j 0) i
  rw [List.getD_eq_getElem?_getD] at hv
  rw [hv]
  have hfc := flip_cells (l := bl x) (fun k hk => HH.out k (by rwa [bl_length] at hk)) i (by rw [bl_length, ← HQ.out]; exact HI2.out)
  rw [← HQ.out, List.getD_eq_getElem?_getD] at hfc
  have hcb := run_convert_bytes_back (P := Tryd.prog) ((w7.setCell ⟨b, j, none⟩ (.int .u8 ((flipByte ((bl x)[j]?.getD 0) i).toNat : Int))).drew) 23 9 5 ⟨b, 0, none⟩ cap (flip (bl x) i) Tryd.underlying23 Tryd.underlying5 Tryd.underlying9 hfc
  rw [flip_length, bl_length] at hcb
  replace HB := Aside0.mk ((HB.out.setCell (p := ⟨b, j, none⟩) HWs.out (.int .u8 ((flipByte ((bl x)[j]?.getD 0) i).toNat : Int))).drew)
  have hfd : ∀ n (hn : n < (flip (bl x) i).length), ((w7.setCell ⟨b, j, none⟩ (.int .u8 ((flipByte ((bl x)[j]?.getD 0) i).toNat : Int))).drew).cell? ⟨b, n, none⟩ = some (.int .u8 ((flip (bl x) i)[n].toNat : Int)) := fun n hn => by
    have e : (⟨b, 0, none⟩ : Addr).add n = ⟨b, n, none⟩ := by cases n <;> simp [Addr.add]
    have := hfc n hn
    rw [e] at this
    exact this
  clear hfc hv q0 q1 q2 q3 f0 f1
  generalize (w7.setCell ⟨b, j, none⟩ (.int .u8 ((flipByte ((bl x)[j]?.getD 0) i).toNat : Int))).drew = w8 at HB hcb hfd ⊢
  obtain ⟨z, hz⟩ : ∃ z : ByteArray, z = ⟨(flip (bl x) i).toArray⟩ := ⟨_, rfl⟩
  rw [← hz] at hcb
  have hbz : bl z = flip (bl x) i := by rw [hz]; simp [bl]
  have hzs : z.size = 12 + a1.size := by rw [← bl_length, hbz, flip_length, bl_length, HS.out]
  have f6 : w8.cell? ⟨b, 6, none⟩ = some (.int .u8 (((bl z)[6]'(by rw [bl_length]; omega)).toNat : Int)) := by
    have := hfd 6 (by rw [flip_length, bl_length, HS.out]; omega)
    simp only [← hbz] at this
    exact this
  have f7 : w8.cell? ⟨b, 7, none⟩ = some (.int .u8 (((bl z)[7]'(by rw [bl_length]; omega)).toNat : Int)) := by
    have := hfd 7 (by rw [flip_length, bl_length, HS.out]; omega)
    simp only [← hbz] at this
    exact this
  have hbe : be (bl (z.extract 6 8)) = ((bl z)[6]'(by rw [bl_length]; omega)).toNat * 256 + ((bl z)[7]'(by rw [bl_length]; omega)).toNat := Pure.be_two z 6 (by omega)
  generalize ((bl z)[6]'(by rw [bl_length]; omega)).toNat = v6 at f6 hbe
  generalize ((bl z)[7]'(by rw [bl_length]; omega)).toNat = v7 at f7 hbe
  clear hfd
  have HZ := Aside0.mk (And.intro hbz hbe)
  have s6 : ((6 : Int) < (x.size : Int)) = True := eq_true (by have := HS.out; omega)
  have s7 : ((7 : Int) < (x.size : Int)) = True := eq_true (by have := HS.out; omega)
  have s8 : (6 < x.size) = True := eq_true (by have := HS.out; omega)
  have s9 : (7 < x.size) = True := eq_true (by have := HS.out; omega)
  clear hz hbz hbe hzs
  have tail : v6 * 256 + v7 ≠ 0 → ∃ e, gue_Get.f A B z = some (0, false, ⟨#[]⟩, e) ∧ e ≠ 0 := fun hn =>
    Pure.get_flip (port := a0) (a := A) (b := B) (x := a1) (by have := HAB.out; omega) (by have := HAB.out; omega) (by have := HAB.out; omega) HI0.out (by have := HZ.out.1; rw [HX.out] at this; exact this) (by have := HI.out; rw [HS.out] at this; exact this) (by rw [HZ.out.2]; exact hn)
  have HT := Aside0.mk tail
  clear tail
  by_cases c6 : v6 = 0
  · subst c6
    by_cases c7 : v7 = 0
    · subst c7
      clear hcb
      go_wp2
      go_ret
      exact ⟨rfl, HB.out⟩
    have e7 : ((v7 : Int) == 0) = false := beq_eq_false_iff_ne.mpr (by omega)
    obtain ⟨e, hg, he⟩ := HT.out (by omega)
    have HGt := Aside0.mk hg
    have k1 : (e != 0) = true := bne_iff_ne.mpr he
    clear c7 hg he
    go_wp2_with fail
    clear hcb f6 f7
    rw [← HAd.out, ← HBd.out]
    refine (gue_Get.calls A B z _ _ _ _ _ HGt.out (HV.out.below HB.out)).mono ?_
    rintro e w9 ⟨rfl, g1⟩
    replace HB := Aside0.mk (HB.out.trans (g1.mono HB.out.size))
    clear g1
    go_wp2
    go_ret
    exact ⟨rfl, HB.out.alloc HB.out.size _⟩
  · have e6 : ((v6 : Int) == 0) = false := beq_eq_false_iff_ne.mpr (by omega)
    obtain ⟨e, hg, he⟩ := HT.out (by omega)
    have HGt := Aside0.mk hg
    have k1 : (e != 0) = true := bne_iff_ne.mpr he
    clear c6 hg he
    go_wp2_with fail
    clear hcb f6 f7
    rw [← HAd.out, ← HBd.out]
    refine (gue_Get.calls A B z _ _ _ _ _ HGt.out (HV.out.below HB.out)).mono ?_
    rintro e w9 ⟨rfl, g1⟩
    replace HB := Aside0.mk (HB.out.trans (g1.mono HB.out.size))
    clear g1
    go_wp2
    go_ret
    exact ⟨rfl, HB.out.alloc HB.out.size _⟩
end Go.Proofs.YtcmalglippmocaaDoor.G
end

section
/- Plain law of GueSums: its walk is for the answer true alone. -/
namespace Go.Proofs.YtcmalglippmocaaDoor.Pure
open Go.RowKit Go.Proofs.YtcmalglippmocaaDoorW.PrintWords Go.Proofs.YtcmalglippmocaaDoorW.PrintLast Go.Proofs.YtcmalglippmocaaDoor.G Go.Proofs.YtcmalglippmocaaDoor.Pal
theorem GueSums (a0 : Int) (a1 : ByteArray) (a2 : Int) (_ : (Lit.int .i64 a0).wf = true) (_ : a1.size ≤ 140737488351232) (_ : (Lit.int .i64 a2).wf = true) : palanquinlaw13_GueSums.f a0 a1 a2 = some true := rfl
end Go.Proofs.YtcmalglippmocaaDoor.Pure
end

section
/- Plain facts for rows: arguments that are structs of one-cell fields, and slices of strings, laid open. No function of the program in it. -/
namespace Go.Proofs.YtcmalglippmocaaDoor.Pal
open Go.RowKit Go.ChangeShapes Go.WideShapes Go.Deep Go.Proofs.YtcmalglippmocaaDoorW.PrintWords
section
variable {H : Type} {enc : TypeId × Value → H} {P : Program} {w : World} {base : Nat} {spare : Nat → Bool} {held : Bool}
theorem open_fields {r : Reach} {b0 : Nat} {t : TypeId} {fs : Array Field} {v : Value} {d : DataW H} {p : List MemPlace} (hs : P.underlying t = some (.struct fs)) (hone : oneCellFields P fs = true)
    (hv : Value.okWide P w r b0 t v) (h : DataW.Trod enc P w base spare held t v d p) :
    ∃ (cs : Array Value), v = .agg cs ∧ cs.size = P.cellsOf t ∧ ∀ (j : Nat) (f : Field) (c : Value), fs[j]? = some f → cs[j]? = some c → ∃ (n : Nat) (y : DataW H × List MemPlace), DataW.trod enc P w base spare held n f.type [c] = some y := by
  obtain ⟨cs, rfl, hsz⟩ := okWide_struct hs hv
  obtain ⟨fuel, hf⟩ := h
  obtain ⟨xs, n, _, _, _, hlen, hF⟩ := DataW.trod_struct hs hf
  refine ⟨cs, rfl, hsz, fun j f c hj hc => ?_⟩
  obtain ⟨o0, k0⟩ := hone_of hone j f hj
  have hj' : j < xs.length := by rw [hlen]; exact (Array.getElem?_eq_some_iff.1 hj).1
  refine ⟨n, xs[j], ?_⟩
  have e := hF j f hj
  rw [o0, k0, List.getElem?_eq_getElem hj'] at e
  have hc' : (Value.cells (.agg cs)).toList.drop j = c :: (Value.cells (.agg cs)).toList.drop (j + 1) := by
    obtain ⟨hlt, rfl⟩ := Array.getElem?_eq_some_iff.1 hc
    show cs.toList.drop j = cs[j] :: cs.toList.drop (j + 1)
    rw [List.drop_eq_getElem_cons (by simpa using hlt), Array.getElem_toList]
  rw [hc'] at e
  simpa using e
theorem leaf_int {n : Nat} {t : TypeId} {k : IntKind} {c : Value} {y : DataW H × List MemPlace} (ht : P.underlying t = some (.int k)) (h : DataW.trod enc P w base spare held n t [c] = some y) : ∃ a, c = .int k a ∧ (Lit.int k a).wf = true := by
  obtain ⟨a, e1, _, h2⟩ := DataW.trod_int ht h
  exact ⟨a, by simpa using e1, h2⟩
theorem leaf_str {n : Nat} {t : TypeId} {c : Value} {y : DataW H × List MemPlace} (ht : P.underlying t = some .string) (h : DataW.trod enc P w base spare held n t [c] = some y) : ∃ a : ByteArray, c = .string a ∧ a.size ≤ maxLen := by
  obtain ⟨a, e1, _, h2⟩ := DataW.trod_string ht h
  exact ⟨a, by simpa using e1, h2⟩
theorem leaf_bool {n : Nat} {t : TypeId} {c : Value} {y : DataW H × List MemPlace} (ht : P.underlying t = some .bool) (h : DataW.trod enc P w base spare held n t [c] = some y) : ∃ a : Bool, c = .bool a := by
  obtain ⟨a, e1, _⟩ := DataW.trod_bool ht h
  exact ⟨a, by simpa using e1⟩
theorem mem_texts {H : Type} {P : Program} {e : TypeId} {s : ByteArray} : ∀ {l : List ByteArray}, s ∈ l → s.size ∈ DataW.weightsAll (H := H) P e (l.map fun s => .lit (.string s.data.toList))
  | x :: l, h => by
    rw [List.map_cons, DataW.weightsAll, List.mem_append]
    rcases List.mem_cons.1 h with rfl | h
    · left; simp [DataW.weights]
    · exact Or.inr (mem_texts h)
theorem open_texts {r : Reach} {b0 : Nat} {t e : TypeId} {v : Value} {d : DataW H} {p : List MemPlace} (ht : P.underlying t = some (.slice e)) (he : P.underlying e = some .string) (hc : P.cellsOf e = 1)
    (hv : Value.okWide P w r b0 t v) (h : DataW.Trod enc P w base spare held t v d p) :
    ∃ (A : Option Addr) (l : List ByteArray) (cap : Nat), v = .slice A l.length cap ∧ l.length ≤ cap ∧ Kd.C Kd.string w A l.length l ∧ (∀ s ∈ l, s.size ∈ DataW.weights P t d) := by
  obtain ⟨A, len, cap, rfl⟩ := okWide_slice ht hv
  obtain ⟨fuel, hf⟩ := h
  rcases open_strs ht he hc hf with ⟨hcs, _⟩ | ⟨a, ln, c, m, Sx, hcs, _, hl, hm, hmm, hdp, hcell⟩
  · simp [Value.cells] at hcs
    obtain ⟨rfl, rfl, rfl⟩ := hcs
    exact ⟨none, [], 0, rfl, Nat.le_refl _, ⟨rfl, by decide, fun h => absurd h (by decide)⟩, fun s hs => nomatch hs⟩
  · simp [Value.cells] at hcs
    obtain ⟨rfl, rfl, rfl⟩ := hcs
    have hlm : len ≤ m := by rw [hmm]; split <;> omega
    refine ⟨some a, (List.range len).map Sx, cap, by simp, by simpa using hl, ⟨by simp, by simp; exact Nat.le_trans hl (Nat.le_trans hm (by decide)), fun _ => ⟨a, rfl, fun j q hj => ?_⟩⟩, fun s hs => ?_⟩
    · rw [List.getElem?_map] at hj
      by_cases hjl : j < len
      · rw [List.getElem?_range hjl] at hj
        obtain rfl : Sx j = q := by simpa using hj
        refine ⟨[.string (Sx j)], rfl, rfl, fun i u hi => ?_⟩
        match i, hi with
        | 0, hi =>
          obtain rfl : Value.string (Sx j) = u := by simpa using hi
          simpa [Kd.string, Kd.scalar] using (hcell j (by omega)).1
        | i + 1, hi => simp at hi
      · rw [List.getElem?_eq_none (by simpa using hjl)] at hj
        simp at hj
    · have hd := congrArg Prod.fst hdp
      dsimp only at hd
      rw [hd, DataW.weights, ht]
      refine List.mem_cons_of_mem _ (List.mem_append.2 (Or.inl ?_))
      have e1 := mem_texts (H := H) (P := P) (e := e) hs
      rwa [List.map_map] at e1
end
end Go.Proofs.YtcmalglippmocaaDoor.Pal
end

section
/- What a row's condition on the program's package-level tables gives: their cells. -/
namespace Go.Proofs.YtcmalglippmocaaDoor.Pal
open Go.ChangeShapes Go.WideShapes Go.ChangeAt Go.WideElems Go.RowKit Go.Proofs.YtcmalglippmocaaDoor.G
set_option maxRecDepth 100000
section
variable {H : Type} {enc : TypeId × Value → H} {P : Program} {w : World} {base : Nat} {spare : Nat → Bool} {held : Bool}
/-- A row of two whole numbers. -/
theorem pair_cells {n : Nat} {t e : TypeId} {cs : List Value} {a b : Int} {p : List MemPlace} (ht : P.underlying t = some (.array 2 e)) (he : P.underlying e = some (.int .i64)) (hc : P.cellsOf e = 1) (hz : P.cellsOf t = 2)
    (h : DataW.trod enc P w base spare held n t cs = some (.agg [.lit (.int .i64 a), .lit (.int .i64 b)], p)) : cs = [.int .i64 a, .int .i64 b] := by
  obtain ⟨xs, m, _, hx, hl, hlen, hel⟩ := DataW.trod_array ht h
  have h0 := hel 0 (by decide)
  have h1 := hel 1 (by decide)
  rw [hc] at h0 h1
  rw [hz] at hl
  match cs, hl with
  | [c0, c1], _ =>
    match xs, hlen with
    | [y0, y1], _ =>
      obtain ⟨k0, e0, x0, _⟩ := DataW.trod_int he (x := y0) (by simpa using h0)
      obtain ⟨k1, e1, x1, _⟩ := DataW.trod_int he (x := y1) (by simpa using h1)
      simp only [Prod.mk.injEq, x0, x1, List.map_cons, List.map_nil, DataW.agg.injEq, List.cons.injEq, DataW.lit.injEq, Lit.int.injEq, true_and, and_true] at hx
      obtain ⟨⟨rfl, rfl⟩, _⟩ := hx
      simp at e0 e1
      rw [e0, e1]
end
section
variable {H : Type} {enc : TypeId × Value → H} {w : World} {base : Nat} {spare : Nat → Bool} {held : Bool}
theorem ver_fields : ∃ f0 f1 f2 : Field, Tryd.prog.underlying 107 = some (.struct #[f0, f1, f2]) ∧ (f0.offset = 0 ∧ f1.offset = 1 ∧ f2.offset = 2) ∧ (Tryd.prog.cellsOf f0.type = 1 ∧ Tryd.prog.cellsOf f1.type = 1 ∧ Tryd.prog.cellsOf f2.type = 1) ∧ Tryd.prog.underlying f0.type = some (.int .i64) ∧ Tryd.prog.underlying f1.type = some (.int .i64) ∧ Tryd.prog.underlying f2.type = some (.int .i64) :=
  ⟨_, _, _, Tryd.underlying107, ⟨rfl, rfl, rfl⟩, ⟨by kernel_rfl, by kernel_rfl, by kernel_rfl⟩, by kernel_rfl, by kernel_rfl, by kernel_rfl⟩
theorem ver_row {n : Nat} {cs : List Value} {a b c : Int} {p : List MemPlace} (h : DataW.trod enc Tryd.prog w base spare held n 107 cs = some (.agg [.lit (.int .i64 a), .lit (.int .i64 b), .lit (.int .i64 c)], p)) : cs = [.int .i64 a, .int .i64 b, .int .i64 c] := by
  obtain ⟨f0, f1, f2, hs, ⟨o0, o1, o2⟩, ⟨z0, z1, z2⟩, t0, t1, t2⟩ := ver_fields
  obtain ⟨xs, m, _, hx, hl, hlen, hF⟩ := DataW.trod_struct hs h
  rw [show Tryd.prog.cellsOf 107 = 3 by kernel_rfl] at hl
  have e0 := hF 0 f0 rfl
  have e1 := hF 1 f1 rfl
  have e2 := hF 2 f2 rfl
  rw [o0, z0] at e0
  rw [o1, z1] at e1
  rw [o2, z2] at e2
  match cs, hl with
  | [c0, c1, c2], _ =>
    match xs, hlen with
    | [y0, y1, y2], _ =>
      obtain ⟨k0, q0, x0, _⟩ := DataW.trod_int t0 (x := y0) (by simpa using e0)
      obtain ⟨k1, q1, x1, _⟩ := DataW.trod_int t1 (x := y1) (by simpa using e1)
      obtain ⟨k2, q2, x2, _⟩ := DataW.trod_int t2 (x := y2) (by simpa using e2)
      simp only [Prod.mk.injEq, x0, x1, x2, List.map_cons, List.map_nil, DataW.agg.injEq, List.cons.injEq, DataW.lit.injEq, Lit.int.injEq, true_and, and_true] at hx
      obtain ⟨⟨rfl, rfl, rfl⟩, _⟩ := hx
      simp at q0 q1 q2
      rw [q0, q1, q2]
theorem ver_rows {n : Nat} {cs : List Value} {p : List MemPlace} (h : DataW.trod enc Tryd.prog w base spare held n 110 cs = some (Rows.laid_palanquin_ipip_versions, p)) : cs = [.int .i64 4, .int .i64 4, .int .i64 2048, .int .i64 6, .int .i64 41, .int .i64 34525] := by
  obtain ⟨xs, m, _, hx, hl, hlen, hel⟩ := DataW.trod_array Tryd.underlying110 h
  have h0 := hel 0 (by decide)
  have h1 := hel 1 (by decide)
  rw [show Tryd.prog.cellsOf 107 = 3 by kernel_rfl] at h0 h1
  rw [show Tryd.prog.cellsOf 110 = 6 by kernel_rfl] at hl
  match cs, hl with
  | [c0, c1, c2, c3, c4, c5], _ =>
    match xs, hlen with
    | [(d0, p0), (d1, p1)], _ =>
      simp only [Rows.laid_palanquin_ipip_versions, Prod.mk.injEq, List.map_cons, List.map_nil, DataW.agg.injEq, List.cons.injEq, and_true] at hx
      obtain ⟨⟨rfl, rfl⟩, _⟩ := hx
      have e0 := ver_row (p := p0) (by simpa using h0)
      have e1 := ver_row (p := p1) (by simpa using h1)
      simp at e0 e1
      obtain ⟨rfl, rfl, rfl⟩ := e0
      obtain ⟨rfl, rfl, rfl⟩ := e1
      rfl
end
theorem tab_of {W : World} {n : String} {g : Nat} {cs : Array Value} {l : List Int} (hg : Tryd.prog.globalNamed n = some g) (hv : W.var? Tryd.prog n = some cs) (hcs : cs.toList = l.map (Value.int .i64)) : TabAt W g l := fun j x hj => by
  rw [World.var?_cell hg hv j, ← Array.getElem?_toList, hcs, List.getElem?_map, hj]
  rfl
theorem gv_of {W : World} {g t : Nat} {cs : Array Value} {f : Nat} {p : List MemPlace} (hg : Tryd.prog.globalNamed "palanquin/ipip.versions" = some g) (ht : (Tryd.prog.globals[g]?).map (·.type) = some t) (hv : W.var? Tryd.prog "palanquin/ipip.versions" = some cs)
    (hd : DataW.trod (fun _ => ()) Tryd.prog W 0 (fun _ => true) false f t cs.toList = some (Rows.laid_palanquin_ipip_versions, p)) : GV W := by
  obtain rfl := Option.some.inj ((show Tryd.prog.globalNamed "palanquin/ipip.versions" = some 0 by kernel_rfl).symm.trans hg)
  obtain rfl := Option.some.inj ((show (Tryd.prog.globals[0]?).map (·.type) = some 110 by kernel_rfl).symm.trans ht)
  exact tab_of hg hv (ver_rows hd)
theorem laid_gv {W : World} (h : laidMetH Tryd.prog [("palanquin/ipip.versions", Rows.laid_palanquin_ipip_versions)] W) : GV W := by
  rw [MakeChecks.laidMetH_plain _ _ _ (by kernel_rfl)] at h
  obtain ⟨ps, ⟨g0, t0, cs0, f0, p0, q0, hg0, ht0, hv0, hd0, _, _⟩, _, _⟩ := h
  exact gv_of hg0 ht0 hv0 hd0
theorem places_rows {H : Type} {enc : TypeId × Value → H} {w : World} {base : Nat} {spare : Nat → Bool} {held : Bool} {n : Nat} {cs : List Value} {p : List MemPlace} (h : DataW.trod enc Tryd.prog w base spare held n 135 cs = some (Rows.laid_palanquin_flow_places, p)) : cs = [.int .i64 6, .int .i64 16, .int .i64 17, .int .i64 6] := by
  obtain ⟨xs, m, _, hx, hl, hlen, hel⟩ := DataW.trod_array Tryd.underlying135 h
  have h0 := hel 0 (by decide)
  have h1 := hel 1 (by decide)
  rw [show Tryd.prog.cellsOf 134 = 2 by kernel_rfl] at h0 h1
  rw [show Tryd.prog.cellsOf 135 = 4 by kernel_rfl] at hl
  match cs, hl with
  | [c0, c1, c2, c3], _ =>
    match xs, hlen with
    | [(d0, p0), (d1, p1)], _ =>
      simp only [Rows.laid_palanquin_flow_places, Prod.mk.injEq, List.map_cons, List.map_nil, DataW.agg.injEq, List.cons.injEq, and_true] at hx
      obtain ⟨⟨rfl, rfl⟩, _⟩ := hx
      have e0 := pair_cells (p := p0) Tryd.underlying134 (by kernel_rfl) (by kernel_rfl) (by kernel_rfl) (by simpa using h0)
      have e1 := pair_cells (p := p1) Tryd.underlying134 (by kernel_rfl) (by kernel_rfl) (by kernel_rfl) (by simpa using h1)
      simp at e0 e1
      obtain ⟨rfl, rfl⟩ := e0
      obtain ⟨rfl, rfl⟩ := e1
      rfl
theorem laid_gp {W : World} (h : laidMetH Tryd.prog [("palanquin/ipip.versions", Rows.laid_palanquin_ipip_versions), ("palanquin/flow.places", Rows.laid_palanquin_flow_places), ("palanquin/flow.least", Rows.laid_palanquin_flow_least)] W) : GV W ∧ GP W := by
  rw [MakeChecks.laidMetH_plain _ _ _ (by kernel_rfl)] at h
  obtain ⟨ps, ⟨g0, t0, cs0, f0, p0, q0, hg0, ht0, hv0, hd0, ⟨g1, t1, cs1, f1, p1, q1, hg1, ht1, hv1, hd1, ⟨g2, t2, cs2, f2, p2, q2, hg2, ht2, hv2, hd2, _, _⟩, _⟩, _⟩, _, _⟩ := h
  refine ⟨gv_of hg0 ht0 hv0 hd0, ?_, ?_⟩
  · obtain rfl := Option.some.inj ((show Tryd.prog.globalNamed "palanquin/flow.places" = some 1 by kernel_rfl).symm.trans hg1)
    obtain rfl := Option.some.inj ((show (Tryd.prog.globals[1]?).map (·.type) = some 135 by kernel_rfl).symm.trans ht1)
    exact tab_of hg1 hv1 (places_rows hd1)
  · obtain rfl := Option.some.inj ((show Tryd.prog.globalNamed "palanquin/flow.least" = some 2 by kernel_rfl).symm.trans hg2)
    obtain rfl := Option.some.inj ((show (Tryd.prog.globals[2]?).map (·.type) = some 134 by kernel_rfl).symm.trans ht2)
    exact tab_of hg2 hv2 (pair_cells Tryd.underlying134 (by kernel_rfl) (by kernel_rfl) (by kernel_rfl) hd2)
end Go.Proofs.YtcmalglippmocaaDoor.Pal
end
