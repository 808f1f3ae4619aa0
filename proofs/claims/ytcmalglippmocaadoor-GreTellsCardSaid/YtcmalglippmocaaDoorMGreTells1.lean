/- Texts of this session, joined: each is a section. -/
import Derived.Test.YtcmalglippmocaaDoorMGrbg1
import Derived.Test.YtcmalglippmocaaDoorMGrbg3
set_option linter.unusedVariables false
set_option linter.unusedSimpArgs false
section
namespace Go.Proofs.YtcmalglippmocaaDoor.G
open Go.RowKit Go.Proofs.YtcmalglippmocaaDoorW.PrintWords Go.Proofs.YtcmalglippmocaaDoorW.PrintLast Go.Proofs.YtcmalglippmocaaDoorW.PrintMore
attribute [local go_sem] max2_int min2_int max_two min_two max_three min_three max_four min_four   -- for this text's walks alone
set_option linter.unusedVariables false
set_option linter.unusedSimpArgs false

theorem eqA40 (d : Nat) (w : World) (x0 y0 : Bool) (x1 y1 : Bool) (x2 y2 : Int) :
    (Op.equalIn (d + 2) 40 (.agg #[.bool x0, .bool x1, .int .u32 x2]) (.agg #[.bool y0, .bool y1, .int .u32 y2])).run Tryd.prog w = .ok (x0 == y0 && (x1 == y1 && (x2 == y2))) w := by
  refine eqA_of Tryd.underlying40 (by kernel_rfl) ?_
  refine eqf_cons (by rfl) (by go_simp; rfl) (by go_simp; rfl) (by go_simp) ?_
  refine eqf_cons (by rfl) (by go_simp; rfl) (by go_simp; rfl) (by go_simp) ?_
  exact eqf_last (by rfl) (by go_simp; rfl) (by go_simp; rfl) (by go_simp)
end Go.Proofs.YtcmalglippmocaaDoor.G
end

section
namespace Go.Proofs.YtcmalglippmocaaDoor.G
open Go.RowKit Go.Proofs.YtcmalglippmocaaDoorW.PrintWords Go.Proofs.YtcmalglippmocaaDoorW.PrintLast Go.Proofs.YtcmalglippmocaaDoorW.PrintMore
attribute [local go_sem] max2_int min2_int max_two min_two max_three min_three max_four min_four   -- for this text's walks alone
set_option linter.unusedVariables false
set_option linter.unusedSimpArgs false

/-! ### palanquinref01_Bytes: function 61 -/
def palanquinref01_Bytes.l0 : Nat → Int → Int → ByteArray → Int → Option (ByteArray)
  | 0, _, _, _, _ => none
  | k + 1, x0, x1, x5, x6 => if x6 < x1 then ((some (([(Int.tmod x0 256) % 256] : List Int) : List Int)).bind fun y172 => (if (strOfNums y172).size + x5.size ≤ 9223372036854775807 then (palanquinref01_Bytes.l0 k (IntKind.u64.wrap (Int.tdiv x0 256)) x1 ((strOfNums y172) ++ x5) (wrap64 (x6 + 1))) else (none))) else (some x5)
def palanquinref01_Bytes.f (k : Nat) (a0 : Int) (a1 : Int) : Option (ByteArray) := palanquinref01_Bytes.l0 k a0 a1 (⟨#[]⟩ : ByteArray) 0
theorem palanquinref01_Bytes.mono_l : ∀ k, (∀ y0 y1 y2 y3, LeO (palanquinref01_Bytes.l0 k y0 y1 y2 y3) (palanquinref01_Bytes.l0 (k + 1) y0 y1 y2 y3))
  | 0 => fun _ _ _ _ r h => by simp [palanquinref01_Bytes.l0] at h
  | k + 1 => by
    have ih0 := palanquinref01_Bytes.mono_l k
    · intro y0 y1 y2 y3
      unfold palanquinref01_Bytes.l0
      repeat' first
      | (with_reducible exact ih0 _ _ _ _)
      | (with_reducible exact LeO.refl _)
      | (with_reducible exact LeO.none _)
      | (with_reducible refine LeO.ite ?_ ?_)
      | (with_reducible refine LeO.bind ?_ (fun _ => ?_))
      | exact ih0 _ _ _ _
      | exact LeO.none _
      | refine LeO.ite ?_ ?_
      | refine LeO.bind ?_ (fun _ => ?_)
theorem palanquinref01_Bytes.mono : ∀ a0 a1 k, LeO (palanquinref01_Bytes.f k a0 a1) (palanquinref01_Bytes.f (k + 1) a0 a1) := by
  intro a0 a1 k
  have ih0 := palanquinref01_Bytes.mono_l k
  unfold palanquinref01_Bytes.f
  repeat' first
      | (with_reducible exact ih0 _ _ _ _)
      | (with_reducible exact LeO.refl _)
      | (with_reducible exact LeO.none _)
      | (with_reducible refine LeO.ite ?_ ?_)
      | (with_reducible refine LeO.bind ?_ (fun _ => ?_))
      | exact ih0 _ _ _ _
      | exact LeO.none _
      | refine LeO.ite ?_ ?_
      | refine LeO.bind ?_ (fun _ => ?_)
set_option maxHeartbeats 8000000 in
set_option maxRecDepth 100000 in
theorem palanquinref01_Bytes.calls (k : Nat) (a0 : Int) (a1 : Int) (r : ByteArray) (w : World) (h : palanquinref01_Bytes.f k a0 a1 = some r) :
    Calls Tryd.prog 61 #[.int .u64 a0, .int .i64 a1] w fun e w' => e = .returned (.string r) ∧ Below w.heap.size w w' := by
  have HB := Aside0.mk (Below.refl w.heap.size w)
  have H : (palanquinref01_Bytes.l0 k a0 a1 (⟨#[]⟩ : ByteArray) 0) = some r := h
  clear h
  have H' := Aside0.mk H
  clear H
  go_enter Tryd.func61, Tryd.ntmps61
  go_wp2
  go_loopg [0, 5, 6] k (fun kq v0 v5 v6 w' => ∃ (x0_1 : Int) (x5_1 : ByteArray) (x6_1 : Int), v0 = .int .u64 x0_1 ∧ v5 = .string x5_1 ∧ v6 = .int .i64 x6_1 ∧ Aside0 (palanquinref01_Bytes.l0 kq x0_1 a1 x5_1 x6_1 = some r) ∧ Aside0 (kq ≤ k) ∧ Aside0 (Below w.heap.size w w'))
  case atStart => exact ⟨(a0), ((⟨#[]⟩ : ByteArray)), (0), (by first | rfl | (simp; done) | (simp [*]; done)), (by first | rfl | (simp; done) | (simp [*]; done)), (by first | rfl | (simp; done) | (simp [*]; done)), H', ⟨Nat.le_refl _⟩, ⟨by repeat (first | (with_reducible first | exact HB.out | apply below_alloc | apply pw_below_drewN | apply below_drew1) | exact HB.out)⟩⟩
  case round =>
    clear H'
    try clear p2
    obtain ⟨x0_1, x5_1, x6_1, rfl, rfl, rfl, HA, HK1, HB⟩ := hrel
    cases gk with
    | zero => exact absurd HA.out (by simp [palanquinref01_Bytes.l0])
    | succ k1 =>
      have H := HA.out
      clear HA
      simp only [palanquinref01_Bytes.l0] at H
      by_cases c3 : x6_1 < a1
      · rw [if_pos c3] at H
        have c3b0 : decide (x6_1 < a1) = true := decide_eq_true c3
        clear c3
        obtain ⟨y172, hy172⟩ : ∃ y_ : List Int, y_ = (([(Int.tmod x0_1 256) % 256] : List Int)) := ⟨_, rfl⟩
        replace H : (if (strOfNums y172).size + x5_1.size ≤ 9223372036854775807 then (palanquinref01_Bytes.l0 k1 (IntKind.u64.wrap (Int.tdiv x0_1 256)) a1 ((strOfNums y172) ++ x5_1) (wrap64 (x6_1 + 1))) else (none)) = some r := by first | (rw [hy172]; with_reducible exact H) | (have H2_ := (Option.bind_some _ _).symm.trans H; rw [hy172]; with_reducible exact H2_) | (have H2_ := (Option.bind_some _ _).symm.trans H; with_reducible exact H2_) | with_reducible exact H | (rw [hy172]; exact H) | exact H
        have Ny172 := Aside0.mk hy172
        clear hy172
        by_cases c4 : (strOfNums y172).size + x5_1.size ≤ 9223372036854775807
        · rw [if_pos c4] at H
          have c4b0 := eq_true c4
          have c4b1 : decide ((strOfNums y172).size + x5_1.size ≤ 9223372036854775807) = true := decide_eq_true c4
          try have c4b2 : (9223372036854775807 < (strOfNums y172).size + x5_1.size) = False := eq_false (Nat.not_lt.2 c4)
          have H' := Aside0.mk H
          clear H
          go_wp2_with (first | ((with_reducible refine gate_dst (N := 15) rfl ?_); refine Kd.R_lit (Kd.int .u8) _ 5 ?hg (N := 15) ?hd (xs := ([(Int.tmod x0_1 256) % 256] : List Int)) (inner := [.int .u8 ((Int.tmod x0_1 256) % 256)]) (ok := fun _ => True) (okp := fun _ => True) ?hr ?hp (fun _ hk => hk) trivial (Below.refl _ _) (Nat.le_refl _) (by simp) ?_; (case hd => rfl); (case hg => rfl); (case hr => first | (go_simp; done) | (go_simp; rfl)); (case hp => exact (Reps.one (show Kd.M (Kd.int .u8) _ _ _ ((Int.tmod x0_1 256) % 256) [.int .u8 ((Int.tmod x0_1 256) % 256)] from rfl) (Reps.none _ _))); intro v173 w5 ho6 hb hg_ hnew_; clear hg_ hnew_; (first | rw [← Ny172.out] at ho6 | (simp only [Int.reduceToNat] at ho6; rw [← Ny172.out] at ho6)); have n0_ := Aside0.mk (Kd.R_lower ho6 (below_size (by repeat (first | (with_reducible first | exact HB.out | apply below_alloc | apply pw_below_drewN | apply below_drew1) | exact HB.out)))); have n1_ := Aside0.mk (below_step (by repeat (first | (with_reducible first | exact HB.out | apply below_alloc | apply pw_below_drewN | apply below_drew1) | exact HB.out)) hb); clear HB; have HO174 := n0_; have HB := n1_; clear n0_ n1_; clear hb ho6; have hcv7 := own_string (P := Tryd.prog) Tryd.underlying23 Tryd.underlying5 Tryd.underlying9 (Kd.own_of_R HO174.out)))
          go_roundg k1
          case measure => have := HK1.out; omega
          case rel => exact ⟨(IntKind.u64.wrap (Int.tdiv x0_1 256)), ((strOfNums y172) ++ x5_1), (wrap64 (x6_1 + 1)), (by first | rfl | (simp; done) | (simp [*]; done)), (by first | rfl | (simp; done) | (simp [*]; done)), (by first | rfl | (simp; done) | (simp [*]; done)), H', ⟨by have := HK1.out; omega⟩, ⟨by repeat (first | (with_reducible first | exact HB.out | apply below_alloc | apply pw_below_drewN | apply below_drew1) | exact HB.out)⟩⟩
        · rw [if_neg c4] at H
          exact absurd H (by simp)
      · rw [if_neg c3] at H
        have c3b0 : decide (x6_1 < a1) = false := decide_eq_false c3
        clear c3
        obtain rfl := Option.some.inj H
        go_wp2
        go_ret
        exact ⟨by first | rfl | (simp [errW_none, errW_some] <;> rfl) | (simp [*, errW_none, errW_some] <;> rfl), by repeat (first | (with_reducible first | exact HB.out | apply below_alloc | apply pw_below_drewN | apply below_drew1) | exact HB.out)⟩

/-! ### palanquinref01_Value: function 72 -/
def palanquinref01_Value.l0 : Nat → ByteArray → Int → Int → Option (Int)
  | 0, _, _, _ => none
  | k + 1, x0, x3, x4 => if x4 < (x0.size : Int) then (if 0 ≤ x4 then (palanquinref01_Value.l0 k x0 (IntKind.u64.wrap ((IntKind.u64.wrap (x3 * 256)) + (IntKind.u64.wrap (bt x0 x4)))) (wrap64 (x4 + 1))) else (none)) else (some x3)
def palanquinref01_Value.f (k : Nat) (a0 : ByteArray) : Option (Int) := palanquinref01_Value.l0 k a0 0 0
theorem palanquinref01_Value.mono_l : ∀ k, (∀ y0 y1 y2, LeO (palanquinref01_Value.l0 k y0 y1 y2) (palanquinref01_Value.l0 (k + 1) y0 y1 y2))
  | 0 => fun _ _ _ r h => by simp [palanquinref01_Value.l0] at h
  | k + 1 => by
    have ih0 := palanquinref01_Value.mono_l k
    · intro y0 y1 y2
      unfold palanquinref01_Value.l0
      repeat' first
      | (with_reducible exact ih0 _ _ _)
      | (with_reducible exact LeO.refl _)
      | (with_reducible exact LeO.none _)
      | (with_reducible refine LeO.ite ?_ ?_)
      | (with_reducible refine LeO.bind ?_ (fun _ => ?_))
      | exact ih0 _ _ _
      | exact LeO.none _
      | refine LeO.ite ?_ ?_
      | refine LeO.bind ?_ (fun _ => ?_)
theorem palanquinref01_Value.mono : ∀ a0 k, LeO (palanquinref01_Value.f k a0) (palanquinref01_Value.f (k + 1) a0) := by
  intro a0 k
  have ih0 := palanquinref01_Value.mono_l k
  unfold palanquinref01_Value.f
  repeat' first
      | (with_reducible exact ih0 _ _ _)
      | (with_reducible exact LeO.refl _)
      | (with_reducible exact LeO.none _)
      | (with_reducible refine LeO.ite ?_ ?_)
      | (with_reducible refine LeO.bind ?_ (fun _ => ?_))
      | exact ih0 _ _ _
      | exact LeO.none _
      | refine LeO.ite ?_ ?_
      | refine LeO.bind ?_ (fun _ => ?_)
set_option maxHeartbeats 8000000 in
set_option maxRecDepth 100000 in
theorem palanquinref01_Value.calls (k : Nat) (a0 : ByteArray) (r : Int) (w : World) (h : palanquinref01_Value.f k a0 = some r) :
    Calls Tryd.prog 72 #[.string a0] w fun e w' => e = .returned (.int .u64 r) ∧ Drawn0 w w' := by
  have H : (palanquinref01_Value.l0 k a0 0 0) = some r := h
  clear h
  have H' := Aside0.mk H
  clear H
  go_enter Tryd.func72, Tryd.ntmps72
  go_wp2
  go_loopg [3, 4] k (fun kq v3 v4 w' => ∃ (x3_1 : Int) (x4_1 : Int), v3 = .int .u64 x3_1 ∧ v4 = .int .i64 x4_1 ∧ Aside0 (palanquinref01_Value.l0 kq a0 x3_1 x4_1 = some r) ∧ Aside0 (kq ≤ k) ∧ Drawn0 w w')
  case atStart => exact ⟨(0), (0), (by first | rfl | (simp; done) | (simp [*]; done)), (by first | rfl | (simp; done) | (simp [*]; done)), H', ⟨Nat.le_refl _⟩, by repeat (first | exact Drawn0.refl _ | apply Drawn0.step)⟩
  case round =>
    clear H'
    obtain ⟨x3_1, x4_1, rfl, rfl, HA, HK1, ⟨m1, rfl⟩⟩ := hrel
    cases gk with
    | zero => exact absurd HA.out (by simp [palanquinref01_Value.l0])
    | succ k1 =>
      have H := HA.out
      clear HA
      simp only [palanquinref01_Value.l0] at H
      by_cases c2 : x4_1 < (a0.size : Int)
      · rw [if_pos c2] at H
        have c2b0 : decide (x4_1 < (a0.size : Int)) = true := decide_eq_true c2
        clear c2
        by_cases c3 : 0 ≤ x4_1
        · rw [if_pos c3] at H
          have c3b0 : decide (0 ≤ x4_1) = true := decide_eq_true c3
          clear c3
          have H' := Aside0.mk H
          clear H
          have p4 : 0 ≤ (x4_1 : Int) := of_decide_eq_true (by first | (with_reducible assumption) | assumption)
          have q4 : x4_1 < (a0.size : Int) := of_decide_eq_true (by first | (with_reducible assumption) | assumption)
          have hx4 := bt_at a0 x4_1
          replace p4 := eq_true p4
          replace q4 := eq_true q4
          go_wp2
          go_roundg k1
          case measure => have := HK1.out; omega
          case rel => exact ⟨(IntKind.u64.wrap ((IntKind.u64.wrap (x3_1 * 256)) + (IntKind.u64.wrap (bt a0 x4_1)))), (wrap64 (x4_1 + 1)), (by first | rfl | (simp; done) | (simp [*]; done)), (by first | rfl | (simp; done) | (simp [*]; done)), H', ⟨by have := HK1.out; omega⟩, by repeat (first | exact Drawn0.refl _ | apply Drawn0.step)⟩
        · rw [if_neg c3] at H
          exact absurd H (by simp)
      · rw [if_neg c2] at H
        have c2b0 : decide (x4_1 < (a0.size : Int)) = false := decide_eq_false c2
        clear c2
        obtain rfl := Option.some.inj H
        go_wp2
        go_ret
        exact ⟨by first | rfl | (simp; done) | (simp [*]; done), by repeat (first | exact Drawn0.refl _ | apply Drawn0.step)⟩

end Go.Proofs.YtcmalglippmocaaDoor.G
end

section
namespace Go.Proofs.YtcmalglippmocaaDoor.G
open Go.RowKit Go.Proofs.YtcmalglippmocaaDoorW.PrintWords Go.Proofs.YtcmalglippmocaaDoorW.PrintLast Go.Proofs.YtcmalglippmocaaDoorW.PrintMore
attribute [local go_sem] max2_int min2_int max_two min_two max_three min_three max_four min_four   -- for this text's walks alone
set_option linter.unusedVariables false
set_option linter.unusedSimpArgs false

/-! ### palanquinref02_down: function 103 -/
def palanquinref02_down.l0 : Nat → Int → Option (Int)
  | 0, _ => none
  | k + 1, x0 => if x0 ≥ 65536 then (palanquinref02_down.l0 k (wrap64 ((Int.tmod x0 65536) + (wrap64 (Int.tdiv x0 65536))))) else (some x0)
def palanquinref02_down.f (k : Nat) (a0 : Int) : Option (Int) := palanquinref02_down.l0 k a0
theorem palanquinref02_down.mono_l : ∀ k, (∀ y0, LeO (palanquinref02_down.l0 k y0) (palanquinref02_down.l0 (k + 1) y0))
  | 0 => fun _ r h => by simp [palanquinref02_down.l0] at h
  | k + 1 => by
    have ih0 := palanquinref02_down.mono_l k
    · intro y0
      unfold palanquinref02_down.l0
      repeat' first
      | (with_reducible exact ih0 _)
      | (with_reducible exact LeO.refl _)
      | (with_reducible exact LeO.none _)
      | (with_reducible refine LeO.ite ?_ ?_)
      | (with_reducible refine LeO.bind ?_ (fun _ => ?_))
      | exact ih0 _
      | exact LeO.none _
      | refine LeO.ite ?_ ?_
      | refine LeO.bind ?_ (fun _ => ?_)
theorem palanquinref02_down.mono : ∀ a0 k, LeO (palanquinref02_down.f k a0) (palanquinref02_down.f (k + 1) a0) := by
  intro a0 k
  have ih0 := palanquinref02_down.mono_l k
  unfold palanquinref02_down.f
  repeat' first
      | (with_reducible exact ih0 _)
      | (with_reducible exact LeO.refl _)
      | (with_reducible exact LeO.none _)
      | (with_reducible refine LeO.ite ?_ ?_)
      | (with_reducible refine LeO.bind ?_ (fun _ => ?_))
      | exact ih0 _
      | exact LeO.none _
      | refine LeO.ite ?_ ?_
      | refine LeO.bind ?_ (fun _ => ?_)
set_option maxHeartbeats 8000000 in
set_option maxRecDepth 100000 in
theorem palanquinref02_down.calls (k : Nat) (a0 : Int) (r : Int) (w : World) (h : palanquinref02_down.f k a0 = some r) :
    Calls Tryd.prog 103 #[.int .i64 a0] w fun e w' => e = .returned (.int .i64 r) ∧ Drawn0 w w' := by
  have H : (palanquinref02_down.l0 k a0) = some r := h
  clear h
  have H' := Aside0.mk H
  clear H
  go_enter Tryd.func103, Tryd.ntmps103
  go_wp2
  go_loopg [0] k (fun kq v0 w' => ∃ (x0_1 : Int), v0 = .int .i64 x0_1 ∧ Aside0 (palanquinref02_down.l0 kq x0_1 = some r) ∧ Aside0 (kq ≤ k) ∧ Drawn0 w w')
  case atStart => exact ⟨(a0), (by first | rfl | (simp; done) | (simp [*]; done)), H', ⟨Nat.le_refl _⟩, by repeat (first | exact Drawn0.refl _ | apply Drawn0.step)⟩
  case round =>
    clear H'
    try clear c1
    obtain ⟨x0_1, rfl, HA, HK1, ⟨m1, rfl⟩⟩ := hrel
    cases gk with
    | zero => exact absurd HA.out (by simp [palanquinref02_down.l0])
    | succ k1 =>
      have H := HA.out
      clear HA
      simp only [palanquinref02_down.l0] at H
      by_cases c2 : x0_1 ≥ 65536
      · rw [if_pos c2] at H
        have c2b0 : decide (65536 ≤ x0_1) = true := decide_eq_true c2
        clear c2
        have H' := Aside0.mk H
        clear H
        go_wp2
        go_roundg k1
        case measure => have := HK1.out; omega
        case rel => exact ⟨(wrap64 ((Int.tmod x0_1 65536) + (wrap64 (Int.tdiv x0_1 65536)))), (by first | rfl | (simp; done) | (simp [*]; done)), H', ⟨by have := HK1.out; omega⟩, by repeat (first | exact Drawn0.refl _ | apply Drawn0.step)⟩
      · rw [if_neg c2] at H
        have c2b0 : decide (65536 ≤ x0_1) = false := decide_eq_false c2
        clear c2
        obtain rfl := Option.some.inj H
        go_wp2
        go_ret
        exact ⟨by first | rfl | (simp; done) | (simp [*]; done), by repeat (first | exact Drawn0.refl _ | apply Drawn0.step)⟩

/-! ### palanquinref02_Sum: function 62 -/
mutual
def palanquinref02_Sum.j0 : Nat → ByteArray → Option (Int)
  | 0, _ => none
  | k + 1, x0 => palanquinref02_Sum.l0 k x0 0 0
def palanquinref02_Sum.l0 : Nat → ByteArray → Int → Int → Option (Int)
  | 0, _, _, _ => none
  | k + 1, x0, x3, x4 => if x4 < (x0.size : Int) then (if 0 ≤ x4 then (if 0 ≤ (wrap64 (x4 + 1)) then (if (wrap64 (x4 + 1)) < (x0.size : Int) then (palanquinref02_Sum.l0 k x0 (wrap64 ((wrap64 (x3 + (wrap64 ((wrap64 (bt x0 x4)) * 256)))) + (wrap64 (bt x0 (wrap64 (x4 + 1)))))) (wrap64 (x4 + 2))) else (none)) else (none)) else (none)) else ((palanquinref02_down.f k x3).bind fun t178 => (some (wrap64 (65535 - t178))))
end
def palanquinref02_Sum.f (k : Nat) (a0 : ByteArray) : Option (Int) := if ((a0.size : Int) % 2) = 1 then ((some (([0] : List Int) : List Int)).bind fun y175 => (if a0.size + (strOfNums y175).size ≤ 9223372036854775807 then (palanquinref02_Sum.j0 k (a0 ++ (strOfNums y175))) else (none))) else (palanquinref02_Sum.j0 k a0)
theorem palanquinref02_Sum.mono_l : ∀ k, (∀ y0, LeO (palanquinref02_Sum.j0 k y0) (palanquinref02_Sum.j0 (k + 1) y0)) ∧ (∀ y0 y1 y2, LeO (palanquinref02_Sum.l0 k y0 y1 y2) (palanquinref02_Sum.l0 (k + 1) y0 y1 y2))
  | 0 => ⟨fun _ r h => by simp [palanquinref02_Sum.j0] at h, fun _ _ _ r h => by simp [palanquinref02_Sum.l0] at h⟩
  | k + 1 => by
    obtain ⟨ih0, ih1⟩ := palanquinref02_Sum.mono_l k
    refine ⟨?_, ?_⟩
    · intro y0
      unfold palanquinref02_Sum.j0
      repeat' first
      | (with_reducible exact ih0 _)
      | (with_reducible exact ih1 _ _ _)
      | (with_reducible exact palanquinref02_down.mono _ _)
      | (with_reducible exact LeO.refl _)
      | (with_reducible exact LeO.none _)
      | (with_reducible refine LeO.ite ?_ ?_)
      | (with_reducible refine LeO.bind ?_ (fun _ => ?_))
      | exact ih0 _
      | exact ih1 _ _ _
      | exact palanquinref02_down.mono _ _
      | exact LeO.none _
      | refine LeO.ite ?_ ?_
      | refine LeO.bind ?_ (fun _ => ?_)
    · intro y0 y1 y2
      unfold palanquinref02_Sum.l0
      repeat' first
      | (with_reducible exact ih0 _)
      | (with_reducible exact ih1 _ _ _)
      | (with_reducible exact palanquinref02_down.mono _ _)
      | (with_reducible exact LeO.refl _)
      | (with_reducible exact LeO.none _)
      | (with_reducible refine LeO.ite ?_ ?_)
      | (with_reducible refine LeO.bind ?_ (fun _ => ?_))
      | exact ih0 _
      | exact ih1 _ _ _
      | exact palanquinref02_down.mono _ _
      | exact LeO.none _
      | refine LeO.ite ?_ ?_
      | refine LeO.bind ?_ (fun _ => ?_)
theorem palanquinref02_Sum.mono : ∀ a0 k, LeO (palanquinref02_Sum.f k a0) (palanquinref02_Sum.f (k + 1) a0) := by
  intro a0 k
  obtain ⟨ih0, ih1⟩ := palanquinref02_Sum.mono_l k
  unfold palanquinref02_Sum.f
  repeat' first
      | (with_reducible exact ih0 _)
      | (with_reducible exact ih1 _ _ _)
      | (with_reducible exact palanquinref02_down.mono _ _)
      | (with_reducible exact LeO.refl _)
      | (with_reducible exact LeO.none _)
      | (with_reducible refine LeO.ite ?_ ?_)
      | (with_reducible refine LeO.bind ?_ (fun _ => ?_))
      | exact ih0 _
      | exact ih1 _ _ _
      | exact palanquinref02_down.mono _ _
      | exact LeO.none _
      | refine LeO.ite ?_ ?_
      | refine LeO.bind ?_ (fun _ => ?_)
set_option maxHeartbeats 8000000 in
set_option maxRecDepth 100000 in
theorem palanquinref02_Sum.calls (k : Nat) (a0 : ByteArray) (r : Int) (w : World) (h : palanquinref02_Sum.f k a0 = some r) :
    Calls Tryd.prog 62 #[.string a0] w fun e w' => e = .returned (.int .i64 r) ∧ Below w.heap.size w w' := by
  have HB := Aside0.mk (Below.refl w.heap.size w)
  have H : (if ((a0.size : Int) % 2) = 1 then ((some (([0] : List Int) : List Int)).bind fun y175 => (if a0.size + (strOfNums y175).size ≤ 9223372036854775807 then (palanquinref02_Sum.j0 k (a0 ++ (strOfNums y175))) else (none))) else (palanquinref02_Sum.j0 k a0)) = some r := h
  clear h
  have HC2 := Aside0.mk H
  clear H
  go_enter Tryd.func62, Tryd.ntmps62
  go_upto_if 8 with (fail)
  repeat (go_quiet (fail); go_upto_if 8 with (fail))
  go_cut [0] (fun v0 wc => ∃ (kq : Nat) (x0_1 : ByteArray), v0 = .string x0_1 ∧ Aside0 (palanquinref02_Sum.j0 kq x0_1 = some r) ∧ Aside0 (kq ≤ k) ∧ Aside0 (Below w.heap.size w wc))
  case first =>
    have H := HC2.out
    clear HC2
    by_cases c3 : ((a0.size : Int) % 2) = 1
    · rw [if_pos c3] at H
      have c3b0 : (((a0.size : Int) % 2) == 1) = true := beq_iff_eq.mpr c3
      have c3b1 : (((a0.size : Int) % 2) != 1) = false := bne_eq_false_iff_eq.mpr c3
      clear c3
      (first | rw [c3b0] | (simp only [i64_w, i32_w]; rw [c3b0]) | skip)
      obtain ⟨y175, hy175⟩ : ∃ y_ : List Int, y_ = (([0] : List Int)) := ⟨_, rfl⟩
      replace H : (if a0.size + (strOfNums y175).size ≤ 9223372036854775807 then (palanquinref02_Sum.j0 k (a0 ++ (strOfNums y175))) else (none)) = some r := by first | (rw [hy175]; with_reducible exact H) | (have H2_ := (Option.bind_some _ _).symm.trans H; rw [hy175]; with_reducible exact H2_) | (have H2_ := (Option.bind_some _ _).symm.trans H; with_reducible exact H2_) | with_reducible exact H | (rw [hy175]; exact H) | exact H
      have Ny175 := Aside0.mk hy175
      clear hy175
      by_cases c4 : a0.size + (strOfNums y175).size ≤ 9223372036854775807
      · rw [if_pos c4] at H
        have c4b0 := eq_true c4
        have c4b1 : decide (a0.size + (strOfNums y175).size ≤ 9223372036854775807) = true := decide_eq_true c4
        try have c4b2 : (9223372036854775807 < a0.size + (strOfNums y175).size) = False := eq_false (Nat.not_lt.2 c4)
        have H' := Aside0.mk H
        clear H
        go_wp2_with (first | ((with_reducible refine gate_dst (N := 10) rfl ?_); refine Kd.R_lit (Kd.int .u8) _ 5 ?hg (N := 10) ?hd (xs := ([0] : List Int)) (inner := [.int .u8 0]) (ok := fun _ => True) (okp := fun _ => True) ?hr ?hp (fun _ hk => hk) trivial (Below.refl _ _) (Nat.le_refl _) (by simp) ?_; (case hd => rfl); (case hg => rfl); (case hr => first | (go_simp; done) | (go_simp; rfl)); (case hp => exact (Reps.one (show Kd.M (Kd.int .u8) _ _ _ 0 [.int .u8 0] from rfl) (Reps.none _ _))); intro v176 w5 ho6 hb hg_ hnew_; clear hg_ hnew_; (first | rw [← Ny175.out] at ho6 | (simp only [Int.reduceToNat] at ho6; rw [← Ny175.out] at ho6)); have n0_ := Aside0.mk (Kd.R_lower ho6 (below_size (by repeat (first | (with_reducible first | exact HB.out | apply below_alloc | apply pw_below_drewN | apply below_drew1) | exact HB.out)))); have n1_ := Aside0.mk (below_step (by repeat (first | (with_reducible first | exact HB.out | apply below_alloc | apply pw_below_drewN | apply below_drew1) | exact HB.out)) hb); clear HB; have HO177 := n0_; have HB := n1_; clear n0_ n1_; clear hb ho6; have hcv7 := own_string (P := Tryd.prog) Tryd.underlying23 Tryd.underlying5 Tryd.underlying9 (Kd.own_of_R HO177.out)))
        repeat (go_quiet (first | ((with_reducible refine gate_dst (N := 10) rfl ?_); refine Kd.R_lit (Kd.int .u8) _ 5 ?hg (N := 10) ?hd (xs := ([0] : List Int)) (inner := [.int .u8 0]) (ok := fun _ => True) (okp := fun _ => True) ?hr ?hp (fun _ hk => hk) trivial (Below.refl _ _) (Nat.le_refl _) (by simp) ?_; (case hd => rfl); (case hg => rfl); (case hr => first | (go_simp; done) | (go_simp; rfl)); (case hp => exact (Reps.one (show Kd.M (Kd.int .u8) _ _ _ 0 [.int .u8 0] from rfl) (Reps.none _ _))); intro v176 w5 ho6 hb hg_ hnew_; clear hg_ hnew_; (first | rw [← Ny175.out] at ho6 | (simp only [Int.reduceToNat] at ho6; rw [← Ny175.out] at ho6)); have n0_ := Aside0.mk (Kd.R_lower ho6 (below_size (by repeat (first | (with_reducible first | exact HB.out | apply below_alloc | apply pw_below_drewN | apply below_drew1) | exact HB.out)))); have n1_ := Aside0.mk (below_step (by repeat (first | (with_reducible first | exact HB.out | apply below_alloc | apply pw_below_drewN | apply below_drew1) | exact HB.out)) hb); clear HB; have HO177 := n0_; have HB := n1_; clear n0_ n1_; clear hb ho6; have hcv7 := own_string (P := Tryd.prog) Tryd.underlying23 Tryd.underlying5 Tryd.underlying9 (Kd.own_of_R HO177.out))); try go_wp2_with (first | ((with_reducible refine gate_dst (N := 10) rfl ?_); refine Kd.R_lit (Kd.int .u8) _ 5 ?hg (N := 10) ?hd (xs := ([0] : List Int)) (inner := [.int .u8 0]) (ok := fun _ => True) (okp := fun _ => True) ?hr ?hp (fun _ hk => hk) trivial (Below.refl _ _) (Nat.le_refl _) (by simp) ?_; (case hd => rfl); (case hg => rfl); (case hr => first | (go_simp; done) | (go_simp; rfl)); (case hp => exact (Reps.one (show Kd.M (Kd.int .u8) _ _ _ 0 [.int .u8 0] from rfl) (Reps.none _ _))); intro v176 w5 ho6 hb hg_ hnew_; clear hg_ hnew_; (first | rw [← Ny175.out] at ho6 | (simp only [Int.reduceToNat] at ho6; rw [← Ny175.out] at ho6)); have n0_ := Aside0.mk (Kd.R_lower ho6 (below_size (by repeat (first | (with_reducible first | exact HB.out | apply below_alloc | apply pw_below_drewN | apply below_drew1) | exact HB.out)))); have n1_ := Aside0.mk (below_step (by repeat (first | (with_reducible first | exact HB.out | apply below_alloc | apply pw_below_drewN | apply below_drew1) | exact HB.out)) hb); clear HB; have HO177 := n0_; have HB := n1_; clear n0_ n1_; clear hb ho6; have hcv7 := own_string (P := Tryd.prog) Tryd.underlying23 Tryd.underlying5 Tryd.underlying9 (Kd.own_of_R HO177.out))))
        go_meet
        case rel => exact ⟨_, (a0 ++ (strOfNums y175)), (by first | rfl | (simp; done) | (simp [*]; done)), H', ⟨by first | omega | exact Nat.le_refl _⟩, ⟨by repeat (first | (with_reducible first | exact HB.out | apply below_alloc | apply pw_below_drewN | apply below_drew1) | exact HB.out)⟩⟩
      · rw [if_neg c4] at H
        exact absurd H (by simp)
    · rw [if_neg c3] at H
      have c3b0 : (((a0.size : Int) % 2) == 1) = false := beq_eq_false_iff_ne.mpr c3
      have c3b1 : (((a0.size : Int) % 2) != 1) = true := bne_iff_ne.mpr c3
      (first | rw [c3b0] | (simp only [i64_w, i32_w]; rw [c3b0]) | skip)
      have H' := Aside0.mk H
      clear H
      go_wp2
      repeat (go_quiet (fail); try go_wp2)
      go_meet
      case rel => exact ⟨_, (a0), (by first | rfl | (simp; done) | (simp [*]; done)), H', ⟨by first | omega | exact Nat.le_refl _⟩, ⟨by repeat (first | (with_reducible first | exact HB.out | apply below_alloc | apply pw_below_drewN | apply below_drew1) | exact HB.out)⟩⟩
  case rest =>
    clear HC2
    try clear p2
    try clear c3
    try clear c3b0
    try clear c3b1
    try clear c4
    try clear c4b0
    try clear c4b1
    try clear c4b2
    try clear c6
    try clear hcv7
    obtain ⟨kq, x0_1, rfl, HA, HJ1, HB⟩ := hcut
    cases kq with
    | zero => exact absurd HA.out (by simp [palanquinref02_Sum.j0])
    | succ kj1 =>
      have H := HA.out
      clear HA
      simp only [palanquinref02_Sum.j0] at H
      have H' := Aside0.mk H
      clear H
      go_wp2
      repeat (go_quiet (fail); try go_wp2)
      go_loopg [3, 4] kj1 (fun kq v3 v4 w' => ∃ (x3_2 : Int) (x4_2 : Int), v3 = .int .i64 x3_2 ∧ v4 = .int .i64 x4_2 ∧ Aside0 (palanquinref02_Sum.l0 kq x0_1 x3_2 x4_2 = some r) ∧ Aside0 (kq ≤ kj1) ∧ Aside0 (Below w.heap.size w w'))
      case atStart => exact ⟨(0), (0), (by first | rfl | (simp; done) | (simp [*]; done)), (by first | rfl | (simp; done) | (simp [*]; done)), H', ⟨Nat.le_refl _⟩, ⟨by repeat (first | (with_reducible first | exact HB.out | apply below_alloc | apply pw_below_drewN | apply below_drew1) | exact HB.out)⟩⟩
      case round =>
        clear H'
        try clear p2
        try clear c3
        try clear c3b0
        try clear c3b1
        try clear c4
        try clear c4b0
        try clear c4b1
        try clear c4b2
        try clear c6
        try clear hcv7
        try clear p2
        obtain ⟨x3_2, x4_2, rfl, rfl, HA, HK2, HB⟩ := hrel
        cases gk with
        | zero => exact absurd HA.out (by simp [palanquinref02_Sum.l0])
        | succ k2 =>
          have H := HA.out
          clear HA
          simp only [palanquinref02_Sum.l0] at H
          by_cases c8 : x4_2 < (x0_1.size : Int)
          · rw [if_pos c8] at H
            have c8b0 : decide (x4_2 < (x0_1.size : Int)) = true := decide_eq_true c8
            clear c8
            by_cases c9 : 0 ≤ x4_2
            · rw [if_pos c9] at H
              have c9b0 : decide (0 ≤ x4_2) = true := decide_eq_true c9
              clear c9
              obtain ⟨ji11, hji11⟩ : ∃ j_ : Int, (wrap64 (x4_2 + 1)) = j_ := ⟨_, rfl⟩
              replace H : (if 0 ≤ (ji11) then (if (ji11) < (x0_1.size : Int) then (palanquinref02_Sum.l0 k2 x0_1 (wrap64 ((wrap64 (x3_2 + (wrap64 ((wrap64 (bt x0_1 x4_2)) * 256)))) + (wrap64 (bt x0_1 (ji11))))) (wrap64 (x4_2 + 2))) else (none)) else (none)) = some r := by first | (rw [hji11] at H; exact H) | (simp only [hji11] at H ⊢; exact H)
              have hji11w : (IntKind.i64.wrap (x4_2 + 1)) = ji11 := (i64_w _).trans hji11
              by_cases c12 : 0 ≤ (ji11)
              · rw [if_pos c12] at H
                have c12b0 : decide (0 ≤ (ji11)) = true := decide_eq_true c12
                clear c12
                by_cases c13 : (ji11) < (x0_1.size : Int)
                · rw [if_pos c13] at H
                  have c13b0 : decide ((ji11) < (x0_1.size : Int)) = true := decide_eq_true c13
                  clear c13
                  have H' := Aside0.mk H
                  clear H
                  have p10 : 0 ≤ (x4_2 : Int) := of_decide_eq_true (by first | (with_reducible assumption) | assumption)
                  have q10 : x4_2 < (x0_1.size : Int) := of_decide_eq_true (by first | (with_reducible assumption) | assumption)
                  have hx10 := bt_at x0_1 x4_2
                  replace p10 := eq_true p10
                  replace q10 := eq_true q10
                  have p14 : 0 ≤ ((ji11) : Int) := of_decide_eq_true (by first | (with_reducible assumption) | assumption)
                  have q14 : (ji11) < (x0_1.size : Int) := of_decide_eq_true (by first | (with_reducible assumption) | assumption)
                  have hx14 := bt_at x0_1 (ji11)
                  replace p14 := eq_true p14
                  replace q14 := eq_true q14
                  go_wp2
                  repeat (go_quiet (fail); try go_wp2)
                  go_roundg k2
                  case measure => have := HJ1.out; have := HK2.out; omega
                  case rel => exact ⟨(wrap64 ((wrap64 (x3_2 + (wrap64 ((wrap64 (bt x0_1 x4_2)) * 256)))) + (wrap64 (bt x0_1 (ji11))))), (wrap64 (x4_2 + 2)), (by first | rfl | (simp; done) | (simp only [← hji11] <;> (first | rfl | simp)) | (simp [*]; done)), (by first | rfl | (simp; done) | (simp [*]; done)), H', ⟨by have := HJ1.out; have := HK2.out; omega⟩, ⟨by repeat (first | (with_reducible first | exact HB.out | apply below_alloc | apply pw_below_drewN | apply below_drew1) | exact HB.out)⟩⟩
                · rw [if_neg c13] at H
                  exact absurd H (by simp)
              · rw [if_neg c12] at H
                exact absurd H (by simp)
            · rw [if_neg c9] at H
              exact absurd H (by simp)
          · rw [if_neg c8] at H
            have c8b0 : decide (x4_2 < (x0_1.size : Int)) = false := decide_eq_false c8
            clear c8
            replace H := Option.bind_eq_some_iff.mp H
            obtain ⟨t178, A150, H⟩ := H
            replace H : (some (wrap64 (65535 - t178))) = some r := H
            have A15 := Aside0.mk A150
            clear A150
            obtain rfl := Option.some.inj H
            go_wp2_with (first | (go_at_call 103; (with_reducible refine (palanquinref02_down.calls k2 x3_2 t178 _ A15.out).mono ?_); rintro e w' ⟨rfl, ⟨nd, rfl⟩⟩; (try first | exact ⟨rfl, _, World.drewN_drewN _ _ _⟩ | exact ⟨rfl, _, Eq.trans (World.drewN_drewN _ _ _) (congrArg (World.drewN _) (Nat.add_assoc _ _ _))⟩)))
            repeat (go_quiet (first | (go_at_call 103; (with_reducible refine (palanquinref02_down.calls k2 x3_2 t178 _ A15.out).mono ?_); rintro e w' ⟨rfl, ⟨nd, rfl⟩⟩; (try first | exact ⟨rfl, _, World.drewN_drewN _ _ _⟩ | exact ⟨rfl, _, Eq.trans (World.drewN_drewN _ _ _) (congrArg (World.drewN _) (Nat.add_assoc _ _ _))⟩))); try go_wp2_with (first | (go_at_call 103; (with_reducible refine (palanquinref02_down.calls k2 x3_2 t178 _ A15.out).mono ?_); rintro e w' ⟨rfl, ⟨nd, rfl⟩⟩; (try first | exact ⟨rfl, _, World.drewN_drewN _ _ _⟩ | exact ⟨rfl, _, Eq.trans (World.drewN_drewN _ _ _) (congrArg (World.drewN _) (Nat.add_assoc _ _ _))⟩))))
            go_ret
            exact ⟨by first | rfl | (simp [errW_none, errW_some] <;> rfl) | (simp [*, errW_none, errW_some] <;> rfl), by repeat (first | (with_reducible first | exact HB.out | apply below_alloc | apply pw_below_drewN | apply below_drew1) | exact HB.out)⟩

/-! ### palanquinref02_Pseudo: function 81 -/
def palanquinref02_Pseudo.f (k : Nat) (a0 : ByteArray) (a1 : ByteArray) (a2 : Int) (a3 : Int) : Option (ByteArray) := if (a0.size : Int) = 16 then (if a0.size + a1.size ≤ 9223372036854775807 then ((palanquinref01_Bytes.f k (IntKind.u64.wrap (a3)) 4).bind fun t268 => (if (a0 ++ a1).size + t268.size ≤ 9223372036854775807 then ((palanquinref01_Bytes.f k (IntKind.u64.wrap (Go.bits .and .i64 a2 255)) 4).bind fun t269 => (if ((a0 ++ a1) ++ t268).size + t269.size ≤ 9223372036854775807 then (some (((a0 ++ a1) ++ t268) ++ t269)) else (none))) else (none))) else (none)) else (if a0.size + a1.size ≤ 9223372036854775807 then ((palanquinref01_Bytes.f k (IntKind.u64.wrap (Go.bits .and .i64 a2 255)) 2).bind fun t270 => (if (a0 ++ a1).size + t270.size ≤ 9223372036854775807 then ((palanquinref01_Bytes.f k (IntKind.u64.wrap (a3)) 2).bind fun t271 => (if ((a0 ++ a1) ++ t270).size + t271.size ≤ 9223372036854775807 then (some (((a0 ++ a1) ++ t270) ++ t271)) else (none))) else (none))) else (none))
theorem palanquinref02_Pseudo.mono : ∀ a0 a1 a2 a3 k, LeO (palanquinref02_Pseudo.f k a0 a1 a2 a3) (palanquinref02_Pseudo.f (k + 1) a0 a1 a2 a3) := by
  intro a0 a1 a2 a3 k
  unfold palanquinref02_Pseudo.f
  repeat' first
      | (with_reducible exact palanquinref01_Bytes.mono _ _ _)
      | (with_reducible exact LeO.refl _)
      | (with_reducible exact LeO.none _)
      | (with_reducible refine LeO.ite ?_ ?_)
      | (with_reducible refine LeO.bind ?_ (fun _ => ?_))
      | exact palanquinref01_Bytes.mono _ _ _
      | exact LeO.none _
      | refine LeO.ite ?_ ?_
      | refine LeO.bind ?_ (fun _ => ?_)
set_option maxHeartbeats 8000000 in
set_option maxRecDepth 100000 in
theorem palanquinref02_Pseudo.calls (k : Nat) (a0 : ByteArray) (a1 : ByteArray) (a2 : Int) (a3 : Int) (r : ByteArray) (w : World) (h : palanquinref02_Pseudo.f k a0 a1 a2 a3 = some r) :
    Calls Tryd.prog 81 #[.string a0, .string a1, .int .i64 a2, .int .i64 a3] w fun e w' => e = .returned (.string r) ∧ Below w.heap.size w w' := by
  have HB := Aside0.mk (Below.refl w.heap.size w)
  have H : (if (a0.size : Int) = 16 then (if a0.size + a1.size ≤ 9223372036854775807 then ((palanquinref01_Bytes.f k (IntKind.u64.wrap (a3)) 4).bind fun t268 => (if (a0 ++ a1).size + t268.size ≤ 9223372036854775807 then ((palanquinref01_Bytes.f k (IntKind.u64.wrap (Go.bits .and .i64 a2 255)) 4).bind fun t269 => (if ((a0 ++ a1) ++ t268).size + t269.size ≤ 9223372036854775807 then (some (((a0 ++ a1) ++ t268) ++ t269)) else (none))) else (none))) else (none)) else (if a0.size + a1.size ≤ 9223372036854775807 then ((palanquinref01_Bytes.f k (IntKind.u64.wrap (Go.bits .and .i64 a2 255)) 2).bind fun t270 => (if (a0 ++ a1).size + t270.size ≤ 9223372036854775807 then ((palanquinref01_Bytes.f k (IntKind.u64.wrap (a3)) 2).bind fun t271 => (if ((a0 ++ a1) ++ t270).size + t271.size ≤ 9223372036854775807 then (some (((a0 ++ a1) ++ t270) ++ t271)) else (none))) else (none))) else (none))) = some r := h
  clear h
  by_cases c5 : (a0.size : Int) = 16
  · rw [if_pos c5] at H
    have c5b0 : ((a0.size : Int) == 16) = true := beq_iff_eq.mpr c5
    have c5b1 : ((a0.size : Int) != 16) = false := bne_eq_false_iff_eq.mpr c5
    clear c5
    by_cases c6 : a0.size + a1.size ≤ 9223372036854775807
    · rw [if_pos c6] at H
      have c6b0 := eq_true c6
      have c6b1 : decide (a0.size + a1.size ≤ 9223372036854775807) = true := decide_eq_true c6
      try have c6b2 : (9223372036854775807 < a0.size + a1.size) = False := eq_false (Nat.not_lt.2 c6)
      replace H := Option.bind_eq_some_iff.mp H
      obtain ⟨t268, A70, H⟩ := H
      replace H : (if (a0 ++ a1).size + t268.size ≤ 9223372036854775807 then ((palanquinref01_Bytes.f k (IntKind.u64.wrap (Go.bits .and .i64 a2 255)) 4).bind fun t269 => (if ((a0 ++ a1) ++ t268).size + t269.size ≤ 9223372036854775807 then (some (((a0 ++ a1) ++ t268) ++ t269)) else (none))) else (none)) = some r := H
      have A7 := Aside0.mk A70
      clear A70
      by_cases c8 : (a0 ++ a1).size + t268.size ≤ 9223372036854775807
      · rw [if_pos c8] at H
        have c8b0 := eq_true c8
        have c8b1 : decide ((a0 ++ a1).size + t268.size ≤ 9223372036854775807) = true := decide_eq_true c8
        try have c8b2 : (9223372036854775807 < (a0 ++ a1).size + t268.size) = False := eq_false (Nat.not_lt.2 c8)
        try have c8b3 : (9223372036854775807 < (a0.size) + (a1.size) + t268.size) = False := eq_false (by have h_ := c8; simp only [ByteArray.size_append] at h_; omega)
        try have c8b4 : ((a0.size) + (a1.size) + t268.size ≤ 9223372036854775807) = True := eq_true (by have h_ := c8; simp only [ByteArray.size_append] at h_; omega)
        replace H := Option.bind_eq_some_iff.mp H
        obtain ⟨t269, A90, H⟩ := H
        replace H : (if ((a0 ++ a1) ++ t268).size + t269.size ≤ 9223372036854775807 then (some (((a0 ++ a1) ++ t268) ++ t269)) else (none)) = some r := H
        have A9 := Aside0.mk A90
        clear A90
        by_cases c10 : ((a0 ++ a1) ++ t268).size + t269.size ≤ 9223372036854775807
        · rw [if_pos c10] at H
          have c10b0 := eq_true c10
          have c10b1 : decide (((a0 ++ a1) ++ t268).size + t269.size ≤ 9223372036854775807) = true := decide_eq_true c10
          try have c10b2 : (9223372036854775807 < ((a0 ++ a1) ++ t268).size + t269.size) = False := eq_false (Nat.not_lt.2 c10)
          try have c10b3 : (9223372036854775807 < (a0.size) + (a1.size) + (t268.size) + t269.size) = False := eq_false (by have h_ := c10; simp only [ByteArray.size_append] at h_; omega)
          try have c10b4 : ((a0.size) + (a1.size) + (t268.size) + t269.size ≤ 9223372036854775807) = True := eq_true (by have h_ := c10; simp only [ByteArray.size_append] at h_; omega)
          obtain rfl := Option.some.inj H
          go_enter Tryd.func81, Tryd.ntmps81
          go_wp2_with (first | ((with_reducible refine gate_callee (f := 61) rfl ?_); refine goesL_ (some 17) rfl rfl Tryd.func61 (by kernel_rfl) rfl #[.int .u64 (IntKind.u64.wrap (a3)), .int .i64 4] rfl (by (try simp only [List.map_toArray, List.map_cons, List.map_nil]); first | done | rfl | (simp only [List.length_drop, List.length_take]; rfl)) ?_; (with_reducible refine (palanquinref01_Bytes.calls k (IntKind.u64.wrap (a3)) 4 t268 _ A7.out).mono ?_); rintro e w11 ⟨rfl, hb⟩; refine ⟨_, rfl, ?_⟩; have n0_ := Aside0.mk (below_step (by repeat (first | (with_reducible first | exact HB.out | apply below_alloc | apply pw_below_drewN | apply below_drew1) | exact HB.out)) hb); clear HB; have HB := n0_; clear n0_; (try clear hb); (try clear hb2); (try clear hk); (try clear hi)) | ((with_reducible refine gate_callee (f := 61) rfl ?_); refine goesL_ (some 22) rfl rfl Tryd.func61 (by kernel_rfl) rfl #[.int .u64 (IntKind.u64.wrap (Go.bits .and .i64 a2 255)), .int .i64 4] rfl (by (try simp only [List.map_toArray, List.map_cons, List.map_nil]); first | done | rfl | (simp only [List.length_drop, List.length_take]; rfl)) ?_; (with_reducible refine (palanquinref01_Bytes.calls k (IntKind.u64.wrap (Go.bits .and .i64 a2 255)) 4 t269 _ A9.out).mono ?_); rintro e w12 ⟨rfl, hb⟩; refine ⟨_, rfl, ?_⟩; have n0_ := Aside0.mk (below_step (by repeat (first | (with_reducible first | exact HB.out | apply below_alloc | apply pw_below_drewN | apply below_drew1) | exact HB.out)) hb); clear HB; have HB := n0_; clear n0_; (try clear hb); (try clear hb2); (try clear hk); (try clear hi)))
          go_ret
          exact ⟨by first | rfl | (simp [errW_none, errW_some] <;> rfl) | (simp [*, errW_none, errW_some] <;> rfl), by repeat (first | (with_reducible first | exact HB.out | apply below_alloc | apply pw_below_drewN | apply below_drew1) | exact HB.out)⟩
        · rw [if_neg c10] at H
          exact absurd H (by simp)
      · rw [if_neg c8] at H
        exact absurd H (by simp)
    · rw [if_neg c6] at H
      exact absurd H (by simp)
  · rw [if_neg c5] at H
    have c5b0 : ((a0.size : Int) == 16) = false := beq_eq_false_iff_ne.mpr c5
    have c5b1 : ((a0.size : Int) != 16) = true := bne_iff_ne.mpr c5
    by_cases c13 : a0.size + a1.size ≤ 9223372036854775807
    · rw [if_pos c13] at H
      have c13b0 := eq_true c13
      have c13b1 : decide (a0.size + a1.size ≤ 9223372036854775807) = true := decide_eq_true c13
      try have c13b2 : (9223372036854775807 < a0.size + a1.size) = False := eq_false (Nat.not_lt.2 c13)
      replace H := Option.bind_eq_some_iff.mp H
      obtain ⟨t270, A140, H⟩ := H
      replace H : (if (a0 ++ a1).size + t270.size ≤ 9223372036854775807 then ((palanquinref01_Bytes.f k (IntKind.u64.wrap (a3)) 2).bind fun t271 => (if ((a0 ++ a1) ++ t270).size + t271.size ≤ 9223372036854775807 then (some (((a0 ++ a1) ++ t270) ++ t271)) else (none))) else (none)) = some r := H
      have A14 := Aside0.mk A140
      clear A140
      by_cases c15 : (a0 ++ a1).size + t270.size ≤ 9223372036854775807
      · rw [if_pos c15] at H
        have c15b0 := eq_true c15
        have c15b1 : decide ((a0 ++ a1).size + t270.size ≤ 9223372036854775807) = true := decide_eq_true c15
        try have c15b2 : (9223372036854775807 < (a0 ++ a1).size + t270.size) = False := eq_false (Nat.not_lt.2 c15)
        try have c15b3 : (9223372036854775807 < (a0.size) + (a1.size) + t270.size) = False := eq_false (by have h_ := c15; simp only [ByteArray.size_append] at h_; omega)
        try have c15b4 : ((a0.size) + (a1.size) + t270.size ≤ 9223372036854775807) = True := eq_true (by have h_ := c15; simp only [ByteArray.size_append] at h_; omega)
        replace H := Option.bind_eq_some_iff.mp H
        obtain ⟨t271, A160, H⟩ := H
        replace H : (if ((a0 ++ a1) ++ t270).size + t271.size ≤ 9223372036854775807 then (some (((a0 ++ a1) ++ t270) ++ t271)) else (none)) = some r := H
        have A16 := Aside0.mk A160
        clear A160
        by_cases c17 : ((a0 ++ a1) ++ t270).size + t271.size ≤ 9223372036854775807
        · rw [if_pos c17] at H
          have c17b0 := eq_true c17
          have c17b1 : decide (((a0 ++ a1) ++ t270).size + t271.size ≤ 9223372036854775807) = true := decide_eq_true c17
          try have c17b2 : (9223372036854775807 < ((a0 ++ a1) ++ t270).size + t271.size) = False := eq_false (Nat.not_lt.2 c17)
          try have c17b3 : (9223372036854775807 < (a0.size) + (a1.size) + (t270.size) + t271.size) = False := eq_false (by have h_ := c17; simp only [ByteArray.size_append] at h_; omega)
          try have c17b4 : ((a0.size) + (a1.size) + (t270.size) + t271.size ≤ 9223372036854775807) = True := eq_true (by have h_ := c17; simp only [ByteArray.size_append] at h_; omega)
          obtain rfl := Option.some.inj H
          go_enter Tryd.func81, Tryd.ntmps81
          go_wp2_with (first | ((with_reducible refine gate_callee (f := 61) rfl ?_); refine goesL_ (some 30) rfl rfl Tryd.func61 (by kernel_rfl) rfl #[.int .u64 (IntKind.u64.wrap (Go.bits .and .i64 a2 255)), .int .i64 2] rfl (by (try simp only [List.map_toArray, List.map_cons, List.map_nil]); first | done | rfl | (simp only [List.length_drop, List.length_take]; rfl)) ?_; (with_reducible refine (palanquinref01_Bytes.calls k (IntKind.u64.wrap (Go.bits .and .i64 a2 255)) 2 t270 _ A14.out).mono ?_); rintro e w18 ⟨rfl, hb⟩; refine ⟨_, rfl, ?_⟩; have n0_ := Aside0.mk (below_step (by repeat (first | (with_reducible first | exact HB.out | apply below_alloc | apply pw_below_drewN | apply below_drew1) | exact HB.out)) hb); clear HB; have HB := n0_; clear n0_; (try clear hb); (try clear hb2); (try clear hk); (try clear hi)) | ((with_reducible refine gate_callee (f := 61) rfl ?_); refine goesL_ (some 34) rfl rfl Tryd.func61 (by kernel_rfl) rfl #[.int .u64 (IntKind.u64.wrap (a3)), .int .i64 2] rfl (by (try simp only [List.map_toArray, List.map_cons, List.map_nil]); first | done | rfl | (simp only [List.length_drop, List.length_take]; rfl)) ?_; (with_reducible refine (palanquinref01_Bytes.calls k (IntKind.u64.wrap (a3)) 2 t271 _ A16.out).mono ?_); rintro e w19 ⟨rfl, hb⟩; refine ⟨_, rfl, ?_⟩; have n0_ := Aside0.mk (below_step (by repeat (first | (with_reducible first | exact HB.out | apply below_alloc | apply pw_below_drewN | apply below_drew1) | exact HB.out)) hb); clear HB; have HB := n0_; clear n0_; (try clear hb); (try clear hb2); (try clear hk); (try clear hi)))
          go_ret
          exact ⟨by first | rfl | (simp [errW_none, errW_some] <;> rfl) | (simp [*, errW_none, errW_some] <;> rfl), by repeat (first | (with_reducible first | exact HB.out | apply below_alloc | apply pw_below_drewN | apply below_drew1) | exact HB.out)⟩
        · rw [if_neg c17] at H
          exact absurd H (by simp)
      · rw [if_neg c15] at H
        exact absurd H (by simp)
    · rw [if_neg c13] at H
      exact absurd H (by simp)

end Go.Proofs.YtcmalglippmocaaDoor.G
end

section
namespace Go.Proofs.YtcmalglippmocaaDoor.G
open Go.RowKit Go.Proofs.YtcmalglippmocaaDoorW.PrintWords Go.Proofs.YtcmalglippmocaaDoorW.PrintLast Go.Proofs.YtcmalglippmocaaDoorW.PrintMore
attribute [local go_sem] max2_int min2_int max_two min_two max_three min_three max_four min_four   -- for this text's walks alone
set_option linter.unusedVariables false
set_option linter.unusedSimpArgs false

/-! ### palanquinref12_Put: function 30 -/
def palanquinref12_Put.j0 : Nat → ByteArray → Int → Int → ByteArray → Bool → Bool → Int → Option (ByteArray × Int)
  | 0, _, _, _, _, _, _, _ => none
  | k + 1, x1, x6, x8, x9, x180000, x180001, x180002 => if x180000 = true then ((palanquinref01_Bytes.f k (IntKind.u64.wrap (wrap64 (x8 + 128))) 1).bind fun t185 => (if t185.size + 1 ≤ 9223372036854775807 then ((palanquinref01_Bytes.f k (IntKind.u64.wrap (x6)) 2).bind fun t186 => (if (t185 ++ (⟨#[0]⟩ : ByteArray)).size + t186.size ≤ 9223372036854775807 then (if 2 + x9.size ≤ 9223372036854775807 then (if ((⟨#[0, 0]⟩ : ByteArray) ++ x9).size + x1.size ≤ 9223372036854775807 then (if ((t185 ++ (⟨#[0]⟩ : ByteArray)) ++ t186).size + 2 ≤ 9223372036854775807 then (if (((t185 ++ (⟨#[0]⟩ : ByteArray)) ++ t186) ++ (⟨#[0, 0]⟩ : ByteArray)).size + (((⟨#[0, 0]⟩ : ByteArray) ++ x9) ++ x1).size ≤ 9223372036854775807 then ((palanquinref02_Sum.f k ((((t185 ++ (⟨#[0]⟩ : ByteArray)) ++ t186) ++ (⟨#[0, 0]⟩ : ByteArray)) ++ (((⟨#[0, 0]⟩ : ByteArray) ++ x9) ++ x1))).bind fun t187 => ((palanquinref01_Bytes.f k (IntKind.u64.wrap (t187)) 2).bind fun t188 => (if ((t185 ++ (⟨#[0]⟩ : ByteArray)) ++ t186).size + t188.size ≤ 9223372036854775807 then (if (((t185 ++ (⟨#[0]⟩ : ByteArray)) ++ t186) ++ t188).size + (((⟨#[0, 0]⟩ : ByteArray) ++ x9) ++ x1).size ≤ 9223372036854775807 then (some ((((t185 ++ (⟨#[0]⟩ : ByteArray)) ++ t186) ++ t188) ++ (((⟨#[0, 0]⟩ : ByteArray) ++ x9) ++ x1), 0)) else (none)) else (none)))) else (none)) else (none)) else (none)) else (none)) else (none))) else (none))) else ((palanquinref01_Bytes.f k (IntKind.u64.wrap (x8)) 1).bind fun t183 => (if t183.size + 1 ≤ 9223372036854775807 then ((palanquinref01_Bytes.f k (IntKind.u64.wrap (x6)) 2).bind fun t184 => (if (t183 ++ (⟨#[0]⟩ : ByteArray)).size + t184.size ≤ 9223372036854775807 then (if ((t183 ++ (⟨#[0]⟩ : ByteArray)) ++ t184).size + x9.size ≤ 9223372036854775807 then (if (((t183 ++ (⟨#[0]⟩ : ByteArray)) ++ t184) ++ x9).size + x1.size ≤ 9223372036854775807 then (some ((((t183 ++ (⟨#[0]⟩ : ByteArray)) ++ t184) ++ x9) ++ x1, 0)) else (none)) else (none)) else (none))) else (none)))
def palanquinref12_Put.f (k : Nat) (a0_0 : Bool) (a0_1 : Bool) (a0_2 : Int) (a1 : ByteArray) : Option (ByteArray × Int) := (palanquinref11_Kind.f a1).bind fun bt180 => (if bt180.2 = 0 then (if a0_1 = true then ((palanquinref01_Bytes.f k (IntKind.u64.wrap (a0_2)) 4).bind fun t182 => (palanquinref12_Put.j0 k a1 bt180.1 32 t182 a0_0 a0_1 a0_2)) else (palanquinref12_Put.j0 k a1 bt180.1 0 (⟨#[]⟩ : ByteArray) a0_0 a0_1 a0_2)) else (some ((⟨#[]⟩ : ByteArray), bt180.2)))
theorem palanquinref12_Put.mono_l : ∀ k, (∀ y0 y1 y2 y3 y4 y5 y6, LeO (palanquinref12_Put.j0 k y0 y1 y2 y3 y4 y5 y6) (palanquinref12_Put.j0 (k + 1) y0 y1 y2 y3 y4 y5 y6))
  | 0 => fun _ _ _ _ _ _ _ r h => by simp [palanquinref12_Put.j0] at h
  | k + 1 => by
    have ih0 := palanquinref12_Put.mono_l k
    · intro y0 y1 y2 y3 y4 y5 y6
      unfold palanquinref12_Put.j0
      repeat' first
      | (with_reducible exact ih0 _ _ _ _ _ _ _)
      | (with_reducible exact palanquinref01_Bytes.mono _ _ _)
      | (with_reducible exact palanquinref02_Sum.mono _ _)
      | (with_reducible exact LeO.refl _)
      | (with_reducible exact LeO.none _)
      | (with_reducible refine LeO.ite ?_ ?_)
      | (with_reducible refine LeO.bind ?_ (fun _ => ?_))
      | exact ih0 _ _ _ _ _ _ _
      | exact palanquinref01_Bytes.mono _ _ _
      | exact palanquinref02_Sum.mono _ _
      | exact LeO.none _
      | refine LeO.ite ?_ ?_
      | refine LeO.bind ?_ (fun _ => ?_)
theorem palanquinref12_Put.mono : ∀ a0 a1 a2 a3 k, LeO (palanquinref12_Put.f k a0 a1 a2 a3) (palanquinref12_Put.f (k + 1) a0 a1 a2 a3) := by
  intro a0 a1 a2 a3 k
  have ih0 := palanquinref12_Put.mono_l k
  unfold palanquinref12_Put.f
  repeat' first
      | (with_reducible exact ih0 _ _ _ _ _ _ _)
      | (with_reducible exact palanquinref01_Bytes.mono _ _ _)
      | (with_reducible exact palanquinref02_Sum.mono _ _)
      | (with_reducible exact LeO.refl _)
      | (with_reducible exact LeO.none _)
      | (with_reducible refine LeO.ite ?_ ?_)
      | (with_reducible refine LeO.bind ?_ (fun _ => ?_))
      | exact ih0 _ _ _ _ _ _ _
      | exact palanquinref01_Bytes.mono _ _ _
      | exact palanquinref02_Sum.mono _ _
      | exact LeO.none _
      | refine LeO.ite ?_ ?_
      | refine LeO.bind ?_ (fun _ => ?_)
set_option maxHeartbeats 8000000 in
set_option maxRecDepth 100000 in
theorem palanquinref12_Put.calls (k : Nat) (a0_0 : Bool) (a0_1 : Bool) (a0_2 : Int) (a1 : ByteArray) (r1 : ByteArray) (r2 : Int) (w : World) (h : palanquinref12_Put.f k a0_0 a0_1 a0_2 a1 = some (r1, r2)) :
    Calls Tryd.prog 30 #[.agg #[.bool a0_0, .bool a0_1, .int .u32 a0_2], .string a1] w fun e w' => e = .returned (.tuple #[.string r1, .int .i64 r2]) ∧ Below w.heap.size w w' := by
  have hu42 := Tryd.underlying42
  have HB := Aside0.mk (Below.refl w.heap.size w)
  have H : ((palanquinref11_Kind.f a1).bind fun bt180 => (if bt180.2 = 0 then (if a0_1 = true then ((palanquinref01_Bytes.f k (IntKind.u64.wrap (a0_2)) 4).bind fun t182 => (palanquinref12_Put.j0 k a1 bt180.1 32 t182 a0_0 a0_1 a0_2)) else (palanquinref12_Put.j0 k a1 bt180.1 0 (⟨#[]⟩ : ByteArray) a0_0 a0_1 a0_2)) else (some ((⟨#[]⟩ : ByteArray), bt180.2)))) = some (r1, r2) := h
  clear h
  replace H := Option.bind_eq_some_iff.mp H
  obtain ⟨⟨t180, t181⟩, A30, H⟩ := H
  replace H : (if t181 = 0 then (if a0_1 = true then ((palanquinref01_Bytes.f k (IntKind.u64.wrap (a0_2)) 4).bind fun t182 => (palanquinref12_Put.j0 k a1 t180 32 t182 a0_0 a0_1 a0_2)) else (palanquinref12_Put.j0 k a1 t180 0 (⟨#[]⟩ : ByteArray) a0_0 a0_1 a0_2)) else (some ((⟨#[]⟩ : ByteArray), t181))) = some (r1, r2) := H
  have A3 := Aside0.mk A30
  clear A30
  by_cases c4 : t181 = 0
  · rw [if_pos c4] at H
    have c4b0 : (t181 == 0) = true := beq_iff_eq.mpr c4
    have c4b1 : (t181 != 0) = false := bne_eq_false_iff_eq.mpr c4
    clear c4
    have HC5 := Aside0.mk H
    clear H
    go_enter Tryd.func30, Tryd.ntmps30
    go_upto_if 21 with (first | ((with_reducible refine gate_dst (N := 2) rfl ?_); refine box_event ?hg (N := 2) ?hd (cs := #[.bool a0_0, .bool a0_1, .int .u32 a0_2]) (t := 42) ?hr ?_; (case hd => rfl); (case hg => rfl); (case hr => first | (go_simp; done) | (go_simp; rfl)); intro gb179 hg w6 hbox hb; have n0_ := Aside0.mk (below_step (by repeat (first | (with_reducible first | exact HB.out | apply below_alloc | apply pw_below_drewN | apply below_drew1) | exact HB.out)) hb); have n1_ := Aside0.mk (hbox); have n2_ := Aside0.mk ((by rw [hg]; exact (below_size (by repeat (first | (with_reducible first | exact HB.out | apply below_alloc | apply pw_below_drewN | apply below_drew1) | exact HB.out))) : w.heap.size ≤ gb179)); have n3_ := Aside0.mk ((by rw [hg]; exact (below_size (by repeat (first | (with_reducible first | exact HB.out | apply below_alloc | apply pw_below_drewN | apply below_drew1) | exact HB.out))) : w.heap.size ≤ gb179)); clear HB; have HB := n0_; have BK179 := n1_; have GW179 := n2_; have GE179 := n3_; clear n0_ n1_ n2_ n3_; clear hb hbox hg) | ((with_reducible refine gate_callee (f := 26) rfl ?_); refine goesL_ (some 14) rfl rfl Tryd.func26 (by kernel_rfl) rfl #[.string a1] rfl (by (try simp only [List.map_toArray, List.map_cons, List.map_nil]); first | done | rfl | (simp only [List.length_drop, List.length_take]; rfl)) ?_; (with_reducible refine (palanquinref11_Kind.calls a1 t180 t181 _ A3.out).mono ?_); rintro e w' ⟨rfl, ⟨nd, rfl⟩⟩; refine ⟨_, rfl, ?_⟩; have hcz7_0 : w6.cell? ⟨gb179, 0, none⟩ = some (.bool a0_0) := (blk_cell BK179.out 0).trans rfl; have hcz7_1 : w6.cell? ⟨gb179, 1, none⟩ = some (.bool a0_1) := (blk_cell BK179.out 1).trans rfl; have hcz7_2 : w6.cell? ⟨gb179, 2, none⟩ = some (.int .u32 a0_2) := (blk_cell BK179.out 2).trans rfl; have hfz7_0 := blk_frozen BK179.out 0; have hfz7_1 := blk_frozen BK179.out 1; have hfz7_2 := blk_frozen BK179.out 2))
    (try simp only [Act.put, List.setIfInBounds_toArray, List.set_cons_zero, List.set_cons_succ])
    go_cut [8, 9] (fun v8 v9 wc => ∃ (kq : Nat) (x8_4 : Int) (x9_4 : ByteArray), v8 = .int .i64 x8_4 ∧ v9 = .string x9_4 ∧ Aside0 (palanquinref12_Put.j0 kq a1 t180 x8_4 x9_4 a0_0 a0_1 a0_2 = some (r1, r2)) ∧ Aside0 (kq ≤ k) ∧ Aside0 (wc.heap[gb179]? = some (.cells #[.bool a0_0, .bool a0_1, .int .u32 a0_2] 42 (0, 0))) ∧ Aside0 (Below w.heap.size w wc))
    case first =>
      have H := HC5.out
      clear HC5
      by_cases c8 : a0_1 = true
      · subst c8
        have H1 : ((palanquinref01_Bytes.f k (IntKind.u64.wrap (a0_2)) 4).bind fun t182 => (palanquinref12_Put.j0 k a1 t180 32 t182 a0_0 true a0_2)) = some (r1, r2) := by rw [if_pos rfl] at H; exact H
        clear H
        have H := H1
        clear H1
        replace H := Option.bind_eq_some_iff.mp H
        obtain ⟨t182, A90, H⟩ := H
        replace H : (palanquinref12_Put.j0 k a1 t180 32 t182 a0_0 true a0_2) = some (r1, r2) := H
        have A9 := Aside0.mk A90
        clear A90
        have H' := Aside0.mk H
        clear H
        have hcz10_0 : w6.cell? ⟨gb179, 0, none⟩ = some (.bool a0_0) := (blk_cell BK179.out 0).trans rfl
        have hcz10_1 : w6.cell? ⟨gb179, 1, none⟩ = some (.bool true) := (blk_cell BK179.out 1).trans rfl
        have hcz10_2 : w6.cell? ⟨gb179, 2, none⟩ = some (.int .u32 a0_2) := (blk_cell BK179.out 2).trans rfl
        have hfz10_0 := blk_frozen BK179.out 0
        have hfz10_1 := blk_frozen BK179.out 1
        have hfz10_2 := blk_frozen BK179.out 2
        go_wp2_with (first | ((with_reducible refine gate_callee (f := 61) rfl ?_); refine goesL_ (some 25) rfl rfl Tryd.func61 (by kernel_rfl) rfl #[.int .u64 (IntKind.u64.wrap (a0_2)), .int .i64 4] rfl (by (try simp only [List.map_toArray, List.map_cons, List.map_nil]); first | done | rfl | (simp only [List.length_drop, List.length_take]; rfl)) ?_; (with_reducible refine (palanquinref01_Bytes.calls k (IntKind.u64.wrap (a0_2)) 4 t182 _ A9.out).mono ?_); rintro e w11 ⟨rfl, hb⟩; refine ⟨_, rfl, ?_⟩; have n0_ := Aside0.mk (blk_below (g := gb179) (o := .cells #[.bool a0_0, .bool true, .int .u32 a0_2] 42 (0, 0)) (by (with_reducible repeat (first | refine blk_drewN ?_ _ | refine blk_drew ?_ | refine blk_alloc ?_ _)); exact BK179.out) hb); have n1_ := Aside0.mk (below_step (by repeat (first | (with_reducible first | exact HB.out | apply below_alloc | apply pw_below_drewN | apply below_drew1 | refine below_set ?_ GE179.out) | exact HB.out)) hb); clear BK179; clear HB; have BK179 := n0_; have HB := n1_; clear n0_ n1_; (try clear hb); (try clear hb2); (try clear hk); (try clear hi)))
        go_meet
        case rel => exact ⟨_, (32), (t182), (by first | rfl | (simp; done) | (simp [*]; done)), (by first | rfl | (simp; done) | (simp [*]; done)), H', ⟨by first | omega | exact Nat.le_refl _⟩, ⟨by (with_reducible repeat (first | refine blk_drewN ?_ _ | refine blk_drew ?_ | refine blk_alloc ?_ _)); exact BK179.out⟩, ⟨by repeat (first | (with_reducible first | exact HB.out | apply below_alloc | apply pw_below_drewN | apply below_drew1 | refine below_set ?_ GE179.out) | exact HB.out)⟩⟩
      · replace c8 := Bool.eq_false_iff.mpr c8
        subst c8
        have H1 : (palanquinref12_Put.j0 k a1 t180 0 (⟨#[]⟩ : ByteArray) a0_0 false a0_2) = some (r1, r2) := by rw [if_neg (show ¬ (false = true) by decide)] at H; exact H
        clear H
        have H := H1
        clear H1
        have H' := Aside0.mk H
        clear H
        go_wp2
        go_meet
        case rel => exact ⟨_, (0), ((⟨#[]⟩ : ByteArray)), (by first | rfl | (simp; done) | (simp [*]; done)), (by first | rfl | (simp; done) | (simp [*]; done)), H', ⟨by first | omega | exact Nat.le_refl _⟩, ⟨by (with_reducible repeat (first | refine blk_drewN ?_ _ | refine blk_drew ?_ | refine blk_alloc ?_ _)); exact BK179.out⟩, ⟨by repeat (first | (with_reducible first | exact HB.out | apply below_alloc | apply pw_below_drewN | apply below_drew1 | refine below_set ?_ GE179.out) | exact HB.out)⟩⟩
    case rest =>
      clear HC5
      try clear c2
      try clear p2
      try clear c3
      try clear c4
      try clear c4b0
      try clear c4b1
      try clear c6
      try clear c8
      try clear hcz10_0
      try clear hcz10_1
      try clear hcz10_2
      try clear hcz7_0
      try clear hcz7_1
      try clear hcz7_2
      try clear hfz10_0
      try clear hfz10_1
      try clear hfz10_2
      try clear hfz7_0
      try clear hfz7_1
      try clear hfz7_2
      obtain ⟨kq, x8_4, x9_4, rfl, rfl, HA, HJ4, BK179, HB⟩ := hcut
      cases kq with
      | zero => exact absurd HA.out (by simp [palanquinref12_Put.j0])
      | succ kj4 =>
        have H := HA.out
        clear HA
        simp only [palanquinref12_Put.j0] at H
        by_cases c12 : a0_0 = true
        · subst c12
          have H1 : ((palanquinref01_Bytes.f kj4 (IntKind.u64.wrap (wrap64 (x8_4 + 128))) 1).bind fun t185 => (if t185.size + 1 ≤ 9223372036854775807 then ((palanquinref01_Bytes.f kj4 (IntKind.u64.wrap (t180)) 2).bind fun t186 => (if (t185 ++ (⟨#[0]⟩ : ByteArray)).size + t186.size ≤ 9223372036854775807 then (if 2 + x9_4.size ≤ 9223372036854775807 then (if ((⟨#[0, 0]⟩ : ByteArray) ++ x9_4).size + a1.size ≤ 9223372036854775807 then (if ((t185 ++ (⟨#[0]⟩ : ByteArray)) ++ t186).size + 2 ≤ 9223372036854775807 then (if (((t185 ++ (⟨#[0]⟩ : ByteArray)) ++ t186) ++ (⟨#[0, 0]⟩ : ByteArray)).size + (((⟨#[0, 0]⟩ : ByteArray) ++ x9_4) ++ a1).size ≤ 9223372036854775807 then ((palanquinref02_Sum.f kj4 ((((t185 ++ (⟨#[0]⟩ : ByteArray)) ++ t186) ++ (⟨#[0, 0]⟩ : ByteArray)) ++ (((⟨#[0, 0]⟩ : ByteArray) ++ x9_4) ++ a1))).bind fun t187 => ((palanquinref01_Bytes.f kj4 (IntKind.u64.wrap (t187)) 2).bind fun t188 => (if ((t185 ++ (⟨#[0]⟩ : ByteArray)) ++ t186).size + t188.size ≤ 9223372036854775807 then (if (((t185 ++ (⟨#[0]⟩ : ByteArray)) ++ t186) ++ t188).size + (((⟨#[0, 0]⟩ : ByteArray) ++ x9_4) ++ a1).size ≤ 9223372036854775807 then (some ((((t185 ++ (⟨#[0]⟩ : ByteArray)) ++ t186) ++ t188) ++ (((⟨#[0, 0]⟩ : ByteArray) ++ x9_4) ++ a1), 0)) else (none)) else (none)))) else (none)) else (none)) else (none)) else (none)) else (none))) else (none))) = some (r1, r2) := by rw [if_pos rfl] at H; exact H
          clear H
          have H := H1
          clear H1
          replace H := Option.bind_eq_some_iff.mp H
          obtain ⟨t185, A130, H⟩ := H
          replace H : (if t185.size + 1 ≤ 9223372036854775807 then ((palanquinref01_Bytes.f kj4 (IntKind.u64.wrap (t180)) 2).bind fun t186 => (if (t185 ++ (⟨#[0]⟩ : ByteArray)).size + t186.size ≤ 9223372036854775807 then (if 2 + x9_4.size ≤ 9223372036854775807 then (if ((⟨#[0, 0]⟩ : ByteArray) ++ x9_4).size + a1.size ≤ 9223372036854775807 then (if ((t185 ++ (⟨#[0]⟩ : ByteArray)) ++ t186).size + 2 ≤ 9223372036854775807 then (if (((t185 ++ (⟨#[0]⟩ : ByteArray)) ++ t186) ++ (⟨#[0, 0]⟩ : ByteArray)).size + (((⟨#[0, 0]⟩ : ByteArray) ++ x9_4) ++ a1).size ≤ 9223372036854775807 then ((palanquinref02_Sum.f kj4 ((((t185 ++ (⟨#[0]⟩ : ByteArray)) ++ t186) ++ (⟨#[0, 0]⟩ : ByteArray)) ++ (((⟨#[0, 0]⟩ : ByteArray) ++ x9_4) ++ a1))).bind fun t187 => ((palanquinref01_Bytes.f kj4 (IntKind.u64.wrap (t187)) 2).bind fun t188 => (if ((t185 ++ (⟨#[0]⟩ : ByteArray)) ++ t186).size + t188.size ≤ 9223372036854775807 then (if (((t185 ++ (⟨#[0]⟩ : ByteArray)) ++ t186) ++ t188).size + (((⟨#[0, 0]⟩ : ByteArray) ++ x9_4) ++ a1).size ≤ 9223372036854775807 then (some ((((t185 ++ (⟨#[0]⟩ : ByteArray)) ++ t186) ++ t188) ++ (((⟨#[0, 0]⟩ : ByteArray) ++ x9_4) ++ a1), 0)) else (none)) else (none)))) else (none)) else (none)) else (none)) else (none)) else (none))) else (none)) = some (r1, r2) := H
          have A13 := Aside0.mk A130
          clear A130
          by_cases c14 : t185.size + 1 ≤ 9223372036854775807
          · rw [if_pos c14] at H
            have c14b0 := eq_true c14
            have c14b1 : decide (t185.size + 1 ≤ 9223372036854775807) = true := decide_eq_true c14
            try have c14b2 : (9223372036854775807 < t185.size + 1) = False := eq_false (Nat.not_lt.2 c14)
            replace H := Option.bind_eq_some_iff.mp H
            obtain ⟨t186, A150, H⟩ := H
            replace H : (if (t185 ++ (⟨#[0]⟩ : ByteArray)).size + t186.size ≤ 9223372036854775807 then (if 2 + x9_4.size ≤ 9223372036854775807 then (if ((⟨#[0, 0]⟩ : ByteArray) ++ x9_4).size + a1.size ≤ 9223372036854775807 then (if ((t185 ++ (⟨#[0]⟩ : ByteArray)) ++ t186).size + 2 ≤ 9223372036854775807 then (if (((t185 ++ (⟨#[0]⟩ : ByteArray)) ++ t186) ++ (⟨#[0, 0]⟩ : ByteArray)).size + (((⟨#[0, 0]⟩ : ByteArray) ++ x9_4) ++ a1).size ≤ 9223372036854775807 then ((palanquinref02_Sum.f kj4 ((((t185 ++ (⟨#[0]⟩ : ByteArray)) ++ t186) ++ (⟨#[0, 0]⟩ : ByteArray)) ++ (((⟨#[0, 0]⟩ : ByteArray) ++ x9_4) ++ a1))).bind fun t187 => ((palanquinref01_Bytes.f kj4 (IntKind.u64.wrap (t187)) 2).bind fun t188 => (if ((t185 ++ (⟨#[0]⟩ : ByteArray)) ++ t186).size + t188.size ≤ 9223372036854775807 then (if (((t185 ++ (⟨#[0]⟩ : ByteArray)) ++ t186) ++ t188).size + (((⟨#[0, 0]⟩ : ByteArray) ++ x9_4) ++ a1).size ≤ 9223372036854775807 then (some ((((t185 ++ (⟨#[0]⟩ : ByteArray)) ++ t186) ++ t188) ++ (((⟨#[0, 0]⟩ : ByteArray) ++ x9_4) ++ a1), 0)) else (none)) else (none)))) else (none)) else (none)) else (none)) else (none)) else (none)) = some (r1, r2) := H
            have A15 := Aside0.mk A150
            clear A150
            by_cases c16 : (t185 ++ (⟨#[0]⟩ : ByteArray)).size + t186.size ≤ 9223372036854775807
            · rw [if_pos c16] at H
              have c16b0 := eq_true c16
              have c16b1 : decide ((t185 ++ (⟨#[0]⟩ : ByteArray)).size + t186.size ≤ 9223372036854775807) = true := decide_eq_true c16
              try have c16b2 : (9223372036854775807 < (t185 ++ (⟨#[0]⟩ : ByteArray)).size + t186.size) = False := eq_false (Nat.not_lt.2 c16)
              try have c16b3 : (9223372036854775807 < (t185.size) + 1 + t186.size) = False := eq_false (by have h_ := c16; simp only [ByteArray.size_append] at h_; have zl0_ : (⟨#[0]⟩ : ByteArray).size = 1 := rfl; omega)
              try have c16b4 : ((t185.size) + 1 + t186.size ≤ 9223372036854775807) = True := eq_true (by have h_ := c16; simp only [ByteArray.size_append] at h_; have zl0_ : (⟨#[0]⟩ : ByteArray).size = 1 := rfl; omega)
              by_cases c17 : 2 + x9_4.size ≤ 9223372036854775807
              · rw [if_pos c17] at H
                have c17b0 := eq_true c17
                have c17b1 : decide (2 + x9_4.size ≤ 9223372036854775807) = true := decide_eq_true c17
                try have c17b2 : (9223372036854775807 < 2 + x9_4.size) = False := eq_false (Nat.not_lt.2 c17)
                by_cases c18 : ((⟨#[0, 0]⟩ : ByteArray) ++ x9_4).size + a1.size ≤ 9223372036854775807
                · rw [if_pos c18] at H
                  have c18b0 := eq_true c18
                  have c18b1 : decide (((⟨#[0, 0]⟩ : ByteArray) ++ x9_4).size + a1.size ≤ 9223372036854775807) = true := decide_eq_true c18
                  try have c18b2 : (9223372036854775807 < ((⟨#[0, 0]⟩ : ByteArray) ++ x9_4).size + a1.size) = False := eq_false (Nat.not_lt.2 c18)
                  try have c18b3 : (9223372036854775807 < 2 + (x9_4.size) + a1.size) = False := eq_false (by have h_ := c18; simp only [ByteArray.size_append] at h_; have zl0_ : (⟨#[0, 0]⟩ : ByteArray).size = 2 := rfl; omega)
                  try have c18b4 : (2 + (x9_4.size) + a1.size ≤ 9223372036854775807) = True := eq_true (by have h_ := c18; simp only [ByteArray.size_append] at h_; have zl0_ : (⟨#[0, 0]⟩ : ByteArray).size = 2 := rfl; omega)
                  by_cases c19 : ((t185 ++ (⟨#[0]⟩ : ByteArray)) ++ t186).size + 2 ≤ 9223372036854775807
                  · rw [if_pos c19] at H
                    have c19b0 := eq_true c19
                    have c19b1 : decide (((t185 ++ (⟨#[0]⟩ : ByteArray)) ++ t186).size + 2 ≤ 9223372036854775807) = true := decide_eq_true c19
                    try have c19b2 : (9223372036854775807 < ((t185 ++ (⟨#[0]⟩ : ByteArray)) ++ t186).size + 2) = False := eq_false (Nat.not_lt.2 c19)
                    try have c19b3 : (9223372036854775807 < (t185.size) + 1 + (t186.size) + 2) = False := eq_false (by have h_ := c19; simp only [ByteArray.size_append] at h_; have zl0_ : (⟨#[0]⟩ : ByteArray).size = 1 := rfl; omega)
                    try have c19b4 : ((t185.size) + 1 + (t186.size) + 2 ≤ 9223372036854775807) = True := eq_true (by have h_ := c19; simp only [ByteArray.size_append] at h_; have zl0_ : (⟨#[0]⟩ : ByteArray).size = 1 := rfl; omega)
                    by_cases c20 : (((t185 ++ (⟨#[0]⟩ : ByteArray)) ++ t186) ++ (⟨#[0, 0]⟩ : ByteArray)).size + (((⟨#[0, 0]⟩ : ByteArray) ++ x9_4) ++ a1).size ≤ 9223372036854775807
                    · rw [if_pos c20] at H
                      have c20b0 := eq_true c20
                      have c20b1 : decide ((((t185 ++ (⟨#[0]⟩ : ByteArray)) ++ t186) ++ (⟨#[0, 0]⟩ : ByteArray)).size + (((⟨#[0, 0]⟩ : ByteArray) ++ x9_4) ++ a1).size ≤ 9223372036854775807) = true := decide_eq_true c20
                      try have c20b2 : (9223372036854775807 < (((t185 ++ (⟨#[0]⟩ : ByteArray)) ++ t186) ++ (⟨#[0, 0]⟩ : ByteArray)).size + (((⟨#[0, 0]⟩ : ByteArray) ++ x9_4) ++ a1).size) = False := eq_false (Nat.not_lt.2 c20)
                      try have c20b3 : (9223372036854775807 < (t185.size) + 1 + (t186.size) + 2 + (2 + (x9_4.size) + (a1.size))) = False := eq_false (by have h_ := c20; simp only [ByteArray.size_append] at h_; have zl0_ : (⟨#[0, 0]⟩ : ByteArray).size = 2 := rfl; have zl1_ : (⟨#[0]⟩ : ByteArray).size = 1 := rfl; omega)
                      try have c20b4 : ((t185.size) + 1 + (t186.size) + 2 + (2 + (x9_4.size) + (a1.size)) ≤ 9223372036854775807) = True := eq_true (by have h_ := c20; simp only [ByteArray.size_append] at h_; have zl0_ : (⟨#[0, 0]⟩ : ByteArray).size = 2 := rfl; have zl1_ : (⟨#[0]⟩ : ByteArray).size = 1 := rfl; omega)
                      replace H := Option.bind_eq_some_iff.mp H
                      obtain ⟨t187, A210, H⟩ := H
                      replace H : ((palanquinref01_Bytes.f kj4 (IntKind.u64.wrap (t187)) 2).bind fun t188 => (if ((t185 ++ (⟨#[0]⟩ : ByteArray)) ++ t186).size + t188.size ≤ 9223372036854775807 then (if (((t185 ++ (⟨#[0]⟩ : ByteArray)) ++ t186) ++ t188).size + (((⟨#[0, 0]⟩ : ByteArray) ++ x9_4) ++ a1).size ≤ 9223372036854775807 then (some ((((t185 ++ (⟨#[0]⟩ : ByteArray)) ++ t186) ++ t188) ++ (((⟨#[0, 0]⟩ : ByteArray) ++ x9_4) ++ a1), 0)) else (none)) else (none))) = some (r1, r2) := H
                      have A21 := Aside0.mk A210
                      clear A210
                      replace H := Option.bind_eq_some_iff.mp H
                      obtain ⟨t188, A220, H⟩ := H
                      replace H : (if ((t185 ++ (⟨#[0]⟩ : ByteArray)) ++ t186).size + t188.size ≤ 9223372036854775807 then (if (((t185 ++ (⟨#[0]⟩ : ByteArray)) ++ t186) ++ t188).size + (((⟨#[0, 0]⟩ : ByteArray) ++ x9_4) ++ a1).size ≤ 9223372036854775807 then (some ((((t185 ++ (⟨#[0]⟩ : ByteArray)) ++ t186) ++ t188) ++ (((⟨#[0, 0]⟩ : ByteArray) ++ x9_4) ++ a1), 0)) else (none)) else (none)) = some (r1, r2) := H
                      have A22 := Aside0.mk A220
                      clear A220
                      by_cases c23 : ((t185 ++ (⟨#[0]⟩ : ByteArray)) ++ t186).size + t188.size ≤ 9223372036854775807
                      · rw [if_pos c23] at H
                        have c23b0 := eq_true c23
                        have c23b1 : decide (((t185 ++ (⟨#[0]⟩ : ByteArray)) ++ t186).size + t188.size ≤ 9223372036854775807) = true := decide_eq_true c23
                        try have c23b2 : (9223372036854775807 < ((t185 ++ (⟨#[0]⟩ : ByteArray)) ++ t186).size + t188.size) = False := eq_false (Nat.not_lt.2 c23)
                        try have c23b3 : (9223372036854775807 < (t185.size) + 1 + (t186.size) + t188.size) = False := eq_false (by have h_ := c23; simp only [ByteArray.size_append] at h_; have zl0_ : (⟨#[0]⟩ : ByteArray).size = 1 := rfl; omega)
                        try have c23b4 : ((t185.size) + 1 + (t186.size) + t188.size ≤ 9223372036854775807) = True := eq_true (by have h_ := c23; simp only [ByteArray.size_append] at h_; have zl0_ : (⟨#[0]⟩ : ByteArray).size = 1 := rfl; omega)
                        by_cases c24 : (((t185 ++ (⟨#[0]⟩ : ByteArray)) ++ t186) ++ t188).size + (((⟨#[0, 0]⟩ : ByteArray) ++ x9_4) ++ a1).size ≤ 9223372036854775807
                        · rw [if_pos c24] at H
                          have c24b0 := eq_true c24
                          have c24b1 : decide ((((t185 ++ (⟨#[0]⟩ : ByteArray)) ++ t186) ++ t188).size + (((⟨#[0, 0]⟩ : ByteArray) ++ x9_4) ++ a1).size ≤ 9223372036854775807) = true := decide_eq_true c24
                          try have c24b2 : (9223372036854775807 < (((t185 ++ (⟨#[0]⟩ : ByteArray)) ++ t186) ++ t188).size + (((⟨#[0, 0]⟩ : ByteArray) ++ x9_4) ++ a1).size) = False := eq_false (Nat.not_lt.2 c24)
                          try have c24b3 : (9223372036854775807 < (t185.size) + 1 + (t186.size) + (t188.size) + (2 + (x9_4.size) + (a1.size))) = False := eq_false (by have h_ := c24; simp only [ByteArray.size_append] at h_; have zl0_ : (⟨#[0, 0]⟩ : ByteArray).size = 2 := rfl; have zl1_ : (⟨#[0]⟩ : ByteArray).size = 1 := rfl; omega)
                          try have c24b4 : ((t185.size) + 1 + (t186.size) + (t188.size) + (2 + (x9_4.size) + (a1.size)) ≤ 9223372036854775807) = True := eq_true (by have h_ := c24; simp only [ByteArray.size_append] at h_; have zl0_ : (⟨#[0, 0]⟩ : ByteArray).size = 2 := rfl; have zl1_ : (⟨#[0]⟩ : ByteArray).size = 1 := rfl; omega)
                          simp only [Option.some.injEq, Prod.mk.injEq] at H
                          obtain ⟨rfl, rfl⟩ := H
                          have hcz25_0 : wc.cell? ⟨gb179, 0, none⟩ = some (.bool true) := (blk_cell BK179.out 0).trans rfl
                          have hcz25_1 : wc.cell? ⟨gb179, 1, none⟩ = some (.bool a0_1) := (blk_cell BK179.out 1).trans rfl
                          have hcz25_2 : wc.cell? ⟨gb179, 2, none⟩ = some (.int .u32 a0_2) := (blk_cell BK179.out 2).trans rfl
                          have hfz25_0 := blk_frozen BK179.out 0
                          have hfz25_1 := blk_frozen BK179.out 1
                          have hfz25_2 := blk_frozen BK179.out 2
                          go_wp2_with (first | ((with_reducible refine gate_callee (f := 61) rfl ?_); refine goesL_ (some 44) rfl rfl Tryd.func61 (by kernel_rfl) rfl #[.int .u64 (IntKind.u64.wrap (wrap64 (x8_4 + 128))), .int .i64 1] rfl (by (try simp only [List.map_toArray, List.map_cons, List.map_nil]); first | done | rfl | (simp only [List.length_drop, List.length_take]; rfl)) ?_; (with_reducible refine (palanquinref01_Bytes.calls kj4 (IntKind.u64.wrap (wrap64 (x8_4 + 128))) 1 t185 _ A13.out).mono ?_); rintro e w26 ⟨rfl, hb⟩; refine ⟨_, rfl, ?_⟩; have n0_ := Aside0.mk (blk_below (g := gb179) (o := .cells #[.bool true, .bool a0_1, .int .u32 a0_2] 42 (0, 0)) (by (with_reducible repeat (first | refine blk_drewN ?_ _ | refine blk_drew ?_ | refine blk_alloc ?_ _)); exact BK179.out) hb); have n1_ := Aside0.mk (below_step (by repeat (first | (with_reducible first | exact HB.out | apply below_alloc | apply pw_below_drewN | apply below_drew1 | refine below_set ?_ GE179.out) | exact HB.out)) hb); clear BK179; clear HB; have BK179 := n0_; have HB := n1_; clear n0_ n1_; (try clear hb); (try clear hb2); (try clear hk); (try clear hi)) | ((with_reducible refine gate_callee (f := 61) rfl ?_); refine goesL_ (some 48) rfl rfl Tryd.func61 (by kernel_rfl) rfl #[.int .u64 (IntKind.u64.wrap (t180)), .int .i64 2] rfl (by (try simp only [List.map_toArray, List.map_cons, List.map_nil]); first | done | rfl | (simp only [List.length_drop, List.length_take]; rfl)) ?_; (with_reducible refine (palanquinref01_Bytes.calls kj4 (IntKind.u64.wrap (t180)) 2 t186 _ A15.out).mono ?_); rintro e w27 ⟨rfl, hb⟩; refine ⟨_, rfl, ?_⟩; have n0_ := Aside0.mk (blk_below (g := gb179) (o := .cells #[.bool true, .bool a0_1, .int .u32 a0_2] 42 (0, 0)) (by (with_reducible repeat (first | refine blk_drewN ?_ _ | refine blk_drew ?_ | refine blk_alloc ?_ _)); exact BK179.out) hb); have n1_ := Aside0.mk (below_step (by repeat (first | (with_reducible first | exact HB.out | apply below_alloc | apply pw_below_drewN | apply below_drew1 | refine below_set ?_ GE179.out) | exact HB.out)) hb); clear BK179; clear HB; have BK179 := n0_; have HB := n1_; clear n0_ n1_; (try clear hb); (try clear hb2); (try clear hk); (try clear hi)) | ((with_reducible refine gate_callee (f := 62) rfl ?_); refine goesL_ (some 59) rfl rfl Tryd.func62 (by kernel_rfl) rfl #[.string ((((t185 ++ (⟨#[0]⟩ : ByteArray)) ++ t186) ++ (⟨#[0, 0]⟩ : ByteArray)) ++ (((⟨#[0, 0]⟩ : ByteArray) ++ x9_4) ++ a1))] rfl (by (try simp only [List.map_toArray, List.map_cons, List.map_nil]); first | done | rfl | (simp only [List.length_drop, List.length_take]; rfl)) ?_; (with_reducible refine (palanquinref02_Sum.calls kj4 ((((t185 ++ (⟨#[0]⟩ : ByteArray)) ++ t186) ++ (⟨#[0, 0]⟩ : ByteArray)) ++ (((⟨#[0, 0]⟩ : ByteArray) ++ x9_4) ++ a1)) t187 _ A21.out).mono ?_); rintro e w28 ⟨rfl, hb⟩; refine ⟨_, rfl, ?_⟩; have n0_ := Aside0.mk (blk_below (g := gb179) (o := .cells #[.bool true, .bool a0_1, .int .u32 a0_2] 42 (0, 0)) (by (with_reducible repeat (first | refine blk_drewN ?_ _ | refine blk_drew ?_ | refine blk_alloc ?_ _)); exact BK179.out) hb); have n1_ := Aside0.mk (below_step (by repeat (first | (with_reducible first | exact HB.out | apply below_alloc | apply pw_below_drewN | apply below_drew1 | refine below_set ?_ GE179.out) | exact HB.out)) hb); clear BK179; clear HB; have BK179 := n0_; have HB := n1_; clear n0_ n1_; (try clear hb); (try clear hb2); (try clear hk); (try clear hi)) | ((with_reducible refine gate_callee (f := 61) rfl ?_); refine goesL_ (some 61) rfl rfl Tryd.func61 (by kernel_rfl) rfl #[.int .u64 (IntKind.u64.wrap (t187)), .int .i64 2] rfl (by (try simp only [List.map_toArray, List.map_cons, List.map_nil]); first | done | rfl | (simp only [List.length_drop, List.length_take]; rfl)) ?_; (with_reducible refine (palanquinref01_Bytes.calls kj4 (IntKind.u64.wrap (t187)) 2 t188 _ A22.out).mono ?_); rintro e w29 ⟨rfl, hb⟩; refine ⟨_, rfl, ?_⟩; have n0_ := Aside0.mk (blk_below (g := gb179) (o := .cells #[.bool true, .bool a0_1, .int .u32 a0_2] 42 (0, 0)) (by (with_reducible repeat (first | refine blk_drewN ?_ _ | refine blk_drew ?_ | refine blk_alloc ?_ _)); exact BK179.out) hb); have n1_ := Aside0.mk (below_step (by repeat (first | (with_reducible first | exact HB.out | apply below_alloc | apply pw_below_drewN | apply below_drew1 | refine below_set ?_ GE179.out) | exact HB.out)) hb); clear BK179; clear HB; have BK179 := n0_; have HB := n1_; clear n0_ n1_; (try clear hb); (try clear hb2); (try clear hk); (try clear hi)))
                          go_ret2
                          exact ⟨by first | rfl | (simp [errW_none, errW_some] <;> rfl) | (simp [*, errW_none, errW_some] <;> rfl), by repeat (first | (with_reducible first | exact HB.out | apply below_alloc | apply pw_below_drewN | apply below_drew1 | refine below_set ?_ GE179.out) | exact HB.out)⟩
                        · rw [if_neg c24] at H
                          exact absurd H (by simp)
                      · rw [if_neg c23] at H
                        exact absurd H (by simp)
                    · rw [if_neg c20] at H
                      exact absurd H (by simp)
                  · rw [if_neg c19] at H
                    exact absurd H (by simp)
                · rw [if_neg c18] at H
                  exact absurd H (by simp)
              · rw [if_neg c17] at H
                exact absurd H (by simp)
            · rw [if_neg c16] at H
              exact absurd H (by simp)
          · rw [if_neg c14] at H
            exact absurd H (by simp)
        · replace c12 := Bool.eq_false_iff.mpr c12
          subst c12
          have H1 : ((palanquinref01_Bytes.f kj4 (IntKind.u64.wrap (x8_4)) 1).bind fun t183 => (if t183.size + 1 ≤ 9223372036854775807 then ((palanquinref01_Bytes.f kj4 (IntKind.u64.wrap (t180)) 2).bind fun t184 => (if (t183 ++ (⟨#[0]⟩ : ByteArray)).size + t184.size ≤ 9223372036854775807 then (if ((t183 ++ (⟨#[0]⟩ : ByteArray)) ++ t184).size + x9_4.size ≤ 9223372036854775807 then (if (((t183 ++ (⟨#[0]⟩ : ByteArray)) ++ t184) ++ x9_4).size + a1.size ≤ 9223372036854775807 then (some ((((t183 ++ (⟨#[0]⟩ : ByteArray)) ++ t184) ++ x9_4) ++ a1, 0)) else (none)) else (none)) else (none))) else (none))) = some (r1, r2) := by rw [if_neg (show ¬ (false = true) by decide)] at H; exact H
          clear H
          have H := H1
          clear H1
          replace H := Option.bind_eq_some_iff.mp H
          obtain ⟨t183, A300, H⟩ := H
          replace H : (if t183.size + 1 ≤ 9223372036854775807 then ((palanquinref01_Bytes.f kj4 (IntKind.u64.wrap (t180)) 2).bind fun t184 => (if (t183 ++ (⟨#[0]⟩ : ByteArray)).size + t184.size ≤ 9223372036854775807 then (if ((t183 ++ (⟨#[0]⟩ : ByteArray)) ++ t184).size + x9_4.size ≤ 9223372036854775807 then (if (((t183 ++ (⟨#[0]⟩ : ByteArray)) ++ t184) ++ x9_4).size + a1.size ≤ 9223372036854775807 then (some ((((t183 ++ (⟨#[0]⟩ : ByteArray)) ++ t184) ++ x9_4) ++ a1, 0)) else (none)) else (none)) else (none))) else (none)) = some (r1, r2) := H
          have A30 := Aside0.mk A300
          clear A300
          by_cases c31 : t183.size + 1 ≤ 9223372036854775807
          · rw [if_pos c31] at H
            have c31b0 := eq_true c31
            have c31b1 : decide (t183.size + 1 ≤ 9223372036854775807) = true := decide_eq_true c31
            try have c31b2 : (9223372036854775807 < t183.size + 1) = False := eq_false (Nat.not_lt.2 c31)
            replace H := Option.bind_eq_some_iff.mp H
            obtain ⟨t184, A320, H⟩ := H
            replace H : (if (t183 ++ (⟨#[0]⟩ : ByteArray)).size + t184.size ≤ 9223372036854775807 then (if ((t183 ++ (⟨#[0]⟩ : ByteArray)) ++ t184).size + x9_4.size ≤ 9223372036854775807 then (if (((t183 ++ (⟨#[0]⟩ : ByteArray)) ++ t184) ++ x9_4).size + a1.size ≤ 9223372036854775807 then (some ((((t183 ++ (⟨#[0]⟩ : ByteArray)) ++ t184) ++ x9_4) ++ a1, 0)) else (none)) else (none)) else (none)) = some (r1, r2) := H
            have A32 := Aside0.mk A320
            clear A320
            by_cases c33 : (t183 ++ (⟨#[0]⟩ : ByteArray)).size + t184.size ≤ 9223372036854775807
            · rw [if_pos c33] at H
              have c33b0 := eq_true c33
              have c33b1 : decide ((t183 ++ (⟨#[0]⟩ : ByteArray)).size + t184.size ≤ 9223372036854775807) = true := decide_eq_true c33
              try have c33b2 : (9223372036854775807 < (t183 ++ (⟨#[0]⟩ : ByteArray)).size + t184.size) = False := eq_false (Nat.not_lt.2 c33)
              try have c33b3 : (9223372036854775807 < (t183.size) + 1 + t184.size) = False := eq_false (by have h_ := c33; simp only [ByteArray.size_append] at h_; have zl0_ : (⟨#[0]⟩ : ByteArray).size = 1 := rfl; omega)
              try have c33b4 : ((t183.size) + 1 + t184.size ≤ 9223372036854775807) = True := eq_true (by have h_ := c33; simp only [ByteArray.size_append] at h_; have zl0_ : (⟨#[0]⟩ : ByteArray).size = 1 := rfl; omega)
              by_cases c34 : ((t183 ++ (⟨#[0]⟩ : ByteArray)) ++ t184).size + x9_4.size ≤ 9223372036854775807
              · rw [if_pos c34] at H
                have c34b0 := eq_true c34
                have c34b1 : decide (((t183 ++ (⟨#[0]⟩ : ByteArray)) ++ t184).size + x9_4.size ≤ 9223372036854775807) = true := decide_eq_true c34
                try have c34b2 : (9223372036854775807 < ((t183 ++ (⟨#[0]⟩ : ByteArray)) ++ t184).size + x9_4.size) = False := eq_false (Nat.not_lt.2 c34)
                try have c34b3 : (9223372036854775807 < (t183.size) + 1 + (t184.size) + x9_4.size) = False := eq_false (by have h_ := c34; simp only [ByteArray.size_append] at h_; have zl0_ : (⟨#[0]⟩ : ByteArray).size = 1 := rfl; omega)
                try have c34b4 : ((t183.size) + 1 + (t184.size) + x9_4.size ≤ 9223372036854775807) = True := eq_true (by have h_ := c34; simp only [ByteArray.size_append] at h_; have zl0_ : (⟨#[0]⟩ : ByteArray).size = 1 := rfl; omega)
                by_cases c35 : (((t183 ++ (⟨#[0]⟩ : ByteArray)) ++ t184) ++ x9_4).size + a1.size ≤ 9223372036854775807
                · rw [if_pos c35] at H
                  have c35b0 := eq_true c35
                  have c35b1 : decide ((((t183 ++ (⟨#[0]⟩ : ByteArray)) ++ t184) ++ x9_4).size + a1.size ≤ 9223372036854775807) = true := decide_eq_true c35
                  try have c35b2 : (9223372036854775807 < (((t183 ++ (⟨#[0]⟩ : ByteArray)) ++ t184) ++ x9_4).size + a1.size) = False := eq_false (Nat.not_lt.2 c35)
                  try have c35b3 : (9223372036854775807 < (t183.size) + 1 + (t184.size) + (x9_4.size) + a1.size) = False := eq_false (by have h_ := c35; simp only [ByteArray.size_append] at h_; have zl0_ : (⟨#[0]⟩ : ByteArray).size = 1 := rfl; omega)
                  try have c35b4 : ((t183.size) + 1 + (t184.size) + (x9_4.size) + a1.size ≤ 9223372036854775807) = True := eq_true (by have h_ := c35; simp only [ByteArray.size_append] at h_; have zl0_ : (⟨#[0]⟩ : ByteArray).size = 1 := rfl; omega)
                  simp only [Option.some.injEq, Prod.mk.injEq] at H
                  obtain ⟨rfl, rfl⟩ := H
                  have hcz36_0 : wc.cell? ⟨gb179, 0, none⟩ = some (.bool false) := (blk_cell BK179.out 0).trans rfl
                  have hcz36_1 : wc.cell? ⟨gb179, 1, none⟩ = some (.bool a0_1) := (blk_cell BK179.out 1).trans rfl
                  have hcz36_2 : wc.cell? ⟨gb179, 2, none⟩ = some (.int .u32 a0_2) := (blk_cell BK179.out 2).trans rfl
                  have hfz36_0 := blk_frozen BK179.out 0
                  have hfz36_1 := blk_frozen BK179.out 1
                  have hfz36_2 := blk_frozen BK179.out 2
                  go_wp2_with (first | ((with_reducible refine gate_callee (f := 61) rfl ?_); refine goesL_ (some 31) rfl rfl Tryd.func61 (by kernel_rfl) rfl #[.int .u64 (IntKind.u64.wrap (x8_4)), .int .i64 1] rfl (by (try simp only [List.map_toArray, List.map_cons, List.map_nil]); first | done | rfl | (simp only [List.length_drop, List.length_take]; rfl)) ?_; (with_reducible refine (palanquinref01_Bytes.calls kj4 (IntKind.u64.wrap (x8_4)) 1 t183 _ A30.out).mono ?_); rintro e w37 ⟨rfl, hb⟩; refine ⟨_, rfl, ?_⟩; have n0_ := Aside0.mk (blk_below (g := gb179) (o := .cells #[.bool false, .bool a0_1, .int .u32 a0_2] 42 (0, 0)) (by (with_reducible repeat (first | refine blk_drewN ?_ _ | refine blk_drew ?_ | refine blk_alloc ?_ _)); exact BK179.out) hb); have n1_ := Aside0.mk (below_step (by repeat (first | (with_reducible first | exact HB.out | apply below_alloc | apply pw_below_drewN | apply below_drew1 | refine below_set ?_ GE179.out) | exact HB.out)) hb); clear BK179; clear HB; have BK179 := n0_; have HB := n1_; clear n0_ n1_; (try clear hb); (try clear hb2); (try clear hk); (try clear hi)) | ((with_reducible refine gate_callee (f := 61) rfl ?_); refine goesL_ (some 35) rfl rfl Tryd.func61 (by kernel_rfl) rfl #[.int .u64 (IntKind.u64.wrap (t180)), .int .i64 2] rfl (by (try simp only [List.map_toArray, List.map_cons, List.map_nil]); first | done | rfl | (simp only [List.length_drop, List.length_take]; rfl)) ?_; (with_reducible refine (palanquinref01_Bytes.calls kj4 (IntKind.u64.wrap (t180)) 2 t184 _ A32.out).mono ?_); rintro e w38 ⟨rfl, hb⟩; refine ⟨_, rfl, ?_⟩; have n0_ := Aside0.mk (blk_below (g := gb179) (o := .cells #[.bool false, .bool a0_1, .int .u32 a0_2] 42 (0, 0)) (by (with_reducible repeat (first | refine blk_drewN ?_ _ | refine blk_drew ?_ | refine blk_alloc ?_ _)); exact BK179.out) hb); have n1_ := Aside0.mk (below_step (by repeat (first | (with_reducible first | exact HB.out | apply below_alloc | apply pw_below_drewN | apply below_drew1 | refine below_set ?_ GE179.out) | exact HB.out)) hb); clear BK179; clear HB; have BK179 := n0_; have HB := n1_; clear n0_ n1_; (try clear hb); (try clear hb2); (try clear hk); (try clear hi)))
                  go_ret2
                  exact ⟨by first | rfl | (simp [errW_none, errW_some] <;> rfl) | (simp [*, errW_none, errW_some] <;> rfl), by repeat (first | (with_reducible first | exact HB.out | apply below_alloc | apply pw_below_drewN | apply below_drew1 | refine below_set ?_ GE179.out) | exact HB.out)⟩
                · rw [if_neg c35] at H
                  exact absurd H (by simp)
              · rw [if_neg c34] at H
                exact absurd H (by simp)
            · rw [if_neg c33] at H
              exact absurd H (by simp)
          · rw [if_neg c31] at H
            exact absurd H (by simp)
  · rw [if_neg c4] at H
    have c4b0 : (t181 == 0) = false := beq_eq_false_iff_ne.mpr c4
    have c4b1 : (t181 != 0) = true := bne_iff_ne.mpr c4
    simp only [Option.some.injEq, Prod.mk.injEq] at H
    obtain ⟨rfl, rfl⟩ := H
    go_enter Tryd.func30, Tryd.ntmps30
    go_wp2_with (first | ((with_reducible refine gate_dst (N := 2) rfl ?_); refine box_event ?hg (N := 2) ?hd (cs := #[.bool a0_0, .bool a0_1, .int .u32 a0_2]) (t := 42) ?hr ?_; (case hd => rfl); (case hg => rfl); (case hr => first | (go_simp; done) | (go_simp; rfl)); intro gb179 hg w39 hbox hb; have n0_ := Aside0.mk (below_step (by repeat (first | (with_reducible first | exact HB.out | apply below_alloc | apply pw_below_drewN | apply below_drew1) | exact HB.out)) hb); have n1_ := Aside0.mk (hbox); have n2_ := Aside0.mk ((by rw [hg]; exact (below_size (by repeat (first | (with_reducible first | exact HB.out | apply below_alloc | apply pw_below_drewN | apply below_drew1) | exact HB.out))) : w.heap.size ≤ gb179)); have n3_ := Aside0.mk ((by rw [hg]; exact (below_size (by repeat (first | (with_reducible first | exact HB.out | apply below_alloc | apply pw_below_drewN | apply below_drew1) | exact HB.out))) : w.heap.size ≤ gb179)); clear HB; have HB := n0_; have BK179 := n1_; have GW179 := n2_; have GE179 := n3_; clear n0_ n1_ n2_ n3_; clear hb hbox hg) | ((with_reducible refine gate_callee (f := 26) rfl ?_); refine goesL_ (some 14) rfl rfl Tryd.func26 (by kernel_rfl) rfl #[.string a1] rfl (by (try simp only [List.map_toArray, List.map_cons, List.map_nil]); first | done | rfl | (simp only [List.length_drop, List.length_take]; rfl)) ?_; (with_reducible refine (palanquinref11_Kind.calls a1 t180 t181 _ A3.out).mono ?_); rintro e w' ⟨rfl, ⟨nd, rfl⟩⟩; refine ⟨_, rfl, ?_⟩))
    go_ret2
    exact ⟨by first | rfl | (simp [errW_none, errW_some] <;> rfl) | (simp [*, errW_none, errW_some] <;> rfl), by repeat (first | (with_reducible first | exact HB.out | apply below_alloc | apply pw_below_drewN | apply below_drew1 | refine below_set ?_ GE179.out) | exact HB.out)⟩

end Go.Proofs.YtcmalglippmocaaDoor.G
end
