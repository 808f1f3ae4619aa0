/- Texts of this session, joined: each is a section. -/
import Derived.Test.YtcmalglippmocaaDoorMGueb1
import Derived.Test.YtcmalglippmocaaDoorMGueb5
set_option linter.unusedVariables false
set_option linter.unusedSimpArgs false
section
/- Short names for facts that printed walks of great laws use some hundred times each (a file of a claim has at most 300,000 bytes). -/
namespace Go.Proofs.YtcmalglippmocaaDoor.G
open Go.RowKit Go.Proofs.YtcmalglippmocaaDoorW.PrintWords Go.Proofs.YtcmalglippmocaaDoorW.PrintLast Go.Proofs.YtcmalglippmocaaDoorW.PrintMore
theorem kN {w : World} {g : Nat} {o : Obj} (h : w.heap[g]? = some o) (n : Nat) : (w.drewN n).heap[g]? = some o := blk_drewN h n
theorem kD {w : World} {g : Nat} {o : Obj} (h : w.heap[g]? = some o) : w.drew.heap[g]? = some o := blk_drew h
theorem kA {w : World} {g : Nat} {o : Obj} (h : w.heap[g]? = some o) (o' : Obj) : (w.alloc o').heap[g]? = some o := blk_alloc h o'
theorem bN {B : Nat} {w W : World} (h : Below B w W) (n : Nat) : Below B w (W.drewN n) := pw_below_drewN h n
theorem bA {w W : World} (h : Below w.heap.size w W) (o : Obj) : Below w.heap.size w (W.alloc o) := below_alloc h o
theorem bD {base : Nat} {w W : World} (h : Below base w W) : Below base w W.drew := below_drew1 h
theorem bS {w W : World} {g j : Nat} {v : Value} (h : Below w.heap.size w W) (hg : w.heap.size ≤ g) : Below w.heap.size w (W.setCell ⟨g, j, none⟩ v) := below_set h hg
theorem bP {w W w2 : World} (h : Below w.heap.size w W) (k : Below W.heap.size W w2) : Below w.heap.size w w2 := below_step h k
theorem zF {w : World} {g : Nat} {t : TypeId} {cs : Array Value} (h : w.heap[g]? = some (.cells cs t)) (i : Nat) : w.frozen? ⟨g, i, none⟩ = false := blk_frozen h i
theorem zC {w : World} {g : Nat} {t : TypeId} {cs : Array Value} (h : w.heap[g]? = some (.cells cs t)) (i : Nat) : w.cell? ⟨g, i, none⟩ = cs[i]? := blk_cell h i
theorem mA {p : Prop} (h : p) : Aside0 p := ⟨h⟩
end Go.Proofs.YtcmalglippmocaaDoor.G
end

section
namespace Go.Proofs.YtcmalglippmocaaDoor.G
open Go.RowKit Go.Proofs.YtcmalglippmocaaDoorW.PrintWords Go.Proofs.YtcmalglippmocaaDoorW.PrintLast Go.Proofs.YtcmalglippmocaaDoorW.PrintMore
attribute [local go_sem] max2_int min2_int max_two min_two max_three min_three max_four min_four   -- for this text's walks alone
set_option linter.unusedVariables false
set_option linter.unusedSimpArgs false

theorem eqA55 (d : Nat) (w : World) (x0 y0 : Int) (x1 y1 : Bool) :
  (Op.equalIn (d + 2) 55 (.agg #[.int .i64 x0, .bool x1]) (.agg #[.int .i64 y0, .bool y1])).run Tryd.prog w = .ok (x0 == y0 && (x1 == y1)) w := by
 refine eqA_of Tryd.underlying55 (by kernel_rfl) ?_
 refine eqf_cons (by rfl) (by go_simp; rfl) (by go_simp; rfl) (by go_simp) ?_
 exact eqf_last (by rfl) (by go_simp; rfl) (by go_simp; rfl) (by go_simp)
end Go.Proofs.YtcmalglippmocaaDoor.G
end

section
namespace Go.Proofs.YtcmalglippmocaaDoor.G
open Go.RowKit Go.Proofs.YtcmalglippmocaaDoorW.PrintWords Go.Proofs.YtcmalglippmocaaDoorW.PrintLast Go.Proofs.YtcmalglippmocaaDoorW.PrintMore
attribute [local go_sem] max2_int min2_int max_two min_two max_three min_three max_four min_four   -- for this text's walks alone
set_option linter.unusedVariables false
set_option linter.unusedSimpArgs false

def r08_in.f (a0 : Int) : Option (Bool) := if a0 ≥ 0 then (some (decide (a0 ≤ 65535))) else (some false)
set_option maxHeartbeats 8000000 in
set_option maxRecDepth 100000 in
theorem r08_in.calls (a0 : Int) (r : Bool) (w : World) (h : r08_in.f a0 = some r) :
  Calls Tryd.prog 93 #[.int .i64 a0] w fun e w' => e = .returned (.bool r) ∧ Drawn0 w w' := by
 have H : (if a0 ≥ 0 then (some (decide (a0 ≤ 65535))) else (some false)) = some r := h
 clear h
 by_cases c2 : a0 ≥ 0
 ·rw [if_pos c2] at H
  have c2b0 : decide (0 ≤ a0) = true := decide_eq_true c2
  clear c2
  obtain rfl := Option.some.inj H
  go_enter Tryd.func93, Tryd.ntmps93
  go_wp2
  go_ret
  exact ⟨by first | rfl | (simp; done) | (simp [*]; done), by repeat (first | exact Drawn0.refl _ | apply Drawn0.step)⟩
 ·rw [if_neg c2] at H
  have c2b0 : decide (0 ≤ a0) = false := decide_eq_false c2
  clear c2
  obtain rfl := Option.some.inj H
  go_enter Tryd.func93, Tryd.ntmps93
  go_wp2
  go_ret
  exact ⟨by first | rfl | (simp; done) | (simp [*]; done), by repeat (first | exact Drawn0.refl _ | apply Drawn0.step)⟩

def r08_Check.j0 : Nat → Bool → Int → Int → ByteArray → Option (Int)
 | 0, _, _, _, _ => none
 | k + 1, x12, x284000, x284001, x284002 => if x12 = true then (some 1) else (if (x284002.size : Int) > 65527 then (some 4) else (some 0))
def r08_Check.f (k : Nat) (a0_0 : Int) (a0_1 : Int) (a0_2 : ByteArray) : Option (Int) := (r08_in.f a0_0).bind fun t284 => (if t284 = true then ((r08_in.f a0_1).bind fun t285 => (r08_Check.j0 k (!t285) a0_0 a0_1 a0_2)) else (r08_Check.j0 k true a0_0 a0_1 a0_2))
theorem r08_Check.mono_l : ∀ k, (∀ y0 y1 y2 y3, LeO (r08_Check.j0 k y0 y1 y2 y3) (r08_Check.j0 (k + 1) y0 y1 y2 y3))
 | 0 => fun _ _ _ _ r h => by simp [r08_Check.j0] at h
 | k + 1 => by
  have ih0 := r08_Check.mono_l k
  ·intro y0 y1 y2 y3
   unfold r08_Check.j0
   repeat' first
   | (with_reducible exact ih0 _ _ _ _)
   | (with_reducible exact LeO.refl _)
   | (with_reducible exact LeO.none _)
   | (with_reducible refine LeO.ite ?_ ?_)
   | (with_reducible refine LeO.bind ?_ (fun _ => ?_))
   | exact ih0 _ _ _ _
   | exact LeO.none _
   | refine LeO.ite ?_ ?_
   | refine LeO.bind ?_ (fun _ => ?_)
theorem r08_Check.mono : ∀ a0 a1 a2 k, LeO (r08_Check.f k a0 a1 a2) (r08_Check.f (k + 1) a0 a1 a2) := by
 intro a0 a1 a2 k
 have ih0 := r08_Check.mono_l k
 unfold r08_Check.f
 repeat' first
   | (with_reducible exact ih0 _ _ _ _)
   | (with_reducible exact LeO.refl _)
   | (with_reducible exact LeO.none _)
   | (with_reducible refine LeO.ite ?_ ?_)
   | (with_reducible refine LeO.bind ?_ (fun _ => ?_))
   | exact ih0 _ _ _ _
   | exact LeO.none _
   | refine LeO.ite ?_ ?_
   | refine LeO.bind ?_ (fun _ => ?_)
set_option maxHeartbeats 8000000 in
set_option maxRecDepth 100000 in
theorem r08_Check.calls (k : Nat) (a0_0 : Int) (a0_1 : Int) (a0_2 : ByteArray) (r : Int) (w : World) (h : r08_Check.f k a0_0 a0_1 a0_2 = some r) :
  Calls Tryd.prog 92 #[.agg #[.int .i64 a0_0, .int .i64 a0_1, .string a0_2]] w fun e w' => e = .returned (.int .i64 r) ∧ Below w.heap.size w w' := by
 have hu81 := Tryd.underlying81
 have HB := mA (Below.refl w.heap.size w)
 have H : ((r08_in.f a0_0).bind fun t284 => (if t284 = true then ((r08_in.f a0_1).bind fun t285 => (r08_Check.j0 k (!t285) a0_0 a0_1 a0_2)) else (r08_Check.j0 k true a0_0 a0_1 a0_2))) = some r := h
 clear h
 have HC2 := mA H
 clear H
 go_enter Tryd.func92, Tryd.ntmps92
 go_upto_region 1 with (first | ((with_reducible refine gate_dst (N := 1) rfl ?_); refine box_event ?hg (N := 1) ?hd (cs := #[.int .i64 a0_0, .int .i64 a0_1, .string a0_2]) (t := 81) ?hr ?_; (case hd => rfl); (case hg => rfl); (case hr => first | (go_simp; done) | (go_simp; rfl)); intro gb283 hg w3 hbox hb; have n0_ := mA (bP (by repeat (first | (with_reducible first | exact HB.out | apply bA | apply bN | apply bD) | exact HB.out)) hb); have n1_ := mA (hbox); have n2_ := mA ((by rw [hg]; exact (below_size (by repeat (first | (with_reducible first | exact HB.out | apply bA | apply bN | apply bD) | exact HB.out))) : w.heap.size ≤ gb283)); have n3_ := mA ((by rw [hg]; exact (below_size (by repeat (first | (with_reducible first | exact HB.out | apply bA | apply bN | apply bD) | exact HB.out))) : w.heap.size ≤ gb283)); clear HB; have HB := n0_; have BK283 := n1_; have GW283 := n2_; have GE283 := n3_; clear n0_ n1_ n2_ n3_; clear hb hbox hg))
 (try simp only [Act.put, List.setIfInBounds_toArray, List.set_cons_zero, List.set_cons_succ])
 go_cut [12] (fun v12 wc => ∃ (kq : Nat) (x12_1 : Bool), v12 = .bool x12_1 ∧ Aside0 (r08_Check.j0 kq x12_1 a0_0 a0_1 a0_2 = some r) ∧ Aside0 (kq ≤ k) ∧ Aside0 (wc.heap[gb283]? = some (.cells #[.int .i64 a0_0, .int .i64 a0_1, .string a0_2] 81 (0, 0))) ∧ Aside0 (Below w.heap.size w wc))
 case first =>
  have H := HC2.out
  clear HC2
  replace H := Option.bind_eq_some_iff.mp H
  obtain ⟨t284, A40, H⟩ := H
  replace H : (if t284 = true then ((r08_in.f a0_1).bind fun t285 => (r08_Check.j0 k (!t285) a0_0 a0_1 a0_2)) else (r08_Check.j0 k true a0_0 a0_1 a0_2)) = some r := H
  have A4 := mA A40
  clear A40
  by_cases c5 : t284 = true
  ·subst c5
   have H1 : ((r08_in.f a0_1).bind fun t285 => (r08_Check.j0 k (!t285) a0_0 a0_1 a0_2)) = some r := by rw [if_pos rfl] at H; exact H
   clear H
   have H := H1
   clear H1
   replace H := Option.bind_eq_some_iff.mp H
   obtain ⟨t285, A60, H⟩ := H
   replace H : (r08_Check.j0 k (!t285) a0_0 a0_1 a0_2) = some r := H
   have A6 := mA A60
   clear A60
   have H' := mA H
   clear H
   have hcz7_0 : w3.cell? ⟨gb283, 0, none⟩ = some (.int .i64 a0_0) := (zC BK283.out 0).trans rfl
   have hcz7_1 : w3.cell? ⟨gb283, 1, none⟩ = some (.int .i64 a0_1) := (zC BK283.out 1).trans rfl
   have hcz7_2 : w3.cell? ⟨gb283, 2, none⟩ = some (.string a0_2) := (zC BK283.out 2).trans rfl
   have hfz7_0 := zF BK283.out 0
   have hfz7_1 := zF BK283.out 1
   have hfz7_2 := zF BK283.out 2
   go_wp2_with (first | ((with_reducible refine gate_callee (f := 93) rfl ?_); refine goesL_ (some 5) rfl rfl Tryd.func93 (by kernel_rfl) rfl #[.int .i64 a0_0] rfl (by (try simp only [List.map_toArray, List.map_cons, List.map_nil]); first | done | rfl | (simp only [List.length_drop, List.length_take]; rfl)) ?_; (with_reducible refine (r08_in.calls a0_0 true _ A4.out).mono ?_); rintro e w' ⟨rfl, ⟨nd, rfl⟩⟩; refine ⟨_, rfl, ?_⟩) | (go_at_call 93; (with_reducible refine (r08_in.calls a0_1 t285 _ A6.out).mono ?_); rintro e w' ⟨rfl, ⟨nd, rfl⟩⟩))
   go_meet
   case rel => exact ⟨_, (!t285), (by first | rfl | (simp; done) | (simp [*]; done)), H', ⟨by first | omega | exact Nat.le_refl _⟩, ⟨by (with_reducible repeat (first | apply kN | apply kD | apply kA)); exact BK283.out⟩, ⟨by repeat (first | (with_reducible first | exact HB.out | apply bA | apply bN | apply bD | refine bS ?_ GE283.out) | exact HB.out)⟩⟩
  ·replace c5 := Bool.eq_false_iff.mpr c5
   subst c5
   have H1 : (r08_Check.j0 k true a0_0 a0_1 a0_2) = some r := by rw [if_neg (show ¬ (false = true) by decide)] at H; exact H
   clear H
   have H := H1
   clear H1
   have H' := mA H
   clear H
   have hcz8_0 : w3.cell? ⟨gb283, 0, none⟩ = some (.int .i64 a0_0) := (zC BK283.out 0).trans rfl
   have hcz8_1 : w3.cell? ⟨gb283, 1, none⟩ = some (.int .i64 a0_1) := (zC BK283.out 1).trans rfl
   have hcz8_2 : w3.cell? ⟨gb283, 2, none⟩ = some (.string a0_2) := (zC BK283.out 2).trans rfl
   have hfz8_0 := zF BK283.out 0
   have hfz8_1 := zF BK283.out 1
   have hfz8_2 := zF BK283.out 2
   go_wp2_with (first | ((with_reducible refine gate_callee (f := 93) rfl ?_); refine goesL_ (some 5) rfl rfl Tryd.func93 (by kernel_rfl) rfl #[.int .i64 a0_0] rfl (by (try simp only [List.map_toArray, List.map_cons, List.map_nil]); first | done | rfl | (simp only [List.length_drop, List.length_take]; rfl)) ?_; (with_reducible refine (r08_in.calls a0_0 false _ A4.out).mono ?_); rintro e w' ⟨rfl, ⟨nd, rfl⟩⟩; refine ⟨_, rfl, ?_⟩))
   go_meet
   case rel => exact ⟨_, (true), (by first | rfl | (simp; done) | (simp [*]; done)), H', ⟨by first | omega | exact Nat.le_refl _⟩, ⟨by (with_reducible repeat (first | apply kN | apply kD | apply kA)); exact BK283.out⟩, ⟨by repeat (first | (with_reducible first | exact HB.out | apply bA | apply bN | apply bD | refine bS ?_ GE283.out) | exact HB.out)⟩⟩
 case rest =>
  clear HC2
  try clear p2
  try clear c5
  try clear hcz7_0
  try clear hcz7_1
  try clear hcz7_2
  try clear hcz8_0
  try clear hcz8_1
  try clear hcz8_2
  try clear hfz7_0
  try clear hfz7_1
  try clear hfz7_2
  try clear hfz8_0
  try clear hfz8_1
  try clear hfz8_2
  obtain ⟨kq, x12_1, rfl, HA, HJ1, BK283, HB⟩ := hcut
  cases kq with
  | zero => exact absurd HA.out (by simp [r08_Check.j0])
  | succ kj1 =>
   have H := HA.out
   clear HA
   simp only [r08_Check.j0] at H
   by_cases c9 : x12_1 = true
   ·subst c9
    have H1 : (some 1) = some r := by rw [if_pos rfl] at H; exact H
    clear H
    have H := H1
    clear H1
    obtain rfl := Option.some.inj H
    go_wp2
    go_ret
    exact ⟨by first | rfl | (simp [errW_none, errW_some] <;> rfl) | (simp [*, errW_none, errW_some] <;> rfl), by repeat (first | (with_reducible first | exact HB.out | apply bA | apply bN | apply bD | refine bS ?_ GE283.out) | exact HB.out)⟩
   ·replace c9 := Bool.eq_false_iff.mpr c9
    subst c9
    have H1 : (if (a0_2.size : Int) > 65527 then (some 4) else (some 0)) = some r := by rw [if_neg (show ¬ (false = true) by decide)] at H; exact H
    clear H
    have H := H1
    clear H1
    by_cases c10 : (a0_2.size : Int) > 65527
    ·rw [if_pos c10] at H
     have c10b0 : decide (65527 < (a0_2.size : Int)) = true := decide_eq_true c10
     have c10b1 : decide (65527 < a0_2.size) = true := decide_eq_true (by omega)
     clear c10
     obtain rfl := Option.some.inj H
     have hcz11_0 : wc.cell? ⟨gb283, 0, none⟩ = some (.int .i64 a0_0) := (zC BK283.out 0).trans rfl
     have hcz11_1 : wc.cell? ⟨gb283, 1, none⟩ = some (.int .i64 a0_1) := (zC BK283.out 1).trans rfl
     have hcz11_2 : wc.cell? ⟨gb283, 2, none⟩ = some (.string a0_2) := (zC BK283.out 2).trans rfl
     have hfz11_0 := zF BK283.out 0
     have hfz11_1 := zF BK283.out 1
     have hfz11_2 := zF BK283.out 2
     go_wp2
     go_ret
     exact ⟨by first | rfl | (simp [errW_none, errW_some] <;> rfl) | (simp [*, errW_none, errW_some] <;> rfl), by repeat (first | (with_reducible first | exact HB.out | apply bA | apply bN | apply bD | refine bS ?_ GE283.out) | exact HB.out)⟩
    ·rw [if_neg c10] at H
     have c10b0 : decide (65527 < (a0_2.size : Int)) = false := decide_eq_false c10
     have c10b1 : decide (65527 < a0_2.size) = false := decide_eq_false (by omega)
     clear c10
     obtain rfl := Option.some.inj H
     have hcz12_0 : wc.cell? ⟨gb283, 0, none⟩ = some (.int .i64 a0_0) := (zC BK283.out 0).trans rfl
     have hcz12_1 : wc.cell? ⟨gb283, 1, none⟩ = some (.int .i64 a0_1) := (zC BK283.out 1).trans rfl
     have hcz12_2 : wc.cell? ⟨gb283, 2, none⟩ = some (.string a0_2) := (zC BK283.out 2).trans rfl
     have hfz12_0 := zF BK283.out 0
     have hfz12_1 := zF BK283.out 1
     have hfz12_2 := zF BK283.out 2
     go_wp2
     go_ret
     exact ⟨by first | rfl | (simp [errW_none, errW_some] <;> rfl) | (simp [*, errW_none, errW_some] <;> rfl), by repeat (first | (with_reducible first | exact HB.out | apply bA | apply bN | apply bD | refine bS ?_ GE283.out) | exact HB.out)⟩

def r08_two.f (k : Nat) (a0 : Int) : Option (ByteArray) := (palanquinref01_Bytes.f k (IntKind.u64.wrap (a0)) 2).bind fun t286 => (some t286)
theorem r08_two.mono : ∀ a0 k, LeO (r08_two.f k a0) (r08_two.f (k + 1) a0) := by
 intro a0 k
 unfold r08_two.f
 repeat' first
   | (with_reducible exact palanquinref01_Bytes.mono _ _ _)
   | (with_reducible exact LeO.refl _)
   | (with_reducible exact LeO.none _)
   | (with_reducible refine LeO.ite ?_ ?_)
   | (with_reducible refine LeO.bind ?_ (fun _ => ?_))
   | exact palanquinref01_Bytes.mono _ _ _
   | exact LeO.none _
   | refine LeO.ite ?_ ?_
   | refine LeO.bind ?_ (fun _ => ?_)
set_option maxHeartbeats 8000000 in
set_option maxRecDepth 100000 in
theorem r08_two.calls (k : Nat) (a0 : Int) (r : ByteArray) (w : World) (h : r08_two.f k a0 = some r) :
  Calls Tryd.prog 94 #[.int .i64 a0] w fun e w' => e = .returned (.string r) ∧ Below w.heap.size w w' := by
 have HB := mA (Below.refl w.heap.size w)
 have H : ((palanquinref01_Bytes.f k (IntKind.u64.wrap (a0)) 2).bind fun t286 => (some t286)) = some r := h
 clear h
 replace H := Option.bind_eq_some_iff.mp H
 obtain ⟨t286, A20, H⟩ := H
 replace H : (some t286) = some r := H
 have A2 := mA A20
 clear A20
 obtain rfl := Option.some.inj H
 go_enter Tryd.func94, Tryd.ntmps94
 go_wp2_with (first | ((with_reducible refine gate_callee (f := 61) rfl ?_); refine goesL_ (some 5) rfl rfl Tryd.func61 (by kernel_rfl) rfl #[.int .u64 (IntKind.u64.wrap (a0)), .int .i64 2] rfl (by (try simp only [List.map_toArray, List.map_cons, List.map_nil]); first | done | rfl | (simp only [List.length_drop, List.length_take]; rfl)) ?_; (with_reducible refine (palanquinref01_Bytes.calls k (IntKind.u64.wrap (a0)) 2 t286 _ A2.out).mono ?_); rintro e w3 ⟨rfl, hb⟩; refine ⟨_, rfl, ?_⟩; have n0_ := mA (bP (by repeat (first | (with_reducible first | exact HB.out | apply bA | apply bN | apply bD) | exact HB.out)) hb); clear HB; have HB := n0_; clear n0_; (try clear hb); (try clear hb2); (try clear hk); (try clear hi)))
 go_ret
 exact ⟨by first | rfl | (simp [errW_none, errW_some] <;> rfl) | (simp [*, errW_none, errW_some] <;> rfl), by repeat (first | (with_reducible first | exact HB.out | apply bA | apply bN | apply bD) | exact HB.out)⟩

def r08_Put.f (k : Nat) (a0_0 : Int) (a0_1 : Int) (a0_2 : ByteArray) (a1 : Int) : Option (ByteArray × Int) := (r08_Check.f k a0_0 a0_1 a0_2).bind fun t288 => (if t288 = 0 then ((r08_in.f a1).bind fun t289 => (if t289 = true then ((r08_two.f k a0_0).bind fun t290 => ((r08_two.f k a0_1).bind fun t291 => (if t290.size + t291.size ≤ 9223372036854775807 then ((r08_two.f k (wrap64 (8 + (a0_2.size : Int)))).bind fun t292 => (if (t290 ++ t291).size + t292.size ≤ 9223372036854775807 then ((r08_two.f k a1).bind fun t293 => (if ((t290 ++ t291) ++ t292).size + t293.size ≤ 9223372036854775807 then (if (((t290 ++ t291) ++ t292) ++ t293).size + a0_2.size ≤ 9223372036854775807 then (some ((((t290 ++ t291) ++ t292) ++ t293) ++ a0_2, 0)) else (none)) else (none))) else (none))) else (none)))) else (some ((⟨#[]⟩ : ByteArray), 1)))) else (some ((⟨#[]⟩ : ByteArray), t288)))
theorem r08_Put.mono : ∀ a0 a1 a2 a3 k, LeO (r08_Put.f k a0 a1 a2 a3) (r08_Put.f (k + 1) a0 a1 a2 a3) := by
 intro a0 a1 a2 a3 k
 unfold r08_Put.f
 repeat' first
   | (with_reducible exact r08_Check.mono _ _ _ _)
   | (with_reducible exact r08_two.mono _ _)
   | (with_reducible exact LeO.refl _)
   | (with_reducible exact LeO.none _)
   | (with_reducible refine LeO.ite ?_ ?_)
   | (with_reducible refine LeO.bind ?_ (fun _ => ?_))
   | exact r08_Check.mono _ _ _ _
   | exact r08_two.mono _ _
   | exact LeO.none _
   | refine LeO.ite ?_ ?_
   | refine LeO.bind ?_ (fun _ => ?_)
def r08_Put.T6 : Bool × List (List Nat × List Nat) := (true, [([], []), ([0], [0]), ([1], [1]), ([], []), ([3], [3]), ([4, 2], [4]), ([2, 5], [2, 5]), ([], []), ([7], [7]), ([8], [8]), ([9], [9]), ([10, 5], [10]), ([6, 11], [6, 11]), ([], []), ([13, 11], [13]), ([12, 14], [12, 14]), ([], []), ([16], [16]), ([15, 17], [15, 17]), ([18, 14, 0, 1, 2, 3, 4, 5, 6, 7, 8, 9, 10, 11, 12, 13, 14, 15, 16, 17, 18], [18]), ([19, 0, 1, 2, 3, 4, 5, 6, 7, 8, 9, 10, 11, 12, 13, 14, 15, 16, 17, 18, 19], [])])
def r08_Put.B6 : List Nat := [0, 1, 3, 0, 8, 31, 63, 0, 128, 384, 896, 1983, 4095, 0, 12223, 32767, 0, 65536, 262143, 524287, 1048575]
theorem r08_Put.tab6 : rtab .any (opsOf Tryd.f49 6) = r08_Put.T6 := by kernel_rfl
theorem r08_Put.bits6 : waitsOk r08_Put.T6.2 r08_Put.B6 = true := by kernel_rfl
set_option maxHeartbeats 8000000 in
set_option maxRecDepth 100000 in
theorem r08_Put.calls (k : Nat) (a0_0 : Int) (a0_1 : Int) (a0_2 : ByteArray) (a1 : Int) (r1 : ByteArray) (r2 : Int) (w : World) (h : r08_Put.f k a0_0 a0_1 a0_2 a1 = some (r1, r2)) :
  Calls Tryd.prog 49 #[.agg #[.int .i64 a0_0, .int .i64 a0_1, .string a0_2], .int .i64 a1] w fun e w' => e = .returned (.tuple #[.string r1, .int .i64 r2]) ∧ Below w.heap.size w w' := by
 have hu81 := Tryd.underlying81
 have HB := mA (Below.refl w.heap.size w)
 have H : ((r08_Check.f k a0_0 a0_1 a0_2).bind fun t288 => (if t288 = 0 then ((r08_in.f a1).bind fun t289 => (if t289 = true then ((r08_two.f k a0_0).bind fun t290 => ((r08_two.f k a0_1).bind fun t291 => (if t290.size + t291.size ≤ 9223372036854775807 then ((r08_two.f k (wrap64 (8 + (a0_2.size : Int)))).bind fun t292 => (if (t290 ++ t291).size + t292.size ≤ 9223372036854775807 then ((r08_two.f k a1).bind fun t293 => (if ((t290 ++ t291) ++ t292).size + t293.size ≤ 9223372036854775807 then (if (((t290 ++ t291) ++ t292) ++ t293).size + a0_2.size ≤ 9223372036854775807 then (some ((((t290 ++ t291) ++ t292) ++ t293) ++ a0_2, 0)) else (none)) else (none))) else (none))) else (none)))) else (some ((⟨#[]⟩ : ByteArray), 1)))) else (some ((⟨#[]⟩ : ByteArray), t288)))) = some (r1, r2) := h
 clear h
 replace H := Option.bind_eq_some_iff.mp H
 obtain ⟨t288, A30, H⟩ := H
 replace H : (if t288 = 0 then ((r08_in.f a1).bind fun t289 => (if t289 = true then ((r08_two.f k a0_0).bind fun t290 => ((r08_two.f k a0_1).bind fun t291 => (if t290.size + t291.size ≤ 9223372036854775807 then ((r08_two.f k (wrap64 (8 + (a0_2.size : Int)))).bind fun t292 => (if (t290 ++ t291).size + t292.size ≤ 9223372036854775807 then ((r08_two.f k a1).bind fun t293 => (if ((t290 ++ t291) ++ t292).size + t293.size ≤ 9223372036854775807 then (if (((t290 ++ t291) ++ t292) ++ t293).size + a0_2.size ≤ 9223372036854775807 then (some ((((t290 ++ t291) ++ t292) ++ t293) ++ a0_2, 0)) else (none)) else (none))) else (none))) else (none)))) else (some ((⟨#[]⟩ : ByteArray), 1)))) else (some ((⟨#[]⟩ : ByteArray), t288))) = some (r1, r2) := H
 have A3 := mA A30
 clear A30
 by_cases c4 : t288 = 0
 ·rw [if_pos c4] at H
  have c4b0 : (t288 == 0) = true := beq_iff_eq.mpr c4
  have c4b1 : (t288 != 0) = false := bne_eq_false_iff_eq.mpr c4
  clear c4
  replace H := Option.bind_eq_some_iff.mp H
  obtain ⟨t289, A50, H⟩ := H
  replace H : (if t289 = true then ((r08_two.f k a0_0).bind fun t290 => ((r08_two.f k a0_1).bind fun t291 => (if t290.size + t291.size ≤ 9223372036854775807 then ((r08_two.f k (wrap64 (8 + (a0_2.size : Int)))).bind fun t292 => (if (t290 ++ t291).size + t292.size ≤ 9223372036854775807 then ((r08_two.f k a1).bind fun t293 => (if ((t290 ++ t291) ++ t292).size + t293.size ≤ 9223372036854775807 then (if (((t290 ++ t291) ++ t292) ++ t293).size + a0_2.size ≤ 9223372036854775807 then (some ((((t290 ++ t291) ++ t292) ++ t293) ++ a0_2, 0)) else (none)) else (none))) else (none))) else (none)))) else (some ((⟨#[]⟩ : ByteArray), 1))) = some (r1, r2) := H
  have A5 := mA A50
  clear A50
  by_cases c6 : t289 = true
  ·subst c6
   have H1 : ((r08_two.f k a0_0).bind fun t290 => ((r08_two.f k a0_1).bind fun t291 => (if t290.size + t291.size ≤ 9223372036854775807 then ((r08_two.f k (wrap64 (8 + (a0_2.size : Int)))).bind fun t292 => (if (t290 ++ t291).size + t292.size ≤ 9223372036854775807 then ((r08_two.f k a1).bind fun t293 => (if ((t290 ++ t291) ++ t292).size + t293.size ≤ 9223372036854775807 then (if (((t290 ++ t291) ++ t292) ++ t293).size + a0_2.size ≤ 9223372036854775807 then (some ((((t290 ++ t291) ++ t292) ++ t293) ++ a0_2, 0)) else (none)) else (none))) else (none))) else (none)))) = some (r1, r2) := by rw [if_pos rfl] at H; exact H
   clear H
   have H := H1
   clear H1
   replace H := Option.bind_eq_some_iff.mp H
   obtain ⟨t290, A70, H⟩ := H
   replace H : ((r08_two.f k a0_1).bind fun t291 => (if t290.size + t291.size ≤ 9223372036854775807 then ((r08_two.f k (wrap64 (8 + (a0_2.size : Int)))).bind fun t292 => (if (t290 ++ t291).size + t292.size ≤ 9223372036854775807 then ((r08_two.f k a1).bind fun t293 => (if ((t290 ++ t291) ++ t292).size + t293.size ≤ 9223372036854775807 then (if (((t290 ++ t291) ++ t292) ++ t293).size + a0_2.size ≤ 9223372036854775807 then (some ((((t290 ++ t291) ++ t292) ++ t293) ++ a0_2, 0)) else (none)) else (none))) else (none))) else (none))) = some (r1, r2) := H
   have A7 := mA A70
   clear A70
   replace H := Option.bind_eq_some_iff.mp H
   obtain ⟨t291, A80, H⟩ := H
   replace H : (if t290.size + t291.size ≤ 9223372036854775807 then ((r08_two.f k (wrap64 (8 + (a0_2.size : Int)))).bind fun t292 => (if (t290 ++ t291).size + t292.size ≤ 9223372036854775807 then ((r08_two.f k a1).bind fun t293 => (if ((t290 ++ t291) ++ t292).size + t293.size ≤ 9223372036854775807 then (if (((t290 ++ t291) ++ t292) ++ t293).size + a0_2.size ≤ 9223372036854775807 then (some ((((t290 ++ t291) ++ t292) ++ t293) ++ a0_2, 0)) else (none)) else (none))) else (none))) else (none)) = some (r1, r2) := H
   have A8 := mA A80
   clear A80
   by_cases c9 : t290.size + t291.size ≤ 9223372036854775807
   ·rw [if_pos c9] at H
    have c9b0 := eq_true c9
    have c9b1 : decide (t290.size + t291.size ≤ 9223372036854775807) = true := decide_eq_true c9
    try have c9b2 : (9223372036854775807 < t290.size + t291.size) = False := eq_false (Nat.not_lt.2 c9)
    replace H := Option.bind_eq_some_iff.mp H
    obtain ⟨t292, A100, H⟩ := H
    replace H : (if (t290 ++ t291).size + t292.size ≤ 9223372036854775807 then ((r08_two.f k a1).bind fun t293 => (if ((t290 ++ t291) ++ t292).size + t293.size ≤ 9223372036854775807 then (if (((t290 ++ t291) ++ t292) ++ t293).size + a0_2.size ≤ 9223372036854775807 then (some ((((t290 ++ t291) ++ t292) ++ t293) ++ a0_2, 0)) else (none)) else (none))) else (none)) = some (r1, r2) := H
    have A10 := mA A100
    clear A100
    by_cases c11 : (t290 ++ t291).size + t292.size ≤ 9223372036854775807
    ·rw [if_pos c11] at H
     have c11b0 := eq_true c11
     have c11b1 : decide ((t290 ++ t291).size + t292.size ≤ 9223372036854775807) = true := decide_eq_true c11
     try have c11b2 : (9223372036854775807 < (t290 ++ t291).size + t292.size) = False := eq_false (Nat.not_lt.2 c11)
     try have c11b3 : (9223372036854775807 < (t290.size) + (t291.size) + t292.size) = False := eq_false (by have h_ := c11; simp only [ByteArray.size_append] at h_; omega)
     try have c11b4 : ((t290.size) + (t291.size) + t292.size ≤ 9223372036854775807) = True := eq_true (by have h_ := c11; simp only [ByteArray.size_append] at h_; omega)
     replace H := Option.bind_eq_some_iff.mp H
     obtain ⟨t293, A120, H⟩ := H
     replace H : (if ((t290 ++ t291) ++ t292).size + t293.size ≤ 9223372036854775807 then (if (((t290 ++ t291) ++ t292) ++ t293).size + a0_2.size ≤ 9223372036854775807 then (some ((((t290 ++ t291) ++ t292) ++ t293) ++ a0_2, 0)) else (none)) else (none)) = some (r1, r2) := H
     have A12 := mA A120
     clear A120
     by_cases c13 : ((t290 ++ t291) ++ t292).size + t293.size ≤ 9223372036854775807
     ·rw [if_pos c13] at H
      have c13b0 := eq_true c13
      have c13b1 : decide (((t290 ++ t291) ++ t292).size + t293.size ≤ 9223372036854775807) = true := decide_eq_true c13
      try have c13b2 : (9223372036854775807 < ((t290 ++ t291) ++ t292).size + t293.size) = False := eq_false (Nat.not_lt.2 c13)
      try have c13b3 : (9223372036854775807 < (t290.size) + (t291.size) + (t292.size) + t293.size) = False := eq_false (by have h_ := c13; simp only [ByteArray.size_append] at h_; omega)
      try have c13b4 : ((t290.size) + (t291.size) + (t292.size) + t293.size ≤ 9223372036854775807) = True := eq_true (by have h_ := c13; simp only [ByteArray.size_append] at h_; omega)
      by_cases c14 : (((t290 ++ t291) ++ t292) ++ t293).size + a0_2.size ≤ 9223372036854775807
      ·rw [if_pos c14] at H
       have c14b0 := eq_true c14
       have c14b1 : decide ((((t290 ++ t291) ++ t292) ++ t293).size + a0_2.size ≤ 9223372036854775807) = true := decide_eq_true c14
       try have c14b2 : (9223372036854775807 < (((t290 ++ t291) ++ t292) ++ t293).size + a0_2.size) = False := eq_false (Nat.not_lt.2 c14)
       try have c14b3 : (9223372036854775807 < (t290.size) + (t291.size) + (t292.size) + (t293.size) + a0_2.size) = False := eq_false (by have h_ := c14; simp only [ByteArray.size_append] at h_; omega)
       try have c14b4 : ((t290.size) + (t291.size) + (t292.size) + (t293.size) + a0_2.size ≤ 9223372036854775807) = True := eq_true (by have h_ := c14; simp only [ByteArray.size_append] at h_; omega)
       simp only [Option.some.injEq, Prod.mk.injEq] at H
       obtain ⟨rfl, rfl⟩ := H
       go_enter Tryd.func49, Tryd.ntmps49
       try go_wp2_with (first | ((with_reducible refine gate_dst (N := 2) rfl ?_); refine box_event ?hg (N := 2) ?hd (cs := #[.int .i64 a0_0, .int .i64 a0_1, .string a0_2]) (t := 81) ?hr ?_; (case hd => rfl); (case hg => rfl); (case hr => first | (go_simp; done) | (go_simp; rfl)); intro gb287 hg w15 hbox hb; have n0_ := mA (bP (by repeat (first | (with_reducible first | exact HB.out | apply bA | apply bN | apply bD) | exact HB.out)) hb); have n1_ := mA (hbox); have n2_ := mA ((by rw [hg]; exact (below_size (by repeat (first | (with_reducible first | exact HB.out | apply bA | apply bN | apply bD) | exact HB.out))) : w.heap.size ≤ gb287)); have n3_ := mA ((by rw [hg]; exact (below_size (by repeat (first | (with_reducible first | exact HB.out | apply bA | apply bN | apply bD) | exact HB.out))) : w.heap.size ≤ gb287)); clear HB; have HB := n0_; have BK287 := n1_; have GW287 := n2_; have GE287 := n3_; clear n0_ n1_ n2_ n3_; clear hb hbox hg; have hcz16_0 : w15.cell? ⟨gb287, 0, none⟩ = some (.int .i64 a0_0) := (zC BK287.out 0).trans rfl; have hcz16_1 : w15.cell? ⟨gb287, 1, none⟩ = some (.int .i64 a0_1) := (zC BK287.out 1).trans rfl; have hcz16_2 : w15.cell? ⟨gb287, 2, none⟩ = some (.string a0_2) := (zC BK287.out 2).trans rfl; have hfz16_0 := zF BK287.out 0; have hfz16_1 := zF BK287.out 1; have hfz16_2 := zF BK287.out 2) | ((with_reducible refine gate_callee (f := 92) rfl ?_); refine goesL_ (some 8) rfl rfl Tryd.func92 (by kernel_rfl) rfl #[.agg #[.int .i64 a0_0, .int .i64 a0_1, .string a0_2]] rfl (by (try simp only [List.map_toArray, List.map_cons, List.map_nil]); first | done | rfl | (simp only [List.length_drop, List.length_take]; rfl)) ?_; (with_reducible refine (r08_Check.calls k a0_0 a0_1 a0_2 t288 _ A3.out).mono ?_); rintro e w17 ⟨rfl, hb⟩; refine ⟨_, rfl, ?_⟩; have n0_ := mA (blk_below (g := gb287) (o := .cells #[.int .i64 a0_0, .int .i64 a0_1, .string a0_2] 81 (0, 0)) (by (with_reducible repeat (first | apply kN | apply kD | apply kA)); exact BK287.out) hb); have n1_ := mA (bP (by repeat (first | (with_reducible first | exact HB.out | apply bA | apply bN | apply bD | refine bS ?_ GE287.out) | exact HB.out)) hb); clear BK287; clear HB; have BK287 := n0_; have HB := n1_; clear n0_ n1_; (try clear hb); (try clear hb2); (try clear hk); (try clear hi)) | ((with_reducible refine gate_callee (f := 93) rfl ?_); refine goesL_ (some 13) rfl rfl Tryd.func93 (by kernel_rfl) rfl #[.int .i64 a1] rfl (by (try simp only [List.map_toArray, List.map_cons, List.map_nil]); first | done | rfl | (simp only [List.length_drop, List.length_take]; rfl)) ?_; (with_reducible refine (r08_in.calls a1 true _ A5.out).mono ?_); rintro e w' ⟨rfl, ⟨nd, rfl⟩⟩; refine ⟨_, rfl, ?_⟩))
       (try (rw [drewN_self w17]; generalize hq_ : World.drewN w17 _ = w17; have n0_ : Aside0 (w17.heap[gb287]? = some (.cells #[.int .i64 a0_0, .int .i64 a0_1, .string a0_2] 81 (0, 0))) := ⟨by rw [← hq_]; exact (by (with_reducible repeat (first | apply kN | apply kD | apply kA)); exact BK287.out)⟩; have n1_ : Aside0 (Below w.heap.size w w17) := ⟨by rw [← hq_]; exact (by repeat (first | (with_reducible first | exact HB.out | apply bA | apply bN | apply bD | refine bS ?_ GE287.out) | exact HB.out))⟩; clear BK287 HB hq_; have BK287 := n0_; have HB := n1_; clear n0_ n1_))
       have n0_ := mA (kD BK287.out)
       have n1_ := mA (bD HB.out)
       clear BK287
       clear HB
       have BK287 := n0_
       have HB := n1_
       clear n0_ n1_
       refine start_ (n := 21) (S := fun w' => w'.cell? ⟨gb287, 0, none⟩ = some (.int .i64 a0_0) ∧ w'.cell? ⟨gb287, 1, none⟩ = some (.int .i64 a0_1) ∧ w'.cell? ⟨gb287, 2, none⟩ = some (.string a0_2)) (ds := []) #[false, false, false, false, false, false, false, false, false, false, false, false, false, false, false, false, false, false, false, false, false] (by kernel_rfl) rfl rfl ⟨(zC BK287.out 0).trans rfl, (zC BK287.out 1).trans rfl, (zC BK287.out 2).trans rfl⟩ (fun hHeld => ?_); refine with_tabW r08_Put.tab6 r08_Put.bits6 (fun HT_ HW_ => ?_)
       generalize w17.drew = w18 at BK287 HB hHeld ⊢
       refine pure_ (i := 0) (N := some 15) (v := ?_) (a' := ?_) #[true, false, false, false, false, false, false, false, false, false, false, false, false, false, false, false, false, false, false, false, false] rfl rfl (any_of HT_.out (by kernel_rfl)) (fun _ _ _ h => h) (Or.inl ⟨by rfl, ?_⟩) ?_ ?_
       rotate_left
       ·intro w'
        go_simp
        with_reducible rfl
       rotate_left
       ·simp only [Act.put, List.setIfInBounds_toArray, List.set_cons_zero, List.set_cons_succ, i64_w, i32_w]
        rfl
       refine pure_ (i := 3) (N := some 18) (v := ?_) (a' := ?_) #[true, false, false, true, false, false, false, false, false, false, false, false, false, false, false, false, false, false, false, false, false] rfl rfl (any_of HT_.out (by kernel_rfl)) (fun _ _ _ h => h) (Or.inl ⟨by rfl, ?_⟩) ?_ ?_
       rotate_left
       ·intro w'
        go_simp
        with_reducible rfl
       rotate_left
       ·simp only [Act.put, List.setIfInBounds_toArray, List.set_cons_zero, List.set_cons_succ, i64_w, i32_w]
        rfl
       refine pure_ (i := 7) (N := some 22) (v := ?_) (a' := ?_) #[true, false, false, true, false, false, false, true, false, false, false, false, false, false, false, false, false, false, false, false, false] rfl rfl (any_of HT_.out (by kernel_rfl)) (fun _ _ _ h => h) (Or.inl ⟨by rfl, ?_⟩) ?_ ?_
       rotate_left
       ·intro w'
        go_simp
        with_reducible rfl
       rotate_left
       ·simp only [Act.put, List.setIfInBounds_toArray, List.set_cons_zero, List.set_cons_succ, i64_w, i32_w]
        rfl
       refine pure_ (i := 13) (N := some 28) (v := ?_) (a' := ?_) #[true, false, false, true, false, false, false, true, false, false, false, false, false, true, false, false, false, false, false, false, false] rfl rfl (any_of HT_.out (by kernel_rfl)) (fun _ _ _ h => h) (Or.inl ⟨by rfl, ?_⟩) ?_ ?_
       rotate_left
       ·intro w'
        go_simp
        with_reducible rfl
       rotate_left
       ·simp only [Act.put, List.setIfInBounds_toArray, List.set_cons_zero, List.set_cons_succ, i64_w, i32_w]
        rfl
       refine pure_ (i := 16) (N := some 31) (v := ?_) (a' := ?_) #[true, false, false, true, false, false, false, true, false, false, false, false, false, true, false, false, true, false, false, false, false] rfl rfl (any_of HT_.out (by kernel_rfl)) (fun _ _ _ h => h) (Or.inl ⟨by rfl, ?_⟩) ?_ ?_
       rotate_left
       ·intro w'
        go_simp
        with_reducible rfl
       rotate_left
       ·simp only [Act.put, List.setIfInBounds_toArray, List.set_cons_zero, List.set_cons_succ, i64_w, i32_w]
        rfl
       refine take_ (i := 1) (N := some 16) (v := ?_) (a' := ?_) #[true, true, false, true, false, false, false, true, false, false, false, false, false, true, false, false, true, false, false, false, false] rfl rfl (take_ofW HT_.out HW_.out (by kernel_rfl)) (fun _ _ _ h => h) (Or.inl ⟨by rfl, ?_⟩) hHeld ?_ ?_
       rotate_left
       ·rintro w' ⟨s0, s1, s2⟩
        go_simp
        with_reducible rfl
       rotate_left
       ·simp only [Act.put, List.setIfInBounds_toArray, List.set_cons_zero, List.set_cons_succ, i64_w, i32_w]
        rfl
       refine take_ (i := 4) (N := some 19) (v := ?_) (a' := ?_) #[true, true, false, true, true, false, false, true, false, false, false, false, false, true, false, false, true, false, false, false, false] rfl rfl (take_ofW HT_.out HW_.out (by kernel_rfl)) (fun _ _ _ h => h) (Or.inl ⟨by rfl, ?_⟩) hHeld ?_ ?_
       rotate_left
       ·rintro w' ⟨s0, s1, s2⟩
        go_simp
        with_reducible rfl
       rotate_left
       ·simp only [Act.put, List.setIfInBounds_toArray, List.set_cons_zero, List.set_cons_succ, i64_w, i32_w]
        rfl
       refine take_ (i := 8) (N := some 23) (v := ?_) (a' := ?_) #[true, true, false, true, true, false, false, true, true, false, false, false, false, true, false, false, true, false, false, false, false] rfl rfl (take_ofW HT_.out HW_.out (by kernel_rfl)) (fun _ _ _ h => h) (Or.inl ⟨by rfl, ?_⟩) hHeld ?_ ?_
       rotate_left
       ·rintro w' ⟨s0, s1, s2⟩
        go_simp
        with_reducible rfl
       rotate_left
       ·simp only [Act.put, List.setIfInBounds_toArray, List.set_cons_zero, List.set_cons_succ, i64_w, i32_w]
        rfl
       refine pure_ (i := 9) (N := some 24) (v := ?_) (a' := ?_) #[true, true, false, true, true, false, false, true, true, true, false, false, false, true, false, false, true, false, false, false, false] rfl rfl (any_of HT_.out (by kernel_rfl)) (fun _ _ _ h => h) (Or.inl ⟨by rfl, ?_⟩) ?_ ?_
       rotate_left
       ·intro w'
        go_simp
        with_reducible rfl
       rotate_left
       ·simp only [Act.put, List.setIfInBounds_toArray, List.set_cons_zero, List.set_cons_succ, i64_w, i32_w]
        rfl
       refine pure_ (i := 10) (N := some 25) (v := ?_) (a' := ?_) #[true, true, false, true, true, false, false, true, true, true, true, false, false, true, false, false, true, false, false, false, false] rfl rfl (any_of HT_.out (by kernel_rfl)) (fun _ _ _ h => h) (Or.inl ⟨by rfl, ?_⟩) ?_ ?_
       rotate_left
       ·intro w'
        go_simp
        with_reducible rfl
       rotate_left
       ·simp only [Act.put, List.setIfInBounds_toArray, List.set_cons_zero, List.set_cons_succ, i64_w, i32_w]
        rfl
       refine take_ (i := 17) (N := some 32) (v := ?_) (a' := ?_) #[true, true, false, true, true, false, false, true, true, true, true, false, false, true, false, false, true, true, false, false, false] rfl rfl (take_ofW HT_.out HW_.out (by kernel_rfl)) (fun _ _ _ h => h) (Or.inl ⟨by rfl, ?_⟩) hHeld ?_ ?_
       rotate_left
       ·rintro w' ⟨s0, s1, s2⟩
        go_simp
        with_reducible rfl
       rotate_left
       ·simp only [Act.put, List.setIfInBounds_toArray, List.set_cons_zero, List.set_cons_succ, i64_w, i32_w]
        rfl
       refine one_ (i := 2) (N := some 17) #[true, true, true, true, true, false, false, true, true, true, true, false, false, true, false, false, true, true, false, false, false] rfl rfl (one_of HT_.out (by kernel_rfl)) (by decide) (fun K hK => ?_)
       refine goes_ Tryd.func94 (by kernel_rfl) rfl #[.int .i64 a0_0] (by rfl) rfl rfl (by (try simp only [List.map_toArray, List.map_cons, List.map_nil]); first | done | rfl | (simp only [List.length_drop, List.length_take]; rfl)) ?_
       with_reducible refine (r08_two.calls k a0_0 t290 _ A7.out).mono ?_
       rintro e w19 ⟨rfl, hb⟩
       refine ⟨_, rfl, ?_⟩
       have n0_ := mA (blk_below (g := gb287) (o := .cells #[.int .i64 a0_0, .int .i64 a0_1, .string a0_2] 81 (0, 0)) (by (with_reducible repeat (first | apply kN | apply kD | apply kA)); exact BK287.out) hb)
       have n1_ := mA (bP (by repeat (first | (with_reducible first | exact HB.out | apply bA | apply bN | apply bD | refine bS ?_ GE287.out) | exact HB.out)) hb)
       clear BK287
       clear HB
       have BK287 := n0_
       have HB := n1_
       clear n0_ n1_
       (try clear hb)
       (try clear hb2)
       (try clear hk)
       (try clear hi)
       refine hK.out _ _ ⟨(zC BK287.out 0).trans rfl, (zC BK287.out 1).trans rfl, (zC BK287.out 2).trans rfl⟩ (fun hHeld => ?_)
       clear hK K
       refine norm_ (a' := ?_) ?_ ?_
       rotate_left
       ·show Act.put _ (some 17) _ = _
        simp only [Act.put, List.setIfInBounds_toArray, List.set_cons_zero, List.set_cons_succ, i64_w, i32_w]
        rfl
       refine one_ (i := 5) (N := some 20) #[true, true, true, true, true, true, false, true, true, true, true, false, false, true, false, false, true, true, false, false, false] rfl rfl (one_of HT_.out (by kernel_rfl)) (by decide) (fun K hK => ?_)
       refine goes_ Tryd.func94 (by kernel_rfl) rfl #[.int .i64 a0_1] (by rfl) rfl rfl (by (try simp only [List.map_toArray, List.map_cons, List.map_nil]); first | done | rfl | (simp only [List.length_drop, List.length_take]; rfl)) ?_
       with_reducible refine (r08_two.calls k a0_1 t291 _ A8.out).mono ?_
       rintro e w20 ⟨rfl, hb⟩
       refine ⟨_, rfl, ?_⟩
       have n0_ := mA (blk_below (g := gb287) (o := .cells #[.int .i64 a0_0, .int .i64 a0_1, .string a0_2] 81 (0, 0)) (by (with_reducible repeat (first | apply kN | apply kD | apply kA)); exact BK287.out) hb)
       have n1_ := mA (bP (by repeat (first | (with_reducible first | exact HB.out | apply bA | apply bN | apply bD | refine bS ?_ GE287.out) | exact HB.out)) hb)
       clear BK287
       clear HB
       have BK287 := n0_
       have HB := n1_
       clear n0_ n1_
       (try clear hb)
       (try clear hb2)
       (try clear hk)
       (try clear hi)
       refine hK.out _ _ ⟨(zC BK287.out 0).trans rfl, (zC BK287.out 1).trans rfl, (zC BK287.out 2).trans rfl⟩ (fun hHeld => ?_)
       clear hK K
       refine norm_ (a' := ?_) ?_ ?_
       rotate_left
       ·show Act.put _ (some 20) _ = _
        simp only [Act.put, List.setIfInBounds_toArray, List.set_cons_zero, List.set_cons_succ, i64_w, i32_w]
        rfl
       refine pure_ (i := 6) (N := some 21) (v := ?_) (a' := ?_) #[true, true, true, true, true, true, true, true, true, true, true, false, false, true, false, false, true, true, false, false, false] rfl rfl (any_of HT_.out (by kernel_rfl)) (fun _ _ _ h => h) (Or.inl ⟨by rfl, ?_⟩) ?_ ?_
       rotate_left
       ·intro w'
        go_simp
        with_reducible rfl
       rotate_left
       ·simp only [Act.put, List.setIfInBounds_toArray, List.set_cons_zero, List.set_cons_succ, i64_w, i32_w]
        rfl
       refine one_ (i := 11) (N := some 26) #[true, true, true, true, true, true, true, true, true, true, true, true, false, true, false, false, true, true, false, false, false] rfl rfl (one_of HT_.out (by kernel_rfl)) (by decide) (fun K hK => ?_)
       refine goes_ Tryd.func94 (by kernel_rfl) rfl #[.int .i64 (wrap64 (8 + (a0_2.size : Int)))] (by rfl) rfl rfl (by (try simp only [List.map_toArray, List.map_cons, List.map_nil]); first | done | rfl | (simp only [List.length_drop, List.length_take]; rfl)) ?_
       with_reducible refine (r08_two.calls k (wrap64 (8 + (a0_2.size : Int))) t292 _ A10.out).mono ?_
       rintro e w21 ⟨rfl, hb⟩
       refine ⟨_, rfl, ?_⟩
       have n0_ := mA (blk_below (g := gb287) (o := .cells #[.int .i64 a0_0, .int .i64 a0_1, .string a0_2] 81 (0, 0)) (by (with_reducible repeat (first | apply kN | apply kD | apply kA)); exact BK287.out) hb)
       have n1_ := mA (bP (by repeat (first | (with_reducible first | exact HB.out | apply bA | apply bN | apply bD | refine bS ?_ GE287.out) | exact HB.out)) hb)
       clear BK287
       clear HB
       have BK287 := n0_
       have HB := n1_
       clear n0_ n1_
       (try clear hb)
       (try clear hb2)
       (try clear hk)
       (try clear hi)
       refine hK.out _ _ ⟨(zC BK287.out 0).trans rfl, (zC BK287.out 1).trans rfl, (zC BK287.out 2).trans rfl⟩ (fun hHeld => ?_)
       clear hK K
       refine norm_ (a' := ?_) ?_ ?_
       rotate_left
       ·show Act.put _ (some 26) _ = _
        simp only [Act.put, List.setIfInBounds_toArray, List.set_cons_zero, List.set_cons_succ, i64_w, i32_w]
        rfl
       refine pure_ (i := 12) (N := some 27) (v := ?_) (a' := ?_) #[true, true, true, true, true, true, true, true, true, true, true, true, true, true, false, false, true, true, false, false, false] rfl rfl (any_of HT_.out (by kernel_rfl)) (fun _ _ _ h => h) (Or.inl ⟨by rfl, ?_⟩) ?_ ?_
       rotate_left
       ·intro w'
        go_simp
        with_reducible rfl
       rotate_left
       ·simp only [Act.put, List.setIfInBounds_toArray, List.set_cons_zero, List.set_cons_succ, i64_w, i32_w]
        rfl
       refine one_ (i := 14) (N := some 29) #[true, true, true, true, true, true, true, true, true, true, true, true, true, true, true, false, true, true, false, false, false] rfl rfl (one_of HT_.out (by kernel_rfl)) (by decide) (fun K hK => ?_)
       refine goes_ Tryd.func94 (by kernel_rfl) rfl #[.int .i64 a1] (by rfl) rfl rfl (by (try simp only [List.map_toArray, List.map_cons, List.map_nil]); first | done | rfl | (simp only [List.length_drop, List.length_take]; rfl)) ?_
       with_reducible refine (r08_two.calls k a1 t293 _ A12.out).mono ?_
       rintro e w22 ⟨rfl, hb⟩
       refine ⟨_, rfl, ?_⟩
       have n0_ := mA (blk_below (g := gb287) (o := .cells #[.int .i64 a0_0, .int .i64 a0_1, .string a0_2] 81 (0, 0)) (by (with_reducible repeat (first | apply kN | apply kD | apply kA)); exact BK287.out) hb)
       have n1_ := mA (bP (by repeat (first | (with_reducible first | exact HB.out | apply bA | apply bN | apply bD | refine bS ?_ GE287.out) | exact HB.out)) hb)
       clear BK287
       clear HB
       have BK287 := n0_
       have HB := n1_
       clear n0_ n1_
       (try clear hb)
       (try clear hb2)
       (try clear hk)
       (try clear hi)
       refine hK.out _ _ ⟨(zC BK287.out 0).trans rfl, (zC BK287.out 1).trans rfl, (zC BK287.out 2).trans rfl⟩ (fun hHeld => ?_)
       clear hK K
       refine norm_ (a' := ?_) ?_ ?_
       rotate_left
       ·show Act.put _ (some 29) _ = _
        simp only [Act.put, List.setIfInBounds_toArray, List.set_cons_zero, List.set_cons_succ, i64_w, i32_w]
        rfl
       refine pure_ (i := 15) (N := some 30) (v := ?_) (a' := ?_) #[true, true, true, true, true, true, true, true, true, true, true, true, true, true, true, true, true, true, false, false, false] rfl rfl (any_of HT_.out (by kernel_rfl)) (fun _ _ _ h => h) (Or.inl ⟨by rfl, ?_⟩) ?_ ?_
       rotate_left
       ·intro w'
        go_simp
        with_reducible rfl
       rotate_left
       ·simp only [Act.put, List.setIfInBounds_toArray, List.set_cons_zero, List.set_cons_succ, i64_w, i32_w]
        rfl
       refine pure_ (i := 18) (N := some 33) (v := ?_) (a' := ?_) #[true, true, true, true, true, true, true, true, true, true, true, true, true, true, true, true, true, true, true, false, false] rfl rfl (any_of HT_.out (by kernel_rfl)) (fun _ _ _ h => h) (Or.inl ⟨by rfl, ?_⟩) ?_ ?_
       rotate_left
       ·intro w'
        go_simp
        with_reducible rfl
       rotate_left
       ·simp only [Act.put, List.setIfInBounds_toArray, List.set_cons_zero, List.set_cons_succ, i64_w, i32_w]
        rfl
       refine pure_ (i := 19) (N := some 4) (v := ?_) (a' := ?_) #[true, true, true, true, true, true, true, true, true, true, true, true, true, true, true, true, true, true, true, true, false] rfl rfl (any_of HT_.out (by kernel_rfl)) (fun _ _ _ h => h) (Or.inl ⟨by rfl, ?_⟩) ?_ ?_
       rotate_left
       ·intro w'
        go_simp
        with_reducible rfl
       rotate_left
       ·simp only [Act.put, List.setIfInBounds_toArray, List.set_cons_zero, List.set_cons_succ, i64_w, i32_w]
        rfl
       refine pure_ (i := 20) (N := some 5) (v := ?_) (a' := ?_) #[true, true, true, true, true, true, true, true, true, true, true, true, true, true, true, true, true, true, true, true, true] rfl rfl (any_of HT_.out (by kernel_rfl)) (fun _ _ _ h => h) (Or.inl ⟨by rfl, ?_⟩) ?_ ?_
       rotate_left
       ·intro w'
        go_simp
        with_reducible rfl
       rotate_left
       ·simp only [Act.put, List.setIfInBounds_toArray, List.set_cons_zero, List.set_cons_succ, i64_w, i32_w]
        rfl
       refine done_ (done_of HT_.out (by kernel_rfl)) ?_
       try go_wp2
       go_ret2
       exact ⟨by first | rfl | (simp [errW_none, errW_some] <;> rfl) | (simp [*, errW_none, errW_some] <;> rfl), by repeat (first | (with_reducible first | exact HB.out | apply bA | apply bN | apply bD | refine bS ?_ GE287.out) | exact HB.out)⟩
      ·rw [if_neg c14] at H
       exact absurd H (by simp)
     ·rw [if_neg c13] at H
      exact absurd H (by simp)
    ·rw [if_neg c11] at H
     exact absurd H (by simp)
   ·rw [if_neg c9] at H
    exact absurd H (by simp)
  ·replace c6 := Bool.eq_false_iff.mpr c6
   subst c6
   have H1 : (some ((⟨#[]⟩ : ByteArray), 1)) = some (r1, r2) := by rw [if_neg (show ¬ (false = true) by decide)] at H; exact H
   clear H
   have H := H1
   clear H1
   simp only [Option.some.injEq, Prod.mk.injEq] at H
   obtain ⟨rfl, rfl⟩ := H
   go_enter Tryd.func49, Tryd.ntmps49
   go_wp2_with (first | ((with_reducible refine gate_dst (N := 2) rfl ?_); refine box_event ?hg (N := 2) ?hd (cs := #[.int .i64 a0_0, .int .i64 a0_1, .string a0_2]) (t := 81) ?hr ?_; (case hd => rfl); (case hg => rfl); (case hr => first | (go_simp; done) | (go_simp; rfl)); intro gb287 hg w23 hbox hb; have n0_ := mA (bP (by repeat (first | (with_reducible first | exact HB.out | apply bA | apply bN | apply bD) | exact HB.out)) hb); have n1_ := mA (hbox); have n2_ := mA ((by rw [hg]; exact (below_size (by repeat (first | (with_reducible first | exact HB.out | apply bA | apply bN | apply bD) | exact HB.out))) : w.heap.size ≤ gb287)); have n3_ := mA ((by rw [hg]; exact (below_size (by repeat (first | (with_reducible first | exact HB.out | apply bA | apply bN | apply bD) | exact HB.out))) : w.heap.size ≤ gb287)); clear HB; have HB := n0_; have BK287 := n1_; have GW287 := n2_; have GE287 := n3_; clear n0_ n1_ n2_ n3_; clear hb hbox hg; have hcz24_0 : w23.cell? ⟨gb287, 0, none⟩ = some (.int .i64 a0_0) := (zC BK287.out 0).trans rfl; have hcz24_1 : w23.cell? ⟨gb287, 1, none⟩ = some (.int .i64 a0_1) := (zC BK287.out 1).trans rfl; have hcz24_2 : w23.cell? ⟨gb287, 2, none⟩ = some (.string a0_2) := (zC BK287.out 2).trans rfl; have hfz24_0 := zF BK287.out 0; have hfz24_1 := zF BK287.out 1; have hfz24_2 := zF BK287.out 2) | ((with_reducible refine gate_callee (f := 92) rfl ?_); refine goesL_ (some 8) rfl rfl Tryd.func92 (by kernel_rfl) rfl #[.agg #[.int .i64 a0_0, .int .i64 a0_1, .string a0_2]] rfl (by (try simp only [List.map_toArray, List.map_cons, List.map_nil]); first | done | rfl | (simp only [List.length_drop, List.length_take]; rfl)) ?_; (with_reducible refine (r08_Check.calls k a0_0 a0_1 a0_2 t288 _ A3.out).mono ?_); rintro e w25 ⟨rfl, hb⟩; refine ⟨_, rfl, ?_⟩; have n0_ := mA (blk_below (g := gb287) (o := .cells #[.int .i64 a0_0, .int .i64 a0_1, .string a0_2] 81 (0, 0)) (by (with_reducible repeat (first | apply kN | apply kD | apply kA)); exact BK287.out) hb); have n1_ := mA (bP (by repeat (first | (with_reducible first | exact HB.out | apply bA | apply bN | apply bD | refine bS ?_ GE287.out) | exact HB.out)) hb); clear BK287; clear HB; have BK287 := n0_; have HB := n1_; clear n0_ n1_; (try clear hb); (try clear hb2); (try clear hk); (try clear hi)) | ((with_reducible refine gate_callee (f := 93) rfl ?_); refine goesL_ (some 13) rfl rfl Tryd.func93 (by kernel_rfl) rfl #[.int .i64 a1] rfl (by (try simp only [List.map_toArray, List.map_cons, List.map_nil]); first | done | rfl | (simp only [List.length_drop, List.length_take]; rfl)) ?_; (with_reducible refine (r08_in.calls a1 false _ A5.out).mono ?_); rintro e w' ⟨rfl, ⟨nd, rfl⟩⟩; refine ⟨_, rfl, ?_⟩))
   go_ret2
   exact ⟨by first | rfl | (simp [errW_none, errW_some] <;> rfl) | (simp [*, errW_none, errW_some] <;> rfl), by repeat (first | (with_reducible first | exact HB.out | apply bA | apply bN | apply bD | refine bS ?_ GE287.out) | exact HB.out)⟩
 ·rw [if_neg c4] at H
  have c4b0 : (t288 == 0) = false := beq_eq_false_iff_ne.mpr c4
  have c4b1 : (t288 != 0) = true := bne_iff_ne.mpr c4
  simp only [Option.some.injEq, Prod.mk.injEq] at H
  obtain ⟨rfl, rfl⟩ := H
  go_enter Tryd.func49, Tryd.ntmps49
  go_wp2_with (first | ((with_reducible refine gate_dst (N := 2) rfl ?_); refine box_event ?hg (N := 2) ?hd (cs := #[.int .i64 a0_0, .int .i64 a0_1, .string a0_2]) (t := 81) ?hr ?_; (case hd => rfl); (case hg => rfl); (case hr => first | (go_simp; done) | (go_simp; rfl)); intro gb287 hg w26 hbox hb; have n0_ := mA (bP (by repeat (first | (with_reducible first | exact HB.out | apply bA | apply bN | apply bD) | exact HB.out)) hb); have n1_ := mA (hbox); have n2_ := mA ((by rw [hg]; exact (below_size (by repeat (first | (with_reducible first | exact HB.out | apply bA | apply bN | apply bD) | exact HB.out))) : w.heap.size ≤ gb287)); have n3_ := mA ((by rw [hg]; exact (below_size (by repeat (first | (with_reducible first | exact HB.out | apply bA | apply bN | apply bD) | exact HB.out))) : w.heap.size ≤ gb287)); clear HB; have HB := n0_; have BK287 := n1_; have GW287 := n2_; have GE287 := n3_; clear n0_ n1_ n2_ n3_; clear hb hbox hg; have hcz27_0 : w26.cell? ⟨gb287, 0, none⟩ = some (.int .i64 a0_0) := (zC BK287.out 0).trans rfl; have hcz27_1 : w26.cell? ⟨gb287, 1, none⟩ = some (.int .i64 a0_1) := (zC BK287.out 1).trans rfl; have hcz27_2 : w26.cell? ⟨gb287, 2, none⟩ = some (.string a0_2) := (zC BK287.out 2).trans rfl; have hfz27_0 := zF BK287.out 0; have hfz27_1 := zF BK287.out 1; have hfz27_2 := zF BK287.out 2) | ((with_reducible refine gate_callee (f := 92) rfl ?_); refine goesL_ (some 8) rfl rfl Tryd.func92 (by kernel_rfl) rfl #[.agg #[.int .i64 a0_0, .int .i64 a0_1, .string a0_2]] rfl (by (try simp only [List.map_toArray, List.map_cons, List.map_nil]); first | done | rfl | (simp only [List.length_drop, List.length_take]; rfl)) ?_; (with_reducible refine (r08_Check.calls k a0_0 a0_1 a0_2 t288 _ A3.out).mono ?_); rintro e w28 ⟨rfl, hb⟩; refine ⟨_, rfl, ?_⟩; have n0_ := mA (blk_below (g := gb287) (o := .cells #[.int .i64 a0_0, .int .i64 a0_1, .string a0_2] 81 (0, 0)) (by (with_reducible repeat (first | apply kN | apply kD | apply kA)); exact BK287.out) hb); have n1_ := mA (bP (by repeat (first | (with_reducible first | exact HB.out | apply bA | apply bN | apply bD | refine bS ?_ GE287.out) | exact HB.out)) hb); clear BK287; clear HB; have BK287 := n0_; have HB := n1_; clear n0_ n1_; (try clear hb); (try clear hb2); (try clear hk); (try clear hi)))
  go_ret2
  exact ⟨by first | rfl | (simp [errW_none, errW_some] <;> rfl) | (simp [*, errW_none, errW_some] <;> rfl), by repeat (first | (with_reducible first | exact HB.out | apply bA | apply bN | apply bD | refine bS ?_ GE287.out) | exact HB.out)⟩

def r08_Get.f (k : Nat) (a0 : ByteArray) : Option (Int × Int × ByteArray × Int × Int) := if (a0.size : Int) < 8 then (some (0, 0, (⟨#[]⟩ : ByteArray), 0, 2)) else (if 4 ≤ 6 then (if 6 ≤ (a0.size : Int) then ((palanquinref01_Value.f k (a0.extract 4 6)).bind fun t301 => (if (wrap64 (t301)) = (a0.size : Int) then (if 0 ≤ 2 then (if 2 ≤ (a0.size : Int) then ((palanquinref01_Value.f k (a0.extract 0 2)).bind fun t302 => (if 2 ≤ 4 then (if 4 ≤ (a0.size : Int) then ((palanquinref01_Value.f k (a0.extract 2 4)).bind fun t303 => (if 8 ≤ (a0.size : Int) then (if 6 ≤ 8 then ((palanquinref01_Value.f k (a0.extract 6 8)).bind fun t304 => (some (wrap64 (t302), wrap64 (t303), a0.extract 8 a0.size, wrap64 (t304), 0))) else (none)) else (none))) else (none)) else (none))) else (none)) else (none)) else (some (0, 0, (⟨#[]⟩ : ByteArray), 0, 4)))) else (none)) else (none))
theorem r08_Get.mono : ∀ a0 k, LeO (r08_Get.f k a0) (r08_Get.f (k + 1) a0) := by
 intro a0 k
 unfold r08_Get.f
 repeat' first
   | (with_reducible exact palanquinref01_Value.mono _ _)
   | (with_reducible exact LeO.refl _)
   | (with_reducible exact LeO.none _)
   | (with_reducible refine LeO.ite ?_ ?_)
   | (with_reducible refine LeO.bind ?_ (fun _ => ?_))
   | exact palanquinref01_Value.mono _ _
   | exact LeO.none _
   | refine LeO.ite ?_ ?_
   | refine LeO.bind ?_ (fun _ => ?_)
def r08_Get.T5 : Bool × List (List Nat × List Nat) := (true, [([], []), ([0], [0]), ([1], [1]), ([2], [2]), ([], []), ([4], [4]), ([5, 2], [5]), ([6], [6]), ([], []), ([8], [8]), ([3, 7, 9], [3, 7, 9]), ([], []), ([11], [11]), ([12, 6], [12]), ([13], [13]), ([10, 13, 0, 1, 2, 3, 4, 5, 6, 7, 8, 9, 10], [10]), ([14, 15, 0, 1, 2, 3, 4, 5, 6, 7, 8, 9, 10, 11, 12, 13, 14, 15], [14]), ([16, 0, 1, 2, 3, 4, 5, 6, 7, 8, 9, 10, 11, 12, 13, 14, 15, 16], [])])
def r08_Get.B5 : List Nat := [0, 1, 3, 7, 0, 16, 55, 119, 0, 256, 1023, 0, 2048, 6263, 14455, 16383, 65535, 131071]
theorem r08_Get.tab5 : rtab .any (opsOf Tryd.f80 5) = r08_Get.T5 := by kernel_rfl
theorem r08_Get.bits5 : waitsOk r08_Get.T5.2 r08_Get.B5 = true := by kernel_rfl
set_option maxHeartbeats 8000000 in
set_option maxRecDepth 100000 in
theorem r08_Get.calls (k : Nat) (a0 : ByteArray) (r1 : Int) (r2 : Int) (r3 : ByteArray) (r4 : Int) (r5 : Int) (w : World) (h : r08_Get.f k a0 = some (r1, r2, r3, r4, r5)) :
  Calls Tryd.prog 80 #[.string a0] w fun e w' => e = .returned (.tuple #[.agg #[.int .i64 r1, .int .i64 r2, .string r3], .int .i64 r4, .int .i64 r5]) ∧ Below w.heap.size w w' := by
 have hu81 := Tryd.underlying81
 have HB := mA (Below.refl w.heap.size w)
 have H : (if (a0.size : Int) < 8 then (some (0, 0, (⟨#[]⟩ : ByteArray), 0, 2)) else (if 4 ≤ 6 then (if 6 ≤ (a0.size : Int) then ((palanquinref01_Value.f k (a0.extract 4 6)).bind fun t301 => (if (wrap64 (t301)) = (a0.size : Int) then (if 0 ≤ 2 then (if 2 ≤ (a0.size : Int) then ((palanquinref01_Value.f k (a0.extract 0 2)).bind fun t302 => (if 2 ≤ 4 then (if 4 ≤ (a0.size : Int) then ((palanquinref01_Value.f k (a0.extract 2 4)).bind fun t303 => (if 8 ≤ (a0.size : Int) then (if 6 ≤ 8 then ((palanquinref01_Value.f k (a0.extract 6 8)).bind fun t304 => (some (wrap64 (t302), wrap64 (t303), a0.extract 8 a0.size, wrap64 (t304), 0))) else (none)) else (none))) else (none)) else (none))) else (none)) else (none)) else (some (0, 0, (⟨#[]⟩ : ByteArray), 0, 4)))) else (none)) else (none))) = some (r1, r2, r3, r4, r5) := h
 clear h
 by_cases c2 : (a0.size : Int) < 8
 ·rw [if_pos c2] at H
  have c2b0 : decide ((a0.size : Int) < 8) = true := decide_eq_true c2
  have c2b1 : decide (a0.size < 8) = true := decide_eq_true (by omega)
  clear c2
  simp only [Option.some.injEq, Prod.mk.injEq] at H
  obtain ⟨rfl, rfl, rfl, rfl, rfl⟩ := H
  go_enter Tryd.func80, Tryd.ntmps80
  go_wp2_with (first | ((with_reducible refine gate_dst (N := 2) rfl ?_); refine box_event ?hg (N := 2) ?hd (cs := #[.int .i64 0, .int .i64 0, .string (⟨#[]⟩ : ByteArray)]) (t := 81) ?hr ?_; (case hd => rfl); (case hg => rfl); (case hr => first | (go_simp; done) | (go_simp; rfl)); intro gb300 hg w3 hbox hb; have n0_ := mA (bP (by repeat (first | (with_reducible first | exact HB.out | apply bA | apply bN | apply bD) | exact HB.out)) hb); have n1_ := mA (hbox); have n2_ := mA ((by rw [hg]; exact (below_size (by repeat (first | (with_reducible first | exact HB.out | apply bA | apply bN | apply bD) | exact HB.out))) : w.heap.size ≤ gb300)); have n3_ := mA ((by rw [hg]; exact (below_size (by repeat (first | (with_reducible first | exact HB.out | apply bA | apply bN | apply bD) | exact HB.out))) : w.heap.size ≤ gb300)); clear HB; have HB := n0_; have BK300 := n1_; have GW300 := n2_; have GE300 := n3_; clear n0_ n1_ n2_ n3_; clear hb hbox hg; have hcz4_0 : w3.cell? ⟨gb300, 0, none⟩ = some (.int .i64 0) := (zC BK300.out 0).trans rfl; have hcz4_1 : w3.cell? ⟨gb300, 1, none⟩ = some (.int .i64 0) := (zC BK300.out 1).trans rfl; have hcz4_2 : w3.cell? ⟨gb300, 2, none⟩ = some (.string (⟨#[]⟩ : ByteArray)) := (zC BK300.out 2).trans rfl; have hfz4_0 := zF BK300.out 0; have hfz4_1 := zF BK300.out 1; have hfz4_2 := zF BK300.out 2))
  refine bodyPost_ret (results_ctt rfl _ _ gb300 81 #[.int .i64 0, .int .i64 0, .string (⟨#[]⟩ : ByteArray)] (0, 0) _ rfl (by (with_reducible repeat (first | apply kN | apply kD | apply kA)); refine blk_put (cs := #[.int .i64 0, .int .i64 0, .string (⟨#[]⟩ : ByteArray)]) ?_ 2 _ (by first | rfl | (simp [*]; done)); (with_reducible repeat (first | apply kN | apply kD | apply kA)); refine blk_put (cs := #[.int .i64 0, .int .i64 0, .string (⟨#[]⟩ : ByteArray)]) ?_ 1 _ (by first | rfl | (simp [*]; done)); (with_reducible repeat (first | apply kN | apply kD | apply kA)); refine blk_put (cs := #[.int .i64 0, .int .i64 0, .string (⟨#[]⟩ : ByteArray)]) ?_ 0 _ (by first | rfl | (simp [*]; done)); (with_reducible repeat (first | apply kN | apply kD | apply kA)); exact BK300.out) Tryd.underlying81 rfl (by kernel_rfl)) rfl ?_
  exact ⟨by first | rfl | (simp [errW_none, errW_some] <;> rfl) | (simp [*, errW_none, errW_some] <;> rfl), by repeat (first | (with_reducible first | exact HB.out | apply bA | apply bN | apply bD | refine bS ?_ GE300.out) | exact HB.out)⟩
 ·rw [if_neg c2] at H
  have c2b0 : decide ((a0.size : Int) < 8) = false := decide_eq_false c2
  have c2b1 : decide (a0.size < 8) = false := decide_eq_false (by omega)
  clear c2
  by_cases c5 : 4 ≤ 6
  ·rw [if_pos c5] at H
   have c5b0 := eq_true c5
   have c5b1 : decide (4 ≤ 6) = true := decide_eq_true c5
   clear c5
   by_cases c6 : 6 ≤ (a0.size : Int)
   ·rw [if_pos c6] at H
    have c6b0 := eq_true c6
    have c6b1 : decide (6 ≤ (a0.size : Int)) = true := decide_eq_true c6
    clear c6
    replace H := Option.bind_eq_some_iff.mp H
    obtain ⟨t301, A70, H⟩ := H
    replace H : (if (wrap64 (t301)) = (a0.size : Int) then (if 0 ≤ 2 then (if 2 ≤ (a0.size : Int) then ((palanquinref01_Value.f k (a0.extract 0 2)).bind fun t302 => (if 2 ≤ 4 then (if 4 ≤ (a0.size : Int) then ((palanquinref01_Value.f k (a0.extract 2 4)).bind fun t303 => (if 8 ≤ (a0.size : Int) then (if 6 ≤ 8 then ((palanquinref01_Value.f k (a0.extract 6 8)).bind fun t304 => (some (wrap64 (t302), wrap64 (t303), a0.extract 8 a0.size, wrap64 (t304), 0))) else (none)) else (none))) else (none)) else (none))) else (none)) else (none)) else (some (0, 0, (⟨#[]⟩ : ByteArray), 0, 4))) = some (r1, r2, r3, r4, r5) := H
    have A7 := mA A70
    clear A70
    by_cases c8 : (wrap64 (t301)) = (a0.size : Int)
    ·rw [if_pos c8] at H
     have c8b0 : ((wrap64 (t301)) == (a0.size : Int)) = true := beq_iff_eq.mpr c8
     have c8b1 : ((wrap64 (t301)) != (a0.size : Int)) = false := bne_eq_false_iff_eq.mpr c8
     clear c8
     by_cases c9 : 0 ≤ 2
     ·rw [if_pos c9] at H
      have c9b0 := eq_true c9
      have c9b1 : decide (0 ≤ 2) = true := decide_eq_true c9
      clear c9
      by_cases c10 : 2 ≤ (a0.size : Int)
      ·rw [if_pos c10] at H
       have c10b0 := eq_true c10
       have c10b1 : decide (2 ≤ (a0.size : Int)) = true := decide_eq_true c10
       clear c10
       replace H := Option.bind_eq_some_iff.mp H
       obtain ⟨t302, A110, H⟩ := H
       replace H : (if 2 ≤ 4 then (if 4 ≤ (a0.size : Int) then ((palanquinref01_Value.f k (a0.extract 2 4)).bind fun t303 => (if 8 ≤ (a0.size : Int) then (if 6 ≤ 8 then ((palanquinref01_Value.f k (a0.extract 6 8)).bind fun t304 => (some (wrap64 (t302), wrap64 (t303), a0.extract 8 a0.size, wrap64 (t304), 0))) else (none)) else (none))) else (none)) else (none)) = some (r1, r2, r3, r4, r5) := H
       have A11 := mA A110
       clear A110
       by_cases c12 : 2 ≤ 4
       ·rw [if_pos c12] at H
        have c12b0 := eq_true c12
        have c12b1 : decide (2 ≤ 4) = true := decide_eq_true c12
        clear c12
        by_cases c13 : 4 ≤ (a0.size : Int)
        ·rw [if_pos c13] at H
         have c13b0 := eq_true c13
         have c13b1 : decide (4 ≤ (a0.size : Int)) = true := decide_eq_true c13
         clear c13
         replace H := Option.bind_eq_some_iff.mp H
         obtain ⟨t303, A140, H⟩ := H
         replace H : (if 8 ≤ (a0.size : Int) then (if 6 ≤ 8 then ((palanquinref01_Value.f k (a0.extract 6 8)).bind fun t304 => (some (wrap64 (t302), wrap64 (t303), a0.extract 8 a0.size, wrap64 (t304), 0))) else (none)) else (none)) = some (r1, r2, r3, r4, r5) := H
         have A14 := mA A140
         clear A140
         by_cases c15 : 8 ≤ (a0.size : Int)
         ·rw [if_pos c15] at H
          have c15b0 := eq_true c15
          have c15b1 : decide (8 ≤ (a0.size : Int)) = true := decide_eq_true c15
          clear c15
          by_cases c16 : 6 ≤ 8
          ·rw [if_pos c16] at H
           have c16b0 := eq_true c16
           have c16b1 : decide (6 ≤ 8) = true := decide_eq_true c16
           clear c16
           have c17b0 := eq_true (of_decide_eq_true (by first | (with_reducible assumption) | assumption) : 8 ≤ (a0.size : Int))
           replace H := Option.bind_eq_some_iff.mp H
           obtain ⟨t304, A180, H⟩ := H
           replace H : (some (wrap64 (t302), wrap64 (t303), a0.extract 8 a0.size, wrap64 (t304), 0)) = some (r1, r2, r3, r4, r5) := H
           have A18 := mA A180
           clear A180
           simp only [Option.some.injEq, Prod.mk.injEq] at H
           obtain ⟨rfl, rfl, rfl, rfl, rfl⟩ := H
           go_enter Tryd.func80, Tryd.ntmps80
           try go_wp2_with (first | ((with_reducible refine gate_dst (N := 2) rfl ?_); refine box_event ?hg (N := 2) ?hd (cs := #[.int .i64 0, .int .i64 0, .string (⟨#[]⟩ : ByteArray)]) (t := 81) ?hr ?_; (case hd => rfl); (case hg => rfl); (case hr => first | (go_simp; done) | (go_simp; rfl)); intro gb300 hg w19 hbox hb; have n0_ := mA (bP (by repeat (first | (with_reducible first | exact HB.out | apply bA | apply bN | apply bD) | exact HB.out)) hb); have n1_ := mA (hbox); have n2_ := mA ((by rw [hg]; exact (below_size (by repeat (first | (with_reducible first | exact HB.out | apply bA | apply bN | apply bD) | exact HB.out))) : w.heap.size ≤ gb300)); have n3_ := mA ((by rw [hg]; exact (below_size (by repeat (first | (with_reducible first | exact HB.out | apply bA | apply bN | apply bD) | exact HB.out))) : w.heap.size ≤ gb300)); clear HB; have HB := n0_; have BK300 := n1_; have GW300 := n2_; have GE300 := n3_; clear n0_ n1_ n2_ n3_; clear hb hbox hg) | ((with_reducible refine gate_callee (f := 72) rfl ?_); refine goesL_ (some 11) rfl rfl Tryd.func72 (by kernel_rfl) rfl #[.string (a0.extract 4 6)] rfl (by (try simp only [List.map_toArray, List.map_cons, List.map_nil]); first | done | rfl | (simp only [List.length_drop, List.length_take]; rfl)) ?_; (with_reducible refine (palanquinref01_Value.calls k (a0.extract 4 6) t301 _ A7.out).mono ?_); rintro e w' ⟨rfl, ⟨nd, rfl⟩⟩; refine ⟨_, rfl, ?_⟩; (try (rw [drewN_self w19]; generalize hq_ : World.drewN w19 _ = w19; have n0_ : Aside0 (w19.heap[gb300]? = some (.cells #[.int .i64 0, .int .i64 0, .string (⟨#[]⟩ : ByteArray)] 81 (0, 0))) := ⟨by rw [← hq_]; exact (by (with_reducible repeat (first | apply kN | apply kD | apply kA)); exact BK300.out)⟩; have n1_ : Aside0 (Below w.heap.size w w19) := ⟨by rw [← hq_]; exact (by repeat (first | (with_reducible first | exact HB.out | apply bA | apply bN | apply bD | refine bS ?_ GE300.out) | exact HB.out))⟩; clear BK300 HB hq_; have BK300 := n0_; have HB := n1_; clear n0_ n1_))))
           have n0_ := mA (kD BK300.out)
           have n1_ := mA (bD HB.out)
           clear BK300
           clear HB
           have BK300 := n0_
           have HB := n1_
           clear n0_ n1_
           refine start_ (n := 18) (S := fun w' => True) (ds := []) #[false, false, false, false, false, false, false, false, false, false, false, false, false, false, false, false, false, false] (by kernel_rfl) rfl rfl trivial (fun hHeld => ?_); refine with_tabW r08_Get.tab5 r08_Get.bits5 (fun HT_ HW_ => ?_)
           generalize w19.drew = w20 at BK300 HB hHeld ⊢
           refine pure_ (i := 0) (N := some 17) (v := ?_) (a' := ?_) #[true, false, false, false, false, false, false, false, false, false, false, false, false, false, false, false, false, false] rfl rfl (any_of HT_.out (by kernel_rfl)) (fun _ _ _ h => h) (Or.inl ⟨by rfl, ?_⟩) ?_ ?_
           rotate_left
           ·intro w'
            go_simp
            with_reducible rfl
           rotate_left
           ·simp only [Act.put, List.setIfInBounds_toArray, List.set_cons_zero, List.set_cons_succ, i64_w, i32_w]
            rfl
           refine pure_ (i := 1) (N := some 18) (v := ?_) (a' := ?_) #[true, true, false, false, false, false, false, false, false, false, false, false, false, false, false, false, false, false] rfl rfl (any_of HT_.out (by kernel_rfl)) (fun _ _ _ h => h) (Or.inl ⟨by rfl, ?_⟩) ?_ ?_
           rotate_left
           ·intro w'
            go_simp
            with_reducible rfl
           rotate_left
           ·simp only [Act.put, List.setIfInBounds_toArray, List.set_cons_zero, List.set_cons_succ, i64_w, i32_w]
            rfl
           refine pure_ (i := 4) (N := some 21) (v := ?_) (a' := ?_) #[true, true, false, false, true, false, false, false, false, false, false, false, false, false, false, false, false, false] rfl rfl (any_of HT_.out (by kernel_rfl)) (fun _ _ _ h => h) (Or.inl ⟨by rfl, ?_⟩) ?_ ?_
           rotate_left
           ·intro w'
            go_simp
            with_reducible rfl
           rotate_left
           ·simp only [Act.put, List.setIfInBounds_toArray, List.set_cons_zero, List.set_cons_succ, i64_w, i32_w]
            rfl
           refine pure_ (i := 5) (N := some 22) (v := ?_) (a' := ?_) #[true, true, false, false, true, true, false, false, false, false, false, false, false, false, false, false, false, false] rfl rfl (any_of HT_.out (by kernel_rfl)) (fun _ _ _ h => h) (Or.inl ⟨by rfl, ?_⟩) ?_ ?_
           rotate_left
           ·intro w'
            go_simp
            with_reducible rfl
           rotate_left
           ·simp only [Act.put, List.setIfInBounds_toArray, List.set_cons_zero, List.set_cons_succ, i64_w, i32_w]
            rfl
           refine pure_ (i := 8) (N := some 25) (v := ?_) (a' := ?_) #[true, true, false, false, true, true, false, false, true, false, false, false, false, false, false, false, false, false] rfl rfl (any_of HT_.out (by kernel_rfl)) (fun _ _ _ h => h) (Or.inl ⟨by rfl, ?_⟩) ?_ ?_
           rotate_left
           ·intro w'
            go_simp
            with_reducible rfl
           rotate_left
           ·simp only [Act.put, List.setIfInBounds_toArray, List.set_cons_zero, List.set_cons_succ, i64_w, i32_w]
            rfl
           refine pure_ (i := 9) (N := some 26) (v := ?_) (a' := ?_) #[true, true, false, false, true, true, false, false, true, true, false, false, false, false, false, false, false, false] rfl rfl (any_of HT_.out (by kernel_rfl)) (fun _ _ _ h => h) (Or.inl ⟨by rfl, ?_⟩) ?_ ?_
           rotate_left
           ·intro w'
            go_simp
            with_reducible rfl
           rotate_left
           ·simp only [Act.put, List.setIfInBounds_toArray, List.set_cons_zero, List.set_cons_succ, i64_w, i32_w]
            rfl
           refine pure_ (i := 11) (N := some 28) (v := ?_) (a' := ?_) #[true, true, false, false, true, true, false, false, true, true, false, true, false, false, false, false, false, false] rfl rfl (any_of HT_.out (by kernel_rfl)) (fun _ _ _ h => h) (Or.inl ⟨by rfl, ?_⟩) ?_ ?_
           rotate_left
           ·intro w'
            go_simp
            with_reducible rfl
           rotate_left
           ·simp only [Act.put, List.setIfInBounds_toArray, List.set_cons_zero, List.set_cons_succ, i64_w, i32_w]
            rfl
           refine pure_ (i := 12) (N := some 29) (v := ?_) (a' := ?_) #[true, true, false, false, true, true, false, false, true, true, false, true, true, false, false, false, false, false] rfl rfl (any_of HT_.out (by kernel_rfl)) (fun _ _ _ h => h) (Or.inl ⟨by rfl, ?_⟩) ?_ ?_
           rotate_left
           ·intro w'
            go_simp
            with_reducible rfl
           rotate_left
           ·simp only [Act.put, List.setIfInBounds_toArray, List.set_cons_zero, List.set_cons_succ, i64_w, i32_w]
            rfl
           refine one_ (i := 2) (N := some 19) #[true, true, true, false, true, true, false, false, true, true, false, true, true, false, false, false, false, false] rfl rfl (one_of HT_.out (by kernel_rfl)) (by decide) (fun K hK => ?_)
           refine goes_ Tryd.func72 (by kernel_rfl) rfl #[.string (a0.extract 0 2)] (by rfl) rfl rfl (by (try simp only [List.map_toArray, List.map_cons, List.map_nil]); first | done | rfl | (simp only [List.length_drop, List.length_take]; rfl)) ?_
           with_reducible refine (palanquinref01_Value.calls k (a0.extract 0 2) t302 _ A11.out).mono ?_
           rintro e w' ⟨rfl, ⟨nd, rfl⟩⟩
           refine ⟨_, rfl, ?_⟩
           refine hK.out _ _ trivial (fun hHeld => ?_)
           clear hK K
           refine norm_ (a' := ?_) ?_ ?_
           rotate_left
           ·show Act.put _ (some 19) _ = _
            simp only [Act.put, List.setIfInBounds_toArray, List.set_cons_zero, List.set_cons_succ, i64_w, i32_w]
            rfl
           refine pure_ (i := 3) (N := some 20) (v := ?_) (a' := ?_) #[true, true, true, true, true, true, false, false, true, true, false, true, true, false, false, false, false, false] rfl rfl (any_of HT_.out (by kernel_rfl)) (fun _ _ _ h => h) (Or.inl ⟨by rfl, ?_⟩) ?_ ?_
           rotate_left
           ·intro w'
            go_simp
            with_reducible rfl
           rotate_left
           ·simp only [Act.put, List.setIfInBounds_toArray, List.set_cons_zero, List.set_cons_succ, i64_w, i32_w]
            rfl
           refine one_ (i := 6) (N := some 23) #[true, true, true, true, true, true, true, false, true, true, false, true, true, false, false, false, false, false] rfl rfl (one_of HT_.out (by kernel_rfl)) (by decide) (fun K hK => ?_)
           refine goes_ Tryd.func72 (by kernel_rfl) rfl #[.string (a0.extract 2 4)] (by rfl) rfl rfl (by (try simp only [List.map_toArray, List.map_cons, List.map_nil]); first | done | rfl | (simp only [List.length_drop, List.length_take]; rfl)) ?_
           with_reducible refine (palanquinref01_Value.calls k (a0.extract 2 4) t303 _ A14.out).mono ?_
           rintro e w' ⟨rfl, ⟨nd, rfl⟩⟩
           refine ⟨_, rfl, ?_⟩
           refine hK.out _ _ trivial (fun hHeld => ?_)
           clear hK K
           refine norm_ (a' := ?_) ?_ ?_
           rotate_left
           ·show Act.put _ (some 23) _ = _
            simp only [Act.put, List.setIfInBounds_toArray, List.set_cons_zero, List.set_cons_succ, i64_w, i32_w]
            rfl
           refine pure_ (i := 7) (N := some 24) (v := ?_) (a' := ?_) #[true, true, true, true, true, true, true, true, true, true, false, true, true, false, false, false, false, false] rfl rfl (any_of HT_.out (by kernel_rfl)) (fun _ _ _ h => h) (Or.inl ⟨by rfl, ?_⟩) ?_ ?_
           rotate_left
           ·intro w'
            go_simp
            with_reducible rfl
           rotate_left
           ·simp only [Act.put, List.setIfInBounds_toArray, List.set_cons_zero, List.set_cons_succ, i64_w, i32_w]
            rfl
           refine pure_ (i := 10) (N := some 27) (v := ?_) (a' := ?_) #[true, true, true, true, true, true, true, true, true, true, true, true, true, false, false, false, false, false] rfl rfl (any_of HT_.out (by kernel_rfl)) (fun _ _ _ h => h) (Or.inl ⟨by rfl, ?_⟩) ?_ ?_
           rotate_left
           ·intro w'
            go_simp
            with_reducible rfl
           rotate_left
           ·simp only [Act.put, List.setIfInBounds_toArray, List.set_cons_zero, List.set_cons_succ, i64_w, i32_w]
            rfl
           refine one_ (i := 13) (N := some 30) #[true, true, true, true, true, true, true, true, true, true, true, true, true, true, false, false, false, false] rfl rfl (one_of HT_.out (by kernel_rfl)) (by decide) (fun K hK => ?_)
           refine goes_ Tryd.func72 (by kernel_rfl) rfl #[.string (a0.extract 6 8)] (by rfl) rfl rfl (by (try simp only [List.map_toArray, List.map_cons, List.map_nil]); first | done | rfl | (simp only [List.length_drop, List.length_take]; rfl)) ?_
           with_reducible refine (palanquinref01_Value.calls k (a0.extract 6 8) t304 _ A18.out).mono ?_
           rintro e w' ⟨rfl, ⟨nd, rfl⟩⟩
           refine ⟨_, rfl, ?_⟩
           refine hK.out _ _ trivial (fun hHeld => ?_)
           clear hK K
           refine norm_ (a' := ?_) ?_ ?_
           rotate_left
           ·show Act.put _ (some 30) _ = _
            simp only [Act.put, List.setIfInBounds_toArray, List.set_cons_zero, List.set_cons_succ, i64_w, i32_w]
            rfl
           refine pure_ (i := 14) (N := some 31) (v := ?_) (a' := ?_) #[true, true, true, true, true, true, true, true, true, true, true, true, true, true, true, false, false, false] rfl rfl (any_of HT_.out (by kernel_rfl)) (fun _ _ _ h => h) (Or.inl ⟨by rfl, ?_⟩) ?_ ?_
           rotate_left
           ·intro w'
            go_simp
            with_reducible rfl
           rotate_left
           ·simp only [Act.put, List.setIfInBounds_toArray, List.set_cons_zero, List.set_cons_succ, i64_w, i32_w]
            rfl
           refine one_ (i := 15) (N := none) #[true, true, true, true, true, true, true, true, true, true, true, true, true, true, true, true, false, false] rfl rfl (one_of HT_.out (by kernel_rfl)) (by decide) (fun K hK => ?_)
           have hs21 : w20.cell? ⟨gb300, 0, none⟩ = some (.int .i64 0) := (zC BK300.out 0).trans rfl
           have hfs21 := zF BK300.out 0
           have hs22 : w20.cell? ⟨gb300, 1, none⟩ = some (.int .i64 0) := (zC BK300.out 1).trans rfl
           have hfs22 := zF BK300.out 1
           have hs23 : w20.cell? ⟨gb300, 2, none⟩ = some (.string (⟨#[]⟩ : ByteArray)) := (zC BK300.out 2).trans rfl
           have hfs23 := zF BK300.out 2
           refine skip_ (w1 := ?_) (by rfl) rfl ?_ ?_
           rotate_left
           ·go_simp
            rfl
           refine hK.out _ _ trivial (fun hHeld => ?_)
           clear hK K
           refine pure_ (i := 16) (N := some 3) (v := ?_) (a' := ?_) #[true, true, true, true, true, true, true, true, true, true, true, true, true, true, true, true, true, false] rfl rfl (any_of HT_.out (by kernel_rfl)) (fun _ _ _ h => h) (Or.inl ⟨by rfl, ?_⟩) ?_ ?_
           rotate_left
           ·intro w'
            go_simp
            with_reducible rfl
           rotate_left
           ·simp only [Act.put, List.setIfInBounds_toArray, List.set_cons_zero, List.set_cons_succ, i64_w, i32_w]
            rfl
           refine pure_ (i := 17) (N := some 4) (v := ?_) (a' := ?_) #[true, true, true, true, true, true, true, true, true, true, true, true, true, true, true, true, true, true] rfl rfl (any_of HT_.out (by kernel_rfl)) (fun _ _ _ h => h) (Or.inl ⟨by rfl, ?_⟩) ?_ ?_
           rotate_left
           ·intro w'
            go_simp
            with_reducible rfl
           rotate_left
           ·simp only [Act.put, List.setIfInBounds_toArray, List.set_cons_zero, List.set_cons_succ, i64_w, i32_w]
            rfl
           refine done_ (done_of HT_.out (by kernel_rfl)) ?_
           try go_wp2
           refine bodyPost_ret (results_ctt rfl _ _ gb300 81 #[.int .i64 (wrap64 (t302)), .int .i64 (wrap64 (t303)), .string (a0.extract 8 a0.size)] (0, 0) _ rfl (by (with_reducible repeat (first | apply kN | apply kD | apply kA)); refine blk_put (cs := #[.int .i64 (wrap64 (t302)), .int .i64 (wrap64 (t303)), .string (⟨#[]⟩ : ByteArray)]) ?_ 2 _ (by first | rfl | (simp [*]; done)); (with_reducible repeat (first | apply kN | apply kD | apply kA)); refine blk_put (cs := #[.int .i64 (wrap64 (t302)), .int .i64 0, .string (⟨#[]⟩ : ByteArray)]) ?_ 1 _ (by first | rfl | (simp [*]; done)); (with_reducible repeat (first | apply kN | apply kD | apply kA)); refine blk_put (cs := #[.int .i64 0, .int .i64 0, .string (⟨#[]⟩ : ByteArray)]) ?_ 0 _ (by first | rfl | (simp [*]; done)); (with_reducible repeat (first | apply kN | apply kD | apply kA)); exact BK300.out) Tryd.underlying81 rfl (by kernel_rfl)) rfl ?_
           exact ⟨by first | rfl | (simp [errW_none, errW_some] <;> rfl) | (simp [*, errW_none, errW_some] <;> rfl), by repeat (first | (with_reducible first | exact HB.out | apply bA | apply bN | apply bD | refine bS ?_ GE300.out) | exact HB.out)⟩
          ·rw [if_neg c16] at H
           exact absurd H (by simp)
         ·rw [if_neg c15] at H
          exact absurd H (by simp)
        ·rw [if_neg c13] at H
         exact absurd H (by simp)
       ·rw [if_neg c12] at H
        exact absurd H (by simp)
      ·rw [if_neg c10] at H
       exact absurd H (by simp)
     ·rw [if_neg c9] at H
      exact absurd H (by simp)
    ·rw [if_neg c8] at H
     have c8b0 : ((wrap64 (t301)) == (a0.size : Int)) = false := beq_eq_false_iff_ne.mpr c8
     have c8b1 : ((wrap64 (t301)) != (a0.size : Int)) = true := bne_iff_ne.mpr c8
     simp only [Option.some.injEq, Prod.mk.injEq] at H
     obtain ⟨rfl, rfl, rfl, rfl, rfl⟩ := H
     go_enter Tryd.func80, Tryd.ntmps80
     go_wp2_with (first | ((with_reducible refine gate_dst (N := 2) rfl ?_); refine box_event ?hg (N := 2) ?hd (cs := #[.int .i64 0, .int .i64 0, .string (⟨#[]⟩ : ByteArray)]) (t := 81) ?hr ?_; (case hd => rfl); (case hg => rfl); (case hr => first | (go_simp; done) | (go_simp; rfl)); intro gb300 hg w24 hbox hb; have n0_ := mA (bP (by repeat (first | (with_reducible first | exact HB.out | apply bA | apply bN | apply bD) | exact HB.out)) hb); have n1_ := mA (hbox); have n2_ := mA ((by rw [hg]; exact (below_size (by repeat (first | (with_reducible first | exact HB.out | apply bA | apply bN | apply bD) | exact HB.out))) : w.heap.size ≤ gb300)); have n3_ := mA ((by rw [hg]; exact (below_size (by repeat (first | (with_reducible first | exact HB.out | apply bA | apply bN | apply bD) | exact HB.out))) : w.heap.size ≤ gb300)); clear HB; have HB := n0_; have BK300 := n1_; have GW300 := n2_; have GE300 := n3_; clear n0_ n1_ n2_ n3_; clear hb hbox hg) | ((with_reducible refine gate_callee (f := 72) rfl ?_); refine goesL_ (some 11) rfl rfl Tryd.func72 (by kernel_rfl) rfl #[.string (a0.extract 4 6)] rfl (by (try simp only [List.map_toArray, List.map_cons, List.map_nil]); first | done | rfl | (simp only [List.length_drop, List.length_take]; rfl)) ?_; (with_reducible refine (palanquinref01_Value.calls k (a0.extract 4 6) t301 _ A7.out).mono ?_); rintro e w' ⟨rfl, ⟨nd, rfl⟩⟩; refine ⟨_, rfl, ?_⟩; (try (rw [drewN_self w24]; generalize hq_ : World.drewN w24 _ = w24; have n0_ : Aside0 (w24.heap[gb300]? = some (.cells #[.int .i64 0, .int .i64 0, .string (⟨#[]⟩ : ByteArray)] 81 (0, 0))) := ⟨by rw [← hq_]; exact (by (with_reducible repeat (first | apply kN | apply kD | apply kA)); exact BK300.out)⟩; have n1_ : Aside0 (Below w.heap.size w w24) := ⟨by rw [← hq_]; exact (by repeat (first | (with_reducible first | exact HB.out | apply bA | apply bN | apply bD | refine bS ?_ GE300.out) | exact HB.out))⟩; clear BK300 HB hq_; have BK300 := n0_; have HB := n1_; clear n0_ n1_)); have hcz25_0 : w24.cell? ⟨gb300, 0, none⟩ = some (.int .i64 0) := (zC BK300.out 0).trans rfl; have hcz25_1 : w24.cell? ⟨gb300, 1, none⟩ = some (.int .i64 0) := (zC BK300.out 1).trans rfl; have hcz25_2 : w24.cell? ⟨gb300, 2, none⟩ = some (.string (⟨#[]⟩ : ByteArray)) := (zC BK300.out 2).trans rfl; have hfz25_0 := zF BK300.out 0; have hfz25_1 := zF BK300.out 1; have hfz25_2 := zF BK300.out 2))
     refine bodyPost_ret (results_ctt rfl _ _ gb300 81 #[.int .i64 0, .int .i64 0, .string (⟨#[]⟩ : ByteArray)] (0, 0) _ rfl (by (with_reducible repeat (first | apply kN | apply kD | apply kA)); refine blk_put (cs := #[.int .i64 0, .int .i64 0, .string (⟨#[]⟩ : ByteArray)]) ?_ 2 _ (by first | rfl | (simp [*]; done)); (with_reducible repeat (first | apply kN | apply kD | apply kA)); refine blk_put (cs := #[.int .i64 0, .int .i64 0, .string (⟨#[]⟩ : ByteArray)]) ?_ 1 _ (by first | rfl | (simp [*]; done)); (with_reducible repeat (first | apply kN | apply kD | apply kA)); refine blk_put (cs := #[.int .i64 0, .int .i64 0, .string (⟨#[]⟩ : ByteArray)]) ?_ 0 _ (by first | rfl | (simp [*]; done)); (with_reducible repeat (first | apply kN | apply kD | apply kA)); exact BK300.out) Tryd.underlying81 rfl (by kernel_rfl)) rfl ?_
     exact ⟨by first | rfl | (simp [errW_none, errW_some] <;> rfl) | (simp [*, errW_none, errW_some] <;> rfl), by repeat (first | (with_reducible first | exact HB.out | apply bA | apply bN | apply bD | refine bS ?_ GE300.out) | exact HB.out)⟩
   ·rw [if_neg c6] at H
    exact absurd H (by simp)
  ·rw [if_neg c5] at H
   exact absurd H (by simp)

end Go.Proofs.YtcmalglippmocaaDoor.G
end
