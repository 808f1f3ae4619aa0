/- Texts of this session, joined: each is a section. -/
import Derived.Test.YteeljehkphfmdaaMWireBack4
import Derived.Test.YteeljehkphfmdaaMWireBack6
set_option linter.unusedVariables false
set_option linter.unusedSimpArgs false
section
namespace Go.Proofs.Yteeljehkphfmdaa.G
open Go.RowKit Go.Proofs.YteeljehkphfmdaaW.PrintWords Go.Proofs.YteeljehkphfmdaaW.PrintLast Go.Proofs.YteeljehkphfmdaaW.PrintMore
theorem kN {w : World} {g : Nat} {o : Obj} (h : w.heap[g]? = some o) (n : Nat) : (w.drewN n).heap[g]? = some o := blk_drewN h n
theorem kD {w : World} {g : Nat} {o : Obj} (h : w.heap[g]? = some o) : w.drew.heap[g]? = some o := blk_drew h
theorem kA {w : World} {g : Nat} {o : Obj} (h : w.heap[g]? = some o) (o' : Obj) : (w.alloc o').heap[g]? = some o := blk_alloc h o'
theorem bN {B : Nat} {w W : World} (h : Below B w W) (n : Nat) : Below B w (W.drewN n) := pw_below_drewN h n
theorem bA {w W : World} (h : Below w.heap.size w W) (o : Obj) : Below w.heap.size w (W.alloc o) := below_alloc h o
theorem bD {base : Nat} {w W : World} (h : Below base w W) : Below base w W.drew := below_drew1 h
theorem bS {w W : World} {g j : Nat} {v : Value} (h : Below w.heap.size w W) (hg : w.heap.size ≤ g) : Below w.heap.size w (W.setCell ⟨g, j, none⟩ v) := below_set h hg
theorem bP {w W w2 : World} (h : Below w.heap.size w W) (k : Below W.heap.size W w2) : Below w.heap.size w w2 := below_step h k
theorem zF {w : World} {g : Nat} {t : TypeId} {cs : Array Value} (h : w.heap[g]? = some (.cells cs t)) (i : Nat) : w.frozen? ⟨g, i, none⟩ = false := blk_frozen h i
theorem zC {w : World} {g : Nat} {t : TypeId} {cs : Array Value} (h : w.heap[g]? = some (.cells cs t)) (i : Nat) : w.cell? ⟨g, i, none⟩ = cs[i]? := blk_cell h i
theorem mA {p : Prop} (h : p) : Aside0 p := ⟨h⟩
theorem bpr {w W w2 : World} (h : Below w.heap.size w W) (k : Below W.heap.size W w2) : Aside0 (Below w.heap.size w w2) ∧ w.heap.size ≤ W.heap.size := ⟨⟨below_step h k⟩, h.size⟩
theorem bt3 {W w2 : World} {g : Nat} {o : Obj} (h : W.heap[g]? = some o) (k : Below W.heap.size W w2) : Aside0 (w2.heap[g]? = some o) ∧ g < W.heap.size := ⟨⟨blk_below h k⟩, blk_lt h⟩
def bv (n m : Nat) : Array Bool := ((List.range n).map fun j => m.testBit j).toArray

end Go.Proofs.Yteeljehkphfmdaa.G
end

section
namespace Go.Proofs.Yteeljehkphfmdaa.G
open Go.RowKit Go.Proofs.YteeljehkphfmdaaW.PrintWords Go.Proofs.YteeljehkphfmdaaW.PrintLast Go.Proofs.YteeljehkphfmdaaW.PrintMore
attribute [local go_sem] max2_int min2_int max_two min_two max_three min_three max_four min_four

def palanquinref01_Size.f (a0 : Int) : Option (Int) := if a0 = 0 then (some 1) else (if a0 = 1 then (some 2) else (if a0 = 2 then (some 4) else (some 8)))
set_option maxHeartbeats 8000000 in
set_option maxRecDepth 100000 in
theorem palanquinref01_Size.calls (a0 : Int) (r : Int) (w : World) (h : palanquinref01_Size.f a0 = some r) :
  Calls Try.prog 6 #[.int .i64 a0] w fun e w' => e = .returned (.int .i64 r) ∧ Drawn0 w w' := by
 have H : (if a0 = 0 then (some 1) else (if a0 = 1 then (some 2) else (if a0 = 2 then (some 4) else (some 8)))) = some r := h
 clear h
 by_cases c2 : a0 = 0
 ·rw [if_pos c2] at H
  have c2b0 : (a0 == 0) = true := beq_iff_eq.mpr c2
  have c2b1 : (a0 != 0) = false := bne_eq_false_iff_eq.mpr c2
  clear c2
  obtain rfl := Option.some.inj H
  go_enter Try.func6, Try.ntmps6
  go_wp2
  go_ret
  exact ⟨by first | rfl | (simp; done) | (simp [*]; done), by repeat (first | exact Drawn0.refl _ | apply Drawn0.step)⟩
 ·rw [if_neg c2] at H
  have c2b0 : (a0 == 0) = false := beq_eq_false_iff_ne.mpr c2
  have c2b1 : (a0 != 0) = true := bne_iff_ne.mpr c2
  by_cases c3 : a0 = 1
  ·rw [if_pos c3] at H
   have c3b0 : (a0 == 1) = true := beq_iff_eq.mpr c3
   have c3b1 : (a0 != 1) = false := bne_eq_false_iff_eq.mpr c3
   clear c3
   obtain rfl := Option.some.inj H
   go_enter Try.func6, Try.ntmps6
   go_wp2
   go_ret
   exact ⟨by first | rfl | (simp; done) | (simp [*]; done), by repeat (first | exact Drawn0.refl _ | apply Drawn0.step)⟩
  ·rw [if_neg c3] at H
   have c3b0 : (a0 == 1) = false := beq_eq_false_iff_ne.mpr c3
   have c3b1 : (a0 != 1) = true := bne_iff_ne.mpr c3
   by_cases c4 : a0 = 2
   ·rw [if_pos c4] at H
    have c4b0 : (a0 == 2) = true := beq_iff_eq.mpr c4
    have c4b1 : (a0 != 2) = false := bne_eq_false_iff_eq.mpr c4
    clear c4
    obtain rfl := Option.some.inj H
    go_enter Try.func6, Try.ntmps6
    go_wp2
    go_ret
    exact ⟨by first | rfl | (simp; done) | (simp [*]; done), by repeat (first | exact Drawn0.refl _ | apply Drawn0.step)⟩
   ·rw [if_neg c4] at H
    have c4b0 : (a0 == 2) = false := beq_eq_false_iff_ne.mpr c4
    have c4b1 : (a0 != 2) = true := bne_iff_ne.mpr c4
    obtain rfl := Option.some.inj H
    go_enter Try.func6, Try.ntmps6
    go_wp2
    go_ret
    exact ⟨by first | rfl | (simp; done) | (simp [*]; done), by repeat (first | exact Drawn0.refl _ | apply Drawn0.step)⟩

end Go.Proofs.Yteeljehkphfmdaa.G
end

section
namespace Go.Proofs.Yteeljehkphfmdaa.Pure
open Go.RowKit Go.Proofs.YteeljehkphfmdaaW.PrintWords Go.Proofs.YteeljehkphfmdaaW.PrintLast Go.Proofs.Yteeljehkphfmdaa.G Go.Proofs.Yteeljehkphfmdaa.Pal
theorem bt_bl (s : ByteArray) (i : Nat) (h : i < s.size) : bt s (i : Int) = (((bl s)[i]'(by rw [bl_length]; exact h)).toNat : Int) := by
  unfold bt
  rw [dif_pos (by simpa using h)]
  rfl
theorem byte_is (x : Int) (h0 : 0 ≤ x) : strOfNums [Int.tmod x 256 % 256] = ⟨#[UInt8.ofNat x.toNat]⟩ := by
  obtain ⟨n, rfl⟩ := Int.eq_ofNat_of_zero_le h0
  have e : Int.tmod (n : Int) 256 % 256 = ((n % 256 : Nat) : Int) := by rw [Int.tmod_eq_emod_of_nonneg (by omega)]; omega
  rw [e]
  simp [strOfNums]
  apply UInt8.toNat.inj
  simp
  omega
theorem bytes_sized {n : Nat} {r : ByteArray} {x : Nat} (h : bl r = nb n x) : r.size = n := by rw [← bl_length, h, nb_length]
end Go.Proofs.Yteeljehkphfmdaa.Pure
end

section
namespace Go.Proofs.Yteeljehkphfmdaa.G
open Go.RowKit Go.Proofs.YteeljehkphfmdaaW.PrintWords Go.Proofs.YteeljehkphfmdaaW.PrintLast Go.Proofs.YteeljehkphfmdaaW.PrintMore
attribute [local go_sem] max2_int min2_int max_two min_two max_three min_three max_four min_four

def palanquinlaw01_few.l0 : Nat → List (S27) → Int → Int → Option (Bool)
 | 0, _, _, _ => none
 | k + 1, x0, x3, x4 => if x4 < (x0.length : Int) then (if 0 ≤ x4 then (if (wrap64 (x3 + (((rd_T27 x0 x4).f3).size : Int))) > 5000 then (some false) else (if x4 > 100 then (some false) else (palanquinlaw01_few.l0 k x0 (wrap64 (x3 + (((rd_T27 x0 x4).f3).size : Int))) (wrap64 (x4 + 1))))) else (none)) else (some true)
def palanquinlaw01_few.f (k : Nat) (l0 : List (S27)) : Option (Bool) := palanquinlaw01_few.l0 k l0 0 0
theorem palanquinlaw01_few.mono_l : ∀ k, (∀ y0 y1 y2, LeO (palanquinlaw01_few.l0 k y0 y1 y2) (palanquinlaw01_few.l0 (k + 1) y0 y1 y2))
 | 0 => fun _ _ _ r h => by simp [palanquinlaw01_few.l0] at h
 | k + 1 => by
  have ih0 := palanquinlaw01_few.mono_l k
  ·intro y0 y1 y2
   unfold palanquinlaw01_few.l0
   repeat' first
   | (with_reducible exact ih0 _ _ _)
   | (with_reducible exact LeO.refl _)
   | (with_reducible exact LeO.none _)
   | (with_reducible refine LeO.ite ?_ ?_)
   | (with_reducible refine LeO.bind ?_ (fun _ => ?_))
   | exact ih0 _ _ _
   | exact LeO.none _
   | refine LeO.ite ?_ ?_
   | refine LeO.bind ?_ (fun _ => ?_)
theorem palanquinlaw01_few.mono : ∀ a0 k, LeO (palanquinlaw01_few.f k a0) (palanquinlaw01_few.f (k + 1) a0) := by
 intro a0 k
 have ih0 := palanquinlaw01_few.mono_l k
 unfold palanquinlaw01_few.f
 repeat' first
   | (with_reducible exact ih0 _ _ _)
   | (with_reducible exact LeO.refl _)
   | (with_reducible exact LeO.none _)
   | (with_reducible refine LeO.ite ?_ ?_)
   | (with_reducible refine LeO.bind ?_ (fun _ => ?_))
   | exact ih0 _ _ _
   | exact LeO.none _
   | refine LeO.ite ?_ ?_
   | refine LeO.bind ?_ (fun _ => ?_)
set_option maxHeartbeats 8000000 in
set_option maxRecDepth 100000 in
theorem palanquinlaw01_few.calls (k : Nat) (A0 : Option Addr) (c0 : Nat) (l0 : List (S27)) (r : Bool) (w : World) (hr0 : Kd.C k27 w A0 l0.length l0) (hc0 : l0.length ≤ c0) (h : palanquinlaw01_few.f k l0 = some r) :
  Calls Try.prog 5 #[.slice A0 l0.length c0] w fun e w' => e = .returned (.bool r) ∧ Drawn0 w w' := by
 have HR0 := mA hr0
 have HC0 := mA hc0
 clear hr0 hc0
 have H : (palanquinlaw01_few.l0 k l0 0 0) = some r := h
 clear h
 have H' := mA H
 clear H
 go_enter Try.func5, Try.ntmps5
 go_wp2
 go_loopg [3, 4] k (fun kq v3 v4 w' => ∃ (x3_1 : Int) (x4_1 : Int), v3 = .int .i64 x3_1 ∧ v4 = .int .i64 x4_1 ∧ Aside0 (palanquinlaw01_few.l0 kq l0 x3_1 x4_1 = some r) ∧ Aside0 (kq ≤ k) ∧ Drawn0 w w')
 case atStart => exact ⟨(0), (0), (by first | rfl | (simp; done) | (simp [*]; done)), (by first | rfl | (simp; done) | (simp [*]; done)), H', ⟨Nat.le_refl _⟩, by repeat (first | exact Drawn0.refl _ | apply Drawn0.step)⟩
 case round =>
  clear H'
  obtain ⟨x3_1, x4_1, rfl, rfl, HA, HK1, ⟨m1, rfl⟩⟩ := hrel
  cases gk with
  | zero => exact absurd HA.out (by simp [palanquinlaw01_few.l0])
  | succ k1 =>
   have H := HA.out
   clear HA
   simp only [palanquinlaw01_few.l0] at H
   by_cases c2 : x4_1 < (l0.length : Int)
   ·rw [if_pos c2] at H
    have c2b0 : decide (x4_1 < (l0.length : Int)) = true := decide_eq_true c2
    clear c2
    by_cases c3 : 0 ≤ x4_1
    ·rw [if_pos c3] at H
     have c3b0 : decide (0 ≤ x4_1) = true := decide_eq_true c3
     clear c3
     by_cases c4 : (wrap64 (x3_1 + (((rd_T27 l0 x4_1).f3).size : Int))) > 5000
     ·rw [if_pos c4] at H
      have c4b0 : decide (5000 < (wrap64 (x3_1 + (((rd_T27 l0 x4_1).f3).size : Int)))) = true := decide_eq_true c4
      clear c4
      obtain rfl := Option.some.inj H
      have p101 : 0 ≤ (x4_1 : Int) := of_decide_eq_true (by first | (with_reducible assumption) | assumption)
      have q101 : x4_1 < (l0.length : Int) := of_decide_eq_true (by first | (with_reducible assumption) | assumption)
      obtain ⟨ad101, e101, hx101_0, hx101_1, hx101_2, hx101_3⟩ := at_T27 HR0.out x4_1 p101 q101
      cases e101
      replace p101 := eq_true p101
      replace q101 := eq_true q101
      go_wp2
      go_ret
      exact ⟨by first | rfl | (simp; done) | (simp [*]; done), by repeat (first | exact Drawn0.refl _ | apply Drawn0.step)⟩
     ·rw [if_neg c4] at H
      have c4b0 : decide (5000 < (wrap64 (x3_1 + (((rd_T27 l0 x4_1).f3).size : Int)))) = false := decide_eq_false c4
      clear c4
      by_cases c5 : x4_1 > 100
      ·rw [if_pos c5] at H
       have c5b0 : decide (100 < x4_1) = true := decide_eq_true c5
       clear c5
       obtain rfl := Option.some.inj H
       have p101 : 0 ≤ (x4_1 : Int) := of_decide_eq_true (by first | (with_reducible assumption) | assumption)
       have q101 : x4_1 < (l0.length : Int) := of_decide_eq_true (by first | (with_reducible assumption) | assumption)
       obtain ⟨ad101, e101, hx101_0, hx101_1, hx101_2, hx101_3⟩ := at_T27 HR0.out x4_1 p101 q101
       cases e101
       replace p101 := eq_true p101
       replace q101 := eq_true q101
       go_wp2
       go_ret
       exact ⟨by first | rfl | (simp; done) | (simp [*]; done), by repeat (first | exact Drawn0.refl _ | apply Drawn0.step)⟩
      ·rw [if_neg c5] at H
       have c5b0 : decide (100 < x4_1) = false := decide_eq_false c5
       clear c5
       have H' := mA H
       clear H
       have p101 : 0 ≤ (x4_1 : Int) := of_decide_eq_true (by first | (with_reducible assumption) | assumption)
       have q101 : x4_1 < (l0.length : Int) := of_decide_eq_true (by first | (with_reducible assumption) | assumption)
       obtain ⟨ad101, e101, hx101_0, hx101_1, hx101_2, hx101_3⟩ := at_T27 HR0.out x4_1 p101 q101
       cases e101
       replace p101 := eq_true p101
       replace q101 := eq_true q101
       go_wp2
       go_roundg k1
       case measure => have := HK1.out; omega
       case rel => exact ⟨(wrap64 (x3_1 + (((rd_T27 l0 x4_1).f3).size : Int))), (wrap64 (x4_1 + 1)), (by first | rfl | (simp; done) | (simp [*]; done)), (by first | rfl | (simp; done) | (simp [*]; done)), H', ⟨by have := HK1.out; omega⟩, by repeat (first | exact Drawn0.refl _ | apply Drawn0.step)⟩
    ·rw [if_neg c3] at H
     exact absurd H (by simp)
   ·rw [if_neg c2] at H
    have c2b0 : decide (x4_1 < (l0.length : Int)) = false := decide_eq_false c2
    clear c2
    obtain rfl := Option.some.inj H
    go_wp2
    go_ret
    exact ⟨by first | rfl | (simp; done) | (simp [*]; done), by repeat (first | exact Drawn0.refl _ | apply Drawn0.step)⟩

end Go.Proofs.Yteeljehkphfmdaa.G
end

section
namespace Go.Proofs.Yteeljehkphfmdaa.Pure
open Go.RowKit Go.Proofs.YteeljehkphfmdaaW.PrintWords Go.Proofs.YteeljehkphfmdaaW.PrintLast Go.Proofs.Yteeljehkphfmdaa.G Go.Proofs.Yteeljehkphfmdaa.Pal
theorem few_loop (l : List S27) : ∀ (m i k : Nat) (n : Int), i + m = 101 → m < k → ∃ b, palanquinlaw01_few.l0 k l n (i : Int) = some b ∧ (b = true → l.length ≤ 101)
  | 0, i, k + 1, n, hi, _ => by
    rw [palanquinlaw01_few.l0]
    by_cases h : (i : Int) < (l.length : Int)
    · rw [if_pos h, if_pos (by omega)]
      split
      · exact ⟨_, rfl, by simp⟩
      · rw [if_pos (by omega)]
        exact ⟨_, rfl, by simp⟩
    · rw [if_neg h]
      exact ⟨_, rfl, fun _ => by omega⟩
  | m + 1, i, k + 1, n, hi, hk => by
    rw [palanquinlaw01_few.l0]
    by_cases h : (i : Int) < (l.length : Int)
    · rw [if_pos h, if_pos (by omega)]
      split
      · exact ⟨_, rfl, by simp⟩
      · rw [if_neg (by omega), show wrap64 ((i : Int) + 1) = ((i + 1 : Nat) : Int) by unfold wrap64; omega]
        exact few_loop l m (i + 1) k _ (by omega) (by omega)
    · rw [if_neg h]
      exact ⟨_, rfl, fun _ => by omega⟩
theorem few_is (l : List S27) (k : Nat) (hk : 101 < k) : ∃ b, palanquinlaw01_few.f k l = some b ∧ (b = true → l.length ≤ 101) := few_loop l 101 0 k 0 (by omega) hk
theorem few_loop2 (l : List S27) (hb : ∀ c ∈ l, c.f3.size ≤ 140737488351232) : ∀ (m i k n : Nat), i + m = 101 → m < k → n ≤ 5000 → ∃ b, palanquinlaw01_few.l0 k l (n : Int) (i : Int) = some b ∧ (b = true → l.length ≤ 101 ∧ ∀ c ∈ l.drop i, c.f3.size ≤ 5000)
  | 0, i, k + 1, n, hi, _, _ => by
    rw [palanquinlaw01_few.l0]
    by_cases h : (i : Int) < (l.length : Int)
    · rw [if_pos h, if_pos (by omega)]
      split
      · exact ⟨_, rfl, by simp⟩
      · rw [if_pos (by omega)]
        exact ⟨_, rfl, by simp⟩
    · rw [if_neg h]
      exact ⟨_, rfl, fun _ => ⟨by omega, by rw [List.drop_eq_nil_of_le (by omega)]; simp⟩⟩
  | m + 1, i, k + 1, n, hi, hk, hn => by
    rw [palanquinlaw01_few.l0]
    by_cases h : (i : Int) < (l.length : Int)
    · have hlt : i < l.length := by omega
      have hs := hb _ (List.getElem_mem hlt)
      have e : rd_T27 l (i : Int) = l[i] := by simp [rd_T27, List.getD_eq_getElem?_getD, hlt]
      rw [if_pos h, if_pos (by omega), e]
      have hw : wrap64 ((n : Int) + (l[i].f3.size : Int)) = ((n + l[i].f3.size : Nat) : Int) := by unfold wrap64; omega
      rw [hw]
      split
      · exact ⟨_, rfl, by simp⟩
      · rename_i h5
        rw [if_neg (by omega), show wrap64 ((i : Int) + 1) = ((i + 1 : Nat) : Int) by unfold wrap64; omega]
        obtain ⟨b, hb1, hB⟩ := few_loop2 l hb m (i + 1) k (n + l[i].f3.size) (by omega) (by omega) (by omega)
        refine ⟨b, hb1, fun ht => ⟨(hB ht).1, ?_⟩⟩
        rw [List.drop_eq_getElem_cons hlt]
        intro c hc
        rcases List.mem_cons.1 hc with rfl | hc
        · omega
        · exact (hB ht).2 c hc
    · rw [if_neg h]
      exact ⟨_, rfl, fun _ => ⟨by omega, by rw [List.drop_eq_nil_of_le (by omega)]; simp⟩⟩
theorem few_is2 (l : List S27) (hb : ∀ c ∈ l, c.f3.size ≤ 140737488351232) (k : Nat) (hk : 101 < k) : ∃ b, palanquinlaw01_few.f k l = some b ∧ (b = true → l.length ≤ 101 ∧ ∀ c ∈ l, c.f3.size ≤ 5000) := few_loop2 l hb 101 0 k 0 (by omega) hk (by omega)
theorem rd_getElem (l : List S27) (j : Nat) (hj : j < l.length) : rd_T27 l (j : Int) = l[j] := by simp [rd_T27, List.getD_eq_getElem?_getD, hj]

/-! The document's Read. -/
theorem reads_len (s : ByteArray) : ∀ (l : List S27) (n : Nat), (reads s n l).1.length ≤ l.length
  | [], n => by simp [reads]
  | c :: l, n => by
    cases h : told s n c with
    | ok a m => rw [reads_ok h]; have := reads_len s l m; simp; omega
    | stop e => rw [reads_stop h]; simp
end Go.Proofs.Yteeljehkphfmdaa.Pure
end
