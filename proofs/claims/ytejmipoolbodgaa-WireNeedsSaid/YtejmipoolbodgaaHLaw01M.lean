/- By hand: the law WireNeeds: its second closure and itself, for the answer true alone. -/
import Derived.Test.YtejmipoolbodgaaHLaw01N
namespace Go.Proofs.Ytejmipoolbodgaa.G
open Go.RowKit Go.Proofs.YtejmipoolbodgaaW.PrintWords Go.Proofs.YtejmipoolbodgaaW.PrintLast Go.Proofs.YtejmipoolbodgaaW.PrintMore Go.Proofs.Ytejmipoolbodgaa.Pal
set_option linter.unusedVariables false
set_option linter.unusedSimpArgs false
set_option maxHeartbeats 1000000 in
set_option maxRecDepth 100000 in
theorem needs22 (m pn pe ps : Nat) (s : ByteArray) (i : Nat) (e : Int) (w1 : World) (hi : i ≤ s.size) (hr : Rd w1 (m + 1) s 0) (hres : Blk w1 m 38 #[.int .i64 0]) (hn : pn < m) (he : pe < m) (cn : w1.cell? ⟨pn, 0, none⟩ = some (.int .i64 (i : Int))) (ce : w1.cell? ⟨pe, 0, none⟩ = some (.int .i64 e)) :
    Calls Try.prog 55 #[.pointer (some ⟨m + 1, 0, none⟩), .pointer (some ⟨pn, 0, none⟩), .pointer (some ⟨pe, 0, none⟩), .pointer (some ⟨ps, 0, none⟩)] w1 fun e' w2 => e' = stopped e ∧ Blk w2 m 38 #[.int .i64 0] ∧ Below m w1 w2 := by
  have HR := Aside0.mk hr
  have HE := Aside0.mk hres
  have HX := Aside0.mk hi
  clear hr hres hi
  go_enter Try.func55, Try.ntmps55
  go_wp2_with fail
  refine (Reader_Take.yes _ s 0 i _ HR.out (by have := HX.out; omega)).mono ?_
  rintro e' w2 ⟨rfl, j, q, rfl⟩
  have hw1 := grown_drewN (World.grownBy.trans (grown_drewN (grown_refl w1 _) j) (grown_setCell _ (m + 1) 1 (.int .i64 ((0 + i : Nat) : Int)))) q
  have HB := Aside0.mk (below_of_grown (B := m) hw1 (by have := HE.out.lt; omega) (by omega))
  replace HE := Aside0.mk (HE.out.grown hw1 (by omega))
  have ce2 := (HB.out.cell (p := ⟨pe, 0, none⟩) he).trans ce
  clear hw1 ce cn
  generalize ((w1.drewN j).setCell ⟨m + 1, 1, none⟩ (.int .i64 ((0 + i : Nat) : Int))).drewN q = w3 at HB HE ce2 ⊢
  go_wp2_with fail
  refine (Reader_Need.no _ _ _).mono ?_
  rintro e' w4 ⟨rfl, rfl⟩
  exact ⟨rfl, rfl, HE.out, HB.out⟩

/-- What WireNeeds holds: s, at, e; seen, rest. -/
def NN (k j : Nat) (s : ByteArray) (i : Nat) (e : Int) (w1 : World) (seen : Int) (x : ByteArray) : Prop :=
  Hp w1 [(k, 9, #[.string s]), (k + 1, 3, #[.int .i64 (i : Int)]), (k + 1 + 1, 3, #[.int .i64 e]), (j, 3, #[.int .i64 seen]), (j + 1, 9, #[.string x])]
theorem NE.toNN {k j : Nat} {s : ByteArray} {i : Nat} {e : Int} {w1 : World} {n : Nat} {seen : Int} {x : ByteArray} (h : NE k j s i e w1 n seen x) : NN k j s i e w1 seen x :=
  .cons h.2.head (.cons h.2.tail.head (.cons h.2.tail.tail.head (.cons h.2.tail.tail.tail.head (.cons h.2.tail.tail.tail.tail.head (.nil _)))))
theorem NE.res {k j : Nat} {s : ByteArray} {i : Nat} {e : Int} {w1 : World} {n : Nat} {seen : Int} {x : ByteArray} (h : NE k j s i e w1 n seen x) : Blk w1 (j + 2) 38 #[.int .i64 0] :=
  h.2.tail.tail.tail.tail.tail.head
theorem NN.toNE {k j : Nat} {s : ByteArray} {i : Nat} {e : Int} {w1 : World} {n : Nat} {seen : Int} {x : ByteArray} (h : NN k j s i e w1 seen x) (hr : Rd w1 (j + 3) s n) (hb : Blk w1 (j + 2) 38 #[.int .i64 0]) : NE k j s i e w1 n seen x :=
  ⟨hr, .cons h.head (.cons h.tail.head (.cons h.tail.tail.head (.cons h.tail.tail.tail.head (.cons h.tail.tail.tail.tail.head (.cons hb (.nil _))))))⟩
theorem NN.below {k j : Nat} {s : ByteArray} {i : Nat} {e : Int} {w1 w2 : World} {seen : Int} {x : ByteArray} (h : NN k j s i e w1 seen x) {B : Nat} (hg : Below B w1 w2) (hk : k + 2 < B) (hj : j + 1 < B) : NN k j s i e w2 seen x :=
  Hp.below h hg (by simp; omega)
theorem NN.grown {k j : Nat} {s : ByteArray} {i : Nat} {e : Int} {w1 w2 : World} {seen : Int} {x : ByteArray} (h : NN k j s i e w1 seen x) {R : Nat} (hg : w1.grownBy w2 (some R)) (hk : k + 2 < R) (hj : j + 1 < R) : NN k j s i e w2 seen x :=
  Hp.grown h hg (by simp; omega)
theorem NN.facts {k j : Nat} {s : ByteArray} {i : Nat} {e : Int} {w1 : World} {seen : Int} {x : ByteArray} (h : NN k j s i e w1 seen x) :
    w1.cell? ⟨k, 0, none⟩ = some (.string s) ∧ w1.cell? ⟨k + 1, 0, none⟩ = some (.int .i64 (i : Int)) ∧ w1.cell? ⟨k + 1 + 1, 0, none⟩ = some (.int .i64 e) ∧ w1.cell? ⟨j, 0, none⟩ = some (.int .i64 seen) ∧ w1.cell? ⟨j + 1, 0, none⟩ = some (.string x) :=
  ⟨h.head.cell 0 _ rfl, h.tail.head.cell 0 _ rfl, h.tail.tail.head.cell 0 _ rfl, h.tail.tail.tail.head.cell 0 _ rfl, h.tail.tail.tail.tail.head.cell 0 _ rfl⟩
theorem NN.new {w : World} {k j : Nat} {s : ByteArray} {i : Nat} {e : Int} (hj : j = w.heap.size) (h : Hp w [(k, 9, #[.string s]), (k + 1, 3, #[.int .i64 (i : Int)]), (k + 1 + 1, 3, #[.int .i64 e])]) :
    NN k j s i e ((w.alloc (.cells #[.int .i64 0] 3)).alloc (.cells #[.string ⟨#[]⟩] 9)) 0 ⟨#[]⟩ := by
  subst hj
  have b1 := Blk.new (w.alloc (.cells #[.int .i64 0] 3)) 9 #[.string ⟨#[]⟩]
  rw [World.size_alloc] at b1
  exact .cons ((h.head.alloc _).alloc _) (.cons ((h.tail.head.alloc _).alloc _) (.cons ((h.tail.tail.head.alloc _).alloc _) (.cons ((Blk.new w _ _).alloc _) (.cons b1 (.nil _)))))

set_option maxRecDepth 100000 in
theorem needs_read1 (k j : Nat) (s : ByteArray) (i : Nat) (e : Int) (hi : i ≤ s.size) (hs : s.size ≤ 5000) (W : World) (hkj : k + 2 < j) (hsz : W.heap.size = j + 2) (h : NN k j s i e W 0 ⟨#[]⟩) :
    Calls Try.prog 46 #[.string s, .func (.func 52) #[] #[.pointer (some ⟨k, 0, none⟩), .pointer (some ⟨k + 1 + 1, 0, none⟩), .pointer (some ⟨k + 1, 0, none⟩), .pointer (some ⟨j + 1, 0, none⟩), .pointer (some ⟨j, 0, none⟩)]] W fun e' w' => e' = .returned (.int .i64 0) ∧ NN k j s i e w' 1 (s.extract i s.size) ∧ Below j W w' := by
  have h1 := Read_calls 52 #[.pointer (some ⟨k, 0, none⟩), .pointer (some ⟨k + 1 + 1, 0, none⟩), .pointer (some ⟨k + 1, 0, none⟩), .pointer (some ⟨j + 1, 0, none⟩), .pointer (some ⟨j, 0, none⟩)] s 0 W (fun w3 => NN k j s i e w3 1 (s.extract i s.size) ∧ Below j W w3) (fun _ _ => rfl)
  have hrd := readW_rd W s (by omega)
  have hres := readW_res W s
  have hbl := readW_below W s
  rw [hsz] at h1 hrd hres hbl
  refine (h1 ?_).mono ?_
  · refine (needs1 k j s i e hi hs _ hkj ((h.below hbl (by omega) (by omega)).toNE hrd hres)).mono ?_
    rintro e' w3 ⟨rfl, h2, h3⟩
    exact ⟨rfl, h2.res, h2.toNN, (hbl.mono (by omega)).trans h3⟩
  · rintro e' w' ⟨rfl, w3, ⟨h2, h3⟩, hg⟩
    exact ⟨rfl, h2.grown hg (by omega) (by omega), h3.trans (below_of_grown hg (by have := h3.size; omega) (by omega))⟩

set_option maxRecDepth 100000 in
theorem needs_read2 (pn pe ps : Nat) (s : ByteArray) (i : Nat) (e : Int) (he : e ≠ 0) (hi : i ≤ s.size) (hs : s.size ≤ 5000) (W : World) (hn : pn < W.heap.size) (hp : pe < W.heap.size) (cn : W.cell? ⟨pn, 0, none⟩ = some (.int .i64 (i : Int))) (ce : W.cell? ⟨pe, 0, none⟩ = some (.int .i64 e)) :
    Calls Try.prog 46 #[.string s, .func (.func 55) #[] #[.pointer (some ⟨pn, 0, none⟩), .pointer (some ⟨pe, 0, none⟩), .pointer (some ⟨ps, 0, none⟩)]] W fun e' w' => e' = .returned (.int .i64 e) ∧ Below W.heap.size W w' := by
  refine (Read_calls 55 #[.pointer (some ⟨pn, 0, none⟩), .pointer (some ⟨pe, 0, none⟩), .pointer (some ⟨ps, 0, none⟩)] s e W (fun w2 => Below W.heap.size W w2) (fun _ _ => rfl) ?_).mono ?_
  · have hb := readW_below W s
    refine (needs22 W.heap.size pn pe ps s i e _ hi (readW_rd W s (by omega)) (readW_res W s) hn hp ((hb.cell (p := ⟨pn, 0, none⟩) hn).trans cn) ((hb.cell (p := ⟨pe, 0, none⟩) hp).trans ce)).mono ?_
    rintro e' w2 ⟨rfl, h1, h2⟩
    exact ⟨by unfold did; rw [if_neg he], h1, hb.trans h2⟩
  · rintro e' w' ⟨rfl, w2, h1, hg⟩
    exact ⟨rfl, h1.trans (below_of_grown hg h1.size (Nat.le_refl _))⟩

set_option maxHeartbeats 2000000 in
set_option maxRecDepth 100000 in
theorem needs_main (s : ByteArray) (n e : Int) (w : World) :
    Calls Try.prog 8 #[.string s, .int .i64 n, .int .i64 e] w fun e' w' => e' = .returned (.bool true) ∧ Below w.heap.size w w' := by
  have hmf : ∀ (fn : Fn) (first cap : Array Value) (w : World), (Instr.makeFunc fn first cap).run Try.prog w = .ok (.func fn first cap) w := fun _ _ _ _ => rfl
  have HB := Aside0.mk ((((Below.refl w.heap.size w).alloc (Nat.le_refl _) (.cells #[.string s] 9)).alloc (by simp) (.cells #[.int .i64 n] 3)).alloc (by simp; omega) (.cells #[.int .i64 e] 3))
  have b1 := Blk.new (w.alloc (.cells #[.string s] 9)) 3 #[.int .i64 n]
  rw [World.size_alloc] at b1
  have b2 := Blk.new ((w.alloc (.cells #[.string s] 9)).alloc (.cells #[.int .i64 n] 3)) 3 #[.int .i64 e]
  rw [World.size_alloc, World.size_alloc] at b2
  have HK := Aside0.mk (show Hp (((w.alloc (.cells #[.string s] 9)).alloc (.cells #[.int .i64 n] 3)).alloc (.cells #[.int .i64 e] 3)) [(w.heap.size, 9, #[.string s]), (w.heap.size + 1, 3, #[.int .i64 n]), (w.heap.size + 1 + 1, 3, #[.int .i64 e])] from
    .cons (((Blk.new w _ _).alloc _).alloc _) (.cons (b1.alloc _) (.cons b2 (.nil _))))
  clear b1 b2
  go_enter Try.func8, Try.ntmps8
  go_wp2_with fail
  refine (palanquinlaw01_awake.calls true _ rfl).mono ?_
  rintro e' w2 ⟨rfl, g1⟩
  have HZ := Aside0.mk (show w.heap.size + 3 ≤ w2.heap.size by have := g1.size; simp at this; omega)
  replace HB := Aside0.mk (HB.out.trans (g1.mono HB.out.size))
  replace HK := Aside0.mk (HK.out.below g1 (by simp; omega))
  clear g1
  have c0 := HK.out.head.cell 0 _ rfl
  have c1 := HK.out.tail.head.cell 0 _ rfl
  have c2 := HK.out.tail.tail.head.cell 0 _ rfl
  by_cases q1 : 5000 < s.size
  · have d1 : decide ((5000 : Int) < (s.size : Int)) = true := decide_eq_true (by omega)
    have d2 : decide (5000 < s.size) = true := decide_eq_true q1
    clear q1
    go_wp2
    go_ret
    exact ⟨rfl, HB.out⟩
  have d1 : decide ((5000 : Int) < (s.size : Int)) = false := decide_eq_false (by omega)
  have d2 : decide (5000 < s.size) = false := decide_eq_false q1
  by_cases q2 : n < 0
  · have d3 : decide (n < 0) = true := decide_eq_true q2
    clear q1 q2
    go_wp2
    go_ret
    exact ⟨rfl, HB.out⟩
  have d3 : decide (n < 0) = false := decide_eq_false q2
  by_cases q3 : (s.size : Int) < n
  · have d4 : decide ((s.size : Int) < n) = true := decide_eq_true q3
    clear q1 q2 q3
    go_wp2
    go_ret
    exact ⟨rfl, HB.out⟩
  have d4 : decide ((s.size : Int) < n) = false := decide_eq_false q3
  by_cases q4 : e = 0
  · have d5 : (e == 0) = true := by rw [beq_iff_eq]; exact q4
    clear q1 q2 q3
    go_wp2
    go_ret
    exact ⟨rfl, HB.out⟩
  have d5 : (e == 0) = false := by rw [beq_eq_false_iff_ne]; exact q4
  have HE := Aside0.mk q4
  obtain ⟨i, rfl⟩ := Int.eq_ofNat_of_zero_le (show 0 ≤ n by omega)
  have HX := Aside0.mk (show i ≤ s.size ∧ s.size ≤ 5000 by omega)
  have d6 : decide (s.size < i) = false := decide_eq_false (by omega)
  clear q1 q2 q3 q4
  have c0b : ∀ o1 o2, ((w2.alloc o1).alloc o2).cell? ⟨w.heap.size, 0, none⟩ = some (.string s) := fun o1 o2 => ((HK.out.head.alloc o1).alloc o2).cell 0 _ rfl
  go_wp2_with fail
  clear d1 d2 d3 d4 d5 d6 c0 c1 c2 c0b
  have HI := Aside0.mk (NN.new (w := w2) (j := w2.heap.size) rfl HK.out)
  replace HB := Aside0.mk ((HB.out.alloc HB.out.size (.cells #[.int .i64 0] 3)).alloc (by have := HB.out.size; simp; omega) (.cells #[.string ⟨#[]⟩] 9))
  have hsz : ((w2.alloc (.cells #[.int .i64 0] 3)).alloc (.cells #[.string ⟨#[]⟩] 9)).heap.size = w2.heap.size + 2 := by simp
  generalize (w2.alloc (.cells #[.int .i64 0] 3)).alloc (.cells #[.string ⟨#[]⟩] 9) = W at HI HB hsz ⊢
  refine (needs_read1 w.heap.size w2.heap.size s i e HX.out.1 HX.out.2 W (by have := HZ.out; omega) hsz HI.out).mono ?_
  rintro e' w4 ⟨rfl, h3, h4⟩
  replace HB := Aside0.mk (HB.out.trans (h4.mono (by have := HZ.out; omega)))
  have hs4 : w2.heap.size + 2 ≤ w4.heap.size := by have := h4.size; omega
  clear HI h4 hsz HK
  obtain ⟨c0, c1, c2, c3, c4⟩ := h3.facts
  have HI := Aside0.mk h3
  clear h3
  have HQ := Aside0.mk (needs_read2 (w.heap.size + 1) (w.heap.size + 1 + 1) w2.heap.size s i e HE.out HX.out.1 HX.out.2 w4 (by have := HZ.out; omega) (by have := HZ.out; omega) c1 c2)
  have HZ4 := Aside0.mk hs4
  clear hs4 c1 c2 c3 c4
  go_wp2_with fail
  refine HQ.out.mono ?_
  rintro e' w5 ⟨rfl, h5⟩
  replace HI := Aside0.mk (HI.out.below h5 (by have := HZ.out; have := HZ4.out; omega) (by have := HZ4.out; omega))
  replace HB := Aside0.mk (HB.out.trans (h5.mono (by have := HZ.out; have := HZ4.out; omega)))
  clear HQ h5 c0
  obtain ⟨c0, c1, c2, c3, c4⟩ := HI.out.facts
  have k1 : ((s.extract i s.size).toList == (s.extract i s.size).toList) = true := beq_self_eq_true _
  have k2 : (e == e) = true := beq_self_eq_true _
  have k3 : ((0 : Int) ≤ (i : Int) ∧ (i : Int) ≤ (s.size : Int)) := by have := HX.out; omega
  have k4 : i ≤ s.size := HX.out.1
  go_wp2
  go_region
  go_wp2
  go_ret
  exact ⟨rfl, HB.out.drew⟩

def palanquinlaw01_WireNeeds.f (a0 : ByteArray) (a1 a2 : Int) : Option Bool := some true
theorem palanquinlaw01_WireNeeds.calls (a0 : ByteArray) (a1 a2 : Int) (r : Bool) (w : World) (h : palanquinlaw01_WireNeeds.f a0 a1 a2 = some r) :
    Calls Try.prog 8 #[.string a0, .int .i64 a1, .int .i64 a2] w fun e w' => e = .returned (.bool r) ∧ Below w.heap.size w w' := by
  obtain rfl := Option.some.inj h
  exact needs_main a0 a1 a2 w
end Go.Proofs.Ytejmipoolbodgaa.G
