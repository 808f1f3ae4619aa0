/- Texts of this session, joined: each is a section. -/
import Derived.Test.YteeljehkphfmdaaMWireBack5
import Derived.Recover
import Derived.Defers
import Derived.WideLaws
import Derived.Lib.Hide
import Derived.Test.YteeljehkphfmdaaMWireBack4
import Derived.WalkLawsBesides
import Derived.RegionTactic
import Derived.Deep.RegionWith
set_option linter.unusedVariables false
set_option linter.unusedSimpArgs false
section
namespace Go.Proofs.Yteeljehkphfmdaa.G
open Go.RowKit Go.Proofs.YteeljehkphfmdaaW.PrintWords Go.Proofs.YteeljehkphfmdaaW.PrintLast Go.Proofs.YteeljehkphfmdaaW.PrintMore Go.Proofs.Yteeljehkphfmdaa.Pal

def did (e : Int) : Ending := if e = 0 then .returned (.tuple #[]) else stopped e

theorem stop_is (v : Value) (W : World) : (Instr.typeAssert (.iface 59 v) 20 59 true).run Try.prog W = .ok (.tuple #[v, .bool true]) W := by kernel_rfl

set_option maxHeartbeats 400000 in
theorem Read1_caught (p : Nat) (x e : Int) (w : World) (hc : w.cell? ⟨p, 0, none⟩ = some (.int .i64 x)) (hz : w.frozen? ⟨p, 0, none⟩ = false) (hp : p < w.heap.size) :
    CallsD Try.prog 28 #[.pointer (some ⟨p, 0, none⟩)] (.panicking [{ v := stopV e, recovered := false }]) w fun e1 u' w' =>
      e1 = .returned (.tuple #[]) ∧ u' = .panicking [{ v := stopV e, recovered := true }] ∧ w' = (w.setCell ⟨p, 0, none⟩ (.int .i64 e)).alloc (.cells #[.int .i64 e] 59) := by
  have hta : ∀ (v : Value) (W : World), (Instr.typeAssert (.iface 59 v) 20 59 true).run Try.prog W = .ok (.tuple #[v, .bool true]) W := stop_is
  refine callsD_of_wpS Try.func28 rfl fun c₀ cs hu => ?_
  simp only [Try.ntmps28, List.size_toArray, List.length_cons, List.length_nil, Nat.reduceAdd, Nat.reduceSub, Array.replicate_succ,
     Array.replicate_zero, List.push_toArray, List.append_toArray, List.nil_append, List.cons_append]
  apply wpS_seq
  apply wpS_region
  simp [wpOpsS, go_sem, recoverD, hu, Exit.thenS, stopV]
  apply wpS_of_wp
  go_wp2
  exact ⟨rfl, _, rfl, _, results_none rfl _ _ _, rfl, rfl, rfl⟩

set_option maxHeartbeats 400000 in
theorem Read1_idle (p : Nat) (w : World) :
    CallsD Try.prog 28 #[.pointer (some ⟨p, 0, none⟩)] .returning w fun e1 u' w' => e1 = .returned (.tuple #[]) ∧ u' = .returning ∧ w' = w := by
  refine callsD_of_wpS Try.func28 rfl fun c₀ cs hu => ?_
  simp only [Try.ntmps28, List.size_toArray, List.length_cons, List.length_nil, Nat.reduceAdd, Nat.reduceSub, Array.replicate_succ,
     Array.replicate_zero, List.push_toArray, List.append_toArray, List.nil_append, List.cons_append]
  apply wpS_seq
  apply wpS_region
  simp [wpOpsS, go_sem, recoverD, hu, Exit.thenS]
  apply wpS_of_wp
  go_wp2
  refine ⟨rfl, .returning, ?_, _, results_none rfl _ _ _, rfl, rfl, rfl⟩
  cases c₀
  simp_all

def readW (w : World) (s : ByteArray) : World := (w.alloc (.cells #[.int .i64 0] 39)).alloc (.cells #[.string s, .int .i64 0] 61)
theorem readW_rd (w : World) (s : ByteArray) (hs : s.size ≤ 140737488351232) : Rd (readW w s) (w.heap.size + 1) s 0 := by
  have h := Blk.new (w.alloc (.cells #[.int .i64 0] 39)) 61 #[.string s, .int .i64 0]
  rw [World.size_alloc] at h
  exact ⟨h, by omega, hs⟩
theorem readW_res (w : World) (s : ByteArray) : Blk (readW w s) w.heap.size 39 #[.int .i64 0] := (Blk.new w _ _).alloc _
theorem readW_below (w : World) (s : ByteArray) : Below w.heap.size w (readW w s) := ((Below.refl _ _).alloc (Nat.le_refl _) _).alloc (by simp) _
theorem readW_size (w : World) (s : ByteArray) : (readW w s).heap.size = w.heap.size + 2 := by simp [readW]

set_option maxHeartbeats 800000 in
theorem Read_calls (g : FuncId) (cap : Array Value) (s : ByteArray) (er : Int) (w : World) (Q : World → Prop)
    (hg : ∀ args w, (callFunc g args).run Try.prog w = .ok (.enter g args) w)
    (hdo : Calls Try.prog g (#[.pointer (some ⟨w.heap.size + 1, 0, none⟩)] ++ cap) (readW w s) fun e w2 => e = did er ∧ Blk w2 w.heap.size 39 #[.int .i64 0] ∧ Q w2) :
    Calls Try.prog 10 #[.string s, .func (.func g) #[] cap] w fun e w' => e = .returned (.int .i64 er) ∧ ∃ w2, Q w2 ∧ w2.grownBy w' (some w.heap.size) := by
  have hmf : ∀ (fn : Fn) (first cap : Array Value) (w : World), (Instr.makeFunc fn first cap).run Try.prog w = .ok (.func fn first cap) w := fun _ _ _ _ => rfl
  have HD := Lib.hid hdo
  clear hdo
  go_enter_defers Try.func10, Try.ntmps10
  go_wp2_with fail
  refine HD.out.mono ?_
  rintro e w2 ⟨rfl, hb, hq⟩
  have HQ := Lib.hid hq
  clear hq HD
  have c0 := hb.cell 0 _ rfl
  have c1 := hb.free 0
  have HB := Aside0.mk hb
  clear hb
  by_cases h0 : er = 0
  · subst h0
    rw [show did 0 = .returned (.tuple #[]) from rfl]
    go_wp2
    refine leaves_cons (f := 28) (args := #[.pointer (some ⟨w.heap.size, 0, none⟩)]) (by simp) (by simp [go_sem]) ?_
    refine (Read1_idle w.heap.size _).mono ?_
    rintro e u' w'' ⟨rfl, rfl, rfl⟩
    have c2 := (HB.out.set 0 (.int .i64 0)).cell 0 _ rfl
    refine ⟨.int .i64 0, ?_, rfl, w2, HQ.out, grown_setCell _ _ _ _⟩
    simp [results, Try.results10, go_sem]
    rw [c2]
    rfl
  · rw [show did er = stopped er from if_neg h0]
    refine leaves_cons (f := 28) (args := #[.pointer (some ⟨w.heap.size, 0, none⟩)]) (by simp) (by simp [go_sem]) ?_
    refine (Read1_caught w.heap.size 0 er w2 c0 c1 HB.out.lt).mono ?_
    rintro e u' w'' ⟨rfl, rfl, rfl⟩
    have c2 := (((HB.out.set 0 (.int .i64 er))).alloc (.cells #[.int .i64 er] 59)).cell 0 _ rfl
    refine ⟨.int .i64 er, ?_, rfl, w2, HQ.out, grown_alloc (grown_setCell _ _ _ _) _⟩
    simp [results, Try.results10, go_sem]
    rw [c2]
    rfl
end Go.Proofs.Yteeljehkphfmdaa.G
end

section
namespace Go.Proofs.Yteeljehkphfmdaa.G
open Go.RowKit Go.Proofs.YteeljehkphfmdaaW.PrintWords Go.Proofs.YteeljehkphfmdaaW.PrintLast Go.Proofs.YteeljehkphfmdaaW.PrintMore Go.Proofs.Yteeljehkphfmdaa.Pal
theorem panicOut1 {P : Program} {fn : Func} {R : Ending → World → Prop} {ch : List PanicEntry} {a : Act} {w : World} (h : wpAny P .any #[] (fun _ a w => bodyPost P fn R (.panic ch) a w) 0 #[] a w) : bodyPost P fn R (.panic ch) a w := h.2
abbrev s123 : ByteArray := ⟨#[1, 2, 3]⟩
def AW (k : Nat) (w w1 : World) (n : Nat) (a b : Int) : Prop :=
  Rd w1 (k + 3) s123 n ∧ Hp w1 [(k, 3, #[.int .i64 a]), (k + 1, 3, #[.int .i64 b]), (k + 2, 39, #[.int .i64 0])] ∧ Below k w w1
theorem AW.went {k : Nat} {w w1 w2 : World} {n m : Nat} {a b : Int} (h : AW k w w1 n a b) (hw : Went w1 w2 (k + 3) s123 m) : AW k w w2 m a b :=
  ⟨hw.2, h.2.1.grown hw.1 (by simp), h.2.2.trans (below_of_grown hw.1 (by have := h.1.1.lt; omega) (by omega))⟩
theorem AW.puts {k : Nat} {w w1 : World} {n : Nat} {a b : Int} (h : AW k w w1 n a b) (a' b' : Int) : AW k w ((w1.setCell ⟨k, 0, none⟩ (.int .i64 a')).setCell ⟨k + 1, 0, none⟩ (.int .i64 b')) n a' b' := by
  have h1 := Hp.set (l1 := []) (l2 := [_, _]) (show Hp w1 ([] ++ (k, 3, #[.int .i64 a]) :: [_, _]) from h.2.1) 0 (.int .i64 a') (by simp) (by simp)
  have h2 := Hp.set (l1 := [_]) (l2 := [_]) h1 0 (.int .i64 b') (by simp) (by simp)
  exact ⟨⟨(h.1.1.other _ (by simp) _).other _ (by simp) _, h.1.2⟩, h2, (h.2.2.setCell (by simp) _).setCell (by simp) _⟩
theorem AW.drew {k : Nat} {w w1 : World} {n : Nat} {a b : Int} (h : AW k w w1 n a b) : AW k w w1.drew n a b := ⟨h.1, h.2.1, h.2.2.drew⟩
theorem AW.drewN {k : Nat} {w w1 : World} {n : Nat} {a b : Int} (h : AW k w w1 n a b) (j : Nat) : AW k w (w1.drewN j) n a b := ⟨h.1, h.2.1, pw_below_drewN h.2.2 j⟩
theorem AW.facts {k : Nat} {w w1 : World} {n : Nat} {a b : Int} (h : AW k w w1 n a b) :
    (w1.cell? ⟨k, 0, none⟩ = some (.int .i64 a) ∧ w1.frozen? ⟨k, 0, none⟩ = false) ∧ w1.cell? ⟨k + 1, 0, none⟩ = some (.int .i64 b) ∧ w1.frozen? ⟨k + 1, 0, none⟩ = false :=
  ⟨⟨h.2.1.head.cell 0 _ rfl, h.2.1.head.free 0⟩, h.2.1.tail.head.cell 0 _ rfl, h.2.1.tail.head.free 0⟩

set_option maxHeartbeats 1000000 in
set_option maxRecDepth 100000 in
theorem awake1 (k : Nat) (w w1 : World) (h : AW k w w1 0 0 0) :
    Calls Try.prog 11 #[.pointer (some ⟨k + 3, 0, none⟩), .pointer (some ⟨k, 0, none⟩), .pointer (some ⟨k + 1, 0, none⟩)] w1 fun e w2 => e = stopped 2 ∧ AW k w w2 3 1 515 := by
  have HG := Aside0.mk h
  clear h
  have v1 : ((be (bl (s123.extract 0 (0 + 1))) : Nat) : Int) = 1 := by decide +kernel
  have v2 : ((be (bl (s123.extract (0 + 1) (0 + 1 + 2))) : Nat) : Int) = 515 := by decide +kernel
  have V1 := Aside0.mk v1
  have V2 := Aside0.mk v2
  clear v1 v2
  go_enter Try.func11, Try.ntmps11
  go_wp2_with fail
  refine (Reader_U8.yes _ _ _ _ HG.out.1 (by decide)).mono ?_
  rintro e w2 ⟨rfl, g1⟩
  replace HG := Aside0.mk (HG.out.went g1)
  clear g1
  rw [V1.out]
  go_wp2_with fail
  refine (Reader_U16.yes _ _ _ _ HG.out.1 (by decide)).mono ?_
  rintro e w3 ⟨rfl, g1⟩
  replace HG := Aside0.mk (HG.out.went g1)
  clear g1
  rw [V2.out]
  obtain ⟨⟨c0, c1⟩, c2, c3⟩ := HG.out.facts
  go_wp2_with fail
  clear c0 c1 c2 c3
  replace HG := Aside0.mk (HG.out.puts 1 515)
  generalize (w3.setCell ⟨k, 0, none⟩ (.int .i64 1)).setCell ⟨k + 1, 0, none⟩ (.int .i64 515) = w4 at HG ⊢
  obtain ⟨⟨c0, c1⟩, c2, c3⟩ := HG.out.facts
  clear c0 c1
  go_region_with ((go_at_call 12; refine (Reader_U8.no _ _ 3 _ HG.out.drew.1 (by decide)).mono ?_; rintro e w5 ⟨rfl, j, rfl⟩; refine panicOut1 ?_))
  all_goals exact ⟨rfl, rfl, HG.out.drew.drewN _⟩

set_option maxRecDepth 100000 in
theorem awake_reads (w : World) :
    Calls Try.prog 10 #[.string s123, .func (.func 11) #[] #[.pointer (some ⟨w.heap.size, 0, none⟩), .pointer (some ⟨w.heap.size + 1, 0, none⟩)]] ((w.alloc (.cells #[.int .i64 0] 3)).alloc (.cells #[.int .i64 0] 3))
      fun e w' => e = .returned (.int .i64 2) ∧ (w'.cell? ⟨w.heap.size, 0, none⟩ = some (.int .i64 1) ∧ w'.cell? ⟨w.heap.size + 1, 0, none⟩ = some (.int .i64 515)) ∧ Below w.heap.size w w' := by
  obtain ⟨W, hW⟩ : ∃ W, W = (w.alloc (.cells #[.int .i64 0] 3)).alloc (.cells #[.int .i64 0] 3) := ⟨_, rfl⟩
  have hk : W.heap.size = w.heap.size + 2 := by rw [hW]; simp
  have b0 : Blk W w.heap.size 3 #[.int .i64 0] := by rw [hW]; exact (Blk.new w _ _).alloc _
  have b1 : Blk W (w.heap.size + 1) 3 #[.int .i64 0] := by
    rw [hW]
    have := Blk.new (w.alloc (.cells #[.int .i64 0] 3)) 3 #[.int .i64 0]
    rwa [World.size_alloc] at this
  have hb : Below w.heap.size w W := by rw [hW]; exact ((Below.refl _ _).alloc (Nat.le_refl _) _).alloc (by simp) _
  rw [← hW]
  clear hW
  have hrd := readW_rd W s123 (by decide)
  have hres := readW_res W s123
  have hbl := readW_below W s123
  rw [hk] at hrd hres hbl
  have hG : AW w.heap.size w (readW W s123) 0 0 0 := ⟨hrd, .cons (b0.below hbl (by omega)) (.cons (b1.below hbl (by omega)) (.cons hres (.nil _))), hb.trans (hbl.mono (by omega))⟩
  have h1 := Read_calls 11 #[.pointer (some ⟨w.heap.size, 0, none⟩), .pointer (some ⟨w.heap.size + 1, 0, none⟩)] s123 2 W (fun w2 => AW w.heap.size w w2 3 1 515) (fun _ _ => rfl)
  rw [hk] at h1
  refine (h1 ?_).mono ?_
  · refine (awake1 w.heap.size w _ hG).mono ?_
    rintro e w2 ⟨rfl, h⟩
    exact ⟨rfl, h.2.1.tail.tail.head, h⟩
  · rintro e w' ⟨rfl, w2, h, hg⟩
    exact ⟨rfl, ⟨(h.2.1.head.grown hg (by omega)).cell 0 _ rfl, (h.2.1.tail.head.grown hg (by omega)).cell 0 _ rfl⟩, h.2.2.trans (below_of_grown hg (by have := h.1.1.lt; omega) (by omega))⟩

def palanquinlaw01_awake.f : Option Bool := some true
set_option maxHeartbeats 1000000 in
set_option maxRecDepth 100000 in
theorem palanquinlaw01_awake.calls (r : Bool) (w : World) (h : palanquinlaw01_awake.f = some r) :
    Calls Try.prog 4 #[] w fun e w' => e = .returned (.bool r) ∧ Below w.heap.size w w' := by
  obtain rfl := Option.some.inj h
  clear h
  have hmf : ∀ (fn : Fn) (first cap : Array Value) (w : World), (Instr.makeFunc fn first cap).run Try.prog w = .ok (.func fn first cap) w := fun _ _ _ _ => rfl
  go_enter Try.func4, Try.ntmps4
  go_wp2_with fail
  refine (awake_reads w).mono ?_
  rintro e w2 ⟨rfl, ⟨c0, c1⟩, hb⟩
  have HB := Aside0.mk hb
  clear hb
  go_wp2
  go_ret
  exact ⟨rfl, HB.out⟩

theorem full1 (s : ByteArray) : s.extract 0 s.size = s := by
  apply ByteArray.ext
  rw [ByteArray.data_extract]
  exact Array.extract_eq_self_of_le (Nat.le_refl _)
def wantI (t : ByteArray) (n e : Int) : Int := if n < 0 ∨ (t.size : Int) < n then 2 else e


def IN (k j : Nat) (t : ByteArray) (n e : Int) (w1 : World) (i : Int) (x : ByteArray) : Prop :=
  Hp w1 [(k, 9, #[.string t]), (k + 1, 3, #[.int .i64 n]), (k + 1 + 1, 3, #[.int .i64 e]), (j, 39, #[.int .i64 i]), (j + 1, 9, #[.string x])]
theorem IN.below {k j : Nat} {t : ByteArray} {n e : Int} {w1 w2 : World} {i : Int} {x : ByteArray} (h : IN k j t n e w1 i x) {B : Nat} (hg : Below B w1 w2) (hk : k + 2 < B) (hj : j + 1 < B) : IN k j t n e w2 i x :=
  Hp.below h hg (by simp; omega)
theorem IN.grown {k j : Nat} {t : ByteArray} {n e : Int} {w1 w2 : World} {i : Int} {x : ByteArray} (h : IN k j t n e w1 i x) {R : Nat} (hg : w1.grownBy w2 (some R)) (hk : k + 2 < R) (hj : j + 1 < R) : IN k j t n e w2 i x :=
  Hp.grown h hg (by simp; omega)
theorem IN.inner {k j : Nat} {t : ByteArray} {n e : Int} {w1 : World} {i : Int} {x : ByteArray} (h : IN k j t n e w1 i x) (hk : k + 2 < j) (i' : Int) : IN k j t n e (w1.setCell ⟨j, 0, none⟩ (.int .i64 i')) i' x :=
  Hp.set (l1 := [_, _, _]) (l2 := [_]) h 0 (.int .i64 i') (by simp; omega) (by simp)
theorem IN.rest {k j : Nat} {t : ByteArray} {n e : Int} {w1 : World} {i : Int} {x : ByteArray} (h : IN k j t n e w1 i x) (hk : k + 2 < j) (y : ByteArray) : IN k j t n e (w1.setCell ⟨j + 1, 0, none⟩ (.string y)) i y :=
  Hp.set (l1 := [_, _, _, _]) (l2 := []) h 0 (.string y) (by simp; omega) (by simp)
theorem IN.facts {k j : Nat} {t : ByteArray} {n e : Int} {w1 : World} {i : Int} {x : ByteArray} (h : IN k j t n e w1 i x) :
    w1.cell? ⟨k, 0, none⟩ = some (.string t) ∧ w1.cell? ⟨k + 1, 0, none⟩ = some (.int .i64 n) ∧ w1.cell? ⟨k + 1 + 1, 0, none⟩ = some (.int .i64 e) ∧ (w1.cell? ⟨j, 0, none⟩ = some (.int .i64 i) ∧ w1.frozen? ⟨j, 0, none⟩ = false) ∧ w1.cell? ⟨j + 1, 0, none⟩ = some (.string x) ∧ w1.frozen? ⟨j + 1, 0, none⟩ = false :=
  ⟨h.head.cell 0 _ rfl, h.tail.head.cell 0 _ rfl, h.tail.tail.head.cell 0 _ rfl, ⟨h.tail.tail.tail.head.cell 0 _ rfl, h.tail.tail.tail.head.free 0⟩, h.tail.tail.tail.tail.head.cell 0 _ rfl, h.tail.tail.tail.tail.head.free 0⟩


theorem IN.new {w : World} {k j : Nat} {t : ByteArray} {n e : Int} (hk : k + 2 < j) (hj : j = w.heap.size) (h : Hp w [(k, 9, #[.string t]), (k + 1, 3, #[.int .i64 n]), (k + 1 + 1, 3, #[.int .i64 e])]) :
    IN k j t n e ((w.alloc (.cells #[.int .i64 0] 39)).alloc (.cells #[.string ⟨#[]⟩] 9)) 0 ⟨#[]⟩ := by
  subst hj
  have b1 := Blk.new (w.alloc (.cells #[.int .i64 0] 39)) 9 #[.string ⟨#[]⟩]
  rw [World.size_alloc] at b1
  exact .cons ((h.head.alloc _).alloc _) (.cons ((h.tail.head.alloc _).alloc _) (.cons ((h.tail.tail.head.alloc _).alloc _) (.cons ((Blk.new w _ _).alloc _) (.cons b1 (.nil _)))))


def palanquinlaw01_WireInside.f (a0 a1 : ByteArray) (a2 a3 : Int) : Option Bool := if a0.size ≤ 140737488351232 ∧ a1.size ≤ 140737488351232 then some true else none
end Go.Proofs.Yteeljehkphfmdaa.G
end

section
namespace Go.Proofs.Yteeljehkphfmdaa.G
open Go.RowKit Go.Proofs.YteeljehkphfmdaaW.PrintWords Go.Proofs.YteeljehkphfmdaaW.PrintLast Go.Proofs.YteeljehkphfmdaaW.PrintMore Go.Proofs.Yteeljehkphfmdaa.Pal
def kSize (k : Int) : Nat := if k = 0 then 1 else if k = 1 then 2 else if k = 2 then 4 else 8
inductive Told where
  | ok (a : S43) (m : Nat)
  | stop (e : Int)
def numT (s : ByteArray) (n z : Nat) : Told := if n + z ≤ s.size then .ok ⟨(be (bl (s.extract n (n + z))) : Nat), ⟨#[]⟩, ((n + z : Nat) : Int), (s.size : Int) - ((n + z : Nat) : Int)⟩ (n + z) else .stop 2
def told (s : ByteArray) (n : Nat) (c : S27) : Told :=
  if c.f0 = 0 then numT s n 1
  else if c.f0 = 1 then numT s n 2
  else if c.f0 = 2 then numT s n 4
  else if c.f0 = 3 then numT s n 8
  else if c.f0 = 4 then
    if 0 ≤ c.f1 ∧ (n : Int) + c.f1 ≤ s.size then .ok ⟨0, s.extract n (n + c.f1.toNat), ((n + c.f1.toNat : Nat) : Int), (s.size : Int) - ((n + c.f1.toNat : Nat) : Int)⟩ (n + c.f1.toNat) else .stop 2
  else if c.f0 = 5 then .ok ⟨0, s.extract n s.size, (s.size : Int), (s.size : Int) - ((s.size : Nat) : Int)⟩ s.size
  else if Int.tmod c.f2 2 = 0 then .ok ⟨0, ⟨#[]⟩, (n : Int), (s.size : Int) - (n : Int)⟩ n else .stop c.f1
def reads (s : ByteArray) : Nat → List S27 → List S43 × Int
  | _, [] => ([], 0)
  | n, c :: l => match told s n c with
    | .ok a m => (a :: (reads s m l).1, (reads s m l).2)
    | .stop e => ([], e)
def noOK (l : List S27) : Prop := ∀ c ∈ l, c.f0 < 0 ∨ 5 < c.f0 → c.f1 ≠ 0
instance (l : List S27) : Decidable (noOK l) := by unfold noOK; infer_instance
theorem reads_ok {s : ByteArray} {n m : Nat} {c : S27} {l : List S27} {a : S43} (h : told s n c = .ok a m) : reads s n (c :: l) = (a :: (reads s m l).1, (reads s m l).2) := by simp only [reads, h]
theorem reads_stop {s : ByteArray} {n : Nat} {c : S27} {l : List S27} {e : Int} (h : told s n c = .stop e) : reads s n (c :: l) = ([], e) := by simp only [reads, h]
def RdRest (s : ByteArray) (n : Nat) (l : List S27) (out outs : List S43) (e : Int) : Prop := (reads s n l).2 = e ∧ out ++ (reads s n l).1 = outs
theorem RdRest.step {s : ByteArray} {n m j : Nat} {l : List S27} {out outs : List S43} {e : Int} {a : S43} (h : RdRest s n (l.drop j) out outs e) (hj : j < l.length) (ha : told s n (rd_T27 l (j : Int)) = .ok a m) : RdRest s m (l.drop (j + 1)) (out ++ [a]) outs e := by
  have hd : l.drop j = rd_T27 l (j : Int) :: l.drop (j + 1) := by
    rw [List.drop_eq_getElem_cons hj]
    simp [rd_T27, List.getD_eq_getElem?_getD, hj]
  rw [hd] at h
  unfold RdRest at h ⊢
  rw [reads_ok ha] at h
  exact ⟨h.1, by rw [List.append_assoc]; exact h.2⟩
theorem RdRest.stop {s : ByteArray} {n j : Nat} {l : List S27} {out outs : List S43} {e e' : Int} (h : RdRest s n (l.drop j) out outs e) (hj : j < l.length) (ha : told s n (rd_T27 l (j : Int)) = .stop e') : e = e' ∧ outs = out := by
  have hd : l.drop j = rd_T27 l (j : Int) :: l.drop (j + 1) := by
    rw [List.drop_eq_getElem_cons hj]
    simp [rd_T27, List.getD_eq_getElem?_getD, hj]
  rw [hd] at h
  unfold RdRest at h
  rw [reads_stop ha] at h
  exact ⟨h.1.symm, by rw [← h.2]; simp⟩
theorem RdRest.done {s : ByteArray} {n j : Nat} {l : List S27} {out outs : List S43} {e : Int} (h : RdRest s n (l.drop j) out outs e) (hj : l.length ≤ j) : e = 0 ∧ outs = out := by
  rw [List.drop_eq_nil_of_le hj] at h
  unfold RdRest reads at h
  exact ⟨h.1.symm, by rw [← h.2]; simp⟩
theorem told_at {s : ByteArray} {n m : Nat} {c : S27} {a : S43} (hn : n ≤ s.size) (h : told s n c = .ok a m) : a.f2 = (m : Int) ∧ a.f3 = (s.size : Int) - (m : Int) ∧ m ≤ s.size := by
  have num : ∀ z, numT s n z = .ok a m → a.f2 = (m : Int) ∧ a.f3 = (s.size : Int) - (m : Int) ∧ m ≤ s.size := by
    intro z h
    unfold numT at h
    split at h
    · injection h with h1 h2
      subst h1 h2
      exact ⟨rfl, rfl, by assumption⟩
    · cases h
  unfold told at h
  repeat' split at h
  all_goals first
    | exact num _ h
    | (cases h; done)
    | (injection h with h1 h2; subst h1 h2; exact ⟨rfl, rfl, by omega⟩)
theorem told_0 {s : ByteArray} {n : Nat} {c : S27} (h : c.f0 = 0) : told s n c = numT s n 1 := by simp [told, h]
theorem told_1 {s : ByteArray} {n : Nat} {c : S27} (h : c.f0 = 1) : told s n c = numT s n 2 := by simp [told, h]
theorem told_2 {s : ByteArray} {n : Nat} {c : S27} (h : c.f0 = 2) : told s n c = numT s n 4 := by simp [told, h]
theorem told_3 {s : ByteArray} {n : Nat} {c : S27} (h : c.f0 = 3) : told s n c = numT s n 8 := by simp [told, h]
theorem told_4 {s : ByteArray} {n : Nat} {c : S27} (h : c.f0 = 4) (i : Nat) (hi : c.f1 = (i : Int)) (hz : n + i ≤ s.size) : told s n c = .ok ⟨0, s.extract n (n + i), ((n + i : Nat) : Int), (s.size : Int) - ((n + i : Nat) : Int)⟩ (n + i) := by
  unfold told
  rw [if_neg (by omega), if_neg (by omega), if_neg (by omega), if_neg (by omega), if_pos h, hi, Int.toNat_natCast, if_pos (by omega)]
theorem told_4n {s : ByteArray} {n : Nat} {c : S27} (h : c.f0 = 4) (hz : c.f1 < 0 ∨ (s.size : Int) < n + c.f1) : told s n c = .stop 2 := by
  unfold told
  rw [if_neg (by omega), if_neg (by omega), if_neg (by omega), if_neg (by omega), if_pos h, if_neg (by omega)]
theorem told_5 {s : ByteArray} {n : Nat} {c : S27} (h : c.f0 = 5) : told s n c = .ok ⟨0, s.extract n s.size, (s.size : Int), (s.size : Int) - ((s.size : Nat) : Int)⟩ s.size := by
  unfold told
  rw [if_neg (by omega), if_neg (by omega), if_neg (by omega), if_neg (by omega), if_neg (by omega), if_pos h]
theorem told_6 {s : ByteArray} {n : Nat} {c : S27} (h : c.f0 < 0 ∨ 5 < c.f0) (h2 : Int.tmod c.f2 2 = 0) : told s n c = .ok ⟨0, ⟨#[]⟩, (n : Int), (s.size : Int) - (n : Int)⟩ n := by
  unfold told
  rw [if_neg (by omega), if_neg (by omega), if_neg (by omega), if_neg (by omega), if_neg (by omega), if_neg (by omega), if_pos h2]
theorem told_6n {s : ByteArray} {n : Nat} {c : S27} (h : c.f0 < 0 ∨ 5 < c.f0) (h2 : Int.tmod c.f2 2 ≠ 0) : told s n c = .stop c.f1 := by
  unfold told
  rw [if_neg (by omega), if_neg (by omega), if_neg (by omega), if_neg (by omega), if_neg (by omega), if_neg (by omega), if_neg h2]
theorem numT_ok {s : ByteArray} {n z : Nat} (h : n + z ≤ s.size) : numT s n z = .ok ⟨(be (bl (s.extract n (n + z))) : Nat), ⟨#[]⟩, ((n + z : Nat) : Int), (s.size : Int) - ((n + z : Nat) : Int)⟩ (n + z) := if_pos h
theorem numT_no {s : ByteArray} {n z : Nat} (h : s.size < n + z) : numT s n z = .stop 2 := if_neg (by omega)
theorem noOK_at {l : List S27} (h : noOK l) {j : Nat} (hj : j < l.length) (hk : (rd_T27 l (j : Int)).f0 < 0 ∨ 5 < (rd_T27 l (j : Int)).f0) : (rd_T27 l (j : Int)).f1 ≠ 0 :=
  h _ (by simp [rd_T27, List.getD_eq_getElem?_getD, hj]) hk
end Go.Proofs.Yteeljehkphfmdaa.G
end
