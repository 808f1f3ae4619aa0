/- By hand: wire.Read: whatever closure reads, its end is the error that is told: OK where it comes back, the number where a Need stopped it. -/
import Derived.Test.YtejmipoolbodgaaHWireR
import Derived.Recover
import Derived.Defers
import Derived.WideLaws
import Derived.Lib.Hide
namespace Go.Proofs.Ytejmipoolbodgaa.G
open Go.RowKit Go.Proofs.YtejmipoolbodgaaW.PrintWords Go.Proofs.YtejmipoolbodgaaW.PrintLast Go.Proofs.YtejmipoolbodgaaW.PrintMore Go.Proofs.Ytejmipoolbodgaa.Pal
set_option linter.unusedVariables false
set_option linter.unusedSimpArgs false

/-- How a reading's closure ends: it comes back (0), or is stopped with an error. -/
def did (e : Int) : Ending := if e = 0 then .returned (.tuple #[]) else stopped e

theorem stop_is (v : Value) (W : World) : (Instr.typeAssert (.iface 155 v) 20 155 true).run Try.prog W = .ok (.tuple #[v, .bool true]) W := by kernel_rfl

set_option maxHeartbeats 400000 in
theorem Read1_caught (p : Nat) (x e : Int) (w : World) (hc : w.cell? ⟨p, 0, none⟩ = some (.int .i64 x)) (hz : w.frozen? ⟨p, 0, none⟩ = false) (hp : p < w.heap.size) :
    CallsD Try.prog 128 #[.pointer (some ⟨p, 0, none⟩)] (.panicking [{ v := stopV e, recovered := false }]) w fun e1 u' w' =>
      e1 = .returned (.tuple #[]) ∧ u' = .panicking [{ v := stopV e, recovered := true }] ∧ w' = (w.setCell ⟨p, 0, none⟩ (.int .i64 e)).alloc (.cells #[.int .i64 e] 155) := by
  have hta : ∀ (v : Value) (W : World), (Instr.typeAssert (.iface 155 v) 20 155 true).run Try.prog W = .ok (.tuple #[v, .bool true]) W := stop_is
  refine callsD_of_wpS Try.func128 rfl fun c₀ cs hu => ?_
  simp only [Try.ntmps128, List.size_toArray, List.length_cons, List.length_nil, Nat.reduceAdd, Nat.reduceSub, Array.replicate_succ,
     Array.replicate_zero, List.push_toArray, List.append_toArray, List.nil_append, List.cons_append]
  apply wpS_seq
  apply wpS_region
  simp [wpOpsS, go_sem, recoverD, hu, Exit.thenS, stopV]
  apply wpS_of_wp
  go_wp2
  exact ⟨rfl, _, rfl, _, results_none rfl _ _ _, rfl, rfl, rfl⟩

set_option maxHeartbeats 400000 in
theorem Read1_idle (p : Nat) (w : World) :
    CallsD Try.prog 128 #[.pointer (some ⟨p, 0, none⟩)] .returning w fun e1 u' w' => e1 = .returned (.tuple #[]) ∧ u' = .returning ∧ w' = w := by
  refine callsD_of_wpS Try.func128 rfl fun c₀ cs hu => ?_
  simp only [Try.ntmps128, List.size_toArray, List.length_cons, List.length_nil, Nat.reduceAdd, Nat.reduceSub, Array.replicate_succ,
     Array.replicate_zero, List.push_toArray, List.append_toArray, List.nil_append, List.cons_append]
  apply wpS_seq
  apply wpS_region
  simp [wpOpsS, go_sem, recoverD, hu, Exit.thenS]
  apply wpS_of_wp
  go_wp2
  refine ⟨rfl, .returning, ?_, _, results_none rfl _ _ _, rfl, rfl, rfl⟩
  cases c₀
  simp_all

/-- The world in which the closure begins: the result's variable, then the reader. -/
def readW (w : World) (s : ByteArray) : World := (w.alloc (.cells #[.int .i64 0] 38)).alloc (.cells #[.string s, .int .i64 0] 157)
theorem readW_rd (w : World) (s : ByteArray) (hs : s.size ≤ 140737488351232) : Rd (readW w s) (w.heap.size + 1) s 0 := by
  have h := Blk.new (w.alloc (.cells #[.int .i64 0] 38)) 157 #[.string s, .int .i64 0]
  rw [World.size_alloc] at h
  exact ⟨h, by omega, hs⟩
theorem readW_res (w : World) (s : ByteArray) : Blk (readW w s) w.heap.size 38 #[.int .i64 0] := (Blk.new w _ _).alloc _
theorem readW_below (w : World) (s : ByteArray) : Below w.heap.size w (readW w s) := ((Below.refl _ _).alloc (Nat.le_refl _) _).alloc (by simp) _
theorem readW_size (w : World) (s : ByteArray) : (readW w s).heap.size = w.heap.size + 2 := by simp [readW]

set_option maxHeartbeats 800000 in
theorem Read_calls (g : FuncId) (cap : Array Value) (s : ByteArray) (er : Int) (w : World) (Q : World → Prop)
    (hg : ∀ args w, (callFunc g args).run Try.prog w = .ok (.enter g args) w)
    (hdo : Calls Try.prog g (#[.pointer (some ⟨w.heap.size + 1, 0, none⟩)] ++ cap) (readW w s) fun e w2 => e = did er ∧ Blk w2 w.heap.size 38 #[.int .i64 0] ∧ Q w2) :
    Calls Try.prog 46 #[.string s, .func (.func g) #[] cap] w fun e w' => e = .returned (.int .i64 er) ∧ ∃ w2, Q w2 ∧ w2.grownBy w' (some w.heap.size) := by
  have hmf : ∀ (fn : Fn) (first cap : Array Value) (w : World), (Instr.makeFunc fn first cap).run Try.prog w = .ok (.func fn first cap) w := fun _ _ _ _ => rfl
  have HD := Lib.hid hdo
  clear hdo
  go_enter_defers Try.func46, Try.ntmps46
  go_wp2_with fail
  refine HD.out.mono ?_
  rintro e w2 ⟨rfl, hb, hq⟩
  have HQ := Lib.hid hq
  clear hq HD
  have c0 := hb.cell 0 _ rfl
  have c1 := hb.free 0
  have HB := Aside0.mk hb
  clear hb
  by_cases h0 : er = 0
  · subst h0
    rw [show did 0 = .returned (.tuple #[]) from rfl]
    go_wp2
    refine leaves_cons (f := 128) (args := #[.pointer (some ⟨w.heap.size, 0, none⟩)]) (by simp) (by simp [go_sem]) ?_
    refine (Read1_idle w.heap.size _).mono ?_
    rintro e u' w'' ⟨rfl, rfl, rfl⟩
    have c2 := (HB.out.set 0 (.int .i64 0)).cell 0 _ rfl
    refine ⟨.int .i64 0, ?_, rfl, w2, HQ.out, grown_setCell _ _ _ _⟩
    simp [results, Try.results46, go_sem]
    rw [c2]
    rfl
  · rw [show did er = stopped er from if_neg h0]
    refine leaves_cons (f := 128) (args := #[.pointer (some ⟨w.heap.size, 0, none⟩)]) (by simp) (by simp [go_sem]) ?_
    refine (Read1_caught w.heap.size 0 er w2 c0 c1 HB.out.lt).mono ?_
    rintro e u' w'' ⟨rfl, rfl, rfl⟩
    have c2 := (((HB.out.set 0 (.int .i64 er))).alloc (.cells #[.int .i64 er] 155)).cell 0 _ rfl
    refine ⟨.int .i64 er, ?_, rfl, w2, HQ.out, grown_alloc (grown_setCell _ _ _ _) _⟩
    simp [results, Try.results46, go_sem]
    rw [c2]
    rfl
end Go.Proofs.Ytejmipoolbodgaa.G
