/- Texts of this session, joined: each is a section. -/
import Derived.Test.YtcmalglippmocaaDoorMGrbg1
import Derived.WalkLawsBesides
import Derived.Recover
import Derived.Defers
import Derived.WideLaws
import Derived.Lib.Hide
import Derived.RegionTactic
import Derived.Deep.RegionWith
set_option linter.unusedVariables false
set_option linter.unusedSimpArgs false
section
/- By hand: gre.bytes (a writer), gre.known (ipip's table), gre.fail. -/
namespace Go.Proofs.YtcmalglippmocaaDoor.G
open Go.RowKit Go.Proofs.YtcmalglippmocaaDoorW.PrintWords Go.Proofs.YtcmalglippmocaaDoorW.PrintLast Go.Proofs.YtcmalglippmocaaDoorW.PrintMore Go.Proofs.YtcmalglippmocaaDoor.Pal
set_option linter.unusedVariables false
set_option linter.unusedSimpArgs false
def greBits (s k : Bool) : Nat := (if s then 32768 else 0) + (if k then 8192 else 0)
def greBytes (s k : Bool) (v kind check : Int) : List UInt8 := nb 2 (greBits s k) ++ nb 2 (u64n kind) ++ (if s then nb 2 (u64n check) ++ nb 2 0 else []) ++ (if k then nb 4 (u64n v) else [])
def gre_bytes.f (a0_0 a0_1 : Bool) (a0_2 a1 a2 : Int) : Option ByteArray := if 0 ≤ a0_2 ∧ a0_2 < 4294967296 then some ⟨(greBytes a0_0 a0_1 a0_2 a1 a2).toArray⟩ else none
theorem or_hs : Go.bits .or .i64 0 32768 = 32768 := by decide +kernel
theorem or_hk : Go.bits .or .i64 0 8192 = 8192 := by decide +kernel
theorem or_hsk : Go.bits .or .i64 32768 8192 = 40960 := by decide +kernel
theorem wrapn0 : IntKind.u64.wrap 0 = 0 := by decide +kernel
theorem wrapn8192 : IntKind.u64.wrap 8192 = 8192 := by decide +kernel
theorem wrapn32768 : IntKind.u64.wrap 32768 = 32768 := by decide +kernel
theorem wrapn40960 : IntKind.u64.wrap 40960 = 40960 := by decide +kernel
set_option maxHeartbeats 2000000 in
set_option maxRecDepth 100000 in
theorem gre_bytes.calls (a0_0 a0_1 : Bool) (a0_2 a1 a2 : Int) (r : ByteArray) (w : World) (h : gre_bytes.f a0_0 a0_1 a0_2 a1 a2 = some r) :
    Calls Tryd.prog 59 #[.agg #[.bool a0_0, .bool a0_1, .int .u32 a0_2], .int .i64 a1, .int .i64 a2] w fun e w' => e = .returned (.string r) ∧ Below w.heap.size w w' := by
  unfold gre_bytes.f at h
  split at h
  case isFalse => exact absurd h (by simp)
  rename_i hv
  obtain rfl := Option.some.inj h
  clear h
  have HV := Aside0.mk hv
  have hu := Tryd.underlying40
  have HS := Aside0.mk (WS.start w 40 #[.bool a0_0, .bool a0_1, .int .u32 a0_2])
  have b1 := or_hs
  have b2 := or_hk
  have b3 := or_hsk
  clear hv
  have c1 := HS.out.1.2.1.cells
  cases a0_0 <;> cases a0_1
  · as_aux_lemma =>
    go_enter Tryd.func59, Tryd.ntmps59
    go_wp2_with fail
    refine (Writer_U16.calls _ _ _ _ HS.out.1.1 (by simp)).mono ?_
    rintro e w3 ⟨rfl, g1, g2⟩
    replace HS := Aside0.mk (HS.out.next g1 g2)
    clear g1 g2
    go_wp2_with fail
    refine (Writer_U16.calls _ _ _ _ HS.out.1.1 (by simp [nb_length])).mono ?_
    rintro e w4 ⟨rfl, g1, g2⟩
    replace HS := Aside0.mk (HS.out.next g1 g2)
    clear g1 g2 c1
    have c1 := HS.out.1.2.1.cells
    go_wp2_with fail
    refine (Writer_String.calls _ _ _ HS.out.1.1).mono ?_
    rintro e w5 ⟨rfl, g1, g2⟩
    replace HS := Aside0.mk (HS.out.next g1 g2)
    clear g1 g2 c1
    go_wp2
    go_ret
    exact ⟨by simp [greBytes, greBits, u64n, wrapn0, wrapn8192, wrapn32768, wrapn40960], HS.out.1.2.2⟩
  · as_aux_lemma =>
    go_enter Tryd.func59, Tryd.ntmps59
    go_wp2_with fail
    refine (Writer_U16.calls _ _ _ _ HS.out.1.1 (by simp)).mono ?_
    rintro e w3 ⟨rfl, g1, g2⟩
    replace HS := Aside0.mk (HS.out.next g1 g2)
    clear g1 g2
    go_wp2_with fail
    refine (Writer_U16.calls _ _ _ _ HS.out.1.1 (by simp [nb_length])).mono ?_
    rintro e w4 ⟨rfl, g1, g2⟩
    replace HS := Aside0.mk (HS.out.next g1 g2)
    clear g1 g2 c1
    have c1 := HS.out.1.2.1.cells
    go_wp2_with fail
    refine (Writer_U32.calls _ _ _ _ HS.out.1.1 HV.out.1 HV.out.2 (by simp [nb_length])).mono ?_
    rintro e w5 ⟨rfl, g1, g2⟩
    replace HS := Aside0.mk (HS.out.next g1 g2)
    clear g1 g2
    go_wp2_with fail
    refine (Writer_String.calls _ _ _ HS.out.1.1).mono ?_
    rintro e w6 ⟨rfl, g1, g2⟩
    replace HS := Aside0.mk (HS.out.next g1 g2)
    clear g1 g2 c1
    go_wp2
    go_ret
    exact ⟨by simp [greBytes, greBits, u64n, wrapn0, wrapn8192, wrapn32768, wrapn40960], HS.out.1.2.2⟩
  · as_aux_lemma =>
    go_enter Tryd.func59, Tryd.ntmps59
    go_wp2_with fail
    refine (Writer_U16.calls _ _ _ _ HS.out.1.1 (by simp)).mono ?_
    rintro e w3 ⟨rfl, g1, g2⟩
    replace HS := Aside0.mk (HS.out.next g1 g2)
    clear g1 g2
    go_wp2_with fail
    refine (Writer_U16.calls _ _ _ _ HS.out.1.1 (by simp [nb_length])).mono ?_
    rintro e w4 ⟨rfl, g1, g2⟩
    replace HS := Aside0.mk (HS.out.next g1 g2)
    clear g1 g2 c1
    have c1 := HS.out.1.2.1.cells
    go_wp2_with fail
    refine (Writer_U16.calls _ _ _ _ HS.out.1.1 (by simp [nb_length])).mono ?_
    rintro e w5 ⟨rfl, g1, g2⟩
    replace HS := Aside0.mk (HS.out.next g1 g2)
    clear g1 g2
    go_wp2_with fail
    refine (Writer_U16.calls _ _ _ _ HS.out.1.1 (by simp [nb_length])).mono ?_
    rintro e w6 ⟨rfl, g1, g2⟩
    replace HS := Aside0.mk (HS.out.next g1 g2)
    clear g1 g2
    clear c1
    have c1 := HS.out.1.2.1.cells
    go_wp2_with fail
    refine (Writer_String.calls _ _ _ HS.out.1.1).mono ?_
    rintro e w7 ⟨rfl, g1, g2⟩
    replace HS := Aside0.mk (HS.out.next g1 g2)
    clear g1 g2 c1
    go_wp2
    go_ret
    exact ⟨by simp [greBytes, greBits, u64n, wrapn0, wrapn8192, wrapn32768, wrapn40960], HS.out.1.2.2⟩
  · as_aux_lemma =>
    go_enter Tryd.func59, Tryd.ntmps59
    go_wp2_with fail
    refine (Writer_U16.calls _ _ _ _ HS.out.1.1 (by simp)).mono ?_
    rintro e w3 ⟨rfl, g1, g2⟩
    replace HS := Aside0.mk (HS.out.next g1 g2)
    clear g1 g2
    go_wp2_with fail
    refine (Writer_U16.calls _ _ _ _ HS.out.1.1 (by simp [nb_length])).mono ?_
    rintro e w4 ⟨rfl, g1, g2⟩
    replace HS := Aside0.mk (HS.out.next g1 g2)
    clear g1 g2 c1
    have c1 := HS.out.1.2.1.cells
    go_wp2_with fail
    refine (Writer_U16.calls _ _ _ _ HS.out.1.1 (by simp [nb_length])).mono ?_
    rintro e w5 ⟨rfl, g1, g2⟩
    replace HS := Aside0.mk (HS.out.next g1 g2)
    clear g1 g2
    go_wp2_with fail
    refine (Writer_U16.calls _ _ _ _ HS.out.1.1 (by simp [nb_length])).mono ?_
    rintro e w6 ⟨rfl, g1, g2⟩
    replace HS := Aside0.mk (HS.out.next g1 g2)
    clear g1 g2
    clear c1
    have c1 := HS.out.1.2.1.cells
    go_wp2_with fail
    refine (Writer_U32.calls _ _ _ _ HS.out.1.1 HV.out.1 HV.out.2 (by simp [nb_length])).mono ?_
    rintro e w7 ⟨rfl, g1, g2⟩
    replace HS := Aside0.mk (HS.out.next g1 g2)
    clear g1 g2
    go_wp2_with fail
    refine (Writer_String.calls _ _ _ HS.out.1.1).mono ?_
    rintro e w8 ⟨rfl, g1, g2⟩
    replace HS := Aside0.mk (HS.out.next g1 g2)
    clear g1 g2 c1
    go_wp2
    go_ret
    exact ⟨by simp [greBytes, greBits, u64n, wrapn0, wrapn8192, wrapn32768, wrapn40960], HS.out.1.2.2⟩

def gre_known.f (a0 : Int) : Option Bool := some (a0 == 2048 || a0 == 34525)
theorem known_ix0 (wx : World) : (Instr.index 179 (.agg #[.string ⟨#[64]⟩, .string ⟨#[96]⟩]) (.int .i64 0)).run Tryd.prog wx = .ok (.string ⟨#[64]⟩) wx := by kernel_rfl
theorem known_ix1 (wx : World) : (Instr.index 179 (.agg #[.string ⟨#[64]⟩, .string ⟨#[96]⟩]) (.int .i64 1)).run Tryd.prog wx = .ok (.string ⟨#[96]⟩) wx := by kernel_rfl
theorem kind64 : ipip_Kind.f ⟨#[64]⟩ = some (2048, 0) := by decide +kernel
theorem kind96 : ipip_Kind.f ⟨#[96]⟩ = some (34525, 0) := by decide +kernel
set_option maxHeartbeats 2000000 in
set_option maxRecDepth 100000 in
theorem gre_known.calls (a0 : Int) (r : Bool) (w : World) (h : gre_known.f a0 = some r) (hG : GV w) :
    Calls Tryd.prog 69 #[.int .i64 a0] w fun e w' => e = .returned (.bool r) ∧ Below w.heap.size w w' := by
  obtain rfl := Option.some.inj h
  have HG := Aside0.mk hG
  have HB := Aside0.mk (Below.refl w.heap.size w)
  clear h hG
  go_enter Tryd.func69, Tryd.ntmps69
  go_wp2
  go_loopg [8] 2 (fun kq v8 wr => ∃ i : Nat, v8 = .int .i64 (i : Int) ∧ Aside0 (i + kq = 2) ∧ Aside0 (1 ≤ i → ¬ a0 = 2048) ∧ Aside0 (2 ≤ i → ¬ a0 = 34525) ∧ Aside0 (Below w.heap.size w wr))
  case atStart => exact ⟨0, rfl, ⟨by omega⟩, ⟨by omega⟩, ⟨by omega⟩, HB⟩
  case round =>
    clear HB
    obtain ⟨i, rfl, HI, H4, H6, HB⟩ := hrel
    have h012 : i = 0 ∨ i = 1 ∨ i = 2 := by have := HI.out; omega
    rcases h012 with rfl | rfl | rfl
    · have ix := known_ix0
      go_wp2_with fail
      refine (ipip_Kind.calls _ _ _ _ kind64 (HG.out.below HB.out)).mono ?_
      rintro e w2 ⟨rfl, hb⟩
      replace HB := Aside0.mk (HB.out.trans (hb.mono HB.out.size))
      clear hb ix
      by_cases hv : a0 = 2048
      · subst hv
        go_wp2
        go_ret
        exact ⟨rfl, HB.out⟩
      · have hd : ((2048 : Int) == a0) = false := beq_eq_false_iff_ne.mpr (fun e => hv e.symm)
        have HX := Aside0.mk hv
        clear hv
        go_wp2
        go_roundg 1
        case measure => have := HI.out; omega
        case rel => exact ⟨1, by first | rfl | (simp; done) | (unfold wrap64; simp; done), ⟨by omega⟩, ⟨fun _ => HX.out⟩, ⟨fun h => by omega⟩, HB⟩
    · have ix := known_ix1
      go_wp2_with fail
      refine (ipip_Kind.calls _ _ _ _ kind96 (HG.out.below HB.out)).mono ?_
      rintro e w2 ⟨rfl, hb⟩
      replace HB := Aside0.mk (HB.out.trans (hb.mono HB.out.size))
      clear hb ix
      by_cases hv : a0 = 34525
      · subst hv
        go_wp2
        go_ret
        exact ⟨rfl, HB.out⟩
      · have hd : ((34525 : Int) == a0) = false := beq_eq_false_iff_ne.mpr (fun e => hv e.symm)
        have HX := Aside0.mk hv
        clear hv
        go_wp2
        go_roundg 0
        case measure => have := HI.out; omega
        case rel => exact ⟨2, by first | rfl | (simp; done) | (unfold wrap64; simp; done), ⟨by omega⟩, ⟨fun _ => H4.out (by omega)⟩, ⟨fun _ => HX.out⟩, HB⟩
    · have h1 := H4.out (by omega)
      have h2 := H6.out (by omega)
      have hr : (a0 == 2048 || a0 == 34525) = false := by simp [h1, h2]
      have HR := Aside0.mk hr
      clear h1 h2 hr
      go_wp2
      go_ret
      exact ⟨by rw [HR.out]; rfl, HB.out⟩
set_option maxHeartbeats 1000000 in
theorem gre_fail.yes (R : Nat) (w : World) :
    Calls Tryd.prog 71 #[.pointer (some ⟨R, 0, none⟩), .int .i64 0] w fun e w' => e = .returned (.tuple #[]) ∧ w' = w := by
  go_enter Tryd.func71, Tryd.ntmps71
  go_wp2_with fail
  refine (Reader_Need.yes _ _ _).mono ?_
  rintro e w2 ⟨rfl, rfl⟩
  go_wp2
  go_end0
  exact ⟨rfl, rfl⟩
set_option maxHeartbeats 1000000 in
theorem gre_fail.no (R : Nat) (e : Int) (he : e ≠ 0) (w : World) :
    Calls Tryd.prog 71 #[.pointer (some ⟨R, 0, none⟩), .int .i64 e] w fun e1 w' => e1 = stopped e ∧ w' = w := by
  have hd : (e == 0) = false := beq_eq_false_iff_ne.mpr he
  clear he
  go_enter Tryd.func71, Tryd.ntmps71
  go_wp2_with fail
  refine (Reader_Need.no _ _ _).mono ?_
  rintro e w2 ⟨rfl, rfl⟩
  exact ⟨rfl, rfl, rfl⟩
end Go.Proofs.YtcmalglippmocaaDoor.G
end

section
/- By hand: wire.Read: whatever closure reads, its end is the error that is told: OK where it comes back, the number where a Need stopped it. -/
namespace Go.Proofs.YtcmalglippmocaaDoor.G
open Go.RowKit Go.Proofs.YtcmalglippmocaaDoorW.PrintWords Go.Proofs.YtcmalglippmocaaDoorW.PrintLast Go.Proofs.YtcmalglippmocaaDoorW.PrintMore Go.Proofs.YtcmalglippmocaaDoor.Pal
set_option linter.unusedVariables false
set_option linter.unusedSimpArgs false

/-- How a reading's closure ends: it comes back (0), or is stopped with an error. -/
def did (e : Int) : Ending := if e = 0 then .returned (.tuple #[]) else stopped e

theorem stop_is (v : Value) (W : World) : (Instr.typeAssert (.iface 175 v) 20 175 true).run Tryd.prog W = .ok (.tuple #[v, .bool true]) W := by kernel_rfl

set_option maxHeartbeats 400000 in
theorem Read1_caught (p : Nat) (x e : Int) (w : World) (hc : w.cell? ⟨p, 0, none⟩ = some (.int .i64 x)) (hz : w.frozen? ⟨p, 0, none⟩ = false) (hp : p < w.heap.size) :
    CallsD Tryd.prog 104 #[.pointer (some ⟨p, 0, none⟩)] (.panicking [{ v := stopV e, recovered := false }]) w fun e1 u' w' =>
      e1 = .returned (.tuple #[]) ∧ u' = .panicking [{ v := stopV e, recovered := true }] ∧ w' = (w.setCell ⟨p, 0, none⟩ (.int .i64 e)).alloc (.cells #[.int .i64 e] 175) := by
  have hta : ∀ (v : Value) (W : World), (Instr.typeAssert (.iface 175 v) 20 175 true).run Tryd.prog W = .ok (.tuple #[v, .bool true]) W := stop_is
  refine callsD_of_wpS Tryd.func104 rfl fun c₀ cs hu => ?_
  simp only [Tryd.ntmps104, List.size_toArray, List.length_cons, List.length_nil, Nat.reduceAdd, Nat.reduceSub, Array.replicate_succ,
     Array.replicate_zero, List.push_toArray, List.append_toArray, List.nil_append, List.cons_append]
  apply wpS_seq
  apply wpS_region
  simp [wpOpsS, go_sem, recoverD, hu, Exit.thenS, stopV]
  apply wpS_of_wp
  go_wp2
  exact ⟨rfl, _, rfl, _, results_none rfl _ _ _, rfl, rfl, rfl⟩

set_option maxHeartbeats 400000 in
theorem Read1_idle (p : Nat) (w : World) :
    CallsD Tryd.prog 104 #[.pointer (some ⟨p, 0, none⟩)] .returning w fun e1 u' w' => e1 = .returned (.tuple #[]) ∧ u' = .returning ∧ w' = w := by
  refine callsD_of_wpS Tryd.func104 rfl fun c₀ cs hu => ?_
  simp only [Tryd.ntmps104, List.size_toArray, List.length_cons, List.length_nil, Nat.reduceAdd, Nat.reduceSub, Array.replicate_succ,
     Array.replicate_zero, List.push_toArray, List.append_toArray, List.nil_append, List.cons_append]
  apply wpS_seq
  apply wpS_region
  simp [wpOpsS, go_sem, recoverD, hu, Exit.thenS]
  apply wpS_of_wp
  go_wp2
  refine ⟨rfl, .returning, ?_, _, results_none rfl _ _ _, rfl, rfl, rfl⟩
  cases c₀
  simp_all

/-- The world in which the closure begins: the result's variable, then the reader. -/
def readW (w : World) (s : ByteArray) : World := (w.alloc (.cells #[.int .i64 0] 24)).alloc (.cells #[.string s, .int .i64 0] 177)
theorem readW_rd (w : World) (s : ByteArray) (hs : s.size ≤ 140737488351232) : Rd (readW w s) (w.heap.size + 1) s 0 := by
  have h := Blk.new (w.alloc (.cells #[.int .i64 0] 24)) 177 #[.string s, .int .i64 0]
  rw [World.size_alloc] at h
  exact ⟨h, by omega, hs⟩
theorem readW_res (w : World) (s : ByteArray) : Blk (readW w s) w.heap.size 24 #[.int .i64 0] := (Blk.new w _ _).alloc _
theorem readW_below (w : World) (s : ByteArray) : Below w.heap.size w (readW w s) := ((Below.refl _ _).alloc (Nat.le_refl _) _).alloc (by simp) _
theorem readW_size (w : World) (s : ByteArray) : (readW w s).heap.size = w.heap.size + 2 := by simp [readW]

set_option maxHeartbeats 800000 in
theorem Read_calls (g : FuncId) (cap : Array Value) (s : ByteArray) (er : Int) (w : World) (Q : World → Prop)
    (hg : ∀ args w, (callFunc g args).run Tryd.prog w = .ok (.enter g args) w)
    (hdo : Calls Tryd.prog g (#[.pointer (some ⟨w.heap.size + 1, 0, none⟩)] ++ cap) (readW w s) fun e w2 => e = did er ∧ Blk w2 w.heap.size 24 #[.int .i64 0] ∧ Q w2) :
    Calls Tryd.prog 63 #[.string s, .func (.func g) #[] cap] w fun e w' => e = .returned (.int .i64 er) ∧ ∃ w2, Q w2 ∧ w2.grownBy w' (some w.heap.size) := by
  have hmf : ∀ (fn : Fn) (first cap : Array Value) (w : World), (Instr.makeFunc fn first cap).run Tryd.prog w = .ok (.func fn first cap) w := fun _ _ _ _ => rfl
  have HD := Lib.hid hdo
  clear hdo
  go_enter_defers Tryd.func63, Tryd.ntmps63
  go_wp2_with fail
  refine HD.out.mono ?_
  rintro e w2 ⟨rfl, hb, hq⟩
  have HQ := Lib.hid hq
  clear hq HD
  have c0 := hb.cell 0 _ rfl
  have c1 := hb.free 0
  have HB := Aside0.mk hb
  clear hb
  by_cases h0 : er = 0
  · subst h0
    rw [show did 0 = .returned (.tuple #[]) from rfl]
    go_wp2
    refine leaves_cons (f := 104) (args := #[.pointer (some ⟨w.heap.size, 0, none⟩)]) (by simp) (by simp [go_sem]) ?_
    refine (Read1_idle w.heap.size _).mono ?_
    rintro e u' w'' ⟨rfl, rfl, rfl⟩
    have c2 := (HB.out.set 0 (.int .i64 0)).cell 0 _ rfl
    refine ⟨.int .i64 0, ?_, rfl, w2, HQ.out, grown_setCell _ _ _ _⟩
    simp [results, Tryd.results63, go_sem]
    rw [c2]
    rfl
  · rw [show did er = stopped er from if_neg h0]
    refine leaves_cons (f := 104) (args := #[.pointer (some ⟨w.heap.size, 0, none⟩)]) (by simp) (by simp [go_sem]) ?_
    refine (Read1_caught w.heap.size 0 er w2 c0 c1 HB.out.lt).mono ?_
    rintro e u' w'' ⟨rfl, rfl, rfl⟩
    have c2 := (((HB.out.set 0 (.int .i64 er))).alloc (.cells #[.int .i64 er] 175)).cell 0 _ rfl
    refine ⟨.int .i64 er, ?_, rfl, w2, HQ.out, grown_alloc (grown_setCell _ _ _ _) _⟩
    simp [results, Tryd.results63, go_sem]
    rw [c2]
    rfl
end Go.Proofs.YtcmalglippmocaaDoor.G
end

section
/- By hand: sum.fold, sum.Sum's closure, sum.Sum: what they return is the plain checksum of all parts' bytes. -/
namespace Go.Proofs.YtcmalglippmocaaDoor.G
open Go.RowKit Go.Proofs.YtcmalglippmocaaDoorW.PrintWords Go.Proofs.YtcmalglippmocaaDoorW.PrintLast Go.Proofs.YtcmalglippmocaaDoorW.PrintMore Go.Proofs.YtcmalglippmocaaDoor.Pal
set_option linter.unusedVariables false
set_option linter.unusedSimpArgs false

def sum_fold.f (a0 : Int) : Option Int := if 0 ≤ a0 ∧ a0 ≤ 18446744073709551615 then some ((fold16 a0.toNat : Nat) : Int) else none

def addW (t : Int) (o : Bool) (b : Int) : Int := t + if o then b else b * 256
set_option maxHeartbeats 400000 in
set_option maxRecDepth 100000 in
theorem sum_add.calls (b t : Int) (o : Bool) (po pt : Nat) (w : World) (hb0 : 0 ≤ b) (hb1 : b ≤ 255) (ht0 : 0 ≤ t) (ht1 : t ≤ 18446744073709486000)
    (h1 : w.cell? ⟨po, 0, none⟩ = some (.bool o)) (h2 : w.cell? ⟨pt, 0, none⟩ = some (.int .u64 t)) (f1 : w.frozen? ⟨po, 0, none⟩ = false) (f2 : w.frozen? ⟨pt, 0, none⟩ = false) (hne : ¬ po = pt) :
    Calls Tryd.prog 101 #[.int .u8 b, .pointer (some ⟨po, 0, none⟩), .pointer (some ⟨pt, 0, none⟩)] w fun e w' => e = .returned (.tuple #[]) ∧ w' = (w.setCell ⟨pt, 0, none⟩ (.int .u64 (addW t o b))).setCell ⟨po, 0, none⟩ (.bool (!o)) := by
  have hnot : ∀ (x : Bool) (w : World), (Op.unary .not (.bool x)).run Tryd.prog w = .ok (.bool (!x)) w := fun _ _ => rfl
  cases o
  · go_enter Tryd.func101, Tryd.ntmps101
    go_wp2
    go_end0
    exact ⟨rfl, by simp [addW]⟩
  · go_enter Tryd.func101, Tryd.ntmps101
    go_wp2
    go_end0
    exact ⟨rfl, by simp [addW]⟩

theorem and_low (x : Nat) (h : x ≤ 18446744073709551615) : Go.bits .and .u64 (x : Int) 65535 = ((x % 65536 : Nat) : Int) := by
  have e := u64_and' x 65535 (by omega) (by decide)
  rw [Nat.and_two_pow_sub_one_eq_mod x 16] at e
  exact e

set_option maxHeartbeats 400000 in
theorem sum_fold.calls (a0 : Int) (r : Int) (w : World) (h : sum_fold.f a0 = some r) :
    Calls Tryd.prog 102 #[.int .u64 a0] w fun e w' => e = .returned (.int .i64 r) ∧ Below w.heap.size w w' := by
  unfold sum_fold.f at h
  by_cases hc : 0 ≤ a0 ∧ a0 ≤ 18446744073709551615
  case neg => rw [if_neg hc] at h; exact absurd h (by simp)
  rw [if_pos hc] at h
  have H := Aside0.mk (Option.some.inj h)
  obtain ⟨h0, hk⟩ := hc
  clear h
  go_enter Tryd.func102, Tryd.ntmps102
  go_wp2
  go_loopg [0] a0.toNat (fun kq v0 w' => ∃ x : Nat, v0 = .int .u64 (x : Int) ∧ Aside0 (fold16 x = fold16 a0.toNat) ∧ Aside0 (x ≤ kq ∧ x ≤ 18446744073709551615) ∧ Aside0 (Below w.heap.size w w'))
  case atStart => exact ⟨a0.toNat, by rw [Int.toNat_of_nonneg h0], ⟨rfl⟩, ⟨by omega⟩, ⟨Below.refl _ _⟩⟩
  case round =>
    obtain ⟨x, rfl, HA, HK, HB⟩ := hrel
    have hx := HK.out.2
    clear hk h0
    by_cases hlt : 65535 < x
    · have e1 := and_low x hx
      go_wp2
      go_roundg (x % 65536 + x / 65536)
      case measure => have := HK.out; omega
      case rel => exact ⟨x % 65536 + x / 65536, by simp, ⟨by rw [fold16_step]; exact HA.out⟩, ⟨by omega⟩, HB⟩
    · have e2 : wrap64 (x : Int) = x := by unfold wrap64; omega
      have HX := Aside0.mk (fold16_id x (by omega))
      go_wp2
      go_ret
      exact ⟨by have h1 := H.out; have h2 := HA.out; have h3 := HX.out; rw [h2] at h3; rw [← h1, h3]; rfl, HB.out⟩

def SumInv (w wr : World) (bs : List UInt8) : Prop :=
  Below w.heap.size w wr ∧ wr.heap[w.heap.size]? = some (.cells #[.int .u64 (tot false bs : Nat)] 114 (0, 0)) ∧ wr.heap[w.heap.size + 1]? = some (.cells #[.bool (odd bs)] 4 (0, 0))
theorem SumInv.start (w : World) : SumInv w ((w.alloc (.cells #[.int .u64 0] 114)).alloc (.cells #[.bool false] 4)) [] := by
  refine ⟨((Below.refl _ _).alloc (Nat.le_refl _) _).alloc (by simp) _, ?_, ?_⟩
  · rw [Below.heap_alloc _ _ _ (by simp)]
    exact heap_alloc_new w _
  · have := heap_alloc_new (w.alloc (.cells #[.int .u64 0] 114)) (.cells #[.bool false] 4)
    rwa [World.size_alloc] at this
theorem SumInv.step {w wr : World} {bs : List UInt8} (h : SumInv w wr bs) (b : UInt8) :
    SumInv w ((wr.setCell ⟨w.heap.size, 0, none⟩ (.int .u64 (addW (tot false bs : Nat) (odd bs) (b.toNat : Int)))).setCell ⟨w.heap.size + 1, 0, none⟩ (.bool (!odd bs))) (bs ++ [b]) := by
  obtain ⟨h1, h2, h3⟩ := h
  refine ⟨(h1.setCell (by simp) _).setCell (by simp) _, ?_, ?_⟩
  · rw [Below.heap_setCell _ _ _ _ (by simp), one_setCell h2, tot_snoc, addW]
    cases odd bs <;> simp
  · rw [odd_snoc]
    exact one_setCell (by rw [Below.heap_setCell _ _ _ _ (by simp)]; exact h3)

theorem SumInv.facts {w wr : World} {bs : List UInt8} (h : SumInv w wr bs) :
    wr.cell? ⟨w.heap.size, 0, none⟩ = some (.int .u64 (tot false bs : Nat)) ∧ wr.frozen? ⟨w.heap.size, 0, none⟩ = false ∧ wr.cell? ⟨w.heap.size + 1, 0, none⟩ = some (.bool (odd bs)) ∧ wr.frozen? ⟨w.heap.size + 1, 0, none⟩ = false :=
  ⟨cell_of_one h.2.1, free_of_one h.2.1, cell_of_one h.2.2, free_of_one h.2.2⟩

set_option maxHeartbeats 400000 in
theorem sum_Sum.walk (A0 : Option Addr) (c0 : Nat) (l0 : List ByteArray) (w : World) (hr0 : Kd.C Kd.string w A0 l0.length l0) (hc0 : l0.length ≤ c0) (hs : (cat l0).length ≤ 1099511627776) :
    Calls Tryd.prog 60 #[.slice A0 l0.length c0] w fun e w' => e = .returned (.int .i64 (csum (cat l0) : Nat)) ∧ Below w.heap.size w w' := by
  have hmf : ∀ (fn : Fn) (first cap : Array Value) (w : World), (Instr.makeFunc fn first cap).run Tryd.prog w = .ok (.func fn first cap) w := fun _ _ _ _ => rfl
  have HR := Aside0.mk hr0
  have HS := Aside0.mk hs
  clear hr0 hs
  go_enter Tryd.func60, Tryd.ntmps60
  go_wp2
  go_loopg [12] l0.length (fun kq v12 wr => ∃ i : Nat, v12 = .int .i64 (i : Int) ∧ Aside0 (i + kq = l0.length) ∧ SumInv w wr (cat (l0.take i)))
  case atStart => exact ⟨0, rfl, ⟨by omega⟩, SumInv.start w⟩
  case round =>
    obtain ⟨i, rfl, HK, HI⟩ := hrel
    by_cases hlt : i < l0.length
    · obtain ⟨ad, rfl, hcell⟩ := Kd.at_string (Kd.C_below HR.out HI.1) (i : Int) (by omega) (by omega)
      rw [Int.toNat_natCast] at hcell
      have HP : Aside0 (rdOf ByteArray.empty l0 (i : Int) = l0[i]) := ⟨by simp [rdOf, List.getD_eq_getElem?_getD, List.getElem?_eq_getElem hlt]⟩
      generalize rdOf ByteArray.empty l0 (i : Int) = p at hcell HP
      have HL : Aside0 ((cat (l0.take i)).length + p.size ≤ 1099511627776) := ⟨by
        have h1 := HS.out
        have h2 : cat l0 = cat (l0.take i) ++ (bl p ++ cat (l0.drop (i + 1))) := by
          conv => lhs; rw [← List.take_append_drop i l0]
          rw [List.drop_eq_getElem_cons hlt, ← HP.out]
          simp [cat]
        rw [h2, List.length_append, List.length_append, bl_length] at h1
        omega⟩
      go_wp2
      obtain ⟨wo, rfl⟩ : ∃ wo : World, wo = wr := ⟨_, rfl⟩
      clear hcell
      go_loopg [18] p.size (fun kq v18 wr => ∃ j : Nat, v18 = .int .i64 (j : Int) ∧ Aside0 (j + kq = p.size) ∧ SumInv w wr (cat (l0.take i) ++ (bl p).take j))
      case atStart => exact ⟨0, rfl, ⟨by omega⟩, by rw [List.take_zero, List.append_nil]; exact HI⟩
      case round =>
        obtain ⟨j, rfl, HKj, HJ⟩ := hrel
        by_cases hj : j < p.size
        · obtain ⟨c1, c2, c3, c4⟩ := HJ.facts
          have htot := tot_le (cat (l0.take i) ++ (bl p).take j) false
          have hlen : (cat (l0.take i) ++ (bl p).take j).length ≤ 1099511627776 := by
            have := HL.out
            rw [List.length_append, List.length_take, bl_length]
            omega
          have HT : Aside0 ((bl p).take (j + 1) = (bl p).take j ++ [p[j]]) := ⟨by
            rw [List.take_succ_eq_append_getElem (by rw [bl_length]; exact hj)]
            rfl⟩
          have hbyte := p[j].toNat_lt
          have hw : wrap64 ((j : Int) + 1) = ((j + 1 : Nat) : Int) := by have := HL.out; unfold wrap64; omega
          go_wp2_with fail
          refine (sum_add.calls _ _ _ _ _ _ (by omega) (by omega) (by omega) (by omega) c3 c1 c4 c2 (by omega)).mono ?_
          rintro e w' ⟨rfl, rfl⟩
          have HN := Aside0.mk (HJ.step p[j])
          clear c1 c2 c3 c4
          go_wp2
          go_roundg (p.size - (j + 1))
          case measure => have := HKj.out; omega
          case rel => exact ⟨j + 1, by first | rfl | rw [hw], ⟨by have := HKj.out; omega⟩, by rw [HT.out, ← List.append_assoc]; exact HN.out⟩
        · have HT : Aside0 ((bl p).take j = bl p) := ⟨List.take_of_length_le (by rw [bl_length]; omega)⟩
          have HT2 : Aside0 (cat (l0.take (i + 1)) = cat (l0.take i) ++ bl p) := ⟨by
            rw [List.take_succ_eq_append_getElem hlt, ← HP.out]
            simp [cat]⟩
          have hlen : l0.length ≤ 9223372036854775807 := HR.out.2.1
          have hw : wrap64 ((i : Int) + 1) = ((i + 1 : Nat) : Int) := by unfold wrap64; omega
          go_wp2
          go_roundg (l0.length - (i + 1))
          case measure => have := HK.out; omega
          case rel => exact ⟨i + 1, by rfl, ⟨by omega⟩, by rw [HT2.out, ← HT.out]; exact HJ⟩
    · have HT : Aside0 (l0.take i = l0) := ⟨List.take_of_length_le (by omega)⟩
      rw [HT.out] at HI
      obtain ⟨c1, c2, c3, c4⟩ := HI.facts
      have htot := tot_le (cat l0) false
      have hlen := HS.out
      have hfold := fold16_le (tot false (cat l0))
      have hx := i64_xor_ones (fold16 (tot false (cat l0))) (by omega)
      go_wp2_with fail
      refine (sum_fold.calls _ ((fold16 (tot false (cat l0)) : Nat) : Int) _ (by unfold sum_fold.f; rw [if_pos (by omega), Int.toNat_natCast])).mono ?_
      rintro e w' ⟨rfl, hB⟩
      have HB := Aside0.mk hB
      have HI' := Aside0.mk HI
      clear hB HI c1 c2 c3 c4 htot hlen
      go_wp2
      go_ret
      exact ⟨rfl, HI'.out.1.trans (HB.out.mono HI'.out.1.size)⟩

def sum_Sum.f (l0 : List ByteArray) : Option Int := if (cat l0).length ≤ 1099511627776 then some (csum (cat l0) : Nat) else none
theorem sum_Sum.calls (A0 : Option Addr) (c0 : Nat) (l0 : List ByteArray) (r : Int) (w : World) (hr0 : Kd.C Kd.string w A0 l0.length l0) (hc0 : l0.length ≤ c0) (h : sum_Sum.f l0 = some r) :
    Calls Tryd.prog 60 #[.slice A0 l0.length c0] w fun e w' => e = .returned (.int .i64 r) ∧ Below w.heap.size w w' := by
  unfold sum_Sum.f at h
  by_cases hs : (cat l0).length ≤ 1099511627776
  · rw [if_pos hs] at h
    obtain rfl := Option.some.inj h
    exact sum_Sum.walk A0 c0 l0 w hr0 hc0 hs
  · rw [if_neg hs] at h
    exact absurd h (by simp)
end Go.Proofs.YtcmalglippmocaaDoor.G
end

section
namespace Go.Proofs.YtcmalglippmocaaDoor.G
open Go.RowKit Go.Proofs.YtcmalglippmocaaDoorW.PrintWords Go.Proofs.YtcmalglippmocaaDoorW.PrintLast Go.Proofs.YtcmalglippmocaaDoorW.PrintMore
attribute [local go_sem] max2_int min2_int max_two min_two max_three min_three max_four min_four   -- for this text's walks alone
set_option linter.unusedVariables false
set_option linter.unusedSimpArgs false

/-! ### sum_Pseudo: function 77 -/
def sum_Pseudo.f (a0 : ByteArray) (a1 : ByteArray) (a2 : Int) (a3 : Int) : Option (ByteArray) := if (a0.size : Int) = 16 then (if a0.size + a1.size ≤ 9223372036854775807 then ((some (([(a3 / 16777216) % 256, (a3 / 65536) % 256, (a3 / 256) % 256, (a3) % 256, 0, 0, 0, (a2) % 256] : List Int) : List Int)).bind fun y262 => (if (a0 ++ a1).size + (strOfNums y262).size ≤ 9223372036854775807 then (some ((a0 ++ a1) ++ (strOfNums y262))) else (none))) else (none)) else (if a0.size + a1.size ≤ 9223372036854775807 then ((some (([0, (a2) % 256, (a3 / 256) % 256, (a3) % 256] : List Int) : List Int)).bind fun y265 => (if (a0 ++ a1).size + (strOfNums y265).size ≤ 9223372036854775807 then (some ((a0 ++ a1) ++ (strOfNums y265))) else (none))) else (none))
set_option maxHeartbeats 8000000 in
set_option maxRecDepth 100000 in
theorem sum_Pseudo.calls (a0 : ByteArray) (a1 : ByteArray) (a2 : Int) (a3 : Int) (r : ByteArray) (w : World) (h : sum_Pseudo.f a0 a1 a2 a3 = some r) :
    Calls Tryd.prog 77 #[.string a0, .string a1, .int .i64 a2, .int .i64 a3] w fun e w' => e = .returned (.string r) ∧ Below w.heap.size w w' := by
  have HB := Aside0.mk (Below.refl w.heap.size w)
  have H : (if (a0.size : Int) = 16 then (if a0.size + a1.size ≤ 9223372036854775807 then ((some (([(a3 / 16777216) % 256, (a3 / 65536) % 256, (a3 / 256) % 256, (a3) % 256, 0, 0, 0, (a2) % 256] : List Int) : List Int)).bind fun y262 => (if (a0 ++ a1).size + (strOfNums y262).size ≤ 9223372036854775807 then (some ((a0 ++ a1) ++ (strOfNums y262))) else (none))) else (none)) else (if a0.size + a1.size ≤ 9223372036854775807 then ((some (([0, (a2) % 256, (a3 / 256) % 256, (a3) % 256] : List Int) : List Int)).bind fun y265 => (if (a0 ++ a1).size + (strOfNums y265).size ≤ 9223372036854775807 then (some ((a0 ++ a1) ++ (strOfNums y265))) else (none))) else (none))) = some r := h
  clear h
  by_cases c5 : (a0.size : Int) = 16
  · rw [if_pos c5] at H
    have c5b0 : ((a0.size : Int) == 16) = true := beq_iff_eq.mpr c5
    have c5b1 : ((a0.size : Int) != 16) = false := bne_eq_false_iff_eq.mpr c5
    clear c5
    by_cases c6 : a0.size + a1.size ≤ 9223372036854775807
    · rw [if_pos c6] at H
      have c6b0 := eq_true c6
      have c6b1 : decide (a0.size + a1.size ≤ 9223372036854775807) = true := decide_eq_true c6
      try have c6b2 : (9223372036854775807 < a0.size + a1.size) = False := eq_false (Nat.not_lt.2 c6)
      obtain ⟨y262, hy262⟩ : ∃ y_ : List Int, y_ = (([(a3 / 16777216) % 256, (a3 / 65536) % 256, (a3 / 256) % 256, (a3) % 256, 0, 0, 0, (a2) % 256] : List Int)) := ⟨_, rfl⟩
      replace H : (if (a0 ++ a1).size + (strOfNums y262).size ≤ 9223372036854775807 then (some ((a0 ++ a1) ++ (strOfNums y262))) else (none)) = some r := by first | (rw [hy262]; with_reducible exact H) | (have H2_ := (Option.bind_some _ _).symm.trans H; rw [hy262]; with_reducible exact H2_) | (have H2_ := (Option.bind_some _ _).symm.trans H; with_reducible exact H2_) | with_reducible exact H | (rw [hy262]; exact H) | exact H
      have Ny262 := Aside0.mk hy262
      clear hy262
      by_cases c7 : (a0 ++ a1).size + (strOfNums y262).size ≤ 9223372036854775807
      · rw [if_pos c7] at H
        have c7b0 := eq_true c7
        have c7b1 : decide ((a0 ++ a1).size + (strOfNums y262).size ≤ 9223372036854775807) = true := decide_eq_true c7
        try have c7b2 : (9223372036854775807 < (a0 ++ a1).size + (strOfNums y262).size) = False := eq_false (Nat.not_lt.2 c7)
        try have c7b3 : (9223372036854775807 < (a0.size) + (a1.size) + (strOfNums y262).size) = False := eq_false (by have h_ := c7; simp only [ByteArray.size_append] at h_; omega)
        try have c7b4 : ((a0.size) + (a1.size) + (strOfNums y262).size ≤ 9223372036854775807) = True := eq_true (by have h_ := c7; simp only [ByteArray.size_append] at h_; omega)
        obtain rfl := Option.some.inj H
        go_enter Tryd.func77, Tryd.ntmps77
        go_wp2_with (first | ((with_reducible refine gate_dst (N := 28) rfl ?_); refine Kd.R_lit (Kd.int .u8) _ 5 ?hg (N := 28) ?hd (xs := ([(a3 / 16777216) % 256, (a3 / 65536) % 256, (a3 / 256) % 256, (a3) % 256, 0, 0, 0, (a2) % 256] : List Int)) (inner := [.int .u8 ((a3 / 16777216) % 256), .int .u8 ((a3 / 65536) % 256), .int .u8 ((a3 / 256) % 256), .int .u8 ((a3) % 256), .int .u8 0, .int .u8 0, .int .u8 0, .int .u8 ((a2) % 256)]) (ok := fun _ => True) (okp := fun _ => True) ?hr ?hp (fun _ hk => hk) trivial (Below.refl _ _) (Nat.le_refl _) (by simp) ?_; (case hd => rfl); (case hg => rfl); (case hr => first | (go_simp; done) | (go_simp; rfl)); (case hp => exact (Reps.one (show Kd.M (Kd.int .u8) _ _ _ ((a3 / 16777216) % 256) [.int .u8 ((a3 / 16777216) % 256)] from rfl) (Reps.one (show Kd.M (Kd.int .u8) _ _ _ ((a3 / 65536) % 256) [.int .u8 ((a3 / 65536) % 256)] from rfl) (Reps.one (show Kd.M (Kd.int .u8) _ _ _ ((a3 / 256) % 256) [.int .u8 ((a3 / 256) % 256)] from rfl) (Reps.one (show Kd.M (Kd.int .u8) _ _ _ ((a3) % 256) [.int .u8 ((a3) % 256)] from rfl) (Reps.one (show Kd.M (Kd.int .u8) _ _ _ 0 [.int .u8 0] from rfl) (Reps.one (show Kd.M (Kd.int .u8) _ _ _ 0 [.int .u8 0] from rfl) (Reps.one (show Kd.M (Kd.int .u8) _ _ _ 0 [.int .u8 0] from rfl) (Reps.one (show Kd.M (Kd.int .u8) _ _ _ ((a2) % 256) [.int .u8 ((a2) % 256)] from rfl) (Reps.none _ _)))))))))); intro v263 w8 ho9 hb hg_ hnew_; clear hg_ hnew_; (first | rw [← Ny262.out] at ho9 | (simp only [Int.reduceToNat] at ho9; rw [← Ny262.out] at ho9)); have n0_ := Aside0.mk (Kd.R_lower ho9 (below_size (by repeat (first | (with_reducible first | exact HB.out | apply below_alloc | apply pw_below_drewN | apply below_drew1) | exact HB.out)))); have n1_ := Aside0.mk (below_step (by repeat (first | (with_reducible first | exact HB.out | apply below_alloc | apply pw_below_drewN | apply below_drew1) | exact HB.out)) hb); clear HB; have HO264 := n0_; have HB := n1_; clear n0_ n1_; clear hb ho9; have hcv10 := own_string (P := Tryd.prog) Tryd.underlying23 Tryd.underlying5 Tryd.underlying9 (Kd.own_of_R HO264.out)))
        go_ret
        exact ⟨by first | rfl | (simp [errW_none, errW_some] <;> rfl) | (simp [*, errW_none, errW_some] <;> rfl), by repeat (first | (with_reducible first | exact HB.out | apply below_alloc | apply pw_below_drewN | apply below_drew1) | exact HB.out)⟩
      · rw [if_neg c7] at H
        exact absurd H (by simp)
    · rw [if_neg c6] at H
      exact absurd H (by simp)
  · rw [if_neg c5] at H
    have c5b0 : ((a0.size : Int) == 16) = false := beq_eq_false_iff_ne.mpr c5
    have c5b1 : ((a0.size : Int) != 16) = true := bne_iff_ne.mpr c5
    by_cases c11 : a0.size + a1.size ≤ 9223372036854775807
    · rw [if_pos c11] at H
      have c11b0 := eq_true c11
      have c11b1 : decide (a0.size + a1.size ≤ 9223372036854775807) = true := decide_eq_true c11
      try have c11b2 : (9223372036854775807 < a0.size + a1.size) = False := eq_false (Nat.not_lt.2 c11)
      obtain ⟨y265, hy265⟩ : ∃ y_ : List Int, y_ = (([0, (a2) % 256, (a3 / 256) % 256, (a3) % 256] : List Int)) := ⟨_, rfl⟩
      replace H : (if (a0 ++ a1).size + (strOfNums y265).size ≤ 9223372036854775807 then (some ((a0 ++ a1) ++ (strOfNums y265))) else (none)) = some r := by first | (rw [hy265]; with_reducible exact H) | (have H2_ := (Option.bind_some _ _).symm.trans H; rw [hy265]; with_reducible exact H2_) | (have H2_ := (Option.bind_some _ _).symm.trans H; with_reducible exact H2_) | with_reducible exact H | (rw [hy265]; exact H) | exact H
      have Ny265 := Aside0.mk hy265
      clear hy265
      by_cases c12 : (a0 ++ a1).size + (strOfNums y265).size ≤ 9223372036854775807
      · rw [if_pos c12] at H
        have c12b0 := eq_true c12
        have c12b1 : decide ((a0 ++ a1).size + (strOfNums y265).size ≤ 9223372036854775807) = true := decide_eq_true c12
        try have c12b2 : (9223372036854775807 < (a0 ++ a1).size + (strOfNums y265).size) = False := eq_false (Nat.not_lt.2 c12)
        try have c12b3 : (9223372036854775807 < (a0.size) + (a1.size) + (strOfNums y265).size) = False := eq_false (by have h_ := c12; simp only [ByteArray.size_append] at h_; omega)
        try have c12b4 : ((a0.size) + (a1.size) + (strOfNums y265).size ≤ 9223372036854775807) = True := eq_true (by have h_ := c12; simp only [ByteArray.size_append] at h_; omega)
        obtain rfl := Option.some.inj H
        go_enter Tryd.func77, Tryd.ntmps77
        go_wp2_with (first | ((with_reducible refine gate_dst (N := 41) rfl ?_); refine Kd.R_lit (Kd.int .u8) _ 5 ?hg (N := 41) ?hd (xs := ([0, (a2) % 256, (a3 / 256) % 256, (a3) % 256] : List Int)) (inner := [.int .u8 0, .int .u8 ((a2) % 256), .int .u8 ((a3 / 256) % 256), .int .u8 ((a3) % 256)]) (ok := fun _ => True) (okp := fun _ => True) ?hr ?hp (fun _ hk => hk) trivial (Below.refl _ _) (Nat.le_refl _) (by simp) ?_; (case hd => rfl); (case hg => rfl); (case hr => first | (go_simp; done) | (go_simp; rfl)); (case hp => exact (Reps.one (show Kd.M (Kd.int .u8) _ _ _ 0 [.int .u8 0] from rfl) (Reps.one (show Kd.M (Kd.int .u8) _ _ _ ((a2) % 256) [.int .u8 ((a2) % 256)] from rfl) (Reps.one (show Kd.M (Kd.int .u8) _ _ _ ((a3 / 256) % 256) [.int .u8 ((a3 / 256) % 256)] from rfl) (Reps.one (show Kd.M (Kd.int .u8) _ _ _ ((a3) % 256) [.int .u8 ((a3) % 256)] from rfl) (Reps.none _ _)))))); intro v266 w13 ho14 hb hg_ hnew_; clear hg_ hnew_; (first | rw [← Ny265.out] at ho14 | (simp only [Int.reduceToNat] at ho14; rw [← Ny265.out] at ho14)); have n0_ := Aside0.mk (Kd.R_lower ho14 (below_size (by repeat (first | (with_reducible first | exact HB.out | apply below_alloc | apply pw_below_drewN | apply below_drew1) | exact HB.out)))); have n1_ := Aside0.mk (below_step (by repeat (first | (with_reducible first | exact HB.out | apply below_alloc | apply pw_below_drewN | apply below_drew1) | exact HB.out)) hb); clear HB; have HO267 := n0_; have HB := n1_; clear n0_ n1_; clear hb ho14; have hcv15 := own_string (P := Tryd.prog) Tryd.underlying23 Tryd.underlying5 Tryd.underlying9 (Kd.own_of_R HO267.out)))
        go_ret
        exact ⟨by first | rfl | (simp [errW_none, errW_some] <;> rfl) | (simp [*, errW_none, errW_some] <;> rfl), by repeat (first | (with_reducible first | exact HB.out | apply below_alloc | apply pw_below_drewN | apply below_drew1) | exact HB.out)⟩
      · rw [if_neg c12] at H
        exact absurd H (by simp)
    · rw [if_neg c11] at H
      exact absurd H (by simp)

/-! ### sum_Right: function 67 -/
def sum_Right.f (l0 : List ByteArray) : Option (Bool) := (sum_Sum.f l0).bind fun t312 => (some (t312 == 0))
set_option maxHeartbeats 8000000 in
set_option maxRecDepth 100000 in
theorem sum_Right.calls (A0 : Option Addr) (c0 : Nat) (l0 : List ByteArray) (r : Bool) (w : World) (hr0 : Kd.C Kd.string w A0 l0.length l0) (hc0 : l0.length ≤ c0) (h : sum_Right.f l0 = some r) :
    Calls Tryd.prog 67 #[.slice A0 l0.length c0] w fun e w' => e = .returned (.bool r) ∧ Below w.heap.size w w' := by
  have HR0 := Aside0.mk hr0
  have HC0 := Aside0.mk hc0
  clear hr0 hc0
  have HB := Aside0.mk (Below.refl w.heap.size w)
  have H : ((sum_Sum.f l0).bind fun t312 => (some (t312 == 0))) = some r := h
  clear h
  replace H := Option.bind_eq_some_iff.mp H
  obtain ⟨t312, A20, H⟩ := H
  replace H : (some (t312 == 0)) = some r := H
  have A2 := Aside0.mk A20
  clear A20
  obtain rfl := Option.some.inj H
  go_enter Tryd.func67, Tryd.ntmps67
  go_wp2_with (first | ((with_reducible refine gate_callee (f := 60) rfl ?_); refine goesL_ (some 4) rfl rfl Tryd.func60 (by kernel_rfl) rfl #[.slice A0 l0.length c0] rfl (by (try simp only [List.map_toArray, List.map_cons, List.map_nil]); first | done | rfl | (simp only [List.length_drop, List.length_take]; rfl)) ?_; (with_reducible refine (sum_Sum.calls _ _ l0 t312 _ ?side1 ?side2 A2.out).mono ?_); (case side1 => repeat (first | exact HR0.out | (with_reducible refine Kd.C_alloc ?_ _) | (with_reducible refine Kd.C_drewN ?_ _) | (with_reducible refine Kd.C_drew ?_))); (case side2 => exact HC0.out); rintro e w3 ⟨rfl, hb⟩; refine ⟨_, rfl, ?_⟩; have n0_ := Aside0.mk (below_step (by repeat (first | (with_reducible first | exact HB.out | apply below_alloc | apply pw_below_drewN | apply below_drew1) | exact HB.out)) hb); clear HB; have HB := n0_; clear n0_; (try clear hb); (try clear hb2); (try clear hk); (try clear hi)))
  go_ret
  exact ⟨by first | rfl | (simp [errW_none, errW_some] <;> rfl) | (simp [*, errW_none, errW_some] <;> rfl), by repeat (first | (with_reducible first | exact HB.out | apply below_alloc | apply pw_below_drewN | apply below_drew1) | exact HB.out)⟩

end Go.Proofs.YtcmalglippmocaaDoor.G
end

section
namespace Go.Proofs.YtcmalglippmocaaDoor.G
open Go.RowKit Go.Proofs.YtcmalglippmocaaDoorW.PrintWords Go.Proofs.YtcmalglippmocaaDoorW.PrintLast Go.Proofs.YtcmalglippmocaaDoorW.PrintMore
attribute [local go_sem] max2_int min2_int max_two min_two max_three min_three max_four min_four   -- for this text's walks alone
set_option linter.unusedVariables false
set_option linter.unusedSimpArgs false

/-! ### gre_Put: function 29 -/
def gre_Put.f (a0_0 : Bool) (a0_1 : Bool) (a0_2 : Int) (a1 : ByteArray) : Option (ByteArray × Int) := (ipip_Kind.f a1).bind fun bt160 => (if bt160.2 = 0 then ((gre_bytes.f a0_0 a0_1 a0_2 bt160.1 0).bind fun t162 => ((sum_Sum.f (([t162, a1] : List ByteArray))).bind fun t166 => ((gre_bytes.f a0_0 a0_1 a0_2 bt160.1 t166).bind fun t167 => (if t167.size + a1.size ≤ 9223372036854775807 then (some (t167 ++ a1, 0)) else (none))))) else (some ((⟨#[]⟩ : ByteArray), bt160.2)))
def gre_Put.T4 : Bool × List (List Nat × List Nat) := (true, [([], []), ([], []), ([], []), ([], []), ([2, 3], [2, 3]), ([], []), ([4, 5], [4, 5]), ([6, 4], [6]), ([0, 1, 7, 7], [0, 1, 7]), ([], []), ([8, 9], [8, 9]), ([10, 8, 0, 1, 2, 3, 4, 5, 6, 7, 8, 9, 10], [10]), ([11, 0, 1, 2, 3, 4, 5, 6, 7, 8, 9, 10, 11], [])])
def gre_Put.B4 : List Nat := [0, 0, 0, 0, 12, 0, 60, 124, 255, 0, 1023, 2047, 4095]
theorem gre_Put.tab4 : rtab .any (opsOf Tryd.f29 4) = gre_Put.T4 := by kernel_rfl
theorem gre_Put.bits4 : waitsOk gre_Put.T4.2 gre_Put.B4 = true := by kernel_rfl
set_option maxHeartbeats 8000000 in
set_option maxRecDepth 100000 in
theorem gre_Put.calls (a0_0 : Bool) (a0_1 : Bool) (a0_2 : Int) (a1 : ByteArray) (r1 : ByteArray) (r2 : Int) (w : World) (h : gre_Put.f a0_0 a0_1 a0_2 a1 = some (r1, r2)) (hgV_ : GV w) :
    Calls Tryd.prog 29 #[.agg #[.bool a0_0, .bool a0_1, .int .u32 a0_2], .string a1] w fun e w' => e = .returned (.tuple #[.string r1, .int .i64 r2]) ∧ Below w.heap.size w w' := by
  have HgV_ := Aside0.mk hgV_
  clear hgV_
  have hu40 := Tryd.underlying40
  have HB := Aside0.mk (Below.refl w.heap.size w)
  have H : ((ipip_Kind.f a1).bind fun bt160 => (if bt160.2 = 0 then ((gre_bytes.f a0_0 a0_1 a0_2 bt160.1 0).bind fun t162 => ((sum_Sum.f (([t162, a1] : List ByteArray))).bind fun t166 => ((gre_bytes.f a0_0 a0_1 a0_2 bt160.1 t166).bind fun t167 => (if t167.size + a1.size ≤ 9223372036854775807 then (some (t167 ++ a1, 0)) else (none))))) else (some ((⟨#[]⟩ : ByteArray), bt160.2)))) = some (r1, r2) := h
  clear h
  replace H := Option.bind_eq_some_iff.mp H
  obtain ⟨⟨t160, t161⟩, A30, H⟩ := H
  replace H : (if t161 = 0 then ((gre_bytes.f a0_0 a0_1 a0_2 t160 0).bind fun t162 => ((sum_Sum.f (([t162, a1] : List ByteArray))).bind fun t166 => ((gre_bytes.f a0_0 a0_1 a0_2 t160 t166).bind fun t167 => (if t167.size + a1.size ≤ 9223372036854775807 then (some (t167 ++ a1, 0)) else (none))))) else (some ((⟨#[]⟩ : ByteArray), t161))) = some (r1, r2) := H
  have A3 := Aside0.mk A30
  clear A30
  by_cases c4 : t161 = 0
  · rw [if_pos c4] at H
    have c4b0 : (t161 == 0) = true := beq_iff_eq.mpr c4
    have c4b1 : (t161 != 0) = false := bne_eq_false_iff_eq.mpr c4
    clear c4
    replace H := Option.bind_eq_some_iff.mp H
    obtain ⟨t162, A50, H⟩ := H
    replace H : ((sum_Sum.f (([t162, a1] : List ByteArray))).bind fun t166 => ((gre_bytes.f a0_0 a0_1 a0_2 t160 t166).bind fun t167 => (if t167.size + a1.size ≤ 9223372036854775807 then (some (t167 ++ a1, 0)) else (none)))) = some (r1, r2) := H
    have A5 := Aside0.mk A50
    clear A50
    obtain ⟨y163, hy163⟩ : ∃ y_ : List ByteArray, y_ = (([t162, a1] : List ByteArray)) := ⟨_, rfl⟩
    replace H : ((sum_Sum.f y163).bind fun t166 => ((gre_bytes.f a0_0 a0_1 a0_2 t160 t166).bind fun t167 => (if t167.size + a1.size ≤ 9223372036854775807 then (some (t167 ++ a1, 0)) else (none)))) = some (r1, r2) := by first | (rw [hy163]; with_reducible exact H) | (have H2_ := (Option.bind_some _ _).symm.trans H; rw [hy163]; with_reducible exact H2_) | (have H2_ := (Option.bind_some _ _).symm.trans H; with_reducible exact H2_) | with_reducible exact H | (rw [hy163]; exact H) | exact H
    have Ny163 := Aside0.mk hy163
    clear hy163
    replace H := Option.bind_eq_some_iff.mp H
    obtain ⟨t166, A60, H⟩ := H
    replace H : ((gre_bytes.f a0_0 a0_1 a0_2 t160 t166).bind fun t167 => (if t167.size + a1.size ≤ 9223372036854775807 then (some (t167 ++ a1, 0)) else (none))) = some (r1, r2) := H
    have A6 := Aside0.mk A60
    clear A60
    replace H := Option.bind_eq_some_iff.mp H
    obtain ⟨t167, A70, H⟩ := H
    replace H : (if t167.size + a1.size ≤ 9223372036854775807 then (some (t167 ++ a1, 0)) else (none)) = some (r1, r2) := H
    have A7 := Aside0.mk A70
    clear A70
    by_cases c8 : t167.size + a1.size ≤ 9223372036854775807
    · rw [if_pos c8] at H
      have c8b0 := eq_true c8
      have c8b1 : decide (t167.size + a1.size ≤ 9223372036854775807) = true := decide_eq_true c8
      try have c8b2 : (9223372036854775807 < t167.size + a1.size) = False := eq_false (Nat.not_lt.2 c8)
      simp only [Option.some.injEq, Prod.mk.injEq] at H
      obtain ⟨rfl, rfl⟩ := H
      go_enter Tryd.func29, Tryd.ntmps29
      try go_wp2_with (first | ((with_reducible refine gate_dst (N := 2) rfl ?_); refine box_event ?hg (N := 2) ?hd (cs := #[.bool a0_0, .bool a0_1, .int .u32 a0_2]) (t := 40) ?hr ?_; (case hd => rfl); (case hg => rfl); (case hr => first | (go_simp; done) | (go_simp; rfl)); intro gb159 hg w9 hbox hb; have n0_ := Aside0.mk (below_step (by repeat (first | (with_reducible first | exact HB.out | apply below_alloc | apply pw_below_drewN | apply below_drew1) | exact HB.out)) hb); have n1_ := Aside0.mk (hbox); have n2_ := Aside0.mk ((by rw [hg]; exact (below_size (by repeat (first | (with_reducible first | exact HB.out | apply below_alloc | apply pw_below_drewN | apply below_drew1) | exact HB.out))) : w.heap.size ≤ gb159)); have n3_ := Aside0.mk ((by rw [hg]; exact (below_size (by repeat (first | (with_reducible first | exact HB.out | apply below_alloc | apply pw_below_drewN | apply below_drew1) | exact HB.out))) : w.heap.size ≤ gb159)); clear HB; have HB := n0_; have BK159 := n1_; have GW159 := n2_; have GE159 := n3_; clear n0_ n1_ n2_ n3_; clear hb hbox hg) | ((with_reducible refine gate_callee (f := 22) rfl ?_); refine goesL_ (some 10) rfl rfl Tryd.func22 (by kernel_rfl) rfl #[.string a1] rfl (by (try simp only [List.map_toArray, List.map_cons, List.map_nil]); first | done | rfl | (simp only [List.length_drop, List.length_take]; rfl)) ?_; (with_reducible refine (ipip_Kind.calls a1 t160 t161 _ A3.out (GV.below HgV_.out (by repeat (first | (with_reducible first | exact HB.out | apply below_alloc | apply pw_below_drewN | apply below_drew1 | refine below_set ?_ GE159.out) | exact HB.out)))).mono ?_); rintro e w10 ⟨rfl, hb⟩; refine ⟨_, rfl, ?_⟩; have n0_ := Aside0.mk (blk_below (g := gb159) (o := .cells #[.bool a0_0, .bool a0_1, .int .u32 a0_2] 40 (0, 0)) (by (with_reducible repeat (first | refine blk_drewN ?_ _ | refine blk_drew ?_ | refine blk_alloc ?_ _)); exact BK159.out) hb); have n1_ := Aside0.mk (below_step (by repeat (first | (with_reducible first | exact HB.out | apply below_alloc | apply pw_below_drewN | apply below_drew1 | refine below_set ?_ GE159.out) | exact HB.out)) hb); clear BK159; clear HB; have BK159 := n0_; have HB := n1_; clear n0_ n1_; (try clear hb); (try clear hb2); (try clear hk); (try clear hi)))
      have n0_ := Aside0.mk (blk_drew BK159.out)
      have n1_ := Aside0.mk (below_drew1 HB.out)
      clear BK159
      clear HB
      have BK159 := n0_
      have HB := n1_
      clear n0_ n1_
      refine start_ (n := 13) (S := fun w' => w'.cell? ⟨gb159, 0, none⟩ = some (.bool a0_0) ∧ w'.cell? ⟨gb159, 1, none⟩ = some (.bool a0_1) ∧ w'.cell? ⟨gb159, 2, none⟩ = some (.int .u32 a0_2)) (ds := []) #[false, false, false, false, false, false, false, false, false, false, false, false, false] (by kernel_rfl) rfl rfl ⟨(blk_cell BK159.out 0).trans rfl, (blk_cell BK159.out 1).trans rfl, (blk_cell BK159.out 2).trans rfl⟩ (fun hHeld => ?_); refine with_tabW gre_Put.tab4 gre_Put.bits4 (fun HT_ HW_ => ?_)
      generalize w10.drew = w11 at BK159 HB hHeld ⊢
      refine pure_ (i := 1) (N := some 17) (v := ?_) (a' := ?_) #[false, true, false, false, false, false, false, false, false, false, false, false, false] rfl rfl (any_of HT_.out (by kernel_rfl)) (fun _ _ _ h => h) (Or.inl ⟨by rfl, ?_⟩) ?_ ?_
      rotate_left
      · intro w'
        go_simp
        with_reducible rfl
      rotate_left
      · simp only [Act.put, List.setIfInBounds_toArray, List.set_cons_zero, List.set_cons_succ, i64_w, i32_w]
        rfl
      refine pure_ (i := 3) (N := some 19) (v := ?_) (a' := ?_) #[false, true, false, true, false, false, false, false, false, false, false, false, false] rfl rfl (any_of HT_.out (by kernel_rfl)) (fun _ _ _ h => h) (Or.inl ⟨by rfl, ?_⟩) ?_ ?_
      rotate_left
      · intro w'
        go_simp
        with_reducible rfl
      rotate_left
      · simp only [Act.put, List.setIfInBounds_toArray, List.set_cons_zero, List.set_cons_succ, i64_w, i32_w]
        rfl
      refine pure_ (i := 5) (N := some 21) (v := ?_) (a' := ?_) #[false, true, false, true, false, true, false, false, false, false, false, false, false] rfl rfl (any_of HT_.out (by kernel_rfl)) (fun _ _ _ h => h) (Or.inl ⟨by rfl, ?_⟩) ?_ ?_
      rotate_left
      · intro w'
        go_simp
        with_reducible rfl
      rotate_left
      · simp only [Act.put, List.setIfInBounds_toArray, List.set_cons_zero, List.set_cons_succ, i64_w, i32_w]
        rfl
      refine pure_ (i := 9) (N := some 25) (v := ?_) (a' := ?_) #[false, true, false, true, false, true, false, false, false, true, false, false, false] rfl rfl (any_of HT_.out (by kernel_rfl)) (fun _ _ _ h => h) (Or.inl ⟨by rfl, ?_⟩) ?_ ?_
      rotate_left
      · intro w'
        go_simp
        with_reducible rfl
      rotate_left
      · simp only [Act.put, List.setIfInBounds_toArray, List.set_cons_zero, List.set_cons_succ, i64_w, i32_w]
        rfl
      refine take_ (i := 0) (N := some 16) (v := ?_) (a' := ?_) #[true, true, false, true, false, true, false, false, false, true, false, false, false] rfl rfl (take_ofW HT_.out HW_.out (by kernel_rfl)) (fun _ _ _ h => h) (Or.inl ⟨by rfl, ?_⟩) hHeld ?_ ?_
      rotate_left
      · rintro w' ⟨s0, s1, s2⟩
        go_simp
        with_reducible rfl
      rotate_left
      · simp only [Act.put, List.setIfInBounds_toArray, List.set_cons_zero, List.set_cons_succ, i64_w, i32_w]
        rfl
      refine take_ (i := 2) (N := some 18) (v := ?_) (a' := ?_) #[true, true, true, true, false, true, false, false, false, true, false, false, false] rfl rfl (take_ofW HT_.out HW_.out (by kernel_rfl)) (fun _ _ _ h => h) (Or.inl ⟨by rfl, ?_⟩) hHeld ?_ ?_
      rotate_left
      · rintro w' ⟨s0, s1, s2⟩
        go_simp
        with_reducible rfl
      rotate_left
      · simp only [Act.put, List.setIfInBounds_toArray, List.set_cons_zero, List.set_cons_succ, i64_w, i32_w]
        rfl
      refine one_ (i := 4) (N := some 20) #[true, true, true, true, true, true, false, false, false, true, false, false, false] rfl rfl (one_of HT_.out (by kernel_rfl)) (by decide) (fun K hK => ?_)
      refine goes_ Tryd.func59 (by kernel_rfl) rfl #[.agg #[.bool a0_0, .bool a0_1, .int .u32 a0_2], .int .i64 t160, .int .i64 0] (by rfl) rfl rfl (by (try simp only [List.map_toArray, List.map_cons, List.map_nil]); first | done | rfl | (simp only [List.length_drop, List.length_take]; rfl)) ?_
      with_reducible refine (gre_bytes.calls a0_0 a0_1 a0_2 t160 0 t162 _ A5.out).mono ?_
      rintro e w12 ⟨rfl, hb⟩
      refine ⟨_, rfl, ?_⟩
      have n0_ := Aside0.mk (blk_below (g := gb159) (o := .cells #[.bool a0_0, .bool a0_1, .int .u32 a0_2] 40 (0, 0)) (by (with_reducible repeat (first | refine blk_drewN ?_ _ | refine blk_drew ?_ | refine blk_alloc ?_ _)); exact BK159.out) hb)
      have n1_ := Aside0.mk (below_step (by repeat (first | (with_reducible first | exact HB.out | apply below_alloc | apply pw_below_drewN | apply below_drew1 | refine below_set ?_ GE159.out) | exact HB.out)) hb)
      clear BK159
      clear HB
      have BK159 := n0_
      have HB := n1_
      clear n0_ n1_
      (try clear hb)
      (try clear hb2)
      (try clear hk)
      (try clear hi)
      refine hK.out _ _ ⟨(blk_cell BK159.out 0).trans rfl, (blk_cell BK159.out 1).trans rfl, (blk_cell BK159.out 2).trans rfl⟩ (fun hHeld => ?_)
      clear hK K
      refine norm_ (a' := ?_) ?_ ?_
      rotate_left
      · show Act.put _ (some 20) _ = _
        simp only [Act.put, List.setIfInBounds_toArray, List.set_cons_zero, List.set_cons_succ, i64_w, i32_w]
        rfl
      refine one_ (i := 6) (N := some 22) #[true, true, true, true, true, true, true, false, false, true, false, false, false] rfl rfl (one_of HT_.out (by kernel_rfl)) (by decide) (fun K hK => ?_)
      refine Kd.R_lit_step Kd.string _ 9 ?hg (N := 22) ?hd (xs := ([t162, a1] : List ByteArray)) (inner := [.string t162, .string a1]) (ok := fun _ => True) (okp := fun _ => True) ?hr ?hp (fun _ hk => hk) trivial (Below.refl _ _) (Nat.le_refl _) (by simp) ?_; (case hd => rfl); (case hg => rfl); (case hr => first | (go_simp; done) | (go_simp; rfl)); (case hp => exact (Reps.one (show Kd.M Kd.string _ _ _ t162 [.string t162] from rfl) (Reps.one (show Kd.M Kd.string _ _ _ a1 [.string a1] from rfl) (Reps.none _ _))))
      intro v164 w13 ho14 hb hg_ hnew_
      clear hg_ hnew_
      (first | rw [← Ny163.out] at ho14 | (simp only [Int.reduceToNat] at ho14; rw [← Ny163.out] at ho14))
      have n0_ := Aside0.mk (Kd.R_lower ho14 (below_size (by repeat (first | (with_reducible first | exact HB.out | apply below_alloc | apply pw_below_drewN | apply below_drew1 | refine below_set ?_ GE159.out) | exact HB.out))))
      have n1_ := Aside0.mk (blk_below (g := gb159) (o := .cells #[.bool a0_0, .bool a0_1, .int .u32 a0_2] 40 (0, 0)) (by (with_reducible repeat (first | refine blk_drewN ?_ _ | refine blk_drew ?_ | refine blk_alloc ?_ _)); exact BK159.out) hb)
      have n2_ := Aside0.mk (below_step (by repeat (first | (with_reducible first | exact HB.out | apply below_alloc | apply pw_below_drewN | apply below_drew1 | refine below_set ?_ GE159.out) | exact HB.out)) hb)
      clear BK159
      clear HB
      have HO165 := n0_
      have BK159 := n1_
      have HB := n2_
      clear n0_ n1_ n2_
      clear hb ho14
      obtain ⟨Ao15, co15, eo15⟩ := Kd.R_slice HO165.out
      (first | subst eo15 | (injection eo15 with f1_ f2_ f3_; have f4_ := f1_.symm; have f5_ := f3_.symm; clear f1_ f2_ f3_; subst f4_; subst f5_))
      refine hK.out _ _ ⟨(blk_cell BK159.out 0).trans rfl, (blk_cell BK159.out 1).trans rfl, (blk_cell BK159.out 2).trans rfl⟩ (fun hHeld => ?_)
      clear hK K
      refine norm_ (a' := ?_) ?_ ?_
      rotate_left
      · show Act.put _ (some 22) _ = _
        simp only [Act.put, List.setIfInBounds_toArray, List.set_cons_zero, List.set_cons_succ, i64_w, i32_w]
        rfl
      refine one_ (i := 7) (N := some 23) #[true, true, true, true, true, true, true, true, false, true, false, false, false] rfl rfl (one_of HT_.out (by kernel_rfl)) (by decide) (fun K hK => ?_)
      refine goes_ Tryd.func60 (by kernel_rfl) rfl #[.slice Ao15 y163.length co15] (by rfl) rfl rfl (by (try simp only [List.map_toArray, List.map_cons, List.map_nil]); first | done | rfl | (simp only [List.length_drop, List.length_take]; rfl)) ?_
      with_reducible refine (sum_Sum.calls _ _ y163 t166 _ ?side1 ?side2 A6.out).mono ?_
      (case side1 => repeat (first | exact (Kd.R_reads' HO165.out).2.2 | (with_reducible refine Kd.C_alloc ?_ _) | (with_reducible refine Kd.C_drewN ?_ _) | (with_reducible refine Kd.C_drew ?_)))
      (case side2 => exact (Kd.R_reads' HO165.out).2.1)
      rintro e w16 ⟨rfl, hb⟩
      refine ⟨_, rfl, ?_⟩
      have n0_ := Aside0.mk (Kd.R_below (by (with_reducible repeat (first | apply Kd.R_alloc | apply Kd.R_drewN | apply Kd.R_drew)); exact HO165.out) hb)
      have n1_ := Aside0.mk (blk_below (g := gb159) (o := .cells #[.bool a0_0, .bool a0_1, .int .u32 a0_2] 40 (0, 0)) (by (with_reducible repeat (first | refine blk_drewN ?_ _ | refine blk_drew ?_ | refine blk_alloc ?_ _)); exact BK159.out) hb)
      have n2_ := Aside0.mk (below_step (by repeat (first | (with_reducible first | exact HB.out | apply below_alloc | apply pw_below_drewN | apply below_drew1 | refine below_set ?_ GE159.out) | exact HB.out)) hb)
      clear HO165
      clear BK159
      clear HB
      have HO165 := n0_
      have BK159 := n1_
      have HB := n2_
      clear n0_ n1_ n2_
      (try clear hb)
      (try clear hb2)
      (try clear hk)
      (try clear hi)
      refine hK.out _ _ ⟨(blk_cell BK159.out 0).trans rfl, (blk_cell BK159.out 1).trans rfl, (blk_cell BK159.out 2).trans rfl⟩ (fun hHeld => ?_)
      clear hK K
      refine norm_ (a' := ?_) ?_ ?_
      rotate_left
      · show Act.put _ (some 23) _ = _
        simp only [Act.put, List.setIfInBounds_toArray, List.set_cons_zero, List.set_cons_succ, i64_w, i32_w]
        rfl
      refine one_ (i := 8) (N := some 24) #[true, true, true, true, true, true, true, true, true, true, false, false, false] rfl rfl (one_of HT_.out (by kernel_rfl)) (by decide) (fun K hK => ?_)
      refine goes_ Tryd.func59 (by kernel_rfl) rfl #[.agg #[.bool a0_0, .bool a0_1, .int .u32 a0_2], .int .i64 t160, .int .i64 t166] (by rfl) rfl rfl (by (try simp only [List.map_toArray, List.map_cons, List.map_nil]); first | done | rfl | (simp only [List.length_drop, List.length_take]; rfl)) ?_
      with_reducible refine (gre_bytes.calls a0_0 a0_1 a0_2 t160 t166 t167 _ A7.out).mono ?_
      rintro e w17 ⟨rfl, hb⟩
      refine ⟨_, rfl, ?_⟩
      have n0_ := Aside0.mk (Kd.R_below (by (with_reducible repeat (first | apply Kd.R_alloc | apply Kd.R_drewN | apply Kd.R_drew)); exact HO165.out) hb)
      have n1_ := Aside0.mk (blk_below (g := gb159) (o := .cells #[.bool a0_0, .bool a0_1, .int .u32 a0_2] 40 (0, 0)) (by (with_reducible repeat (first | refine blk_drewN ?_ _ | refine blk_drew ?_ | refine blk_alloc ?_ _)); exact BK159.out) hb)
      have n2_ := Aside0.mk (below_step (by repeat (first | (with_reducible first | exact HB.out | apply below_alloc | apply pw_below_drewN | apply below_drew1 | refine below_set ?_ GE159.out) | exact HB.out)) hb)
      clear HO165
      clear BK159
      clear HB
      have HO165 := n0_
      have BK159 := n1_
      have HB := n2_
      clear n0_ n1_ n2_
      (try clear hb)
      (try clear hb2)
      (try clear hk)
      (try clear hi)
      refine hK.out _ _ ⟨(blk_cell BK159.out 0).trans rfl, (blk_cell BK159.out 1).trans rfl, (blk_cell BK159.out 2).trans rfl⟩ (fun hHeld => ?_)
      clear hK K
      refine norm_ (a' := ?_) ?_ ?_
      rotate_left
      · show Act.put _ (some 24) _ = _
        simp only [Act.put, List.setIfInBounds_toArray, List.set_cons_zero, List.set_cons_succ, i64_w, i32_w]
        rfl
      refine pure_ (i := 10) (N := some 26) (v := ?_) (a' := ?_) #[true, true, true, true, true, true, true, true, true, true, true, false, false] rfl rfl (any_of HT_.out (by kernel_rfl)) (fun _ _ _ h => h) (Or.inl ⟨by rfl, ?_⟩) ?_ ?_
      rotate_left
      · intro w'
        go_simp
        with_reducible rfl
      rotate_left
      · simp only [Act.put, List.setIfInBounds_toArray, List.set_cons_zero, List.set_cons_succ, i64_w, i32_w]
        rfl
      refine pure_ (i := 11) (N := some 4) (v := ?_) (a' := ?_) #[true, true, true, true, true, true, true, true, true, true, true, true, false] rfl rfl (any_of HT_.out (by kernel_rfl)) (fun _ _ _ h => h) (Or.inl ⟨by rfl, ?_⟩) ?_ ?_
      rotate_left
      · intro w'
        go_simp
        with_reducible rfl
      rotate_left
      · simp only [Act.put, List.setIfInBounds_toArray, List.set_cons_zero, List.set_cons_succ, i64_w, i32_w]
        rfl
      refine pure_ (i := 12) (N := some 5) (v := ?_) (a' := ?_) #[true, true, true, true, true, true, true, true, true, true, true, true, true] rfl rfl (any_of HT_.out (by kernel_rfl)) (fun _ _ _ h => h) (Or.inl ⟨by rfl, ?_⟩) ?_ ?_
      rotate_left
      · intro w'
        go_simp
        with_reducible rfl
      rotate_left
      · simp only [Act.put, List.setIfInBounds_toArray, List.set_cons_zero, List.set_cons_succ, i64_w, i32_w]
        rfl
      refine done_ (done_of HT_.out (by kernel_rfl)) ?_
      try go_wp2
      go_ret2
      exact ⟨by first | rfl | (simp [errW_none, errW_some] <;> rfl) | (simp [*, errW_none, errW_some] <;> rfl), by repeat (first | (with_reducible first | exact HB.out | apply below_alloc | apply pw_below_drewN | apply below_drew1 | refine below_set ?_ GE159.out) | exact HB.out)⟩
    · rw [if_neg c8] at H
      exact absurd H (by simp)
  · rw [if_neg c4] at H
    have c4b0 : (t161 == 0) = false := beq_eq_false_iff_ne.mpr c4
    have c4b1 : (t161 != 0) = true := bne_iff_ne.mpr c4
    simp only [Option.some.injEq, Prod.mk.injEq] at H
    obtain ⟨rfl, rfl⟩ := H
    go_enter Tryd.func29, Tryd.ntmps29
    go_wp2_with (first | ((with_reducible refine gate_dst (N := 2) rfl ?_); refine box_event ?hg (N := 2) ?hd (cs := #[.bool a0_0, .bool a0_1, .int .u32 a0_2]) (t := 40) ?hr ?_; (case hd => rfl); (case hg => rfl); (case hr => first | (go_simp; done) | (go_simp; rfl)); intro gb159 hg w18 hbox hb; have n0_ := Aside0.mk (below_step (by repeat (first | (with_reducible first | exact HB.out | apply below_alloc | apply pw_below_drewN | apply below_drew1) | exact HB.out)) hb); have n1_ := Aside0.mk (hbox); have n2_ := Aside0.mk ((by rw [hg]; exact (below_size (by repeat (first | (with_reducible first | exact HB.out | apply below_alloc | apply pw_below_drewN | apply below_drew1) | exact HB.out))) : w.heap.size ≤ gb159)); have n3_ := Aside0.mk ((by rw [hg]; exact (below_size (by repeat (first | (with_reducible first | exact HB.out | apply below_alloc | apply pw_below_drewN | apply below_drew1) | exact HB.out))) : w.heap.size ≤ gb159)); clear HB; have HB := n0_; have BK159 := n1_; have GW159 := n2_; have GE159 := n3_; clear n0_ n1_ n2_ n3_; clear hb hbox hg) | ((with_reducible refine gate_callee (f := 22) rfl ?_); refine goesL_ (some 10) rfl rfl Tryd.func22 (by kernel_rfl) rfl #[.string a1] rfl (by (try simp only [List.map_toArray, List.map_cons, List.map_nil]); first | done | rfl | (simp only [List.length_drop, List.length_take]; rfl)) ?_; (with_reducible refine (ipip_Kind.calls a1 t160 t161 _ A3.out (GV.below HgV_.out (by repeat (first | (with_reducible first | exact HB.out | apply below_alloc | apply pw_below_drewN | apply below_drew1 | refine below_set ?_ GE159.out) | exact HB.out)))).mono ?_); rintro e w19 ⟨rfl, hb⟩; refine ⟨_, rfl, ?_⟩; have n0_ := Aside0.mk (blk_below (g := gb159) (o := .cells #[.bool a0_0, .bool a0_1, .int .u32 a0_2] 40 (0, 0)) (by (with_reducible repeat (first | refine blk_drewN ?_ _ | refine blk_drew ?_ | refine blk_alloc ?_ _)); exact BK159.out) hb); have n1_ := Aside0.mk (below_step (by repeat (first | (with_reducible first | exact HB.out | apply below_alloc | apply pw_below_drewN | apply below_drew1 | refine below_set ?_ GE159.out) | exact HB.out)) hb); clear BK159; clear HB; have BK159 := n0_; have HB := n1_; clear n0_ n1_; (try clear hb); (try clear hb2); (try clear hk); (try clear hi)))
    go_ret2
    exact ⟨by first | rfl | (simp [errW_none, errW_some] <;> rfl) | (simp [*, errW_none, errW_some] <;> rfl), by repeat (first | (with_reducible first | exact HB.out | apply below_alloc | apply pw_below_drewN | apply below_drew1 | refine below_set ?_ GE159.out) | exact HB.out)⟩

/-! ### gre_Size: function 33 -/
def gre_Size.f (a0_0 : Bool) (a0_1 : Bool) (a0_2 : Int) : Option (Int) := if a0_0 = true then (if a0_1 = true then (some ((4 + 4) + 4)) else (some (4 + 4))) else (if a0_1 = true then (some (4 + 4)) else (some 4))
set_option maxHeartbeats 8000000 in
set_option maxRecDepth 100000 in
theorem gre_Size.calls (a0_0 : Bool) (a0_1 : Bool) (a0_2 : Int) (r : Int) (w : World) (h : gre_Size.f a0_0 a0_1 a0_2 = some r) :
    Calls Tryd.prog 33 #[.agg #[.bool a0_0, .bool a0_1, .int .u32 a0_2]] w fun e w' => e = .returned (.int .i64 r) ∧ Below w.heap.size w w' := by
  have hu40 := Tryd.underlying40
  have HB := Aside0.mk (Below.refl w.heap.size w)
  have H : (if a0_0 = true then (if a0_1 = true then (some ((4 + 4) + 4)) else (some (4 + 4))) else (if a0_1 = true then (some (4 + 4)) else (some 4))) = some r := h
  clear h
  by_cases c2 : a0_0 = true
  · subst c2
    have H1 : (if a0_1 = true then (some ((4 + 4) + 4)) else (some (4 + 4))) = some r := by rw [if_pos rfl] at H; exact H
    clear H
    have H := H1
    clear H1
    by_cases c3 : a0_1 = true
    · subst c3
      have H1 : (some ((4 + 4) + 4)) = some r := by rw [if_pos rfl] at H; exact H
      clear H
      have H := H1
      clear H1
      obtain rfl := Option.some.inj H
      go_enter Tryd.func33, Tryd.ntmps33
      go_wp2_with (first | ((with_reducible refine gate_dst (N := 1) rfl ?_); refine box_event ?hg (N := 1) ?hd (cs := #[.bool true, .bool true, .int .u32 a0_2]) (t := 40) ?hr ?_; (case hd => rfl); (case hg => rfl); (case hr => first | (go_simp; done) | (go_simp; rfl)); intro gb168 hg w4 hbox hb; have n0_ := Aside0.mk (below_step (by repeat (first | (with_reducible first | exact HB.out | apply below_alloc | apply pw_below_drewN | apply below_drew1) | exact HB.out)) hb); have n1_ := Aside0.mk (hbox); have n2_ := Aside0.mk ((by rw [hg]; exact (below_size (by repeat (first | (with_reducible first | exact HB.out | apply below_alloc | apply pw_below_drewN | apply below_drew1) | exact HB.out))) : w.heap.size ≤ gb168)); have n3_ := Aside0.mk ((by rw [hg]; exact (below_size (by repeat (first | (with_reducible first | exact HB.out | apply below_alloc | apply pw_below_drewN | apply below_drew1) | exact HB.out))) : w.heap.size ≤ gb168)); clear HB; have HB := n0_; have BK168 := n1_; have GW168 := n2_; have GE168 := n3_; clear n0_ n1_ n2_ n3_; clear hb hbox hg; have hcz5_0 : w4.cell? ⟨gb168, 0, none⟩ = some (.bool true) := (blk_cell BK168.out 0).trans rfl; have hcz5_1 : w4.cell? ⟨gb168, 1, none⟩ = some (.bool true) := (blk_cell BK168.out 1).trans rfl; have hcz5_2 : w4.cell? ⟨gb168, 2, none⟩ = some (.int .u32 a0_2) := (blk_cell BK168.out 2).trans rfl; have hfz5_0 := blk_frozen BK168.out 0; have hfz5_1 := blk_frozen BK168.out 1; have hfz5_2 := blk_frozen BK168.out 2))
      go_ret
      exact ⟨by first | rfl | (simp [errW_none, errW_some] <;> rfl) | (simp [*, errW_none, errW_some] <;> rfl), by repeat (first | (with_reducible first | exact HB.out | apply below_alloc | apply pw_below_drewN | apply below_drew1 | refine below_set ?_ GE168.out) | exact HB.out)⟩
    · replace c3 := Bool.eq_false_iff.mpr c3
      subst c3
      have H1 : (some (4 + 4)) = some r := by rw [if_neg (show ¬ (false = true) by decide)] at H; exact H
      clear H
      have H := H1
      clear H1
      obtain rfl := Option.some.inj H
      go_enter Tryd.func33, Tryd.ntmps33
      go_wp2_with (first | ((with_reducible refine gate_dst (N := 1) rfl ?_); refine box_event ?hg (N := 1) ?hd (cs := #[.bool true, .bool false, .int .u32 a0_2]) (t := 40) ?hr ?_; (case hd => rfl); (case hg => rfl); (case hr => first | (go_simp; done) | (go_simp; rfl)); intro gb168 hg w6 hbox hb; have n0_ := Aside0.mk (below_step (by repeat (first | (with_reducible first | exact HB.out | apply below_alloc | apply pw_below_drewN | apply below_drew1) | exact HB.out)) hb); have n1_ := Aside0.mk (hbox); have n2_ := Aside0.mk ((by rw [hg]; exact (below_size (by repeat (first | (with_reducible first | exact HB.out | apply below_alloc | apply pw_below_drewN | apply below_drew1) | exact HB.out))) : w.heap.size ≤ gb168)); have n3_ := Aside0.mk ((by rw [hg]; exact (below_size (by repeat (first | (with_reducible first | exact HB.out | apply below_alloc | apply pw_below_drewN | apply below_drew1) | exact HB.out))) : w.heap.size ≤ gb168)); clear HB; have HB := n0_; have BK168 := n1_; have GW168 := n2_; have GE168 := n3_; clear n0_ n1_ n2_ n3_; clear hb hbox hg; have hcz7_0 : w6.cell? ⟨gb168, 0, none⟩ = some (.bool true) := (blk_cell BK168.out 0).trans rfl; have hcz7_1 : w6.cell? ⟨gb168, 1, none⟩ = some (.bool false) := (blk_cell BK168.out 1).trans rfl; have hcz7_2 : w6.cell? ⟨gb168, 2, none⟩ = some (.int .u32 a0_2) := (blk_cell BK168.out 2).trans rfl; have hfz7_0 := blk_frozen BK168.out 0; have hfz7_1 := blk_frozen BK168.out 1; have hfz7_2 := blk_frozen BK168.out 2))
      go_ret
      exact ⟨by first | rfl | (simp [errW_none, errW_some] <;> rfl) | (simp [*, errW_none, errW_some] <;> rfl), by repeat (first | (with_reducible first | exact HB.out | apply below_alloc | apply pw_below_drewN | apply below_drew1 | refine below_set ?_ GE168.out) | exact HB.out)⟩
  · replace c2 := Bool.eq_false_iff.mpr c2
    subst c2
    have H1 : (if a0_1 = true then (some (4 + 4)) else (some 4)) = some r := by rw [if_neg (show ¬ (false = true) by decide)] at H; exact H
    clear H
    have H := H1
    clear H1
    by_cases c8 : a0_1 = true
    · subst c8
      have H1 : (some (4 + 4)) = some r := by rw [if_pos rfl] at H; exact H
      clear H
      have H := H1
      clear H1
      obtain rfl := Option.some.inj H
      go_enter Tryd.func33, Tryd.ntmps33
      go_wp2_with (first | ((with_reducible refine gate_dst (N := 1) rfl ?_); refine box_event ?hg (N := 1) ?hd (cs := #[.bool false, .bool true, .int .u32 a0_2]) (t := 40) ?hr ?_; (case hd => rfl); (case hg => rfl); (case hr => first | (go_simp; done) | (go_simp; rfl)); intro gb168 hg w9 hbox hb; have n0_ := Aside0.mk (below_step (by repeat (first | (with_reducible first | exact HB.out | apply below_alloc | apply pw_below_drewN | apply below_drew1) | exact HB.out)) hb); have n1_ := Aside0.mk (hbox); have n2_ := Aside0.mk ((by rw [hg]; exact (below_size (by repeat (first | (with_reducible first | exact HB.out | apply below_alloc | apply pw_below_drewN | apply below_drew1) | exact HB.out))) : w.heap.size ≤ gb168)); have n3_ := Aside0.mk ((by rw [hg]; exact (below_size (by repeat (first | (with_reducible first | exact HB.out | apply below_alloc | apply pw_below_drewN | apply below_drew1) | exact HB.out))) : w.heap.size ≤ gb168)); clear HB; have HB := n0_; have BK168 := n1_; have GW168 := n2_; have GE168 := n3_; clear n0_ n1_ n2_ n3_; clear hb hbox hg; have hcz10_0 : w9.cell? ⟨gb168, 0, none⟩ = some (.bool false) := (blk_cell BK168.out 0).trans rfl; have hcz10_1 : w9.cell? ⟨gb168, 1, none⟩ = some (.bool true) := (blk_cell BK168.out 1).trans rfl; have hcz10_2 : w9.cell? ⟨gb168, 2, none⟩ = some (.int .u32 a0_2) := (blk_cell BK168.out 2).trans rfl; have hfz10_0 := blk_frozen BK168.out 0; have hfz10_1 := blk_frozen BK168.out 1; have hfz10_2 := blk_frozen BK168.out 2))
      go_ret
      exact ⟨by first | rfl | (simp [errW_none, errW_some] <;> rfl) | (simp [*, errW_none, errW_some] <;> rfl), by repeat (first | (with_reducible first | exact HB.out | apply below_alloc | apply pw_below_drewN | apply below_drew1 | refine below_set ?_ GE168.out) | exact HB.out)⟩
    · replace c8 := Bool.eq_false_iff.mpr c8
      subst c8
      have H1 : (some 4) = some r := by rw [if_neg (show ¬ (false = true) by decide)] at H; exact H
      clear H
      have H := H1
      clear H1
      obtain rfl := Option.some.inj H
      go_enter Tryd.func33, Tryd.ntmps33
      go_wp2_with (first | ((with_reducible refine gate_dst (N := 1) rfl ?_); refine box_event ?hg (N := 1) ?hd (cs := #[.bool false, .bool false, .int .u32 a0_2]) (t := 40) ?hr ?_; (case hd => rfl); (case hg => rfl); (case hr => first | (go_simp; done) | (go_simp; rfl)); intro gb168 hg w11 hbox hb; have n0_ := Aside0.mk (below_step (by repeat (first | (with_reducible first | exact HB.out | apply below_alloc | apply pw_below_drewN | apply below_drew1) | exact HB.out)) hb); have n1_ := Aside0.mk (hbox); have n2_ := Aside0.mk ((by rw [hg]; exact (below_size (by repeat (first | (with_reducible first | exact HB.out | apply below_alloc | apply pw_below_drewN | apply below_drew1) | exact HB.out))) : w.heap.size ≤ gb168)); have n3_ := Aside0.mk ((by rw [hg]; exact (below_size (by repeat (first | (with_reducible first | exact HB.out | apply below_alloc | apply pw_below_drewN | apply below_drew1) | exact HB.out))) : w.heap.size ≤ gb168)); clear HB; have HB := n0_; have BK168 := n1_; have GW168 := n2_; have GE168 := n3_; clear n0_ n1_ n2_ n3_; clear hb hbox hg; have hcz12_0 : w11.cell? ⟨gb168, 0, none⟩ = some (.bool false) := (blk_cell BK168.out 0).trans rfl; have hcz12_1 : w11.cell? ⟨gb168, 1, none⟩ = some (.bool false) := (blk_cell BK168.out 1).trans rfl; have hcz12_2 : w11.cell? ⟨gb168, 2, none⟩ = some (.int .u32 a0_2) := (blk_cell BK168.out 2).trans rfl; have hfz12_0 := blk_frozen BK168.out 0; have hfz12_1 := blk_frozen BK168.out 1; have hfz12_2 := blk_frozen BK168.out 2))
      go_ret
      exact ⟨by first | rfl | (simp [errW_none, errW_some] <;> rfl) | (simp [*, errW_none, errW_some] <;> rfl), by repeat (first | (with_reducible first | exact HB.out | apply below_alloc | apply pw_below_drewN | apply below_drew1 | refine below_set ?_ GE168.out) | exact HB.out)⟩

end Go.Proofs.YtcmalglippmocaaDoor.G
end

section
/- By hand: gre.Get and its closure. -/
namespace Go.Proofs.YtcmalglippmocaaDoor.G
open Go.RowKit Go.Proofs.YtcmalglippmocaaDoorW.PrintWords Go.Proofs.YtcmalglippmocaaDoorW.PrintLast Go.Proofs.YtcmalglippmocaaDoorW.PrintMore Go.Proofs.YtcmalglippmocaaDoor.Pal
set_option linter.unusedVariables false
set_option linter.unusedSimpArgs false
def gx (s : ByteArray) : Int := ((be (bl (s.extract 0 2)) : Nat) : Int)
def gkd (s : ByteArray) : Int := ((be (bl (s.extract 2 4)) : Nat) : Int)
def gS (s : ByteArray) : Bool := Go.bits .and .i64 (gx s) 32768 != 0
def gK (s : ByteArray) : Bool := Go.bits .and .i64 (gx s) 8192 != 0
def gAt (s : ByteArray) : Nat := 4 + (if gS s then 4 else 0) + (if gK s then 4 else 0)
def gIn (s : ByteArray) : ByteArray := s.extract (gAt s) s.size
def gVal (s : ByteArray) : Int := if gK s then ((be (bl (s.extract (gAt s - 4) (gAt s))) : Nat) : Int) else 0
/-- With what a reading of GRE's header is stopped; 0: it isn't. -/
def greErr (s : ByteArray) : Int :=
  if s.size < 4 then 2 else if Go.bits .and .i64 (gx s) 7 ≠ 0 then 3 else if Go.bits .andNot .i64 (gx s) 40960 ≠ 0 then 9 else if s.size < gAt s then 2
  else if gS s = true ∧ be (bl (s.extract 6 8)) ≠ 0 then 9 else if gS s = true ∧ csum (bl s) ≠ 0 then 5 else if ¬ (gkd s == 2048 || gkd s == 34525) = true then 6
  else if (verOf (gIn s)).2.2.2 ≠ 0 then (verOf (gIn s)).2.2.2 else if (verOf (gIn s)).2.2.1 ≠ gkd s then 3 else 0
def gre_Get.f (s : ByteArray) : Option (Bool × Bool × Int × ByteArray × Int) :=
  if s.size ≤ 1099511627776 then some (if greErr s = 0 then (gS s, gK s, gVal s, gIn s, 0) else (false, false, 0, ⟨#[]⟩, greErr s)) else none
theorem panicOutG {P : Program} {fn : Func} {R : Ending → World → Prop} {ch : List PanicEntry} {a : Act} {w : World} (h : wpAny P .any #[] (fun _ a w => bodyPost P fn R (.panic ch) a w) 0 #[] a w) : bodyPost P fn R (.panic ch) a w := h.2
theorem rightG (t : ByteArray) (h : t.size ≤ 1099511627776) : sum_Right.f [t] = some (csum (bl t) == 0) := by
  unfold sum_Right.f sum_Sum.f
  rw [show cat [t] = bl t by rw [cat_cons, cat_nil, List.append_nil], if_pos (by rw [bl_length]; exact h), Option.bind_some]
  congr 1
  by_cases h0 : csum (bl t) = 0
  · rw [h0]; rfl
  · rw [beq_eq_false_iff_ne.mpr h0, beq_eq_false_iff_ne]; omega
/-- What the closure works on: the text, the named result, the header, the packet, Read's result; then the reader. -/
def GG (k : Nat) (s : ByteArray) (w w1 : World) (n : Nat) (cs : Array Value) (x : ByteArray) : Prop :=
  Rd w1 (k + 5) s n ∧ Hp w1 [(k, 9, #[.string s]), (k + 1, 40, #[.bool false, .bool false, .int .u32 0]), (k + 2, 40, cs), (k + 3, 9, #[.string x]), (k + 4, 24, #[.int .i64 0])] ∧ Below k w w1 ∧ w.heap.size = k
section
variable {k : Nat} {s : ByteArray} {w w1 w2 : World} {n m : Nat} {cs : Array Value} {x : ByteArray}
theorem GG.went (h : GG k s w w1 n cs x) (hw : Went w1 w2 (k + 5) s m) : GG k s w w2 m cs x :=
  ⟨hw.2, h.2.1.grown hw.1 (by simp), h.2.2.1.trans (below_of_grown hw.1 (by have := h.1.1.lt; omega) (by omega)), h.2.2.2⟩
theorem GG.below (h : GG k s w w1 n cs x) (hb : Below w1.heap.size w1 w2) : GG k s w w2 n cs x :=
  ⟨h.1.below hb, h.2.1.below hb (by have := h.1.1.lt; simp; omega), h.2.2.1.trans (hb.mono (by have := h.1.1.lt; omega)), h.2.2.2⟩
theorem GG.drew (h : GG k s w w1 n cs x) : GG k s w w1.drew n cs x := ⟨h.1, h.2.1, h.2.2.1.drew, h.2.2.2⟩
theorem GG.drewN (h : GG k s w w1 n cs x) (q : Nat) : GG k s w (w1.drewN q) n cs x := ⟨h.1, h.2.1, pw_below_drewN h.2.2.1 q, h.2.2.2⟩
theorem GG.put (h : GG k s w w1 n cs x) (j : Nat) (v : Value) : GG k s w (w1.setCell ⟨k + 2, j, none⟩ v) n (cs.setIfInBounds j v) x :=
  ⟨⟨h.1.1.other _ (by simp) _, h.1.2⟩, h.2.1.set (l1 := [_, _]) (l2 := [_, _]) j v (by simp) (by simp), h.2.2.1.setCell (by simp) _, h.2.2.2⟩
theorem GG.inner (h : GG k s w w1 n cs x) (y : ByteArray) : GG k s w (w1.setCell ⟨k + 3, 0, none⟩ (.string y)) n cs y :=
  ⟨⟨h.1.1.other _ (by simp) _, h.1.2⟩, h.2.1.set (l1 := [_, _, _]) (l2 := [_]) 0 (.string y) (by simp) (by simp), h.2.2.1.setCell (by simp) _, h.2.2.2⟩
theorem GG.facts (h : GG k s w w1 n cs x) :
    w1.cell? ⟨k, 0, none⟩ = some (.string s) ∧ (∀ j, w1.frozen? ⟨k + 2, j, none⟩ = false) ∧ (∀ j, w1.cell? ⟨k + 2, j, none⟩ = cs[j]?) ∧ w1.cell? ⟨k + 3, 0, none⟩ = some (.string x) ∧ w1.frozen? ⟨k + 3, 0, none⟩ = false :=
  ⟨h.2.1.head.cell 0 _ rfl, h.2.1.tail.tail.head.frees, h.2.1.tail.tail.head.cells, h.2.1.tail.tail.tail.head.cell 0 _ rfl, h.2.1.tail.tail.tail.head.free 0⟩
theorem GG.gv (h : GG k s w w1 n cs x) (hV : GV w) : GV w1 := hV.below (by rw [h.2.2.2]; exact h.2.2.1)
end
set_option maxHeartbeats 8000000 in
set_option maxRecDepth 100000 in
theorem gre_Get1 (k : Nat) (s : ByteArray) (w w1 : World) (hs : s.size ≤ 1099511627776) (hV : GV w) (h : GG k s w w1 0 #[.bool false, .bool false, .int .u32 0] ⟨#[]⟩) :
    Calls Tryd.prog 64 #[.pointer (some ⟨k + 5, 0, none⟩), .pointer (some ⟨k, 0, none⟩), .pointer (some ⟨k + 2, 0, none⟩), .pointer (some ⟨k + 3, 0, none⟩)] w1 fun e w2 => e = did (greErr s) ∧
      ∃ n cs x, GG k s w w2 n cs x ∧ (greErr s = 0 → cs = #[.bool (gS s), .bool (gK s), .int .u32 (gVal s)] ∧ x = gIn s) := by
  have HG := Aside0.mk h
  have HV := Aside0.mk hV
  have HS := Aside0.mk hs
  obtain ⟨c0, c1, c2, c3, c4⟩ := h.facts
  clear c1 c2 c3 c4 h hV hs
  by_cases h4 : s.size < 4
  · as_aux_lemma =>
    have d1 : decide ((4 : Int) ≤ (s.size : Int)) = false := decide_eq_false (by omega)
    have d2 : decide (4 ≤ s.size) = false := decide_eq_false (by omega)
    have he : greErr s = 2 := if_pos h4
    have HE := Aside0.mk he
    clear h4 he
    go_enter Tryd.func64, Tryd.ntmps64
    go_wp2_with fail
    refine (Reader_Need.no _ _ _).mono ?_
    rintro e w2 ⟨rfl, rfl⟩
    exact ⟨rfl, by rw [HE.out]; rfl, _, _, _, HG.out, fun h0 => absurd (HE.out.symm.trans h0) (by decide)⟩
  have d1 : decide ((4 : Int) ≤ (s.size : Int)) = true := decide_eq_true (by omega)
  have d2 : decide (4 ≤ s.size) = true := decide_eq_true (by omega)
  have H4 := Aside0.mk h4
  clear h4
  go_enter Tryd.func64, Tryd.ntmps64
  go_wp2_with fail
  refine (Reader_Need.yes _ _ _).mono ?_
  rintro e w2 ⟨rfl, rfl⟩
  clear d1 d2 c0
  go_wp2_with fail
  refine (Reader_U16.yes _ _ _ _ HG.out.1 (by have := H4.out; omega)).mono ?_
  rintro e w2 ⟨rfl, g1⟩
  replace HG := Aside0.mk (HG.out.went g1)
  clear g1
  go_wp2_with fail
  refine (Reader_U16.yes _ _ _ _ HG.out.1 (by have := H4.out; omega)).mono ?_
  rintro e w3 ⟨rfl, g1⟩
  replace HG := Aside0.mk (HG.out.went g1)
  clear g1
  have HX := Aside0.mk (show ((be (bl (s.extract 0 2)) : Nat) : Int) = gx s from rfl)
  have HKD := Aside0.mk (show ((be (bl (s.extract 2 4)) : Nat) : Int) = gkd s from rfl)
  have HSS := Aside0.mk (show (Go.bits .and .i64 (gx s) 32768 != 0) = gS s from rfl)
  have HKK := Aside0.mk (show (Go.bits .and .i64 (gx s) 8192 != 0) = gK s from rfl)
  have e1 := HX.out
  have e2 := HKD.out
  rw [show (0 + 2 : Nat) = 2 from rfl, show (2 + 2 : Nat) = 4 from rfl] at *
  rw [e1, e2]
  clear e1 e2
  by_cases h7 : Go.bits .and .i64 (gx s) 7 = 0
  case neg =>
    as_aux_lemma =>
    have d1 : (Go.bits .and .i64 (gx s) 7 == 0) = false := beq_eq_false_iff_ne.mpr h7
    have HE := Aside0.mk (show greErr s = 3 by unfold greErr; rw [if_neg H4.out, if_pos h7])
    clear h7
    go_wp2_with fail
    refine (Reader_Need.no _ _ _).mono ?_
    rintro e w4 ⟨rfl, rfl⟩
    exact ⟨rfl, by rw [HE.out]; rfl, _, _, _, HG.out, fun h0 => absurd (HE.out.symm.trans h0) (by decide)⟩
  have d1 : (Go.bits .and .i64 (gx s) 7 == 0) = true := beq_iff_eq.mpr h7
  have H7 := Aside0.mk (show ¬ Go.bits .and .i64 (gx s) 7 ≠ 0 from fun h => h h7)
  clear h7
  go_wp2_with fail
  refine (Reader_Need.yes _ _ _).mono ?_
  rintro e w4 ⟨rfl, rfl⟩
  clear d1
  as_aux_lemma =>
  by_cases hA : Go.bits .andNot .i64 (gx s) 40960 = 0
  case neg =>
    as_aux_lemma =>
    have d1 : (Go.bits .andNot .i64 (gx s) 40960 == 0) = false := beq_eq_false_iff_ne.mpr hA
    have HE := Aside0.mk (show greErr s = 9 by unfold greErr; rw [if_neg H4.out, if_neg H7.out, if_pos hA])
    clear hA
    go_wp2_with fail
    refine (Reader_Need.no _ _ _).mono ?_
    rintro e w5 ⟨rfl, rfl⟩
    exact ⟨rfl, by rw [HE.out]; rfl, _, _, _, HG.out, fun h0 => absurd (HE.out.symm.trans h0) (by decide)⟩
  have d1 : (Go.bits .andNot .i64 (gx s) 40960 == 0) = true := beq_iff_eq.mpr hA
  have HA := Aside0.mk (show ¬ Go.bits .andNot .i64 (gx s) 40960 ≠ 0 from fun h => h hA)
  clear hA
  go_wp2_with fail
  refine (Reader_Need.yes _ _ _).mono ?_
  rintro e w5 ⟨rfl, rfl⟩
  clear d1
  have e1 := HSS.out
  have e2 := HKK.out
  obtain ⟨c0, c1, c2, c3, c4⟩ := HG.out.facts
  clear c3 c4
  go_upto_region 5 with (fail)
  clear c0 c1 c2
  have HW := Aside0.mk ((HG.out.put 0 (.bool (gS s))).put 1 (.bool (gK s)))
  simp only [List.setIfInBounds_toArray, List.set_cons_zero, List.set_cons_succ] at HW
  generalize (w5.setCell ⟨k + 2, 0, none⟩ (.bool (gS s))).setCell ⟨k + 2, 1, none⟩ (.bool (gK s)) = wa at HW ⊢
  clear HG e1 e2 HSS HKK HX HKD
  have HG := HW
  clear HW
  as_aux_lemma =>
  have hz : gre_Size.f (gS s) (gK s) 0 = some ((gAt s : Nat) : Int) := by unfold gre_Size.f gAt; cases gS s <;> cases gK s <;> rfl
  have HZ := Aside0.mk hz
  clear hz
  obtain ⟨c0, c1, c2, c3, c4⟩ := HG.out.facts
  clear c1 c3 c4
  by_cases hm : s.size < gAt s
  · as_aux_lemma =>
    have d1 : decide (((gAt s : Nat) : Int) ≤ (s.size : Int)) = false := decide_eq_false (by omega)
    have d2 : decide (gAt s ≤ s.size) = false := decide_eq_false (by omega)
    have HE := Aside0.mk (show greErr s = 2 by unfold greErr; rw [if_neg H4.out, if_neg H7.out, if_neg HA.out, if_pos hm])
    clear hm
    go_region_with ((first
      | (go_at_call 33; refine (gre_Size.calls (gS s) (gK s) 0 _ _ HZ.out).mono ?_; rintro e w6 ⟨rfl, hb⟩; have HG6 := Aside0.mk (show GG k s w w6 4 #[.bool (gS s), .bool (gK s), .int .u32 0] ⟨#[]⟩ from by first | exact HG.out.drew.below hb | exact HG.out.below hb | exact (HG.out.drewN _).below hb); have c6 := HG6.out.facts.1; clear hb)
      | (go_at_call 65; refine (Reader_Need.no _ _ _).mono ?_; rintro e w7 ⟨rfl, rfl⟩; refine panicOutG ?_)))
    all_goals exact ⟨rfl, by rw [HE.out]; rfl, _, _, _, by first | exact HG6.out | exact HG6.out.drew | exact HG6.out.drewN _, fun h0 => absurd (HE.out.symm.trans h0) (by decide)⟩
  have d1 : decide (((gAt s : Nat) : Int) ≤ (s.size : Int)) = true := decide_eq_true (by omega)
  have d2 : decide (gAt s ≤ s.size) = true := decide_eq_true (by omega)
  have HM := Aside0.mk hm
  clear hm
  go_cut [36] from 36 to 42 (fun v36 wc => Aside0 (GG k s w wc 4 #[.bool (gS s), .bool (gK s), .int .u32 0] ⟨#[]⟩))
  case first =>
    as_aux_lemma =>
    go_region_with ((first
        | (go_at_call 33; refine (gre_Size.calls (gS s) (gK s) 0 _ _ HZ.out).mono ?_; rintro e w6 ⟨rfl, hb⟩; have HG6 := Aside0.mk (show GG k s w w6 4 #[.bool (gS s), .bool (gK s), .int .u32 0] ⟨#[]⟩ from by first | exact HG.out.drew.below hb | exact HG.out.below hb | exact (HG.out.drewN _).below hb); have c6 := HG6.out.facts.1; clear hb)
        | (go_at_call 65; refine (Reader_Need.yes _ _ _).mono ?_; rintro e w7 ⟨rfl, rfl⟩)))
    all_goals
      go_wp2_with fail
      go_meet
      case rel => first | exact HG6 | exact ⟨HG6.out.drew⟩ | exact ⟨HG6.out.drewN _⟩
  case rest =>
  as_aux_lemma =>
  clear c0 c2 d1 d2 HG
  have HG := hcut
  clear hcut
  have HM2 := Aside0.mk (show gAt s ≤ s.size by have := HM.out; omega)
  cases hS : gS s <;> cases hK : gK s
  · as_aux_lemma =>
      rw [hS, hK] at HG
      have HN := Aside0.mk (show gAt s = 4 by unfold gAt; rw [hS, hK]; rfl)
      have HF := Aside0.mk (And.intro hS hK)
      have HN2 := Aside0.mk (show 4 ≤ s.size by have := HM2.out; have := HN.out; omega)
      clear hS hK
      obtain ⟨c0, c1, c2, c3, c4⟩ := HG.out.facts
      clear c0 c1 c3 c4
      have H9 := Aside0.mk (show ¬ (gS s = true ∧ be (bl (s.extract 6 8)) ≠ 0) from fun h => by rw [HF.out.1] at h; exact absurd h.1 (by decide))
      have H5 := Aside0.mk (show ¬ (gS s = true ∧ csum (bl s) ≠ 0) from fun h => by rw [HF.out.1] at h; exact absurd h.1 (by decide))
      go_wp2_with fail
      refine (gre_known.calls (gkd s) _ _ rfl (HG.out.gv HV.out)).mono ?_
      rintro e w12a ⟨rfl, g1⟩
      replace HG := Aside0.mk (HG.out.below g1)
      clear g1 c2
      cases h6 : (gkd s == 2048 || gkd s == 34525) with
      | false =>
        have HE := Aside0.mk (show greErr s = 6 by unfold greErr; rw [if_neg H4.out, if_neg H7.out, if_neg HA.out, if_neg HM.out, if_neg H9.out, if_neg H5.out, h6, if_pos (by decide)])
        clear h6
        go_wp2_with fail
        refine (Reader_Need.no _ _ _).mono ?_
        rintro e w12b ⟨rfl, rfl⟩
        exact ⟨rfl, by rw [HE.out]; rfl, _, _, _, HG.out, fun h0 => absurd (HE.out.symm.trans h0) (by decide)⟩
      | true =>
      have H6 := Aside0.mk (show ¬ ¬ (gkd s == 2048 || gkd s == 34525) = true from fun h => h h6)
      clear h6
      go_wp2_with fail
      refine (Reader_Need.yes _ _ _).mono ?_
      rintro e w12b ⟨rfl, rfl⟩
      go_wp2_with fail
      refine (Reader_Rest.calls _ _ _ _ HG.out.1).mono ?_
      rintro e w12 ⟨rfl, g1⟩
      replace HG := Aside0.mk (HG.out.went g1)
      clear g1
      rw [show s.extract 4 s.size = gIn s by unfold gIn; rw [HN.out]]
      obtain ⟨c0, c1, c2, c3, c4⟩ := HG.out.facts
      clear c0 c1 c2
      go_upto_region 14 with (fail)
      clear c3 c4
      replace HG := Aside0.mk (HG.out.inner (gIn s))
      generalize w12.setCell ⟨k + 3, 0, none⟩ (.string (gIn s)) = w13 at HG ⊢
      obtain ⟨c0, c1, c2, c3, c4⟩ := HG.out.facts
      clear c0 c1 c2 c4
      go_wp2_with fail
      refine (ipip_Kind.calls _ (verOf (gIn s)).2.2.1 (verOf (gIn s)).2.2.2 _ rfl (HG.out.gv HV.out)).mono ?_
      rintro e w14 ⟨rfl, g1⟩
      replace HG := Aside0.mk (HG.out.below g1)
      clear g1 c3
      generalize hq : (verOf (gIn s)).2.2.1 = q
      generalize hp : (verOf (gIn s)).2.2.2 = p
      have HQ := Aside0.mk (And.intro hq hp)
      clear hq hp
      by_cases he : p = 0
      case neg =>
        have HE := Aside0.mk (show greErr s = p by unfold greErr; rw [if_neg H4.out, if_neg H7.out, if_neg HA.out, if_neg HM.out, if_neg H9.out, if_neg H5.out, if_neg H6.out, HQ.out.2, if_pos he])
        have HP := Aside0.mk he
        clear he
        go_wp2_with fail
        refine (gre_fail.no _ _ HP.out _).mono ?_
        rintro e w15 ⟨rfl, rfl⟩
        exact ⟨rfl, by rw [HE.out]; exact (if_neg HP.out).symm, _, _, _, HG.out, fun h0 => absurd (HE.out.symm.trans h0) HP.out⟩
      subst he
      go_wp2_with fail
      refine (gre_fail.yes _ _).mono ?_
      rintro e w15 ⟨rfl, rfl⟩
      by_cases hk : q = gkd s
      case neg =>
        have d1 : (q == gkd s) = false := beq_eq_false_iff_ne.mpr hk
        have HE := Aside0.mk (show greErr s = 3 by unfold greErr; rw [if_neg H4.out, if_neg H7.out, if_neg HA.out, if_neg HM.out, if_neg H9.out, if_neg H5.out, if_neg H6.out, HQ.out.2, if_neg (by decide), HQ.out.1, if_pos hk])
        clear hk
        go_wp2_with fail
        refine (Reader_Need.no _ _ _).mono ?_
        rintro e w16 ⟨rfl, rfl⟩
        exact ⟨rfl, by rw [HE.out]; rfl, _, _, _, HG.out, fun h0 => absurd (HE.out.symm.trans h0) (by decide)⟩
      have d1 : (q == gkd s) = true := beq_iff_eq.mpr hk
      have HE := Aside0.mk (show greErr s = 0 by unfold greErr; rw [if_neg H4.out, if_neg H7.out, if_neg HA.out, if_neg HM.out, if_neg H9.out, if_neg H5.out, if_neg H6.out, HQ.out.2, if_neg (by decide), HQ.out.1, if_neg (fun h => h hk)])
      clear hk
      go_wp2_with fail
      refine (Reader_Need.yes _ _ _).mono ?_
      rintro e w16 ⟨rfl, rfl⟩
      go_wp2
      go_end0
      exact ⟨by rw [HE.out]; rfl, _, _, _, HG.out, fun _ => ⟨by rw [HF.out.1, HF.out.2]; unfold gVal; rw [HF.out.2]; rfl, rfl⟩⟩
  · as_aux_lemma =>
      rw [hS, hK] at HG
      have HN := Aside0.mk (show gAt s = 8 by unfold gAt; rw [hS, hK]; rfl)
      have HF := Aside0.mk (And.intro hS hK)
      have HN2 := Aside0.mk (show 8 ≤ s.size by have := HM2.out; have := HN.out; omega)
      clear hS hK
      obtain ⟨c0, c1, c2, c3, c4⟩ := HG.out.facts
      clear c0 c1 c3 c4
      have H9 := Aside0.mk (show ¬ (gS s = true ∧ be (bl (s.extract 6 8)) ≠ 0) from fun h => by rw [HF.out.1] at h; exact absurd h.1 (by decide))
      have H5 := Aside0.mk (show ¬ (gS s = true ∧ csum (bl s) ≠ 0) from fun h => by rw [HF.out.1] at h; exact absurd h.1 (by decide))
      go_wp2_with fail
      refine (Reader_U32.yes _ _ _ _ HG.out.1 (by have := HN2.out; omega)).mono ?_
      rintro e w11 ⟨rfl, g1⟩
      replace HG := Aside0.mk (HG.out.went g1)
      clear g1 c2
      obtain ⟨c0, c1, c2, c3, c4⟩ := HG.out.facts
      clear c0 c3 c4
      rw [show s.extract 4 (4 + 4) = s.extract (gAt s - 4) (gAt s) by rw [HN.out]]
      go_upto_region 12 with (fail)
      clear c1 c2
      replace HG := Aside0.mk (HG.out.put 2 (.int .u32 (be (bl (s.extract (gAt s - 4) (gAt s))) : Nat)))
      simp only [List.setIfInBounds_toArray, List.set_cons_zero, List.set_cons_succ] at HG
      generalize w11.setCell ⟨k + 2, 2, none⟩ (.int .u32 (be (bl (s.extract (gAt s - 4) (gAt s))) : Nat)) = w11b at HG ⊢
      go_wp2_with fail
      refine (gre_known.calls (gkd s) _ _ rfl (HG.out.gv HV.out)).mono ?_
      rintro e w12a ⟨rfl, g1⟩
      replace HG := Aside0.mk (HG.out.below g1)
      clear g1 
      cases h6 : (gkd s == 2048 || gkd s == 34525) with
      | false =>
        have HE := Aside0.mk (show greErr s = 6 by unfold greErr; rw [if_neg H4.out, if_neg H7.out, if_neg HA.out, if_neg HM.out, if_neg H9.out, if_neg H5.out, h6, if_pos (by decide)])
        clear h6
        go_wp2_with fail
        refine (Reader_Need.no _ _ _).mono ?_
        rintro e w12b ⟨rfl, rfl⟩
        exact ⟨rfl, by rw [HE.out]; rfl, _, _, _, HG.out, fun h0 => absurd (HE.out.symm.trans h0) (by decide)⟩
      | true =>
      have H6 := Aside0.mk (show ¬ ¬ (gkd s == 2048 || gkd s == 34525) = true from fun h => h h6)
      clear h6
      go_wp2_with fail
      refine (Reader_Need.yes _ _ _).mono ?_
      rintro e w12b ⟨rfl, rfl⟩
      go_wp2_with fail
      refine (Reader_Rest.calls _ _ _ _ HG.out.1).mono ?_
      rintro e w12 ⟨rfl, g1⟩
      replace HG := Aside0.mk (HG.out.went g1)
      clear g1
      rw [show s.extract 8 s.size = gIn s by unfold gIn; rw [HN.out]]
      obtain ⟨c0, c1, c2, c3, c4⟩ := HG.out.facts
      clear c0 c1 c2
      go_upto_region 14 with (fail)
      clear c3 c4
      replace HG := Aside0.mk (HG.out.inner (gIn s))
      generalize w12.setCell ⟨k + 3, 0, none⟩ (.string (gIn s)) = w13 at HG ⊢
      obtain ⟨c0, c1, c2, c3, c4⟩ := HG.out.facts
      clear c0 c1 c2 c4
      go_wp2_with fail
      refine (ipip_Kind.calls _ (verOf (gIn s)).2.2.1 (verOf (gIn s)).2.2.2 _ rfl (HG.out.gv HV.out)).mono ?_
      rintro e w14 ⟨rfl, g1⟩
      replace HG := Aside0.mk (HG.out.below g1)
      clear g1 c3
      generalize hq : (verOf (gIn s)).2.2.1 = q
      generalize hp : (verOf (gIn s)).2.2.2 = p
      have HQ := Aside0.mk (And.intro hq hp)
      clear hq hp
      by_cases he : p = 0
      case neg =>
        have HE := Aside0.mk (show greErr s = p by unfold greErr; rw [if_neg H4.out, if_neg H7.out, if_neg HA.out, if_neg HM.out, if_neg H9.out, if_neg H5.out, if_neg H6.out, HQ.out.2, if_pos he])
        have HP := Aside0.mk he
        clear he
        go_wp2_with fail
        refine (gre_fail.no _ _ HP.out _).mono ?_
        rintro e w15 ⟨rfl, rfl⟩
        exact ⟨rfl, by rw [HE.out]; exact (if_neg HP.out).symm, _, _, _, HG.out, fun h0 => absurd (HE.out.symm.trans h0) HP.out⟩
      subst he
      go_wp2_with fail
      refine (gre_fail.yes _ _).mono ?_
      rintro e w15 ⟨rfl, rfl⟩
      by_cases hk : q = gkd s
      case neg =>
        have d1 : (q == gkd s) = false := beq_eq_false_iff_ne.mpr hk
        have HE := Aside0.mk (show greErr s = 3 by unfold greErr; rw [if_neg H4.out, if_neg H7.out, if_neg HA.out, if_neg HM.out, if_neg H9.out, if_neg H5.out, if_neg H6.out, HQ.out.2, if_neg (by decide), HQ.out.1, if_pos hk])
        clear hk
        go_wp2_with fail
        refine (Reader_Need.no _ _ _).mono ?_
        rintro e w16 ⟨rfl, rfl⟩
        exact ⟨rfl, by rw [HE.out]; rfl, _, _, _, HG.out, fun h0 => absurd (HE.out.symm.trans h0) (by decide)⟩
      have d1 : (q == gkd s) = true := beq_iff_eq.mpr hk
      have HE := Aside0.mk (show greErr s = 0 by unfold greErr; rw [if_neg H4.out, if_neg H7.out, if_neg HA.out, if_neg HM.out, if_neg H9.out, if_neg H5.out, if_neg H6.out, HQ.out.2, if_neg (by decide), HQ.out.1, if_neg (fun h => h hk)])
      clear hk
      go_wp2_with fail
      refine (Reader_Need.yes _ _ _).mono ?_
      rintro e w16 ⟨rfl, rfl⟩
      go_wp2
      go_end0
      exact ⟨by rw [HE.out]; rfl, _, _, _, HG.out, fun _ => ⟨by rw [HF.out.1, HF.out.2]; unfold gVal; rw [HF.out.2]; rfl, rfl⟩⟩
  · as_aux_lemma =>
      rw [hS, hK] at HG
      have HN := Aside0.mk (show gAt s = 8 by unfold gAt; rw [hS, hK]; rfl)
      have HF := Aside0.mk (And.intro hS hK)
      have HN2 := Aside0.mk (show 8 ≤ s.size by have := HM2.out; have := HN.out; omega)
      clear hS hK
      obtain ⟨c0, c1, c2, c3, c4⟩ := HG.out.facts
      clear c0 c1 c3 c4
      go_wp2_with fail
      refine (Reader_U16.yes _ _ _ _ HG.out.1 (by have := HN2.out; omega)).mono ?_
      rintro e w6 ⟨rfl, g1⟩
      replace HG := Aside0.mk (HG.out.went g1)
      clear g1 c2
      go_wp2_with fail
      refine (Reader_U16.yes _ _ _ _ HG.out.1 (by have := HN2.out; omega)).mono ?_
      rintro e w7 ⟨rfl, g1⟩
      replace HG := Aside0.mk (HG.out.went g1)
      clear g1
      rw [show (4 + 2 : Nat) = 6 from rfl, show (6 + 2 : Nat) = 8 from rfl] at *
      by_cases h9 : be (bl (s.extract 6 8)) = 0
      case neg =>
        have d1 : (((be (bl (s.extract 6 8)) : Nat) : Int) == 0) = false := by rw [beq_eq_false_iff_ne]; omega
        have d2 : (be (bl (s.extract 6 8)) == 0) = false := by rw [beq_eq_false_iff_ne]; exact h9
        have HE := Aside0.mk (show greErr s = 9 by unfold greErr; rw [if_neg H4.out, if_neg H7.out, if_neg HA.out, if_neg HM.out, if_pos ⟨HF.out.1, h9⟩])
        have HH := Aside0.mk h9
        clear h9
        go_wp2_with fail
        refine (Reader_Need.no _ _ _).mono ?_
        rintro e w8 ⟨rfl, rfl⟩
        exact ⟨rfl, by rw [HE.out]; rfl, _, _, _, HG.out, fun h0 => absurd (HE.out.symm.trans h0) (by decide)⟩
      have H9 := Aside0.mk (show ¬ (gS s = true ∧ be (bl (s.extract 6 8)) ≠ 0) from fun h => h.2 h9)
      rw [h9]
      clear h9
      go_wp2_with fail
      refine (Reader_Need.yes _ _ _).mono ?_
      rintro e w8 ⟨rfl, rfl⟩
      obtain ⟨c0, c1, c2, c3, c4⟩ := HG.out.facts
      clear c1 c2 c3 c4
      go_wp2_with fail
      refine (sum_Right.calls _ _ [s] (csum (bl s) == 0) _ (C_one _ _ _) (by simp) (rightG _ HS.out)).mono ?_
      rintro e w9 ⟨rfl, g1⟩
      replace HG := Aside0.mk (HG.out.below (((Below.refl _ _).alloc (Nat.le_refl _) _).trans (g1.mono (by simp))))
      clear g1 c0
      by_cases h5 : csum (bl s) = 0
      case neg =>
        have z1 : (csum (bl s) == 0) = false := by rw [beq_eq_false_iff_ne]; exact h5
        have HE := Aside0.mk (show greErr s = 5 by unfold greErr; rw [if_neg H4.out, if_neg H7.out, if_neg HA.out, if_neg HM.out, if_neg H9.out, if_pos ⟨HF.out.1, h5⟩])
        rw [z1]
        clear h5 z1
        go_wp2_with fail
        refine (Reader_Need.no _ _ _).mono ?_
        rintro e w10 ⟨rfl, rfl⟩
        exact ⟨rfl, by rw [HE.out]; rfl, _, _, _, HG.out, fun h0 => absurd (HE.out.symm.trans h0) (by decide)⟩
      have z1 : (csum (bl s) == 0) = true := by rw [beq_iff_eq]; exact h5
      have H5 := Aside0.mk (show ¬ (gS s = true ∧ csum (bl s) ≠ 0) from fun h => h.2 h5)
      rw [z1]
      clear h5 z1
      go_wp2_with fail
      refine (Reader_Need.yes _ _ _).mono ?_
      rintro e w10 ⟨rfl, rfl⟩
      obtain ⟨c0, c1, c2, c3, c4⟩ := HG.out.facts
      clear c0 c1 c3 c4
      go_wp2_with fail
      refine (gre_known.calls (gkd s) _ _ rfl (HG.out.gv HV.out)).mono ?_
      rintro e w12a ⟨rfl, g1⟩
      replace HG := Aside0.mk (HG.out.below g1)
      clear g1 c2
      cases h6 : (gkd s == 2048 || gkd s == 34525) with
      | false =>
        have HE := Aside0.mk (show greErr s = 6 by unfold greErr; rw [if_neg H4.out, if_neg H7.out, if_neg HA.out, if_neg HM.out, if_neg H9.out, if_neg H5.out, h6, if_pos (by decide)])
        clear h6
        go_wp2_with fail
        refine (Reader_Need.no _ _ _).mono ?_
        rintro e w12b ⟨rfl, rfl⟩
        exact ⟨rfl, by rw [HE.out]; rfl, _, _, _, HG.out, fun h0 => absurd (HE.out.symm.trans h0) (by decide)⟩
      | true =>
      have H6 := Aside0.mk (show ¬ ¬ (gkd s == 2048 || gkd s == 34525) = true from fun h => h h6)
      clear h6
      go_wp2_with fail
      refine (Reader_Need.yes _ _ _).mono ?_
      rintro e w12b ⟨rfl, rfl⟩
      go_wp2_with fail
      refine (Reader_Rest.calls _ _ _ _ HG.out.1).mono ?_
      rintro e w12 ⟨rfl, g1⟩
      replace HG := Aside0.mk (HG.out.went g1)
      clear g1
      rw [show s.extract 8 s.size = gIn s by unfold gIn; rw [HN.out]]
      obtain ⟨c0, c1, c2, c3, c4⟩ := HG.out.facts
      clear c0 c1 c2
      go_upto_region 14 with (fail)
      clear c3 c4
      replace HG := Aside0.mk (HG.out.inner (gIn s))
      generalize w12.setCell ⟨k + 3, 0, none⟩ (.string (gIn s)) = w13 at HG ⊢
      obtain ⟨c0, c1, c2, c3, c4⟩ := HG.out.facts
      clear c0 c1 c2 c4
      go_wp2_with fail
      refine (ipip_Kind.calls _ (verOf (gIn s)).2.2.1 (verOf (gIn s)).2.2.2 _ rfl (HG.out.gv HV.out)).mono ?_
      rintro e w14 ⟨rfl, g1⟩
      replace HG := Aside0.mk (HG.out.below g1)
      clear g1 c3
      generalize hq : (verOf (gIn s)).2.2.1 = q
      generalize hp : (verOf (gIn s)).2.2.2 = p
      have HQ := Aside0.mk (And.intro hq hp)
      clear hq hp
      by_cases he : p = 0
      case neg =>
        have HE := Aside0.mk (show greErr s = p by unfold greErr; rw [if_neg H4.out, if_neg H7.out, if_neg HA.out, if_neg HM.out, if_neg H9.out, if_neg H5.out, if_neg H6.out, HQ.out.2, if_pos he])
        have HP := Aside0.mk he
        clear he
        go_wp2_with fail
        refine (gre_fail.no _ _ HP.out _).mono ?_
        rintro e w15 ⟨rfl, rfl⟩
        exact ⟨rfl, by rw [HE.out]; exact (if_neg HP.out).symm, _, _, _, HG.out, fun h0 => absurd (HE.out.symm.trans h0) HP.out⟩
      subst he
      go_wp2_with fail
      refine (gre_fail.yes _ _).mono ?_
      rintro e w15 ⟨rfl, rfl⟩
      by_cases hk : q = gkd s
      case neg =>
        have d1 : (q == gkd s) = false := beq_eq_false_iff_ne.mpr hk
        have HE := Aside0.mk (show greErr s = 3 by unfold greErr; rw [if_neg H4.out, if_neg H7.out, if_neg HA.out, if_neg HM.out, if_neg H9.out, if_neg H5.out, if_neg H6.out, HQ.out.2, if_neg (by decide), HQ.out.1, if_pos hk])
        clear hk
        go_wp2_with fail
        refine (Reader_Need.no _ _ _).mono ?_
        rintro e w16 ⟨rfl, rfl⟩
        exact ⟨rfl, by rw [HE.out]; rfl, _, _, _, HG.out, fun h0 => absurd (HE.out.symm.trans h0) (by decide)⟩
      have d1 : (q == gkd s) = true := beq_iff_eq.mpr hk
      have HE := Aside0.mk (show greErr s = 0 by unfold greErr; rw [if_neg H4.out, if_neg H7.out, if_neg HA.out, if_neg HM.out, if_neg H9.out, if_neg H5.out, if_neg H6.out, HQ.out.2, if_neg (by decide), HQ.out.1, if_neg (fun h => h hk)])
      clear hk
      go_wp2_with fail
      refine (Reader_Need.yes _ _ _).mono ?_
      rintro e w16 ⟨rfl, rfl⟩
      go_wp2
      go_end0
      exact ⟨by rw [HE.out]; rfl, _, _, _, HG.out, fun _ => ⟨by rw [HF.out.1, HF.out.2]; unfold gVal; rw [HF.out.2]; rfl, rfl⟩⟩
  · as_aux_lemma =>
      rw [hS, hK] at HG
      have HN := Aside0.mk (show gAt s = 12 by unfold gAt; rw [hS, hK]; rfl)
      have HF := Aside0.mk (And.intro hS hK)
      have HN2 := Aside0.mk (show 12 ≤ s.size by have := HM2.out; have := HN.out; omega)
      clear hS hK
      obtain ⟨c0, c1, c2, c3, c4⟩ := HG.out.facts
      clear c0 c1 c3 c4
      go_wp2_with fail
      refine (Reader_U16.yes _ _ _ _ HG.out.1 (by have := HN2.out; omega)).mono ?_
      rintro e w6 ⟨rfl, g1⟩
      replace HG := Aside0.mk (HG.out.went g1)
      clear g1 c2
      go_wp2_with fail
      refine (Reader_U16.yes _ _ _ _ HG.out.1 (by have := HN2.out; omega)).mono ?_
      rintro e w7 ⟨rfl, g1⟩
      replace HG := Aside0.mk (HG.out.went g1)
      clear g1
      rw [show (4 + 2 : Nat) = 6 from rfl, show (6 + 2 : Nat) = 8 from rfl] at *
      by_cases h9 : be (bl (s.extract 6 8)) = 0
      case neg =>
        have d1 : (((be (bl (s.extract 6 8)) : Nat) : Int) == 0) = false := by rw [beq_eq_false_iff_ne]; omega
        have d2 : (be (bl (s.extract 6 8)) == 0) = false := by rw [beq_eq_false_iff_ne]; exact h9
        have HE := Aside0.mk (show greErr s = 9 by unfold greErr; rw [if_neg H4.out, if_neg H7.out, if_neg HA.out, if_neg HM.out, if_pos ⟨HF.out.1, h9⟩])
        have HH := Aside0.mk h9
        clear h9
        go_wp2_with fail
        refine (Reader_Need.no _ _ _).mono ?_
        rintro e w8 ⟨rfl, rfl⟩
        exact ⟨rfl, by rw [HE.out]; rfl, _, _, _, HG.out, fun h0 => absurd (HE.out.symm.trans h0) (by decide)⟩
      have H9 := Aside0.mk (show ¬ (gS s = true ∧ be (bl (s.extract 6 8)) ≠ 0) from fun h => h.2 h9)
      rw [h9]
      clear h9
      go_wp2_with fail
      refine (Reader_Need.yes _ _ _).mono ?_
      rintro e w8 ⟨rfl, rfl⟩
      obtain ⟨c0, c1, c2, c3, c4⟩ := HG.out.facts
      clear c1 c2 c3 c4
      go_wp2_with fail
      refine (sum_Right.calls _ _ [s] (csum (bl s) == 0) _ (C_one _ _ _) (by simp) (rightG _ HS.out)).mono ?_
      rintro e w9 ⟨rfl, g1⟩
      replace HG := Aside0.mk (HG.out.below (((Below.refl _ _).alloc (Nat.le_refl _) _).trans (g1.mono (by simp))))
      clear g1 c0
      by_cases h5 : csum (bl s) = 0
      case neg =>
        have z1 : (csum (bl s) == 0) = false := by rw [beq_eq_false_iff_ne]; exact h5
        have HE := Aside0.mk (show greErr s = 5 by unfold greErr; rw [if_neg H4.out, if_neg H7.out, if_neg HA.out, if_neg HM.out, if_neg H9.out, if_pos ⟨HF.out.1, h5⟩])
        rw [z1]
        clear h5 z1
        go_wp2_with fail
        refine (Reader_Need.no _ _ _).mono ?_
        rintro e w10 ⟨rfl, rfl⟩
        exact ⟨rfl, by rw [HE.out]; rfl, _, _, _, HG.out, fun h0 => absurd (HE.out.symm.trans h0) (by decide)⟩
      have z1 : (csum (bl s) == 0) = true := by rw [beq_iff_eq]; exact h5
      have H5 := Aside0.mk (show ¬ (gS s = true ∧ csum (bl s) ≠ 0) from fun h => h.2 h5)
      rw [z1]
      clear h5 z1
      go_wp2_with fail
      refine (Reader_Need.yes _ _ _).mono ?_
      rintro e w10 ⟨rfl, rfl⟩
      obtain ⟨c0, c1, c2, c3, c4⟩ := HG.out.facts
      clear c0 c1 c3 c4
      go_wp2_with fail
      refine (Reader_U32.yes _ _ _ _ HG.out.1 (by have := HN2.out; omega)).mono ?_
      rintro e w11 ⟨rfl, g1⟩
      replace HG := Aside0.mk (HG.out.went g1)
      clear g1 c2
      obtain ⟨c0, c1, c2, c3, c4⟩ := HG.out.facts
      clear c0 c3 c4
      rw [show s.extract 8 (8 + 4) = s.extract (gAt s - 4) (gAt s) by rw [HN.out]]
      go_upto_region 12 with (fail)
      clear c1 c2
      replace HG := Aside0.mk (HG.out.put 2 (.int .u32 (be (bl (s.extract (gAt s - 4) (gAt s))) : Nat)))
      simp only [List.setIfInBounds_toArray, List.set_cons_zero, List.set_cons_succ] at HG
      generalize w11.setCell ⟨k + 2, 2, none⟩ (.int .u32 (be (bl (s.extract (gAt s - 4) (gAt s))) : Nat)) = w11b at HG ⊢
      go_wp2_with fail
      refine (gre_known.calls (gkd s) _ _ rfl (HG.out.gv HV.out)).mono ?_
      rintro e w12a ⟨rfl, g1⟩
      replace HG := Aside0.mk (HG.out.below g1)
      clear g1 
      cases h6 : (gkd s == 2048 || gkd s == 34525) with
      | false =>
        have HE := Aside0.mk (show greErr s = 6 by unfold greErr; rw [if_neg H4.out, if_neg H7.out, if_neg HA.out, if_neg HM.out, if_neg H9.out, if_neg H5.out, h6, if_pos (by decide)])
        clear h6
        go_wp2_with fail
        refine (Reader_Need.no _ _ _).mono ?_
        rintro e w12b ⟨rfl, rfl⟩
        exact ⟨rfl, by rw [HE.out]; rfl, _, _, _, HG.out, fun h0 => absurd (HE.out.symm.trans h0) (by decide)⟩
      | true =>
      have H6 := Aside0.mk (show ¬ ¬ (gkd s == 2048 || gkd s == 34525) = true from fun h => h h6)
      clear h6
      go_wp2_with fail
      refine (Reader_Need.yes _ _ _).mono ?_
      rintro e w12b ⟨rfl, rfl⟩
      go_wp2_with fail
      refine (Reader_Rest.calls _ _ _ _ HG.out.1).mono ?_
      rintro e w12 ⟨rfl, g1⟩
      replace HG := Aside0.mk (HG.out.went g1)
      clear g1
      rw [show s.extract 12 s.size = gIn s by unfold gIn; rw [HN.out]]
      obtain ⟨c0, c1, c2, c3, c4⟩ := HG.out.facts
      clear c0 c1 c2
      go_upto_region 14 with (fail)
      clear c3 c4
      replace HG := Aside0.mk (HG.out.inner (gIn s))
      generalize w12.setCell ⟨k + 3, 0, none⟩ (.string (gIn s)) = w13 at HG ⊢
      obtain ⟨c0, c1, c2, c3, c4⟩ := HG.out.facts
      clear c0 c1 c2 c4
      go_wp2_with fail
      refine (ipip_Kind.calls _ (verOf (gIn s)).2.2.1 (verOf (gIn s)).2.2.2 _ rfl (HG.out.gv HV.out)).mono ?_
      rintro e w14 ⟨rfl, g1⟩
      replace HG := Aside0.mk (HG.out.below g1)
      clear g1 c3
      generalize hq : (verOf (gIn s)).2.2.1 = q
      generalize hp : (verOf (gIn s)).2.2.2 = p
      have HQ := Aside0.mk (And.intro hq hp)
      clear hq hp
      by_cases he : p = 0
      case neg =>
        have HE := Aside0.mk (show greErr s = p by unfold greErr; rw [if_neg H4.out, if_neg H7.out, if_neg HA.out, if_neg HM.out, if_neg H9.out, if_neg H5.out, if_neg H6.out, HQ.out.2, if_pos he])
        have HP := Aside0.mk he
        clear he
        go_wp2_with fail
        refine (gre_fail.no _ _ HP.out _).mono ?_
        rintro e w15 ⟨rfl, rfl⟩
        exact ⟨rfl, by rw [HE.out]; exact (if_neg HP.out).symm, _, _, _, HG.out, fun h0 => absurd (HE.out.symm.trans h0) HP.out⟩
      subst he
      go_wp2_with fail
      refine (gre_fail.yes _ _).mono ?_
      rintro e w15 ⟨rfl, rfl⟩
      by_cases hk : q = gkd s
      case neg =>
        have d1 : (q == gkd s) = false := beq_eq_false_iff_ne.mpr hk
        have HE := Aside0.mk (show greErr s = 3 by unfold greErr; rw [if_neg H4.out, if_neg H7.out, if_neg HA.out, if_neg HM.out, if_neg H9.out, if_neg H5.out, if_neg H6.out, HQ.out.2, if_neg (by decide), HQ.out.1, if_pos hk])
        clear hk
        go_wp2_with fail
        refine (Reader_Need.no _ _ _).mono ?_
        rintro e w16 ⟨rfl, rfl⟩
        exact ⟨rfl, by rw [HE.out]; rfl, _, _, _, HG.out, fun h0 => absurd (HE.out.symm.trans h0) (by decide)⟩
      have d1 : (q == gkd s) = true := beq_iff_eq.mpr hk
      have HE := Aside0.mk (show greErr s = 0 by unfold greErr; rw [if_neg H4.out, if_neg H7.out, if_neg HA.out, if_neg HM.out, if_neg H9.out, if_neg H5.out, if_neg H6.out, HQ.out.2, if_neg (by decide), HQ.out.1, if_neg (fun h => h hk)])
      clear hk
      go_wp2_with fail
      refine (Reader_Need.yes _ _ _).mono ?_
      rintro e w16 ⟨rfl, rfl⟩
      go_wp2
      go_end0
      exact ⟨by rw [HE.out]; rfl, _, _, _, HG.out, fun _ => ⟨by rw [HF.out.1, HF.out.2]; unfold gVal; rw [HF.out.2]; rfl, rfl⟩⟩
end Go.Proofs.YtcmalglippmocaaDoor.G
end

section
/- By hand: gre.Get round its closure. -/
namespace Go.Proofs.YtcmalglippmocaaDoor.G
open Go.RowKit Go.Proofs.YtcmalglippmocaaDoorW.PrintWords Go.Proofs.YtcmalglippmocaaDoorW.PrintLast Go.Proofs.YtcmalglippmocaaDoorW.PrintMore Go.Proofs.YtcmalglippmocaaDoor.Pal
set_option linter.unusedVariables false
set_option linter.unusedSimpArgs false
/-- What Get's closure leaves, and Read's end behind it. -/
def GR (k : Nat) (s : ByteArray) (w w1 : World) : Prop :=
  ∃ cs x, Hp w1 [(k + 1, 40, #[.bool false, .bool false, .int .u32 0]), (k + 2, 40, cs), (k + 3, 9, #[.string x])] ∧ Below k w w1 ∧
    (greErr s = 0 → cs = #[.bool (gS s), .bool (gK s), .int .u32 (gVal s)] ∧ x = gIn s)
theorem GG.done {k : Nat} {s : ByteArray} {w w1 w2 : World} {n : Nat} {cs : Array Value} {x : ByteArray} (h : GG k s w w1 n cs x) (hw : w1.grownBy w2 (some (k + 4)))
    (hx : greErr s = 0 → cs = #[.bool (gS s), .bool (gK s), .int .u32 (gVal s)] ∧ x = gIn s) : GR k s w w2 :=
  ⟨cs, x, Hp.grown (R := k + 4) (fun y hy => h.2.1 y (by simp at hy ⊢; rcases hy with rfl | rfl | rfl <;> simp)) hw (by simp), h.2.2.1.trans (below_of_grown hw (by have := h.1.1.lt; omega) (by omega)), hx⟩
abbrev hd0 : Array Value := #[.bool false, .bool false, .int .u32 0]
set_option maxRecDepth 100000 in
theorem gre_Get.reads (s : ByteArray) (hs : s.size ≤ 1099511627776) (w : World) (hV : GV w) :
    Calls Tryd.prog 63 #[.string s, .func (.func 64) #[] #[.pointer (some ⟨w.heap.size, 0, none⟩), .pointer (some ⟨w.heap.size + 1 + 1, 0, none⟩), .pointer (some ⟨w.heap.size + 1 + 1 + 1, 0, none⟩)]]
      ((((w.alloc (.cells #[.string s] 9)).alloc (.cells hd0 40)).alloc (.cells hd0 40)).alloc (.cells #[.string ⟨#[]⟩] 9))
      fun e w' => e = .returned (.int .i64 (greErr s)) ∧ GR w.heap.size s w w' := by
  obtain ⟨W, hW⟩ : ∃ W, W = ((((w.alloc (.cells #[.string s] 9)).alloc (.cells hd0 40)).alloc (.cells hd0 40)).alloc (.cells #[.string ⟨#[]⟩] 9)) := ⟨_, rfl⟩
  have hk : W.heap.size = w.heap.size + 4 := by rw [hW]; simp
  have b0 : Blk W w.heap.size 9 #[.string s] := by rw [hW]; exact (((Blk.new w _ _).alloc _).alloc _).alloc _
  have b1 : Blk W (w.heap.size + 1) 40 hd0 := by
    rw [hW]
    have := Blk.new (w.alloc (.cells #[.string s] 9)) 40 hd0
    rw [World.size_alloc] at this
    exact (this.alloc _).alloc _
  have b2 : Blk W (w.heap.size + 2) 40 hd0 := by
    rw [hW]
    have := Blk.new ((w.alloc (.cells #[.string s] 9)).alloc (.cells hd0 40)) 40 hd0
    rw [World.size_alloc, World.size_alloc] at this
    exact this.alloc _
  have b3 : Blk W (w.heap.size + 3) 9 #[.string ⟨#[]⟩] := by
    rw [hW]
    have := Blk.new (((w.alloc (.cells #[.string s] 9)).alloc (.cells hd0 40)).alloc (.cells hd0 40)) 9 #[.string ⟨#[]⟩]
    rw [World.size_alloc, World.size_alloc, World.size_alloc] at this
    exact this
  have hb : Below w.heap.size w W := by
    rw [hW]
    exact ((((Below.refl _ _).alloc (Nat.le_refl _) _).alloc (by simp) _).alloc (by simp; omega) _).alloc (by simp; omega) _
  rw [← hW]
  clear hW
  have hrd := readW_rd W s (by omega)
  have hres := readW_res W s
  have hbl := readW_below W s
  rw [hk] at hrd hres hbl
  have hG : GG w.heap.size s w (readW W s) 0 hd0 ⟨#[]⟩ :=
    ⟨hrd, .cons (b0.below hbl (by omega)) (.cons (b1.below hbl (by omega)) (.cons (b2.below hbl (by omega)) (.cons (b3.below hbl (by omega)) (.cons hres (.nil _))))), hb.trans (hbl.mono (by omega)), rfl⟩
  have h1 := Read_calls 64 #[.pointer (some ⟨w.heap.size, 0, none⟩), .pointer (some ⟨w.heap.size + 1 + 1, 0, none⟩), .pointer (some ⟨w.heap.size + 1 + 1 + 1, 0, none⟩)] s (greErr s) W
    (fun w2 => ∃ n cs x, GG w.heap.size s w w2 n cs x ∧ (greErr s = 0 → cs = #[.bool (gS s), .bool (gK s), .int .u32 (gVal s)] ∧ x = gIn s)) (fun _ _ => rfl)
  rw [hk] at h1
  refine (h1 ?_).mono ?_
  · refine (gre_Get1 w.heap.size s w (readW W s) hs hV hG).mono ?_
    rintro e w2 ⟨rfl, n, cs, x, hu, hx⟩
    exact ⟨rfl, hu.2.1.tail.tail.tail.tail.head, n, cs, x, hu, hx⟩
  · rintro e w' ⟨rfl, w2, ⟨n, cs, x, hu, hx⟩, hg⟩
    exact ⟨rfl, hu.done hg hx⟩
/-- A result that lies in a variable of its own, whole, and two beside it. -/
theorem results_cell_tmp2 {P : Program} {fn : Func} {p t u : Tmp} {ty : TypeId} (h : fn.results = #[.cell p ty, .tmp t, .tmp u]) (tmps : Array Value) (w : World) (k : Nat) (cs : Array Value) (d : TypeDesc)
    (hp : tmps.getD p undef = .pointer (some ⟨k, 0, none⟩)) (hb : Blk w k ty cs) (hu : P.underlying ty = some d) (hd : (match d with | .struct _ | .array _ _ => true | _ => false) = true) (hi : (P.info? ty).map (·.size) = some cs.size) :
    (results fn tmps).run P w = .ok (.tuple #[.agg cs, tmps.getD t undef, tmps.getD u undef]) w := by
  have hp' : tmps[p]?.getD undef = .pointer (some ⟨k, 0, none⟩) := by simpa using hp
  simp [results, h, hp', asAddr, run_loadVar_row w k ty ty cs (0, 0) d hb hu hd hi]
set_option maxHeartbeats 2000000 in
set_option maxRecDepth 100000 in
theorem gre_Get.calls (s : ByteArray) (r1 r2 : Bool) (r3 : Int) (r4 : ByteArray) (r5 : Int) (w : World) (h : gre_Get.f s = some (r1, r2, r3, r4, r5)) (hV : GV w) :
    Calls Tryd.prog 31 #[.string s] w fun e w' => e = .returned (.tuple #[.agg #[.bool r1, .bool r2, .int .u32 r3], .string r4, .int .i64 r5]) ∧ Below w.heap.size w w' := by
  unfold gre_Get.f at h
  by_cases hs : s.size ≤ 1099511627776
  case neg => rw [if_neg hs] at h; exact absurd h (by simp)
  rw [if_pos hs] at h
  have hmf : ∀ (fn : Fn) (first cap : Array Value) (w : World), (Instr.makeFunc fn first cap).run Tryd.prog w = .ok (.func fn first cap) w := fun _ _ _ _ => rfl
  have hu := Tryd.underlying40
  have HS := Aside0.mk hs
  have HV := Aside0.mk hV
  clear hs hV
  by_cases h0 : greErr s = 0
  · rw [if_pos h0] at h
    have h' := Option.some.inj h
    simp only [Prod.mk.injEq] at h'
    obtain ⟨rfl, rfl, rfl, rfl, rfl⟩ := h'
    have d1 : (greErr s != 0) = false := bne_eq_false_iff_eq.mpr h0
    replace h := Aside0.mk h0
    clear h0
    go_enter Tryd.func31, Tryd.ntmps31
    go_wp2_with fail
    refine (gre_Get.reads s HS.out w HV.out).mono ?_
    rintro e w2 ⟨rfl, cs, x, hp, hb, hx⟩
    obtain ⟨rfl, rfl⟩ := hx h.out
    have HB := Aside0.mk hb
    have c1 := hp.head.cells
    have c2 := hp.head.frees
    have c3 := hp.tail.head.cells
    have c4 := hp.tail.tail.head.cell 0 _ rfl
    have HK := Aside0.mk hp.head
    clear hp hb hx
    go_wp2_with fail
    go_region
    all_goals
      have c5 := Aside0.mk (((HK.out.set 0 (.bool (gS s))).set 1 (.bool (gK s))).set 2 (.int .u32 (gVal s))).drew
      simp only [List.setIfInBounds_toArray, List.set_cons_zero, List.set_cons_succ] at c5
      clear c1 c2 c3 c4
      go_wp2
      refine bodyPost_ret (results_cell_tmp2 rfl _ _ _ _ _ rfl c5.out hu rfl (by kernel_rfl)) rfl ?_
      exact ⟨rfl, (((HB.out.setCell (by simp) _).setCell (by simp) _).setCell (by simp) _).drew⟩
  · rw [if_neg h0] at h
    have h' := Option.some.inj h
    simp only [Prod.mk.injEq] at h'
    obtain ⟨rfl, rfl, rfl, rfl, rfl⟩ := h'
    have d1 : (greErr s != 0) = true := bne_iff_ne.mpr h0
    clear h h0
    go_enter Tryd.func31, Tryd.ntmps31
    go_wp2_with fail
    refine (gre_Get.reads s HS.out w HV.out).mono ?_
    rintro e w2 ⟨rfl, cs, x, hp, hb, hx⟩
    have HB := Aside0.mk hb
    have c1 := hp.head.cells
    have c2 := hp.head.frees
    have HK := Aside0.mk hp.head
    clear hp hb hx
    go_wp2
    have c5 := Aside0.mk (((HK.out.set 0 (.bool false)).set 1 (.bool false)).set 2 (.int .u32 0))
    simp only [List.setIfInBounds_toArray, List.set_cons_zero, List.set_cons_succ] at c5
    clear c1 c2
    refine bodyPost_ret (results_cell_tmp2 rfl _ _ _ _ _ rfl c5.out hu rfl (by kernel_rfl)) rfl ?_
    exact ⟨rfl, ((HB.out.setCell (by simp) _).setCell (by simp) _).setCell (by simp) _⟩
end Go.Proofs.YtcmalglippmocaaDoor.G
end
