/- By hand: ip6.Put, ip6.Get. -/
import Derived.Test.YtejmipoolbodgaaHWireW
import Derived.Test.YtejmipoolbodgaaHRead
import Derived.Test.YtejmipoolbodgaaHUdp
import Derived.Test.YtejmipoolbodgaaGip6
import Derived.WalkLawsBesides
import Derived.Deep.RegionWith
namespace Go.Proofs.Ytejmipoolbodgaa.G
open Go.RowKit Go.Proofs.YtejmipoolbodgaaW.PrintWords Go.Proofs.YtejmipoolbodgaaW.PrintLast Go.Proofs.YtejmipoolbodgaaW.PrintMore Go.Proofs.Ytejmipoolbodgaa.Pal
set_option linter.unusedVariables false
set_option linter.unusedSimpArgs false

/-- The first four bytes' number. -/
def ip6Word (c l : Int) : Int := Go.bits .or .i64 (Go.bits .or .i64 1610612736 (wrap64 (c * 1048576))) l % 4294967296
theorem ip6Word_range (c l : Int) : 0 ≤ ip6Word c l ∧ ip6Word c l < 4294967296 := by unfold ip6Word; omega
def ip6Bytes (c l n h : Int) (s d p : ByteArray) : List UInt8 := nb 4 (u64n (ip6Word c l)) ++ nb 2 (u64n (p.size : Int)) ++ nb 1 (u64n n) ++ nb 1 (u64n h) ++ bl (s ++ d ++ p)
def ip6_Put.f (a0_0 a0_1 a0_2 a0_3 : Int) (a0_4 a0_5 a1 : ByteArray) : Option (ByteArray × Int) :=
  (ip6_Check.f a0_0 a0_1 a0_2 a0_3 a0_4 a0_5).bind fun e => if e ≠ 0 then some (empty, e) else if a0_4.size = 16 ∧ a0_5.size = 16 then (if (a1.size : Int) > 65535 then some (empty, 4) else some (⟨(ip6Bytes a0_0 a0_1 a0_2 a0_3 a0_4 a0_5 a1).toArray⟩, 0)) else none

set_option maxHeartbeats 1000000 in
set_option maxRecDepth 100000 in
theorem ip6_Put.calls (a0_0 a0_1 a0_2 a0_3 : Int) (a0_4 a0_5 a1 : ByteArray) (r1 : ByteArray) (r2 : Int) (w : World) (h : ip6_Put.f a0_0 a0_1 a0_2 a0_3 a0_4 a0_5 a1 = some (r1, r2)) :
    Calls Try.prog 98 #[.agg #[.int .i64 a0_0, .int .i64 a0_1, .int .i64 a0_2, .int .i64 a0_3, .string a0_4, .string a0_5], .string a1] w fun e w' => e = .returned (.tuple #[.string r1, .int .i64 r2]) ∧ Below w.heap.size w w' := by
  unfold ip6_Put.f at h
  have hu := Try.underlying114
  have HB := Aside0.mk ((Below.refl w.heap.size w).alloc (Nat.le_refl _) (.cells #[.int .i64 a0_0, .int .i64 a0_1, .int .i64 a0_2, .int .i64 a0_3, .string a0_4, .string a0_5] 114))
  have HK := Aside0.mk (Blk.new w 114 #[.int .i64 a0_0, .int .i64 a0_1, .int .i64 a0_2, .int .i64 a0_3, .string a0_4, .string a0_5])
  obtain ⟨e, he, h⟩ := Option.bind_eq_some_iff.mp h
  have HE := Aside0.mk he
  clear he
  by_cases h0 : e ≠ 0
  · rw [if_pos h0] at h
    obtain ⟨rfl, rfl⟩ := Prod.mk.inj (Option.some.inj h)
    have d1 : (e != 0) = true := bne_iff_ne.mpr h0
    clear h0 h
    go_enter Try.func98, Try.ntmps98
    go_wp2_with fail
    refine (ip6_Check.calls _ _ _ _ _ _ _ _ HE.out).mono ?_
    rintro e w2 ⟨rfl, g1⟩
    replace HB := Aside0.mk (HB.out.trans (g1.mono HB.out.size))
    clear g1
    go_wp2
    go_ret2
    exact ⟨rfl, HB.out⟩
  rw [if_neg h0] at h
  have h0 : e = 0 := by omega
  subst h0
  by_cases hsz : a0_4.size = 16 ∧ a0_5.size = 16
  case neg => rw [if_neg hsz] at h; exact absurd h (by simp)
  rw [if_pos hsz] at h
  have HZ := Aside0.mk hsz
  clear hsz
  by_cases hp : (a1.size : Int) > 65535
  · rw [if_pos hp] at h
    obtain ⟨rfl, rfl⟩ := Prod.mk.inj (Option.some.inj h)
    have d1 : decide ((65535 : Int) < (a1.size : Int)) = true := decide_eq_true hp
    have d2 : decide (65535 < a1.size) = true := decide_eq_true (by omega)
    clear h hp h0
    go_enter Try.func98, Try.ntmps98
    go_wp2_with fail
    refine (ip6_Check.calls _ _ _ _ _ _ _ _ HE.out).mono ?_
    rintro e w2 ⟨rfl, g1⟩
    replace HB := Aside0.mk (HB.out.trans (g1.mono HB.out.size))
    clear g1
    go_wp2
    go_ret2
    exact ⟨rfl, HB.out⟩
  · rw [if_neg hp] at h
    obtain ⟨rfl, rfl⟩ := Prod.mk.inj (Option.some.inj h)
    have d1 : decide ((65535 : Int) < (a1.size : Int)) = false := decide_eq_false hp
    have d2 : decide (65535 < a1.size) = false := decide_eq_false (by omega)
    have HP := Aside0.mk hp
    clear h hp h0
    go_enter Try.func98, Try.ntmps98
    go_wp2_with fail
    refine (ip6_Check.calls _ _ _ _ _ _ _ _ HE.out).mono ?_
    rintro e w2 ⟨rfl, g1⟩
    replace HB := Aside0.mk (HB.out.trans (g1.mono HB.out.size))
    replace HK := Aside0.mk (HK.out.below g1 (by simp))
    clear g1
    have HS := Aside0.mk (WS.startAt HK.out HB.out HB.out.size)
    have hc := HS.out.1.2.1.cells
    go_wp2_with fail
    rw [show Go.bits .or .i64 (Go.bits .or .i64 1610612736 (wrap64 (a0_0 * 1048576))) a0_1 % 4294967296 = ip6Word a0_0 a0_1 from rfl]
    refine (Writer_U32.calls _ _ _ _ HS.out.1.1 (ip6Word_range _ _).1 (ip6Word_range _ _).2 (by simp)).mono ?_
    rintro e w3 ⟨rfl, g1, g2⟩
    replace HS := Aside0.mk (HS.out.next g1 g2)
    clear g1 g2 hc
    have hc := HS.out.1.2.1.cells
    go_wp2_with fail
    refine (Writer_U16.calls _ _ _ _ HS.out.1.1 (by simp [nb_length])).mono ?_
    rintro e w4 ⟨rfl, g1, g2⟩
    replace HS := Aside0.mk (HS.out.next g1 g2)
    clear g1 g2 hc
    have hc := HS.out.1.2.1.cells
    go_wp2_with fail
    refine (Writer_U8.calls _ _ _ _ HS.out.1.1 (by simp [nb_length])).mono ?_
    rintro e w5 ⟨rfl, g1, g2⟩
    replace HS := Aside0.mk (HS.out.next g1 g2)
    clear g1 g2 hc
    have hc := HS.out.1.2.1.cells
    go_wp2_with fail
    refine (Writer_U8.calls _ _ _ _ HS.out.1.1 (by simp [nb_length])).mono ?_
    rintro e w6 ⟨rfl, g1, g2⟩
    replace HS := Aside0.mk (HS.out.next g1 g2)
    clear g1 g2 hc
    have hc := HS.out.1.2.1.cells
    have d3 : (9223372036854775807 < a0_4.size + a0_5.size) = False := eq_false (by have := HZ.out; omega)
    have d4 : (9223372036854775807 < a0_4.size + a0_5.size + a1.size) = False := eq_false (by have := HZ.out; have := HP.out; omega)
    go_wp2_with fail
    refine (Writer_Text.calls _ _ _ _ HS.out.1.1 (by have := HZ.out; have := HP.out; simp only [List.length_append, List.length_nil, nb_length, ByteArray.size_append]; omega)).mono ?_
    rintro e w7 ⟨rfl, g1, g2⟩
    replace HS := Aside0.mk (HS.out.next g1 g2)
    clear g1 g2 hc
    go_wp2_with fail
    refine (Writer_String.calls _ _ _ HS.out.1.1).mono ?_
    rintro e w8 ⟨rfl, g1, g2⟩
    replace HS := Aside0.mk (HS.out.next g1 g2)
    clear g1 g2
    go_wp2
    go_ret2
    exact ⟨by simp [ip6Bytes, u64n], HS.out.1.2.2⟩

theorem Reader_Take.went (R : Nat) (s : ByteArray) (n m : Nat) (w : World) (h : Rd w R s n) (hm : n + m ≤ s.size) :
    Calls Try.prog 49 #[.pointer (some ⟨R, 0, none⟩), .int .i64 (m : Int)] w fun e w' => e = .returned (.string (s.extract n (n + m))) ∧ Went w w' R s (n + m) := by
  refine (Reader_Take.yes R s n m w h hm).mono ?_
  rintro e w' ⟨rfl, k, j, rfl⟩
  exact ⟨rfl, grown_drewN (World.grownBy.trans (grown_drewN (grown_refl w _) k) (grown_setCell _ _ _ _)) j, (((h.1.drewN k).set 1 (.int .i64 ((n + m : Nat) : Int))).drewN j), hm, h.2.2⟩
/-- What ip6.Get's closure works on: the text, the named result, the header, the payload, Read's result; then the reader. -/
def VG (k : Nat) (s : ByteArray) (w w1 : World) (n : Nat) (cs : Array Value) (x : ByteArray) : Prop :=
  Rd w1 (k + 5) s n ∧ Hp w1 [(k, 9, #[.string s]), (k + 1, 114, #[.int .i64 0, .int .i64 0, .int .i64 0, .int .i64 0, .string ⟨#[]⟩, .string ⟨#[]⟩]), (k + 2, 114, cs), (k + 3, 9, #[.string x]), (k + 4, 38, #[.int .i64 0])] ∧ Below k w w1
theorem VG.went {k : Nat} {s : ByteArray} {w w1 w2 : World} {n m : Nat} {cs : Array Value} {x : ByteArray} (h : VG k s w w1 n cs x) (hw : Went w1 w2 (k + 5) s m) : VG k s w w2 m cs x :=
  ⟨hw.2, h.2.1.grown hw.1 (by simp), h.2.2.trans (below_of_grown hw.1 (by have := h.1.1.lt; omega) (by omega))⟩
theorem VG.put {k : Nat} {s : ByteArray} {w w1 : World} {n : Nat} {cs : Array Value} {x : ByteArray} (h : VG k s w w1 n cs x) (j : Nat) (v : Value) : VG k s w (w1.setCell ⟨k + 2, j, none⟩ v) n (cs.setIfInBounds j v) x :=
  ⟨⟨h.1.1.other _ (by simp) _, h.1.2⟩, h.2.1.set (l1 := [_, _]) (l2 := [_, _]) j v (by simp) (by simp), h.2.2.setCell (by simp) _⟩
theorem VG.putSum {k : Nat} {s : ByteArray} {w w1 : World} {n : Nat} {cs : Array Value} {x : ByteArray} (h : VG k s w w1 n cs x) (y : ByteArray) : VG k s w (w1.setCell ⟨k + 3, 0, none⟩ (.string y)) n cs y :=
  ⟨⟨h.1.1.other _ (by simp) _, h.1.2⟩, h.2.1.set (l1 := [_, _, _]) (l2 := [_]) 0 (.string y) (by simp) (by simp), h.2.2.setCell (by simp) _⟩
theorem VG.drew {k : Nat} {s : ByteArray} {w w1 : World} {n : Nat} {cs : Array Value} {x : ByteArray} (h : VG k s w w1 n cs x) : VG k s w w1.drew n cs x := ⟨h.1, h.2.1, h.2.2.drew⟩
theorem VG.drewN {k : Nat} {s : ByteArray} {w w1 : World} {n : Nat} {cs : Array Value} {x : ByteArray} (h : VG k s w w1 n cs x) (j : Nat) : VG k s w (w1.drewN j) n cs x := ⟨h.1, h.2.1, pw_below_drewN h.2.2 j⟩
theorem VG.facts {k : Nat} {s : ByteArray} {w w1 : World} {n : Nat} {cs : Array Value} {x : ByteArray} (h : VG k s w w1 n cs x) :
    w1.cell? ⟨k, 0, none⟩ = some (.string s) ∧ (∀ j, w1.frozen? ⟨k + 2, j, none⟩ = false) ∧ (∀ j, w1.cell? ⟨k + 2, j, none⟩ = cs[j]?) ∧ w1.cell? ⟨k + 3, 0, none⟩ = some (.string x) ∧ w1.frozen? ⟨k + 3, 0, none⟩ = false :=
  ⟨h.2.1.head.cell 0 _ rfl, h.2.1.tail.tail.head.frees, h.2.1.tail.tail.head.cells, h.2.1.tail.tail.tail.head.cell 0 _ rfl, h.2.1.tail.tail.tail.head.free 0⟩
def zero6 : Array Value := #[.int .i64 0, .int .i64 0, .int .i64 0, .int .i64 0, .string ⟨#[]⟩, .string ⟨#[]⟩]
def ip6Err (s : ByteArray) : Int := if s.size < 40 then 2 else if be (bl (s.extract 0 4)) / 268435456 = 6 then (if (be (bl (s.extract 4 6)) : Int) = (s.size : Int) - 40 then 0 else 4) else 3

set_option maxHeartbeats 1000000 in
set_option maxRecDepth 100000 in
theorem ip6_Get1.short (k : Nat) (s : ByteArray) (w w1 : World) (h : VG k s w w1 0 zero6 ⟨#[]⟩) (h8 : s.size < 40) :
    Calls Try.prog 150 #[.pointer (some ⟨k + 5, 0, none⟩), .pointer (some ⟨k, 0, none⟩), .pointer (some ⟨k + 2, 0, none⟩), .pointer (some ⟨k + 3, 0, none⟩)] w1 fun e w2 => e = stopped 2 ∧ ∃ n cs x, VG k s w w2 n cs x := by
  have HG := Aside0.mk h
  have d1 : decide ((40 : Int) ≤ (s.size : Int) - ((0 : Nat) : Int)) = false := decide_eq_false (by omega)
  have d2 : decide ((40 : Int) ≤ (s.size : Int)) = false := decide_eq_false (by omega)
  clear h
  go_enter Try.func150, Try.ntmps150
  go_wp2_with fail
  refine (Reader_Left.calls _ _ _ _ HG.out.1).mono ?_
  rintro e w2 ⟨rfl, j, rfl⟩
  go_wp2_with fail
  refine (Reader_Need.no _ _ _).mono ?_
  rintro e w3 ⟨rfl, rfl⟩
  exact ⟨rfl, rfl, _, _, _, HG.out.drewN j⟩

set_option maxHeartbeats 1000000 in
set_option maxRecDepth 100000 in
theorem ip6_Get1.vers (k : Nat) (s : ByteArray) (w w1 : World) (h : VG k s w w1 0 zero6 ⟨#[]⟩) (h8 : 40 ≤ s.size) (hv : ¬ be (bl (s.extract 0 4)) / 268435456 = 6) :
    Calls Try.prog 150 #[.pointer (some ⟨k + 5, 0, none⟩), .pointer (some ⟨k, 0, none⟩), .pointer (some ⟨k + 2, 0, none⟩), .pointer (some ⟨k + 3, 0, none⟩)] w1 fun e w2 => e = stopped 3 ∧ ∃ n cs x, VG k s w w2 n cs x := by
  have HG := Aside0.mk h
  have d1 : decide ((40 : Int) ≤ (s.size : Int) - ((0 : Nat) : Int)) = true := decide_eq_true (by omega)
  have d2 : decide ((40 : Int) ≤ (s.size : Int)) = true := decide_eq_true (by omega)
  have hw : wrap64 ((be (bl (s.extract 0 4)) : Nat) : Int) = ((be (bl (s.extract 0 4)) : Nat) : Int) := by have hb : be (bl (s.extract 0 4)) < 4294967296 := be_small_U32 s 0; unfold wrap64; omega
  have v1 : (((be (bl (s.extract 0 4)) : Nat) : Int) / 268435456 == 6) = false := by rw [beq_eq_false_iff_ne]; omega
  have v2 : ((be (bl (s.extract 0 4))) / 268435456 == 6) = false := by rw [beq_eq_false_iff_ne]; exact hv
  clear h
  go_enter Try.func150, Try.ntmps150
  go_wp2_with fail
  refine (Reader_Left.calls _ _ _ _ HG.out.1).mono ?_
  rintro e w2 ⟨rfl, j, rfl⟩
  go_wp2_with fail
  refine (Reader_Need.yes _ _ _).mono ?_
  rintro e w3 ⟨rfl, rfl⟩
  go_wp2_with fail
  refine (Reader_U32.yes _ _ _ _ (HG.out.drewN j).1 (by omega)).mono ?_
  rintro e w2 ⟨rfl, g1⟩
  replace HG := Aside0.mk ((HG.out.drewN j).went g1)
  clear g1
  go_wp2_with fail
  refine (Reader_Need.no _ _ _).mono ?_
  rintro e w4 ⟨rfl, rfl⟩
  exact ⟨rfl, rfl, _, _, _, HG.out⟩

set_option maxHeartbeats 1000000 in
set_option maxRecDepth 100000 in
theorem ip6_Get1.len (k : Nat) (s : ByteArray) (w w1 : World) (h : VG k s w w1 0 zero6 ⟨#[]⟩) (h8 : 40 ≤ s.size) (hv : be (bl (s.extract 0 4)) / 268435456 = 6) (hl : ¬ ((be (bl (s.extract 4 6)) : Nat) : Int) = (s.size : Int) - 40) :
    Calls Try.prog 150 #[.pointer (some ⟨k + 5, 0, none⟩), .pointer (some ⟨k, 0, none⟩), .pointer (some ⟨k + 2, 0, none⟩), .pointer (some ⟨k + 3, 0, none⟩)] w1 fun e w2 => e = stopped 4 ∧ ∃ n cs x, VG k s w w2 n cs x := by
  have HG := Aside0.mk h
  have d1 : decide ((40 : Int) ≤ (s.size : Int) - ((0 : Nat) : Int)) = true := decide_eq_true (by omega)
  have d2 : decide ((40 : Int) ≤ (s.size : Int)) = true := decide_eq_true (by omega)
  have hw : wrap64 ((be (bl (s.extract 0 4)) : Nat) : Int) = ((be (bl (s.extract 0 4)) : Nat) : Int) := by have hb : be (bl (s.extract 0 4)) < 4294967296 := be_small_U32 s 0; unfold wrap64; omega
  have v1 : (((be (bl (s.extract 0 4)) : Nat) : Int) / 268435456 == 6) = true := by rw [beq_iff_eq]; omega
  have v2 : ((be (bl (s.extract 0 4))) / 268435456 == 6) = true := by rw [beq_iff_eq]; exact hv
  clear h
  go_enter Try.func150, Try.ntmps150
  go_wp2_with fail
  refine (Reader_Left.calls _ _ _ _ HG.out.1).mono ?_
  rintro e w2 ⟨rfl, j, rfl⟩
  go_wp2_with fail
  refine (Reader_Need.yes _ _ _).mono ?_
  rintro e w3 ⟨rfl, rfl⟩
  go_wp2_with fail
  refine (Reader_U32.yes _ _ _ _ (HG.out.drewN j).1 (by omega)).mono ?_
  rintro e w2 ⟨rfl, g1⟩
  replace HG := Aside0.mk ((HG.out.drewN j).went g1)
  clear g1
  go_wp2_with fail
  refine (Reader_Need.yes _ _ _).mono ?_
  rintro e w4 ⟨rfl, rfl⟩
  go_wp2_with fail
  have c0 := HG.out.facts.1
  have l1 : (((be (bl (s.extract 4 6)) : Nat) : Int) == (s.size : Int) - 40) = false := by rw [beq_eq_false_iff_ne]; exact hl
  have l2 : (((be (bl (s.extract 4 6)) : Nat) : Int) == wrap64 ((s.size : Int) - 40)) = false := by rw [show wrap64 ((s.size : Int) - 40) = (s.size : Int) - 40 by unfold wrap64; have := HG.out.1.2.2; omega]; exact l1
  have l3 : (((be (bl (s.extract 4 6)) : Nat) : Int) == IntKind.i64.wrap ((s.size : Int) - 40)) = false := by rw [show IntKind.i64.wrap ((s.size : Int) - 40) = (s.size : Int) - 40 by rw [IntKind.wrap_i64]; have := HG.out.1.2.2; omega]; exact l1
  clear hl
  go_region_with ((first
      | (go_at_call 127; refine (Reader_U16.yes _ _ 4 _ HG.out.drew.1 ?_).mono ?_; omega; rintro e w5 ⟨rfl, g1⟩; have HG3 := Aside0.mk (HG.out.drew.went g1); have c3 := HG3.out.facts.1; clear g1)
      | (go_at_call 50; refine (Reader_Need.no _ _ _).mono ?_; rintro e w6 ⟨rfl, rfl⟩; refine panicOut ?_)))
  all_goals exact ⟨rfl, rfl, _, _, _, HG3.out⟩

set_option maxHeartbeats 1000000 in
set_option maxRecDepth 100000 in
theorem ip6_Get1.ok (k : Nat) (s : ByteArray) (w w1 : World) (h : VG k s w w1 0 zero6 ⟨#[]⟩) (h8 : 40 ≤ s.size) (hv : be (bl (s.extract 0 4)) / 268435456 = 6) (hl : ((be (bl (s.extract 4 6)) : Nat) : Int) = (s.size : Int) - 40) :
    Calls Try.prog 150 #[.pointer (some ⟨k + 5, 0, none⟩), .pointer (some ⟨k, 0, none⟩), .pointer (some ⟨k + 2, 0, none⟩), .pointer (some ⟨k + 3, 0, none⟩)] w1 fun e w2 => e = .returned (.tuple #[]) ∧ ∃ n, VG k s w w2 n #[.int .i64 (Go.bits .and .i64 (((be (bl (s.extract 0 4)) : Nat) : Int) / 1048576) 255), .int .i64 (Go.bits .and .i64 ((be (bl (s.extract 0 4)) : Nat) : Int) 1048575), .int .i64 (be (bl (s.extract 6 7)) : Nat), .int .i64 (be (bl (s.extract 7 8)) : Nat), .string (s.extract 8 24), .string (s.extract 24 40)] (s.extract 40 s.size) := by
  have HG := Aside0.mk h
  have d1 : decide ((40 : Int) ≤ (s.size : Int) - ((0 : Nat) : Int)) = true := decide_eq_true (by omega)
  have d2 : decide ((40 : Int) ≤ (s.size : Int)) = true := decide_eq_true (by omega)
  have hw : wrap64 ((be (bl (s.extract 0 4)) : Nat) : Int) = ((be (bl (s.extract 0 4)) : Nat) : Int) := by have hb : be (bl (s.extract 0 4)) < 4294967296 := be_small_U32 s 0; unfold wrap64; omega
  have v1 : (((be (bl (s.extract 0 4)) : Nat) : Int) / 268435456 == 6) = true := by rw [beq_iff_eq]; omega
  have v2 : ((be (bl (s.extract 0 4))) / 268435456 == 6) = true := by rw [beq_iff_eq]; exact hv
  clear h
  go_enter Try.func150, Try.ntmps150
  go_wp2_with fail
  refine (Reader_Left.calls _ _ _ _ HG.out.1).mono ?_
  rintro e w2 ⟨rfl, j, rfl⟩
  go_wp2_with fail
  refine (Reader_Need.yes _ _ _).mono ?_
  rintro e w3 ⟨rfl, rfl⟩
  go_wp2_with fail
  refine (Reader_U32.yes _ _ _ _ (HG.out.drewN j).1 (by omega)).mono ?_
  rintro e w2 ⟨rfl, g1⟩
  replace HG := Aside0.mk ((HG.out.drewN j).went g1)
  clear g1
  go_wp2_with fail
  refine (Reader_Need.yes _ _ _).mono ?_
  rintro e w4 ⟨rfl, rfl⟩
  go_wp2_with fail
  have c0 := HG.out.facts.1
  have l1 : (((be (bl (s.extract 4 6)) : Nat) : Int) == (s.size : Int) - 40) = true := by rw [beq_iff_eq]; exact hl
  have l2 : (((be (bl (s.extract 4 6)) : Nat) : Int) == wrap64 ((s.size : Int) - 40)) = true := by rw [show wrap64 ((s.size : Int) - 40) = (s.size : Int) - 40 by unfold wrap64; have := HG.out.1.2.2; omega]; exact l1
  have l3 : (((be (bl (s.extract 4 6)) : Nat) : Int) == IntKind.i64.wrap ((s.size : Int) - 40)) = true := by rw [show IntKind.i64.wrap ((s.size : Int) - 40) = (s.size : Int) - 40 by rw [IntKind.wrap_i64]; have := HG.out.1.2.2; omega]; exact l1
  clear hl
  go_region_with ((first
      | (go_at_call 127; refine (Reader_U16.yes _ _ 4 _ HG.out.drew.1 ?_).mono ?_; omega; rintro e w5 ⟨rfl, g1⟩; have HG3 := Aside0.mk (HG.out.drew.went g1); have c3 := HG3.out.facts.1; clear g1)
      | (go_at_call 50; refine (Reader_Need.yes _ _ _).mono ?_; rintro e w6 ⟨rfl, rfl⟩)))
  all_goals
    clear c0 c3 l1 l2 l3 v1 v2 d1 d2 hw
    replace HG := HG3
    clear HG3
    go_wp2_with fail
    refine (Reader_U8.yes _ _ _ _ HG.out.1 (by omega)).mono ?_
    rintro e w7 ⟨rfl, g1⟩
    replace HG := Aside0.mk (HG.out.went g1)
    clear g1
    go_wp2_with fail
    refine (Reader_U8.yes _ _ _ _ HG.out.1 (by omega)).mono ?_
    rintro e w8 ⟨rfl, g1⟩
    replace HG := Aside0.mk (HG.out.went g1)
    clear g1
    go_wp2_with fail
    refine (Reader_Take.went _ _ _ 16 _ HG.out.1 (by omega)).mono ?_
    rintro e w9 ⟨rfl, g1⟩
    replace HG := Aside0.mk (HG.out.went g1)
    clear g1
    go_wp2_with fail
    refine (Reader_Take.went _ _ _ 16 _ HG.out.1 (by omega)).mono ?_
    rintro e w10 ⟨rfl, g1⟩
    replace HG := Aside0.mk (HG.out.went g1)
    clear g1
    obtain ⟨c0, c1, c2, c3, c4⟩ := HG.out.facts
    simp only [zero6] at c2
    go_wp2_with fail
    replace HG := Aside0.mk ((((((HG.out.put 0 (.int .i64 (Go.bits .and .i64 (((be (bl (s.extract 0 4)) : Nat) : Int) / 1048576) 255))).put 1 (.int .i64 (Go.bits .and .i64 ((be (bl (s.extract 0 4)) : Nat) : Int) 1048575))).put 2 (.int .i64 (be (bl (s.extract 6 7)) : Nat))).put 3 (.int .i64 (be (bl (s.extract 7 8)) : Nat))).put 4 (.string (s.extract 8 24))).put 5 (.string (s.extract 24 40)))
    clear c0 c1 c2 c3 c4
    refine (Reader_Rest.calls _ _ _ _ HG.out.1).mono ?_
    rintro e w11 ⟨rfl, g1⟩
    replace HG := Aside0.mk (HG.out.went g1)
    clear g1
    obtain ⟨c0, c1, c2, c3, c4⟩ := HG.out.facts
    clear c0 c1 c2
    go_wp2
    go_end0
    exact ⟨rfl, _, HG.out.putSum _⟩
/-- What Get's closure leaves, and Read's end behind it. -/
def VR (k : Nat) (s : ByteArray) (w w1 : World) : Prop :=
  ∃ cs x, Hp w1 [(k, 9, #[.string s]), (k + 1, 114, #[.int .i64 0, .int .i64 0, .int .i64 0, .int .i64 0, .string ⟨#[]⟩, .string ⟨#[]⟩]), (k + 2, 114, cs), (k + 3, 9, #[.string x])] ∧ Below k w w1 ∧
    (ip6Err s = 0 → cs = #[(.int .i64 (Go.bits .and .i64 (((be (bl (s.extract 0 4)) : Nat) : Int) / 1048576) 255)), (.int .i64 (Go.bits .and .i64 ((be (bl (s.extract 0 4)) : Nat) : Int) 1048575)), (.int .i64 (be (bl (s.extract 6 7)) : Nat)), (.int .i64 (be (bl (s.extract 7 8)) : Nat)), (.string (s.extract 8 24)), (.string (s.extract 24 40))] ∧ x = s.extract 40 s.size)
theorem VG.done {k : Nat} {s : ByteArray} {w w1 w2 : World} {n : Nat} {cs : Array Value} {x : ByteArray} (h : VG k s w w1 n cs x) (hw : w1.grownBy w2 (some (k + 4)))
    (hx : ip6Err s = 0 → cs = #[(.int .i64 (Go.bits .and .i64 (((be (bl (s.extract 0 4)) : Nat) : Int) / 1048576) 255)), (.int .i64 (Go.bits .and .i64 ((be (bl (s.extract 0 4)) : Nat) : Int) 1048575)), (.int .i64 (be (bl (s.extract 6 7)) : Nat)), (.int .i64 (be (bl (s.extract 7 8)) : Nat)), (.string (s.extract 8 24)), (.string (s.extract 24 40))] ∧ x = s.extract 40 s.size) : VR k s w w2 :=
  ⟨cs, x, Hp.grown (R := k + 4) (fun y hy => h.2.1 y (by simp at hy ⊢; rcases hy with rfl | rfl | rfl | rfl <;> simp)) hw (by simp), h.2.2.trans (below_of_grown hw (by have := h.1.1.lt; omega) (by omega)), hx⟩

set_option maxRecDepth 100000 in
theorem ip6_Get.reads (s : ByteArray) (hs : s.size ≤ 140737488351232) (w : World) :
    Calls Try.prog 46 #[.string s, .func (.func 150) #[] #[.pointer (some ⟨w.heap.size, 0, none⟩), .pointer (some ⟨w.heap.size + 1 + 1, 0, none⟩), .pointer (some ⟨w.heap.size + 1 + 1 + 1, 0, none⟩)]]
      ((((w.alloc (.cells #[.string s] 9)).alloc (.cells #[.int .i64 0, .int .i64 0, .int .i64 0, .int .i64 0, .string ⟨#[]⟩, .string ⟨#[]⟩] 114)).alloc (.cells #[.int .i64 0, .int .i64 0, .int .i64 0, .int .i64 0, .string ⟨#[]⟩, .string ⟨#[]⟩] 114)).alloc (.cells #[.string ⟨#[]⟩] 9))
      fun e w' => e = .returned (.int .i64 (ip6Err s)) ∧ VR w.heap.size s w w' := by
  obtain ⟨W, hW⟩ : ∃ W, W = ((((w.alloc (.cells #[.string s] 9)).alloc (.cells #[.int .i64 0, .int .i64 0, .int .i64 0, .int .i64 0, .string ⟨#[]⟩, .string ⟨#[]⟩] 114)).alloc (.cells #[.int .i64 0, .int .i64 0, .int .i64 0, .int .i64 0, .string ⟨#[]⟩, .string ⟨#[]⟩] 114)).alloc (.cells #[.string ⟨#[]⟩] 9)) := ⟨_, rfl⟩
  have hk : W.heap.size = w.heap.size + 4 := by rw [hW]; simp
  have b0 : Blk W w.heap.size 9 #[.string s] := by rw [hW]; exact (((Blk.new w _ _).alloc _).alloc _).alloc _
  have b1 : Blk W (w.heap.size + 1) 114 #[.int .i64 0, .int .i64 0, .int .i64 0, .int .i64 0, .string ⟨#[]⟩, .string ⟨#[]⟩] := by
    rw [hW]
    have := Blk.new (w.alloc (.cells #[.string s] 9)) 114 #[.int .i64 0, .int .i64 0, .int .i64 0, .int .i64 0, .string ⟨#[]⟩, .string ⟨#[]⟩]
    rw [World.size_alloc] at this
    exact (this.alloc _).alloc _
  have b2 : Blk W (w.heap.size + 2) 114 #[.int .i64 0, .int .i64 0, .int .i64 0, .int .i64 0, .string ⟨#[]⟩, .string ⟨#[]⟩] := by
    rw [hW]
    have := Blk.new ((w.alloc (.cells #[.string s] 9)).alloc (.cells #[.int .i64 0, .int .i64 0, .int .i64 0, .int .i64 0, .string ⟨#[]⟩, .string ⟨#[]⟩] 114)) 114 #[.int .i64 0, .int .i64 0, .int .i64 0, .int .i64 0, .string ⟨#[]⟩, .string ⟨#[]⟩]
    rw [World.size_alloc, World.size_alloc] at this
    exact this.alloc _
  have b3 : Blk W (w.heap.size + 3) 9 #[.string ⟨#[]⟩] := by
    rw [hW]
    have := Blk.new (((w.alloc (.cells #[.string s] 9)).alloc (.cells #[.int .i64 0, .int .i64 0, .int .i64 0, .int .i64 0, .string ⟨#[]⟩, .string ⟨#[]⟩] 114)).alloc (.cells #[.int .i64 0, .int .i64 0, .int .i64 0, .int .i64 0, .string ⟨#[]⟩, .string ⟨#[]⟩] 114)) 9 #[.string ⟨#[]⟩]
    rw [World.size_alloc, World.size_alloc, World.size_alloc] at this
    exact this
  have hb : Below w.heap.size w W := by
    rw [hW]
    exact ((((Below.refl _ _).alloc (Nat.le_refl _) _).alloc (by simp) _).alloc (by simp; omega) _).alloc (by simp; omega) _
  rw [← hW]
  clear hW
  have hrd := readW_rd W s hs
  have hres := readW_res W s
  have hbl := readW_below W s
  rw [hk] at hrd hres hbl
  have hG : VG w.heap.size s w (readW W s) 0 zero6 ⟨#[]⟩ :=
    ⟨hrd, .cons (b0.below hbl (by omega)) (.cons (b1.below hbl (by omega)) (.cons (b2.below hbl (by omega)) (.cons (b3.below hbl (by omega)) (.cons hres (.nil _))))), hb.trans (hbl.mono (by omega))⟩
  have hrd' : ∀ Q : World → Prop, Calls Try.prog 150 (#[.pointer (some ⟨W.heap.size + 1, 0, none⟩)] ++ #[.pointer (some ⟨w.heap.size, 0, none⟩), .pointer (some ⟨w.heap.size + 1 + 1, 0, none⟩), .pointer (some ⟨w.heap.size + 1 + 1 + 1, 0, none⟩)]) (readW W s) (fun e w2 => e = did (ip6Err s) ∧ Blk w2 W.heap.size 38 #[.int .i64 0] ∧ Q w2) →
      Calls Try.prog 46 #[.string s, .func (.func 150) #[] #[.pointer (some ⟨w.heap.size, 0, none⟩), .pointer (some ⟨w.heap.size + 1 + 1, 0, none⟩), .pointer (some ⟨w.heap.size + 1 + 1 + 1, 0, none⟩)]] W
        fun e w' => e = .returned (.int .i64 (ip6Err s)) ∧ ∃ w2, Q w2 ∧ w2.grownBy w' (some W.heap.size) :=
    fun Q h => Read_calls 150 _ s (ip6Err s) W Q (fun _ _ => rfl) h
  rw [hk] at hrd'
  clear hrd hres hbl b0 b1 b2 b3 hb
  by_cases h8 : s.size < 40
  · have he : ip6Err s = 2 := if_pos h8
    rw [he] at hrd' ⊢
    refine (hrd' (fun w2 => ∃ n cs x, VG w.heap.size s w w2 n cs x) ?_).mono ?_
    · refine (ip6_Get1.short w.heap.size s w (readW W s) hG h8).mono ?_
      rintro e w2 ⟨rfl, n, cs, x, hu⟩
      exact ⟨rfl, hu.2.1.tail.tail.tail.tail.head, n, cs, x, hu⟩
    · rintro e w' ⟨rfl, w2, ⟨n, cs, x, hu⟩, hg⟩
      exact ⟨rfl, hu.done hg (fun h0 => absurd (he.symm.trans h0) (by decide))⟩
  by_cases hv : be (bl (s.extract 0 4)) / 268435456 = 6
  case neg =>
    have he : ip6Err s = 3 := by unfold ip6Err; rw [if_neg h8, if_neg hv]
    rw [he] at hrd' ⊢
    refine (hrd' (fun w2 => ∃ n cs x, VG w.heap.size s w w2 n cs x) ?_).mono ?_
    · refine (ip6_Get1.vers w.heap.size s w (readW W s) hG (by omega) hv).mono ?_
      rintro e w2 ⟨rfl, n, cs, x, hu⟩
      exact ⟨rfl, hu.2.1.tail.tail.tail.tail.head, n, cs, x, hu⟩
    · rintro e w' ⟨rfl, w2, ⟨n, cs, x, hu⟩, hg⟩
      exact ⟨rfl, hu.done hg (fun h0 => absurd (he.symm.trans h0) (by decide))⟩
  by_cases hl : ((be (bl (s.extract 4 6)) : Nat) : Int) = (s.size : Int) - 40
  case neg =>
    have he : ip6Err s = 4 := by unfold ip6Err; rw [if_neg h8, if_pos hv, if_neg hl]
    rw [he] at hrd' ⊢
    refine (hrd' (fun w2 => ∃ n cs x, VG w.heap.size s w w2 n cs x) ?_).mono ?_
    · refine (ip6_Get1.len w.heap.size s w (readW W s) hG (by omega) hv hl).mono ?_
      rintro e w2 ⟨rfl, n, cs, x, hu⟩
      exact ⟨rfl, hu.2.1.tail.tail.tail.tail.head, n, cs, x, hu⟩
    · rintro e w' ⟨rfl, w2, ⟨n, cs, x, hu⟩, hg⟩
      exact ⟨rfl, hu.done hg (fun h0 => absurd (he.symm.trans h0) (by decide))⟩
  have he : ip6Err s = 0 := by unfold ip6Err; rw [if_neg h8, if_pos hv, if_pos hl]
  rw [he] at hrd' ⊢
  refine (hrd' (fun w2 => ∃ n, VG w.heap.size s w w2 n #[(.int .i64 (Go.bits .and .i64 (((be (bl (s.extract 0 4)) : Nat) : Int) / 1048576) 255)), (.int .i64 (Go.bits .and .i64 ((be (bl (s.extract 0 4)) : Nat) : Int) 1048575)), (.int .i64 (be (bl (s.extract 6 7)) : Nat)), (.int .i64 (be (bl (s.extract 7 8)) : Nat)), (.string (s.extract 8 24)), (.string (s.extract 24 40))] (s.extract 40 s.size)) ?_).mono ?_
  · refine (ip6_Get1.ok w.heap.size s w (readW W s) hG (by omega) hv hl).mono ?_
    rintro e w2 ⟨rfl, n, hu⟩
    exact ⟨rfl, hu.2.1.tail.tail.tail.tail.head, n, hu⟩
  · rintro e w' ⟨rfl, w2, ⟨n, hu⟩, hg⟩
    exact ⟨rfl, hu.done hg (fun _ => ⟨rfl, rfl⟩)⟩

def ip6_Get.f (s : ByteArray) : Option (Int × Int × Int × Int × ByteArray × ByteArray × ByteArray × Int) :=
  if s.size ≤ 140737488351232 then some (if ip6Err s = 0 then (Go.bits .and .i64 (((be (bl (s.extract 0 4)) : Nat) : Int) / 1048576) 255, Go.bits .and .i64 ((be (bl (s.extract 0 4)) : Nat) : Int) 1048575, ((be (bl (s.extract 6 7)) : Nat) : Int), ((be (bl (s.extract 7 8)) : Nat) : Int), s.extract 8 24, s.extract 24 40, s.extract 40 s.size, 0) else (0, 0, 0, 0, empty, empty, empty, ip6Err s)) else none

set_option maxHeartbeats 1000000 in
set_option maxRecDepth 100000 in
theorem ip6_Get.calls (s : ByteArray) (r1 r2 r3 r4 : Int) (r5 r6 r7 : ByteArray) (r8 : Int) (w : World) (h : ip6_Get.f s = some (r1, r2, r3, r4, r5, r6, r7, r8)) :
    Calls Try.prog 100 #[.string s] w fun e w' => e = .returned (.tuple #[.agg #[.int .i64 r1, .int .i64 r2, .int .i64 r3, .int .i64 r4, .string r5, .string r6], .string r7, .int .i64 r8]) ∧ Below w.heap.size w w' := by
  unfold ip6_Get.f at h
  by_cases hs : s.size ≤ 140737488351232
  case neg => rw [if_neg hs] at h; exact absurd h (by simp)
  rw [if_pos hs] at h
  have hmf : ∀ (fn : Fn) (first cap : Array Value) (w : World), (Instr.makeFunc fn first cap).run Try.prog w = .ok (.func fn first cap) w := fun _ _ _ _ => rfl
  have hu := Try.underlying114
  have HS := Aside0.mk hs
  clear hs
  by_cases h0 : ip6Err s = 0
  · rw [if_pos h0] at h
    replace h := Option.some.inj h
    simp only [Prod.mk.injEq] at h
    obtain ⟨rfl, rfl, rfl, rfl, rfl, rfl, rfl, rfl⟩ := h
    have d1 : (ip6Err s != 0) = false := bne_eq_false_iff_eq.mpr h0
    have h := Aside0.mk h0
    clear h0
    go_enter Try.func100, Try.ntmps100
    go_wp2_with fail
    refine (ip6_Get.reads s HS.out w).mono ?_
    rintro e w2 ⟨rfl, cs, x, hp, hb, hx⟩
    obtain ⟨rfl, rfl⟩ := hx h.out
    have HB := Aside0.mk hb
    have c1 := hp.tail.head.cells
    have c2 := hp.tail.head.frees
    have c3 := hp.tail.tail.head.cells
    have c4 := hp.tail.tail.tail.head.cell 0 _ rfl
    have HK := Aside0.mk hp.tail.head
    clear hp hb hx
    go_wp2_with fail
    go_region
    all_goals
      have c5 := (((((((HK.out.set 0 (.int .i64 (Go.bits .and .i64 (((be (bl (s.extract 0 4)) : Nat) : Int) / 1048576) 255))).set 1 (.int .i64 (Go.bits .and .i64 ((be (bl (s.extract 0 4)) : Nat) : Int) 1048575))).set 2 (.int .i64 (be (bl (s.extract 6 7)) : Nat))).set 3 (.int .i64 (be (bl (s.extract 7 8)) : Nat))).set 4 (.string (s.extract 8 24))).set 5 (.string (s.extract 24 40)))).drew.cells
      simp only [List.setIfInBounds_toArray, List.set_cons_zero, List.set_cons_succ] at c5
      clear c1 c2 c3 c4
      go_wp2
      refine ⟨rfl, _, ?_, rfl, ?_⟩
      rotate_left
      · exact ((((((HB.out.setCell (by simp) _).setCell (by simp) _).setCell (by simp) _).setCell (by simp) _).setCell (by simp) _).setCell (by simp) _).drew
      simp [results, Try.results100, go_sem, hu, c5]
  · rw [if_neg h0] at h
    replace h := Option.some.inj h
    simp only [Prod.mk.injEq] at h
    obtain ⟨rfl, rfl, rfl, rfl, rfl, rfl, rfl, rfl⟩ := h
    have d1 : (ip6Err s != 0) = true := bne_iff_ne.mpr h0
    clear h0
    go_enter Try.func100, Try.ntmps100
    go_wp2_with fail
    refine (ip6_Get.reads s HS.out w).mono ?_
    rintro e w2 ⟨rfl, cs, x, hp, hb, hx⟩
    have HB := Aside0.mk hb
    have c1 := hp.tail.head.cells
    have c2 := hp.tail.head.frees
    have HK := Aside0.mk hp.tail.head
    clear hp hb hx
    go_wp2
    have c5 := (((((((HK.out.set 0 (.int .i64 0)).set 1 (.int .i64 0)).set 2 (.int .i64 0)).set 3 (.int .i64 0)).set 4 (.string ⟨#[]⟩)).set 5 (.string ⟨#[]⟩))).cells
    simp only [List.setIfInBounds_toArray, List.set_cons_zero, List.set_cons_succ] at c5
    clear c1 c2
    refine ⟨rfl, _, ?_, rfl, ?_⟩
    rotate_left
    · exact (((((HB.out.setCell (by simp) _).setCell (by simp) _).setCell (by simp) _).setCell (by simp) _).setCell (by simp) _).setCell (by simp) _
    simp [results, Try.results100, go_sem, hu, c5]
    rfl
end Go.Proofs.Ytejmipoolbodgaa.G
