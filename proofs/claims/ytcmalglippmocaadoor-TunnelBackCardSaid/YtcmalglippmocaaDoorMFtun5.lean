/- Texts of this session, joined: each is a section. -/
import Derived.Test.YtcmalglippmocaaDoorMFtun2
import Derived.Test.YtcmalglippmocaaDoorMFtun4
import Derived.WalkLawsBesides
import Derived.Deep.RegionWith
set_option linter.unusedVariables false
set_option linter.unusedSimpArgs false
section
namespace Go.Proofs.YtcmalglippmocaaDoor.G
open Go.RowKit Go.Proofs.YtcmalglippmocaaDoorW.PrintWords Go.Proofs.YtcmalglippmocaaDoorW.PrintLast Go.Proofs.YtcmalglippmocaaDoorW.PrintMore Go.Proofs.YtcmalglippmocaaDoor.Pal

def in16 (x : Int) : Prop := 0 ≤ x ∧ x ≤ 65535
instance (x : Int) : Decidable (in16 x) := by unfold in16; infer_instance
def udpCheck (a b : Int) (n : Nat) : Int := if in16 a ∧ in16 b then (if n ≤ 65527 then 0 else 4) else 1
def udp_Check.f (a0_0 a0_1 : Int) (a0_2 : ByteArray) : Option Int := some (udpCheck a0_0 a0_1 a0_2.size)

set_option maxHeartbeats 1000000 in
set_option maxRecDepth 100000 in
theorem udp_Check.calls (a0_0 a0_1 : Int) (a0_2 : ByteArray) (r : Int) (w : World) (h : udp_Check.f a0_0 a0_1 a0_2 = some r) :
    Calls Tryd.prog 107 #[.agg #[.int .i64 a0_0, .int .i64 a0_1, .string a0_2]] w fun e w' => e = .returned (.int .i64 r) ∧ Below w.heap.size w w' := by
  obtain rfl := Option.some.inj h
  clear h
  have hu := Tryd.underlying81
  have i0 : ∀ w, (Instr.index 134 (.agg #[.int .i64 a0_0, .int .i64 a0_1]) (.int .i64 0)).run Tryd.prog w = .ok (.int .i64 a0_0) w := fun _ => by kernel_rfl
  have i1 : ∀ w, (Instr.index 134 (.agg #[.int .i64 a0_0, .int .i64 a0_1]) (.int .i64 1)).run Tryd.prog w = .ok (.int .i64 a0_1) w := fun _ => by kernel_rfl
  go_enter Tryd.func107, Tryd.ntmps107
  go_wp2
  have HB := Aside0.mk ((Below.refl w.heap.size w).alloc (Nat.le_refl _) (.cells #[.int .i64 a0_0, .int .i64 a0_1, .string a0_2] 81))
  have hc := (Blk.new w 81 #[.int .i64 a0_0, .int .i64 a0_1, .string a0_2]).cells
  generalize w.alloc (.cells #[.int .i64 a0_0, .int .i64 a0_1, .string a0_2] 81) = w1 at HB hc ⊢
  go_loopg [10] 2 (fun kq v10 wr => ∃ i : Nat, v10 = .int .i64 (i : Int) ∧ Aside0 (i + kq = 2) ∧ Aside0 (1 ≤ i → in16 a0_0) ∧ Aside0 (2 ≤ i → in16 a0_1) ∧ Aside0 (wr = w1))
  case atStart => exact ⟨0, rfl, ⟨rfl⟩, ⟨by omega⟩, ⟨by omega⟩, ⟨rfl⟩⟩
  case round =>
    obtain ⟨i, rfl, HK, H0, H1, HE⟩ := hrel
    obtain rfl := HE.out
    match i, HK, H0, H1 with
    | 0, HK, H0, H1 =>
      clear i1
      by_cases c1 : a0_0 < 0
      · have d1 : decide (a0_0 < 0) = true := decide_eq_true c1
        go_wp2
        go_ret
        exact ⟨by rw [udpCheck, if_neg (by unfold in16; omega)]; rfl, HB.out⟩
      · have d1 : decide (a0_0 < 0) = false := decide_eq_false c1
        by_cases c2 : 65535 < a0_0
        · have d2 : decide (65535 < a0_0) = true := decide_eq_true c2
          go_wp2
          go_ret
          exact ⟨by rw [udpCheck, if_neg (by unfold in16; omega)]; rfl, HB.out⟩
        · have d2 : decide (65535 < a0_0) = false := decide_eq_false c2
          go_wp2
          go_roundg 1
          case measure => have := HK.out; omega
          case rel => exact ⟨1, rfl, ⟨rfl⟩, ⟨fun _ => by unfold in16; omega⟩, ⟨by omega⟩, ⟨rfl⟩⟩
    | 1, HK, H0, H1 =>
      clear i0
      by_cases c1 : a0_1 < 0
      · have d1 : decide (a0_1 < 0) = true := decide_eq_true c1
        go_wp2
        go_ret
        exact ⟨by rw [udpCheck, if_neg (by unfold in16; omega)]; rfl, HB.out⟩
      · have d1 : decide (a0_1 < 0) = false := decide_eq_false c1
        by_cases c2 : 65535 < a0_1
        · have d2 : decide (65535 < a0_1) = true := decide_eq_true c2
          go_wp2
          go_ret
          exact ⟨by rw [udpCheck, if_neg (by unfold in16; omega)]; rfl, HB.out⟩
        · have d2 : decide (65535 < a0_1) = false := decide_eq_false c2
          go_wp2
          go_roundg 0
          case measure => have := HK.out; omega
          case rel => exact ⟨2, rfl, ⟨rfl⟩, ⟨fun _ => H0.out (by omega)⟩, ⟨fun _ => by unfold in16; omega⟩, ⟨rfl⟩⟩
    | 2, HK, H0, H1 =>
      clear i0 i1
      have h0 := H0.out (by omega)
      have h1 := H1.out (by omega)
      have HC : Aside0 (udpCheck a0_0 a0_1 a0_2.size = if a0_2.size ≤ 65527 then 0 else 4) := ⟨by rw [udpCheck, if_pos ⟨h0, h1⟩]⟩
      clear h0 h1
      by_cases c1 : 65527 < a0_2.size
      · have d1 : decide (65527 < a0_2.size) = true := decide_eq_true c1
        have d2 : decide ((65527 : Int) < (a0_2.size : Int)) = true := decide_eq_true (by omega)
        go_wp2
        go_ret
        exact ⟨by rw [HC.out, if_neg (by omega)]; rfl, HB.out⟩
      · have d1 : decide (65527 < a0_2.size) = false := decide_eq_false c1
        have d2 : decide ((65527 : Int) < (a0_2.size : Int)) = false := decide_eq_false (by omega)
        go_wp2
        go_ret
        exact ⟨by rw [HC.out, if_pos (by omega)]; rfl, HB.out⟩
    | i + 3, HK, H0, H1 => exact absurd HK.out (by omega)

def udpBytes (a b : Int) (p : ByteArray) (sum : Int) : List UInt8 := nb 2 (u64n a) ++ nb 2 (u64n b) ++ nb 2 (u64n (8 + (p.size : Int))) ++ nb 2 (u64n sum) ++ bl p
def empty : ByteArray := ⟨#[]⟩
def udp_Put.f (a0_0 a0_1 : Int) (a0_2 : ByteArray) (a1 : Int) : Option (ByteArray × Int) :=
  if udpCheck a0_0 a0_1 a0_2.size ≠ 0 then some (empty, udpCheck a0_0 a0_1 a0_2.size) else if in16 a1 then some (⟨(udpBytes a0_0 a0_1 a0_2 a1).toArray⟩, 0) else some (empty, 1)

set_option maxHeartbeats 1000000 in
set_option maxRecDepth 100000 in
theorem udp_Put.calls (a0_0 a0_1 : Int) (a0_2 : ByteArray) (a1 : Int) (r1 : ByteArray) (r2 : Int) (w : World) (h : udp_Put.f a0_0 a0_1 a0_2 a1 = some (r1, r2)) :
    Calls Tryd.prog 73 #[.agg #[.int .i64 a0_0, .int .i64 a0_1, .string a0_2], .int .i64 a1] w fun e w' => e = .returned (.tuple #[.string r1, .int .i64 r2]) ∧ Below w.heap.size w w' := by
  unfold udp_Put.f at h
  have hu := Tryd.underlying81
  have HB := Aside0.mk ((Below.refl w.heap.size w).alloc (Nat.le_refl _) (.cells #[.int .i64 a0_0, .int .i64 a0_1, .string a0_2] 81))
  have HK := Aside0.mk (Blk.new w 81 #[.int .i64 a0_0, .int .i64 a0_1, .string a0_2])
  by_cases hck : udpCheck a0_0 a0_1 a0_2.size ≠ 0
  · rw [if_pos hck] at h
    obtain ⟨rfl, rfl⟩ := Prod.mk.inj (Option.some.inj h)
    have d1 : (udpCheck a0_0 a0_1 a0_2.size != 0) = true := bne_iff_ne.mpr hck
    clear hck h
    go_enter Tryd.func73, Tryd.ntmps73
    go_wp2_with fail
    refine (udp_Check.calls a0_0 a0_1 a0_2 _ _ rfl).mono ?_
    rintro e w2 ⟨rfl, g1⟩
    replace HB := Aside0.mk (HB.out.trans (g1.mono HB.out.size))
    clear g1
    go_wp2
    go_ret2
    exact ⟨rfl, HB.out⟩
  · rw [if_neg hck] at h
    have h0 : udpCheck a0_0 a0_1 a0_2.size = 0 := by omega
    have hlen : a0_2.size ≤ 65527 := by
      unfold udpCheck at h0
      split at h0
      · split at h0 <;> omega
      · omega
    have HC := Aside0.mk h0
    clear hck h0
    by_cases hs : in16 a1
    · rw [if_pos hs] at h
      obtain ⟨rfl, rfl⟩ := Prod.mk.inj (Option.some.inj h)
      have d1 : decide (a1 < 0) = false := decide_eq_false (by unfold in16 at hs; omega)
      have d2 : decide (65535 < a1) = false := decide_eq_false (by unfold in16 at hs; omega)
      have j0 : ∀ w, (Instr.index 156 (.agg #[.int .i64 a0_0, .int .i64 a0_1, .int .i64 (8 + (a0_2.size : Int)), .int .i64 a1]) (.int .i64 0)).run Tryd.prog w = .ok (.int .i64 a0_0) w := fun _ => by kernel_rfl
      have j1 : ∀ w, (Instr.index 156 (.agg #[.int .i64 a0_0, .int .i64 a0_1, .int .i64 (8 + (a0_2.size : Int)), .int .i64 a1]) (.int .i64 1)).run Tryd.prog w = .ok (.int .i64 a0_1) w := fun _ => by kernel_rfl
      have j2 : ∀ w, (Instr.index 156 (.agg #[.int .i64 a0_0, .int .i64 a0_1, .int .i64 (8 + (a0_2.size : Int)), .int .i64 a1]) (.int .i64 2)).run Tryd.prog w = .ok (.int .i64 (8 + (a0_2.size : Int))) w := fun _ => by kernel_rfl
      have j3 : ∀ w, (Instr.index 156 (.agg #[.int .i64 a0_0, .int .i64 a0_1, .int .i64 (8 + (a0_2.size : Int)), .int .i64 a1]) (.int .i64 3)).run Tryd.prog w = .ok (.int .i64 a1) w := fun _ => by kernel_rfl
      clear h hs
      go_enter Tryd.func73, Tryd.ntmps73
      go_wp2_with fail
      refine (udp_Check.calls a0_0 a0_1 a0_2 _ _ rfl).mono ?_
      rintro e w2 ⟨rfl, g1⟩
      rw [HC.out]
      replace HB := Aside0.mk (HB.out.trans (g1.mono HB.out.size))
      replace HK := Aside0.mk (HK.out.below g1 (by simp))
      clear g1
      have HS := Aside0.mk (WS.startAt HK.out HB.out HB.out.size)
      have hc := HS.out.1.2.1.cells
      go_wp2
      go_loopg [31] 4 (fun kq v31 wr => ∃ i : Nat, v31 = .int .i64 (i : Int) ∧ Aside0 (i + kq = 4) ∧ Aside0 (WS w.heap.size w.heap.size w2.heap.size w wr 81 #[.int .i64 a0_0, .int .i64 a0_1, .string a0_2] (if i = 0 then [] else if i = 1 then nb 2 (u64n a0_0) else if i = 2 then nb 2 (u64n a0_0) ++ nb 2 (u64n a0_1) else if i = 3 then nb 2 (u64n a0_0) ++ nb 2 (u64n a0_1) ++ nb 2 (u64n (8 + (a0_2.size : Int))) else nb 2 (u64n a0_0) ++ nb 2 (u64n a0_1) ++ nb 2 (u64n (8 + (a0_2.size : Int))) ++ nb 2 (u64n a1))))
      case atStart => exact ⟨0, rfl, ⟨rfl⟩, HS⟩
      case round =>
        clear HS hc
        obtain ⟨i, rfl, HK, HS⟩ := hrel
        match i, HK, HS with
        | 0, HK, HS =>
          replace HS := Aside0.mk HS.out
          rw [if_pos rfl] at HS
          go_wp2_with fail
          refine (Writer_U16.calls _ _ _ _ HS.out.1.1 (by simp)).mono ?_
          rintro e w3 ⟨rfl, g1, g2⟩
          replace HS := Aside0.mk (HS.out.next g1 g2)
          clear g1 g2
          go_wp2
          go_roundg 3
          case measure => have := HK.out; omega
          case rel => exact ⟨1, rfl, ⟨rfl⟩, HS⟩
        | 1, HK, HS =>
          replace HS := Aside0.mk HS.out
          rw [if_neg (by decide), if_pos rfl] at HS
          go_wp2_with fail
          refine (Writer_U16.calls _ _ _ _ HS.out.1.1 (by simp [nb_length])).mono ?_
          rintro e w3 ⟨rfl, g1, g2⟩
          replace HS := Aside0.mk (HS.out.next g1 g2)
          clear g1 g2
          go_wp2
          go_roundg 2
          case measure => have := HK.out; omega
          case rel => exact ⟨2, rfl, ⟨rfl⟩, HS⟩
        | 2, HK, HS =>
          replace HS := Aside0.mk HS.out
          rw [if_neg (by decide), if_neg (by decide), if_pos rfl] at HS
          go_wp2_with fail
          refine (Writer_U16.calls _ _ _ _ HS.out.1.1 (by simp [nb_length])).mono ?_
          rintro e w3 ⟨rfl, g1, g2⟩
          replace HS := Aside0.mk (HS.out.next g1 g2)
          clear g1 g2
          go_wp2
          go_roundg 1
          case measure => have := HK.out; omega
          case rel => exact ⟨3, rfl, ⟨rfl⟩, HS⟩
        | 3, HK, HS =>
          replace HS := Aside0.mk HS.out
          rw [if_neg (by decide), if_neg (by decide), if_neg (by decide), if_pos rfl] at HS
          go_wp2_with fail
          refine (Writer_U16.calls _ _ _ _ HS.out.1.1 (by simp [nb_length])).mono ?_
          rintro e w3 ⟨rfl, g1, g2⟩
          replace HS := Aside0.mk (HS.out.next g1 g2)
          clear g1 g2
          go_wp2
          go_roundg 0
          case measure => have := HK.out; omega
          case rel => exact ⟨4, rfl, ⟨rfl⟩, HS⟩
        | 4, HK, HS =>
          replace HS := Aside0.mk HS.out
          rw [if_neg (by decide), if_neg (by decide), if_neg (by decide), if_neg (by decide)] at HS
          clear j0 j1 j2 j3
          have hc := HS.out.1.2.1.cells
          go_wp2_with fail
          refine (Writer_Text.calls _ _ _ _ HS.out.1.1 (by simp only [List.length_append, List.length_nil, nb_length, bl_length]; omega)).mono ?_
          rintro e w3 ⟨rfl, g1, g2⟩
          replace HS := Aside0.mk (HS.out.next g1 g2)
          clear g1 g2 hc
          go_wp2_with fail
          refine (Writer_String.calls _ _ _ HS.out.1.1).mono ?_
          rintro e w3 ⟨rfl, g1, g2⟩
          replace HS := Aside0.mk (HS.out.next g1 g2)
          clear g1 g2
          go_wp2
          go_ret2
          exact ⟨by simp [udpBytes], HS.out.1.2.2⟩
        | i + 5, HK, HS => exact absurd HK.out (by omega)
    · rw [if_neg hs] at h
      obtain ⟨rfl, rfl⟩ := Prod.mk.inj (Option.some.inj h)
      by_cases c1 : a1 < 0
      · have d1 : decide (a1 < 0) = true := decide_eq_true c1
        clear h hs c1
        go_enter Tryd.func73, Tryd.ntmps73
        go_wp2_with fail
        refine (udp_Check.calls a0_0 a0_1 a0_2 _ _ rfl).mono ?_
        rintro e w2 ⟨rfl, g1⟩
        rw [HC.out]
        replace HB := Aside0.mk (HB.out.trans (g1.mono HB.out.size))
        clear g1
        go_wp2
        go_ret2
        exact ⟨rfl, HB.out⟩
      · have d1 : decide (a1 < 0) = false := decide_eq_false c1
        have d2 : decide (65535 < a1) = true := decide_eq_true (by unfold in16 at hs; omega)
        clear h hs c1
        go_enter Tryd.func73, Tryd.ntmps73
        go_wp2_with fail
        refine (udp_Check.calls a0_0 a0_1 a0_2 _ _ rfl).mono ?_
        rintro e w2 ⟨rfl, g1⟩
        rw [HC.out]
        replace HB := Aside0.mk (HB.out.trans (g1.mono HB.out.size))
        clear g1
        go_wp2
        go_ret2
        exact ⟨rfl, HB.out⟩

def UG (k : Nat) (s : ByteArray) (w w1 : World) (n : Nat) (cs : Array Value) (x : Int) : Prop :=
  Rd w1 (k + 5) s n ∧ Hp w1 [(k, 9, #[.string s]), (k + 1, 81, #[.int .i64 0, .int .i64 0, .string ⟨#[]⟩]), (k + 2, 81, cs), (k + 3, 3, #[.int .i64 x]), (k + 4, 24, #[.int .i64 0])] ∧ Below k w w1
theorem UG.went {k : Nat} {s : ByteArray} {w w1 w2 : World} {n m : Nat} {cs : Array Value} {x : Int} (h : UG k s w w1 n cs x) (hw : Went w1 w2 (k + 5) s m) : UG k s w w2 m cs x :=
  ⟨hw.2, h.2.1.grown hw.1 (by simp), h.2.2.trans (below_of_grown hw.1 (by have := h.1.1.lt; omega) (by omega))⟩
theorem UG.put {k : Nat} {s : ByteArray} {w w1 : World} {n : Nat} {cs : Array Value} {x : Int} (h : UG k s w w1 n cs x) (j : Nat) (v : Value) : UG k s w (w1.setCell ⟨k + 2, j, none⟩ v) n (cs.setIfInBounds j v) x :=
  ⟨⟨h.1.1.other _ (by simp) _, h.1.2⟩, h.2.1.set (l1 := [_, _]) (l2 := [_, _]) j v (by simp) (by simp), h.2.2.setCell (by simp) _⟩
theorem UG.drew {k : Nat} {s : ByteArray} {w w1 : World} {n : Nat} {cs : Array Value} {x : Int} (h : UG k s w w1 n cs x) : UG k s w w1.drew n cs x := ⟨h.1, h.2.1, h.2.2.drew⟩
theorem UG.facts {k : Nat} {s : ByteArray} {w w1 : World} {n : Nat} {cs : Array Value} {x : Int} (h : UG k s w w1 n cs x) :
    w1.cell? ⟨k, 0, none⟩ = some (.string s) ∧ (∀ j, w1.frozen? ⟨k + 2, j, none⟩ = false) ∧ (∀ j, w1.cell? ⟨k + 2, j, none⟩ = cs[j]?) :=
  ⟨h.2.1.head.cell 0 _ rfl, h.2.1.tail.tail.head.frees, h.2.1.tail.tail.head.cells⟩

theorem panicOut {P : Program} {fn : Func} {R : Ending → World → Prop} {ch : List PanicEntry} {a : Act} {w : World} (h : wpAny P .any #[] (fun _ a w => bodyPost P fn R (.panic ch) a w) 0 #[] a w) : bodyPost P fn R (.panic ch) a w := h.2
def udpErr (s : ByteArray) : Int := if s.size < 8 then 2 else if be (bl (s.extract 4 6)) = s.size then 0 else 4

set_option maxHeartbeats 1000000 in
set_option maxRecDepth 100000 in
theorem udp_Get1.len (k : Nat) (s : ByteArray) (w w1 : World) (h : UG k s w w1 0 #[.int .i64 0, .int .i64 0, .string ⟨#[]⟩] 0) (h8 : 8 ≤ s.size) (hne : ¬ be (bl (s.extract 4 6)) = s.size) :
    Calls Tryd.prog 109 #[.pointer (some ⟨k + 5, 0, none⟩), .pointer (some ⟨k, 0, none⟩), .pointer (some ⟨k + 2, 0, none⟩), .pointer (some ⟨k + 3, 0, none⟩)] w1 fun e w2 => e = stopped 4 ∧ ∃ n cs x, UG k s w w2 n cs x := by
  have HG := Aside0.mk h
  obtain ⟨c0, c1, c2⟩ := h.facts
  have d1 : decide ((8 : Int) ≤ (s.size : Int)) = true := decide_eq_true (by omega)
  clear h
  go_enter Tryd.func109, Tryd.ntmps109
  go_wp2_with fail
  refine (Reader_Need.yes _ _ _).mono ?_
  rintro e w2 ⟨rfl, rfl⟩
  go_wp2_with fail
  refine (Reader_U16.yes _ _ _ _ HG.out.1 (by omega)).mono ?_
  rintro e w2 ⟨rfl, g1⟩
  replace HG := Aside0.mk (HG.out.went g1)
  clear g1 c0 c1 c2
  go_wp2_with fail
  refine (Reader_U16.yes _ _ _ _ HG.out.1 (by omega)).mono ?_
  rintro e w2 ⟨rfl, g1⟩
  replace HG := Aside0.mk (HG.out.went g1)
  clear g1
  obtain ⟨c0, c1, c2⟩ := HG.out.facts
  go_wp2_with fail
  replace HG := Aside0.mk ((HG.out.put 0 (.int .i64 (be (bl (s.extract 0 2)) : Nat))).put 1 (.int .i64 (be (bl (s.extract 2 4)) : Nat)))
  clear c0 c1 c2
  generalize (w2.setCell ⟨k + 2, 0, none⟩ (.int .i64 (be (bl (s.extract 0 2)) : Nat))).setCell ⟨k + 2, 1, none⟩ (.int .i64 (be (bl (s.extract 2 4)) : Nat)) = wa at HG ⊢
  obtain ⟨c0, c1, c2⟩ := HG.out.facts
  clear c1 c2
  have d2 : (((be (bl (s.extract 4 6)) : Nat) : Int) == (s.size : Int)) = false := by rw [beq_eq_false_iff_ne]; omega
  have d3 : ((be (bl (s.extract 4 6))) == s.size) = false := by rw [beq_eq_false_iff_ne]; exact hne
  clear hne
  go_region_with ((first
      | (go_at_call 66; refine (Reader_U16.yes _ _ 4 _ HG.out.drew.1 ?_).mono ?_; omega; rintro e w3 ⟨rfl, g1⟩; have HG3 := Aside0.mk (HG.out.drew.went g1); have c3 := HG3.out.facts.1; clear g1)
      | (go_at_call 65; refine (Reader_Need.no _ _ _).mono ?_; rintro e w4 ⟨rfl, rfl⟩; refine panicOut ?_)))
  all_goals exact ⟨rfl, rfl, _, _, _, HG3.out⟩

theorem UG.putSum {k : Nat} {s : ByteArray} {w w1 : World} {n : Nat} {cs : Array Value} {x : Int} (h : UG k s w w1 n cs x) (y : Int) : UG k s w (w1.setCell ⟨k + 3, 0, none⟩ (.int .i64 y)) n cs y :=
  ⟨⟨h.1.1.other _ (by simp) _, h.1.2⟩, h.2.1.set (l1 := [_, _, _]) (l2 := [_]) 0 (.int .i64 y) (by simp) (by simp), h.2.2.setCell (by simp) _⟩
theorem UG.sumFree {k : Nat} {s : ByteArray} {w w1 : World} {n : Nat} {cs : Array Value} {x : Int} (h : UG k s w w1 n cs x) :
    w1.cell? ⟨k + 3, 0, none⟩ = some (.int .i64 x) ∧ w1.frozen? ⟨k + 3, 0, none⟩ = false :=
  ⟨h.2.1.tail.tail.tail.head.cell 0 _ rfl, h.2.1.tail.tail.tail.head.free 0⟩

set_option maxHeartbeats 1000000 in
set_option maxRecDepth 100000 in
theorem udp_Get1.short (k : Nat) (s : ByteArray) (w w1 : World) (h : UG k s w w1 0 #[.int .i64 0, .int .i64 0, .string ⟨#[]⟩] 0) (h8 : s.size < 8) :
    Calls Tryd.prog 109 #[.pointer (some ⟨k + 5, 0, none⟩), .pointer (some ⟨k, 0, none⟩), .pointer (some ⟨k + 2, 0, none⟩), .pointer (some ⟨k + 3, 0, none⟩)] w1 fun e w2 => e = stopped 2 ∧ ∃ n cs x, UG k s w w2 n cs x := by
  have HG := Aside0.mk h
  obtain ⟨c0, c1, c2⟩ := h.facts
  have d1 : decide ((8 : Int) ≤ (s.size : Int)) = false := decide_eq_false (by omega)
  clear h
  go_enter Tryd.func109, Tryd.ntmps109
  go_wp2_with fail
  refine (Reader_Need.no _ _ _).mono ?_
  rintro e w2 ⟨rfl, rfl⟩
  exact ⟨rfl, rfl, _, _, _, HG.out⟩

set_option maxHeartbeats 1000000 in
set_option maxRecDepth 100000 in
theorem udp_Get1.ok (k : Nat) (s : ByteArray) (w w1 : World) (h : UG k s w w1 0 #[.int .i64 0, .int .i64 0, .string ⟨#[]⟩] 0) (h8 : 8 ≤ s.size) (heq : be (bl (s.extract 4 6)) = s.size) :
    Calls Tryd.prog 109 #[.pointer (some ⟨k + 5, 0, none⟩), .pointer (some ⟨k, 0, none⟩), .pointer (some ⟨k + 2, 0, none⟩), .pointer (some ⟨k + 3, 0, none⟩)] w1 fun e w2 => e = .returned (.tuple #[]) ∧
      UG k s w w2 s.size #[.int .i64 (be (bl (s.extract 0 2)) : Nat), .int .i64 (be (bl (s.extract 2 4)) : Nat), .string (s.extract 8 s.size)] (be (bl (s.extract 6 8)) : Nat) := by
  have HG := Aside0.mk h
  obtain ⟨c0, c1, c2⟩ := h.facts
  have d1 : decide ((8 : Int) ≤ (s.size : Int)) = true := decide_eq_true (by omega)
  clear h
  go_enter Tryd.func109, Tryd.ntmps109
  go_wp2_with fail
  refine (Reader_Need.yes _ _ _).mono ?_
  rintro e w2 ⟨rfl, rfl⟩
  go_wp2_with fail
  refine (Reader_U16.yes _ _ _ _ HG.out.1 (by omega)).mono ?_
  rintro e w2 ⟨rfl, g1⟩
  replace HG := Aside0.mk (HG.out.went g1)
  clear g1 c0 c1 c2
  go_wp2_with fail
  refine (Reader_U16.yes _ _ _ _ HG.out.1 (by omega)).mono ?_
  rintro e w2 ⟨rfl, g1⟩
  replace HG := Aside0.mk (HG.out.went g1)
  clear g1
  obtain ⟨c0, c1, c2⟩ := HG.out.facts
  go_wp2_with fail
  replace HG := Aside0.mk ((HG.out.put 0 (.int .i64 (be (bl (s.extract 0 2)) : Nat))).put 1 (.int .i64 (be (bl (s.extract 2 4)) : Nat)))
  clear c0 c1 c2
  generalize (w2.setCell ⟨k + 2, 0, none⟩ (.int .i64 (be (bl (s.extract 0 2)) : Nat))).setCell ⟨k + 2, 1, none⟩ (.int .i64 (be (bl (s.extract 2 4)) : Nat)) = wa at HG ⊢
  obtain ⟨c0, c1, c2⟩ := HG.out.facts
  clear c1 c2
  have d2 : (((be (bl (s.extract 4 6)) : Nat) : Int) == (s.size : Int)) = true := by rw [heq]; exact beq_self_eq_true _
  have d3 : ((be (bl (s.extract 4 6))) == s.size) = true := by rw [heq]; exact beq_self_eq_true _
  clear heq
  go_region_with ((first
      | (go_at_call 66; refine (Reader_U16.yes _ _ 4 _ HG.out.drew.1 ?_).mono ?_; omega; rintro e w3 ⟨rfl, g1⟩; have HG3 := Aside0.mk (HG.out.drew.went g1); have c3 := HG3.out.facts.1; clear g1)
      | (go_at_call 65; refine (Reader_Need.yes _ _ _).mono ?_; rintro e w4 ⟨rfl, rfl⟩)))
  all_goals
    clear c3 c0
    go_wp2_with fail
    refine (Reader_U16.yes _ _ _ _ HG3.out.1 (by omega)).mono ?_
    rintro e w5 ⟨rfl, g1⟩
    replace HG := Aside0.mk (HG3.out.went g1)
    clear g1 HG3
    go_wp2_with fail
    refine (Reader_Rest.calls _ _ _ _ HG.out.1).mono ?_
    rintro e w6 ⟨rfl, g1⟩
    replace HG := Aside0.mk (HG.out.went g1)
    clear g1
    obtain ⟨c0, c1, c2⟩ := HG.out.facts
    obtain ⟨c3, c4⟩ := HG.out.sumFree
    go_wp2
    go_end0
    exact ⟨rfl, (HG.out.putSum _).put 2 _⟩

def udp_Get.f (s : ByteArray) : Option (Int × Int × ByteArray × Int × Int) :=
  if s.size ≤ 140737488351232 then some (if udpErr s = 0 then ((be (bl (s.extract 0 2)) : Nat), (be (bl (s.extract 2 4)) : Nat), s.extract 8 s.size, (be (bl (s.extract 6 8)) : Nat), 0) else (0, 0, empty, 0, udpErr s)) else none

def UR (k : Nat) (s : ByteArray) (w w1 : World) : Prop :=
  ∃ cs x, Hp w1 [(k, 9, #[.string s]), (k + 1, 81, #[.int .i64 0, .int .i64 0, .string ⟨#[]⟩]), (k + 2, 81, cs), (k + 3, 3, #[.int .i64 x])] ∧ Below k w w1 ∧
    (udpErr s = 0 → cs = #[.int .i64 (be (bl (s.extract 0 2)) : Nat), .int .i64 (be (bl (s.extract 2 4)) : Nat), .string (s.extract 8 s.size)] ∧ x = (be (bl (s.extract 6 8)) : Nat))
theorem UG.done {k : Nat} {s : ByteArray} {w w1 w2 : World} {n : Nat} {cs : Array Value} {x : Int} (h : UG k s w w1 n cs x) (hw : w1.grownBy w2 (some (k + 4)))
    (hx : udpErr s = 0 → cs = #[.int .i64 (be (bl (s.extract 0 2)) : Nat), .int .i64 (be (bl (s.extract 2 4)) : Nat), .string (s.extract 8 s.size)] ∧ x = (be (bl (s.extract 6 8)) : Nat)) : UR k s w w2 :=
  ⟨cs, x, Hp.grown (R := k + 4) (fun y hy => h.2.1 y (by simp at hy ⊢; rcases hy with rfl | rfl | rfl | rfl <;> simp)) hw (by simp), h.2.2.trans (below_of_grown hw (by have := h.1.1.lt; omega) (by omega)), hx⟩

set_option maxRecDepth 100000 in
theorem udp_Get.reads (s : ByteArray) (hs : s.size ≤ 140737488351232) (w : World) :
    Calls Tryd.prog 63 #[.string s, .func (.func 109) #[] #[.pointer (some ⟨w.heap.size, 0, none⟩), .pointer (some ⟨w.heap.size + 1 + 1, 0, none⟩), .pointer (some ⟨w.heap.size + 1 + 1 + 1, 0, none⟩)]]
      ((((w.alloc (.cells #[.string s] 9)).alloc (.cells #[.int .i64 0, .int .i64 0, .string ⟨#[]⟩] 81)).alloc (.cells #[.int .i64 0, .int .i64 0, .string ⟨#[]⟩] 81)).alloc (.cells #[.int .i64 0] 3))
      fun e w' => e = .returned (.int .i64 (udpErr s)) ∧ UR w.heap.size s w w' := by
  obtain ⟨W, hW⟩ : ∃ W, W = ((((w.alloc (.cells #[.string s] 9)).alloc (.cells #[.int .i64 0, .int .i64 0, .string ⟨#[]⟩] 81)).alloc (.cells #[.int .i64 0, .int .i64 0, .string ⟨#[]⟩] 81)).alloc (.cells #[.int .i64 0] 3)) := ⟨_, rfl⟩
  have hk : W.heap.size = w.heap.size + 4 := by rw [hW]; simp
  have b0 : Blk W w.heap.size 9 #[.string s] := by rw [hW]; exact (((Blk.new w _ _).alloc _).alloc _).alloc _
  have b1 : Blk W (w.heap.size + 1) 81 #[.int .i64 0, .int .i64 0, .string ⟨#[]⟩] := by
    rw [hW]
    have := Blk.new (w.alloc (.cells #[.string s] 9)) 81 #[.int .i64 0, .int .i64 0, .string ⟨#[]⟩]
    rw [World.size_alloc] at this
    exact (this.alloc _).alloc _
  have b2 : Blk W (w.heap.size + 2) 81 #[.int .i64 0, .int .i64 0, .string ⟨#[]⟩] := by
    rw [hW]
    have := Blk.new ((w.alloc (.cells #[.string s] 9)).alloc (.cells #[.int .i64 0, .int .i64 0, .string ⟨#[]⟩] 81)) 81 #[.int .i64 0, .int .i64 0, .string ⟨#[]⟩]
    rw [World.size_alloc, World.size_alloc] at this
    exact this.alloc _
  have b3 : Blk W (w.heap.size + 3) 3 #[.int .i64 0] := by
    rw [hW]
    have := Blk.new (((w.alloc (.cells #[.string s] 9)).alloc (.cells #[.int .i64 0, .int .i64 0, .string ⟨#[]⟩] 81)).alloc (.cells #[.int .i64 0, .int .i64 0, .string ⟨#[]⟩] 81)) 3 #[.int .i64 0]
    rw [World.size_alloc, World.size_alloc, World.size_alloc] at this
    exact this
  have hb : Below w.heap.size w W := by
    rw [hW]
    exact ((((Below.refl _ _).alloc (Nat.le_refl _) _).alloc (by simp) _).alloc (by simp; omega) _).alloc (by simp; omega) _
  rw [← hW]
  clear hW
  have hrd := readW_rd W s hs
  have hres := readW_res W s
  have hbl := readW_below W s
  rw [hk] at hrd hres hbl
  have hG : UG w.heap.size s w (readW W s) 0 #[.int .i64 0, .int .i64 0, .string ⟨#[]⟩] 0 :=
    ⟨hrd, .cons (b0.below hbl (by omega)) (.cons (b1.below hbl (by omega)) (.cons (b2.below hbl (by omega)) (.cons (b3.below hbl (by omega)) (.cons hres (.nil _))))), hb.trans (hbl.mono (by omega))⟩
  have hrd' : ∀ Q : World → Prop, Calls Tryd.prog 109 (#[.pointer (some ⟨W.heap.size + 1, 0, none⟩)] ++ #[.pointer (some ⟨w.heap.size, 0, none⟩), .pointer (some ⟨w.heap.size + 1 + 1, 0, none⟩), .pointer (some ⟨w.heap.size + 1 + 1 + 1, 0, none⟩)]) (readW W s) (fun e w2 => e = did (udpErr s) ∧ Blk w2 W.heap.size 24 #[.int .i64 0] ∧ Q w2) →
      Calls Tryd.prog 63 #[.string s, .func (.func 109) #[] #[.pointer (some ⟨w.heap.size, 0, none⟩), .pointer (some ⟨w.heap.size + 1 + 1, 0, none⟩), .pointer (some ⟨w.heap.size + 1 + 1 + 1, 0, none⟩)]] W
        fun e w' => e = .returned (.int .i64 (udpErr s)) ∧ ∃ w2, Q w2 ∧ w2.grownBy w' (some W.heap.size) :=
    fun Q h => Read_calls 109 _ s (udpErr s) W Q (fun _ _ => rfl) h
  rw [hk] at hrd'
  clear hrd hres hbl b0 b1 b2 b3 hb
  by_cases h8 : s.size < 8
  · have he : udpErr s = 2 := if_pos h8
    rw [he] at hrd' ⊢
    refine (hrd' (fun w2 => ∃ n cs x, UG w.heap.size s w w2 n cs x) ?_).mono ?_
    · refine (udp_Get1.short w.heap.size s w (readW W s) hG h8).mono ?_
      rintro e w2 ⟨rfl, n, cs, x, hu⟩
      exact ⟨rfl, hu.2.1.tail.tail.tail.tail.head, n, cs, x, hu⟩
    · rintro e w' ⟨rfl, w2, ⟨n, cs, x, hu⟩, hg⟩
      exact ⟨rfl, hu.done hg (fun h0 => absurd (he.symm.trans h0) (by decide))⟩
  · by_cases heq : be (bl (s.extract 4 6)) = s.size
    · have he : udpErr s = 0 := by unfold udpErr; rw [if_neg h8, if_pos heq]
      rw [he] at hrd' ⊢
      refine (hrd' (fun w2 => UG w.heap.size s w w2 s.size #[.int .i64 (be (bl (s.extract 0 2)) : Nat), .int .i64 (be (bl (s.extract 2 4)) : Nat), .string (s.extract 8 s.size)] (be (bl (s.extract 6 8)) : Nat)) ?_).mono ?_
      · refine (udp_Get1.ok w.heap.size s w (readW W s) hG (by omega) heq).mono ?_
        rintro e w2 ⟨rfl, hu⟩
        exact ⟨rfl, hu.2.1.tail.tail.tail.tail.head, hu⟩
      · rintro e w' ⟨rfl, w2, hu, hg⟩
        exact ⟨rfl, hu.done hg (fun _ => ⟨rfl, rfl⟩)⟩
    · have he : udpErr s = 4 := by unfold udpErr; rw [if_neg h8, if_neg heq]
      rw [he] at hrd' ⊢
      refine (hrd' (fun w2 => ∃ n cs x, UG w.heap.size s w w2 n cs x) ?_).mono ?_
      · refine (udp_Get1.len w.heap.size s w (readW W s) hG (by omega) heq).mono ?_
        rintro e w2 ⟨rfl, n, cs, x, hu⟩
        exact ⟨rfl, hu.2.1.tail.tail.tail.tail.head, n, cs, x, hu⟩
      · rintro e w' ⟨rfl, w2, ⟨n, cs, x, hu⟩, hg⟩
        exact ⟨rfl, hu.done hg (fun h0 => absurd (he.symm.trans h0) (by decide))⟩

set_option maxHeartbeats 1000000 in
set_option maxRecDepth 100000 in
theorem udp_Get.calls (s : ByteArray) (r1 r2 : Int) (r3 : ByteArray) (r4 r5 : Int) (w : World) (h : udp_Get.f s = some (r1, r2, r3, r4, r5)) :
    Calls Tryd.prog 75 #[.string s] w fun e w' => e = .returned (.tuple #[.agg #[.int .i64 r1, .int .i64 r2, .string r3], .int .i64 r4, .int .i64 r5]) ∧ Below w.heap.size w w' := by
  unfold udp_Get.f at h
  by_cases hs : s.size ≤ 140737488351232
  case neg => rw [if_neg hs] at h; exact absurd h (by simp)
  rw [if_pos hs] at h
  have hmf : ∀ (fn : Fn) (first cap : Array Value) (w : World), (Instr.makeFunc fn first cap).run Tryd.prog w = .ok (.func fn first cap) w := fun _ _ _ _ => rfl
  have hu := Tryd.underlying81
  have HS := Aside0.mk hs
  clear hs
  by_cases h0 : udpErr s = 0
  · rw [if_pos h0] at h
    obtain ⟨rfl, rfl, rfl, rfl, rfl⟩ : (be (bl (s.extract 0 2)) : Nat) = r1 ∧ (be (bl (s.extract 2 4)) : Nat) = r2 ∧ s.extract 8 s.size = r3 ∧ (be (bl (s.extract 6 8)) : Nat) = r4 ∧ 0 = r5 := by
      have h := Option.some.inj h; simp only [Prod.mk.injEq] at h; exact h
    have d1 : (udpErr s != 0) = false := bne_eq_false_iff_eq.mpr h0
    replace h := Aside0.mk h0
    clear h0
    go_enter Tryd.func75, Tryd.ntmps75
    go_wp2_with fail
    refine (udp_Get.reads s HS.out w).mono ?_
    rintro e w2 ⟨rfl, cs, x, hp, hb, hx⟩
    obtain ⟨rfl, rfl⟩ := hx h.out
    have HB := Aside0.mk hb
    have c1 := hp.tail.head.cells
    have c2 := hp.tail.head.frees
    have c3 := hp.tail.tail.head.cells
    have c4 := hp.tail.tail.tail.head.cell 0 _ rfl
    have HK := Aside0.mk hp.tail.head
    clear hp hb hx
    go_wp2_with fail
    go_region
    all_goals
      have c5 := (((HK.out.set 0 (.int .i64 (be (bl (s.extract 0 2)) : Nat))).set 1 (.int .i64 (be (bl (s.extract 2 4)) : Nat))).set 2 (.string (s.extract 8 s.size))).drew.cells
      simp only [List.setIfInBounds_toArray, List.set_cons_zero, List.set_cons_succ] at c5
      clear c1 c2 c3 c4
      go_wp2
      refine ⟨rfl, _, ?_, rfl, ?_⟩
      rotate_left
      · exact (((HB.out.setCell (by simp) _).setCell (by simp) _).setCell (by simp) _).drew
      simp [results, Tryd.results75, go_sem, hu, c5]
  · rw [if_neg h0] at h
    obtain ⟨rfl, rfl, rfl, rfl, rfl⟩ : 0 = r1 ∧ 0 = r2 ∧ empty = r3 ∧ 0 = r4 ∧ udpErr s = r5 := by
      have h := Option.some.inj h; simp only [Prod.mk.injEq] at h; exact h
    have d1 : (udpErr s != 0) = true := bne_iff_ne.mpr h0
    clear h h0
    go_enter Tryd.func75, Tryd.ntmps75
    go_wp2_with fail
    refine (udp_Get.reads s HS.out w).mono ?_
    rintro e w2 ⟨rfl, cs, x, hp, hb, hx⟩
    have HB := Aside0.mk hb
    have c1 := hp.tail.head.cells
    have c2 := hp.tail.head.frees
    have HK := Aside0.mk hp.tail.head
    clear hp hb hx
    go_wp2
    have c5 := (((HK.out.set 0 (.int .i64 0)).set 1 (.int .i64 0)).set 2 (.string ⟨#[]⟩)).cells
    simp only [List.setIfInBounds_toArray, List.set_cons_zero, List.set_cons_succ] at c5
    clear c1 c2
    refine ⟨rfl, _, ?_, rfl, ?_⟩
    rotate_left
    · exact ((HB.out.setCell (by simp) _).setCell (by simp) _).setCell (by simp) _
    simp [results, Tryd.results75, go_sem, hu, c5]
    rfl
end Go.Proofs.YtcmalglippmocaaDoor.G
end
