/- Texts of this session, joined: each is a section. -/
import Derived.Test.YtejmipoolbodgaaMTcpTells7
import Derived.Test.YtejmipoolbodgaaMTcpTells8
import Derived.WalkLawsBesides
import Derived.Deep.RegionWith
import Derived.Test.YtejmipoolbodgaaMTcpTells1
import Derived.Test.YtejmipoolbodgaaMTcpTells2
import Derived.RegionTactic
import Derived.StillTailTactics
set_option linter.unusedVariables false
set_option linter.unusedSimpArgs false
section
/- By hand: tcp.Check, tcp.Put. Printed by wip/gen/tcpchk.py. -/
namespace Go.Proofs.Ytejmipoolbodgaa.G
open Go.RowKit Go.Proofs.YtejmipoolbodgaaW.PrintWords Go.Proofs.YtejmipoolbodgaaW.PrintLast Go.Proofs.YtejmipoolbodgaaW.PrintMore Go.Proofs.Ytejmipoolbodgaa.Pal
set_option linter.unusedVariables false
set_option linter.unusedSimpArgs false

set_option maxHeartbeats 2000000 in
set_option maxRecDepth 100000 in
theorem tcp_Check.calls (a0_0 a0_1 a0_2 a0_3 a0_4 a0_5 a0_6 : Int) (a0_7 a0_8 : ByteArray) (r : Int) (w : World) (h : tcp_Check.f a0_0 a0_1 a0_2 a0_3 a0_4 a0_5 a0_6 a0_7 a0_8 = some r) :
    Calls Try.prog 109 #[.agg #[.int .i64 a0_0, .int .i64 a0_1, .int .u32 a0_2, .int .u32 a0_3, .int .i64 a0_4, .int .i64 a0_5, .int .i64 a0_6, .string a0_7, .string a0_8]] w fun e w' => e = .returned (.int .i64 r) ∧ Below w.heap.size w w' := by
  obtain rfl := Option.some.inj h
  clear h
  have hu := Try.underlying127
  have i0 : ∀ w, (Instr.index 176 (.agg #[.int .i64 a0_0, .int .i64 a0_1, .int .i64 a0_5, .int .i64 a0_6]) (.int .i64 0)).run Try.prog w = .ok (.int .i64 a0_0) w := fun _ => by kernel_rfl
  have i1 : ∀ w, (Instr.index 176 (.agg #[.int .i64 a0_0, .int .i64 a0_1, .int .i64 a0_5, .int .i64 a0_6]) (.int .i64 1)).run Try.prog w = .ok (.int .i64 a0_1) w := fun _ => by kernel_rfl
  have i2 : ∀ w, (Instr.index 176 (.agg #[.int .i64 a0_0, .int .i64 a0_1, .int .i64 a0_5, .int .i64 a0_6]) (.int .i64 2)).run Try.prog w = .ok (.int .i64 a0_5) w := fun _ => by kernel_rfl
  have i3 : ∀ w, (Instr.index 176 (.agg #[.int .i64 a0_0, .int .i64 a0_1, .int .i64 a0_5, .int .i64 a0_6]) (.int .i64 3)).run Try.prog w = .ok (.int .i64 a0_6) w := fun _ => by kernel_rfl
  go_enter Try.func109, Try.ntmps109
  go_wp2
  have HB := Aside0.mk ((Below.refl w.heap.size w).alloc (Nat.le_refl _) (.cells #[.int .i64 a0_0, .int .i64 a0_1, .int .u32 a0_2, .int .u32 a0_3, .int .i64 a0_4, .int .i64 a0_5, .int .i64 a0_6, .string a0_7, .string a0_8] 127))
  have hc := (Blk.new w 127 #[.int .i64 a0_0, .int .i64 a0_1, .int .u32 a0_2, .int .u32 a0_3, .int .i64 a0_4, .int .i64 a0_5, .int .i64 a0_6, .string a0_7, .string a0_8]).cells
  generalize w.alloc (.cells #[.int .i64 a0_0, .int .i64 a0_1, .int .u32 a0_2, .int .u32 a0_3, .int .i64 a0_4, .int .i64 a0_5, .int .i64 a0_6, .string a0_7, .string a0_8] 127) = w1 at HB hc ⊢
  go_loopg [14] 4 (fun kq vq wr => ∃ i : Nat, vq = .int .i64 (i : Int) ∧ Aside0 (i + kq = 4) ∧ Aside0 (1 ≤ i → in16 a0_0) ∧ Aside0 (2 ≤ i → in16 a0_1) ∧ Aside0 (3 ≤ i → in16 a0_5) ∧ Aside0 (4 ≤ i → in16 a0_6) ∧ Aside0 (wr = w1))
  case atStart => exact ⟨0, rfl, ⟨rfl⟩, ⟨by omega⟩, ⟨by omega⟩, ⟨by omega⟩, ⟨by omega⟩, ⟨rfl⟩⟩
  case round =>
    obtain ⟨i, rfl, HK, H0, H1, H2, H3, HE⟩ := hrel
    obtain rfl := HE.out
    match i, HK, H0, H1, H2, H3 with
    | 0, HK, H0, H1, H2, H3 =>
      clear i1 i2 i3
      by_cases c1 : a0_0 < 0
      · have d1 : decide (a0_0 < 0) = true := decide_eq_true c1
        go_wp2
        go_ret
        exact ⟨by rw [tcpCheck, if_neg (by unfold tcpOk in16; omega)]; rfl, HB.out⟩
      · have d1 : decide (a0_0 < 0) = false := decide_eq_false c1
        by_cases c2 : 65535 < a0_0
        · have d2 : decide (65535 < a0_0) = true := decide_eq_true c2
          go_wp2
          go_ret
          exact ⟨by rw [tcpCheck, if_neg (by unfold tcpOk in16; omega)]; rfl, HB.out⟩
        · have d2 : decide (65535 < a0_0) = false := decide_eq_false c2
          go_wp2
          go_roundg 3
          case measure => have := HK.out; omega
          case rel => exact ⟨1, rfl, ⟨rfl⟩, ⟨fun _ => by unfold in16; omega⟩, ⟨by omega⟩, ⟨by omega⟩, ⟨by omega⟩, ⟨rfl⟩⟩
    | 1, HK, H0, H1, H2, H3 =>
      clear i0 i2 i3
      by_cases c1 : a0_1 < 0
      · have d1 : decide (a0_1 < 0) = true := decide_eq_true c1
        go_wp2
        go_ret
        exact ⟨by rw [tcpCheck, if_neg (by unfold tcpOk in16; omega)]; rfl, HB.out⟩
      · have d1 : decide (a0_1 < 0) = false := decide_eq_false c1
        by_cases c2 : 65535 < a0_1
        · have d2 : decide (65535 < a0_1) = true := decide_eq_true c2
          go_wp2
          go_ret
          exact ⟨by rw [tcpCheck, if_neg (by unfold tcpOk in16; omega)]; rfl, HB.out⟩
        · have d2 : decide (65535 < a0_1) = false := decide_eq_false c2
          go_wp2
          go_roundg 2
          case measure => have := HK.out; omega
          case rel => exact ⟨2, rfl, ⟨rfl⟩, ⟨fun _ => H0.out (by omega)⟩, ⟨fun _ => by unfold in16; omega⟩, ⟨by omega⟩, ⟨by omega⟩, ⟨rfl⟩⟩
    | 2, HK, H0, H1, H2, H3 =>
      clear i0 i1 i3
      by_cases c1 : a0_5 < 0
      · have d1 : decide (a0_5 < 0) = true := decide_eq_true c1
        go_wp2
        go_ret
        exact ⟨by rw [tcpCheck, if_neg (by unfold tcpOk in16; omega)]; rfl, HB.out⟩
      · have d1 : decide (a0_5 < 0) = false := decide_eq_false c1
        by_cases c2 : 65535 < a0_5
        · have d2 : decide (65535 < a0_5) = true := decide_eq_true c2
          go_wp2
          go_ret
          exact ⟨by rw [tcpCheck, if_neg (by unfold tcpOk in16; omega)]; rfl, HB.out⟩
        · have d2 : decide (65535 < a0_5) = false := decide_eq_false c2
          go_wp2
          go_roundg 1
          case measure => have := HK.out; omega
          case rel => exact ⟨3, rfl, ⟨rfl⟩, ⟨fun _ => H0.out (by omega)⟩, ⟨fun _ => H1.out (by omega)⟩, ⟨fun _ => by unfold in16; omega⟩, ⟨by omega⟩, ⟨rfl⟩⟩
    | 3, HK, H0, H1, H2, H3 =>
      clear i0 i1 i2
      by_cases c1 : a0_6 < 0
      · have d1 : decide (a0_6 < 0) = true := decide_eq_true c1
        go_wp2
        go_ret
        exact ⟨by rw [tcpCheck, if_neg (by unfold tcpOk in16; omega)]; rfl, HB.out⟩
      · have d1 : decide (a0_6 < 0) = false := decide_eq_false c1
        by_cases c2 : 65535 < a0_6
        · have d2 : decide (65535 < a0_6) = true := decide_eq_true c2
          go_wp2
          go_ret
          exact ⟨by rw [tcpCheck, if_neg (by unfold tcpOk in16; omega)]; rfl, HB.out⟩
        · have d2 : decide (65535 < a0_6) = false := decide_eq_false c2
          go_wp2
          go_roundg 0
          case measure => have := HK.out; omega
          case rel => exact ⟨4, rfl, ⟨rfl⟩, ⟨fun _ => H0.out (by omega)⟩, ⟨fun _ => H1.out (by omega)⟩, ⟨fun _ => H2.out (by omega)⟩, ⟨fun _ => by unfold in16; omega⟩, ⟨rfl⟩⟩
    | 4, HK, H0, H1, H2, H3 =>
      clear i0 i1 i2 i3
      have HA : Aside0 (in16 a0_0 ∧ in16 a0_1 ∧ in16 a0_5 ∧ in16 a0_6) := ⟨⟨H0.out (by omega), H1.out (by omega), H2.out (by omega), H3.out (by omega)⟩⟩
      by_cases c1 : a0_4 < 0
      · have d1 : decide (a0_4 < 0) = true := decide_eq_true c1
        have HC : Aside0 (tcpCheck a0_0 a0_1 a0_4 a0_5 a0_6 a0_7 = 1) := ⟨by rw [tcpCheck, if_neg (by unfold tcpOk; omega)]⟩
        clear c1
        go_wp2
        go_ret
        exact ⟨by rw [HC.out]; rfl, HB.out⟩
      have d1 : decide (a0_4 < 0) = false := decide_eq_false c1
      by_cases c2 : 255 < a0_4
      · have d2 : decide (255 < a0_4) = true := decide_eq_true c2
        have HC : Aside0 (tcpCheck a0_0 a0_1 a0_4 a0_5 a0_6 a0_7 = 1) := ⟨by rw [tcpCheck, if_neg (by unfold tcpOk; omega)]⟩
        clear c1 c2
        go_wp2
        go_ret
        exact ⟨by rw [HC.out]; rfl, HB.out⟩
      have d2 : decide (255 < a0_4) = false := decide_eq_false c2
      by_cases c3 : 40 < a0_7.size
      · have d3 : decide ((40 : Int) < (a0_7.size : Int)) = true := decide_eq_true (by omega)
        have d4 : decide (40 < a0_7.size) = true := decide_eq_true c3
        have HC : Aside0 (tcpCheck a0_0 a0_1 a0_4 a0_5 a0_6 a0_7 = 1) := ⟨by rw [tcpCheck, if_neg (by unfold tcpOk; omega)]⟩
        clear c1 c2 c3
        go_wp2
        go_ret
        exact ⟨by rw [HC.out]; rfl, HB.out⟩
      have d3 : decide ((40 : Int) < (a0_7.size : Int)) = false := decide_eq_false (by omega)
      have d4 : decide (40 < a0_7.size) = false := decide_eq_false c3
      by_cases c4 : a0_7.size % 4 = 0
      · have d5 : ((a0_7.size : Int) % 4 != 0) = false := by rw [bne_eq_false_iff_eq]; omega
        have d6 : (a0_7.size % 4 != 0) = false := by rw [bne_eq_false_iff_eq]; exact c4
        have d7 : ((a0_7.size : Int) % 4 == 0) = true := by rw [beq_iff_eq]; omega
        have HC : Aside0 (tcpCheck a0_0 a0_1 a0_4 a0_5 a0_6 a0_7 = 0) := ⟨by rw [tcpCheck, if_pos ⟨HA.out.1, HA.out.2.1, HA.out.2.2.1, HA.out.2.2.2, by omega, by omega, c4⟩]⟩
        clear c1 c2 c3 c4
        go_wp2
        go_ret
        exact ⟨by rw [HC.out]; rfl, HB.out⟩
      · have d5 : ((a0_7.size : Int) % 4 != 0) = true := by rw [bne_iff_ne]; omega
        have d6 : (a0_7.size % 4 != 0) = true := by rw [bne_iff_ne]; exact c4
        have d7 : ((a0_7.size : Int) % 4 == 0) = false := by rw [beq_eq_false_iff_ne]; omega
        have HC : Aside0 (tcpCheck a0_0 a0_1 a0_4 a0_5 a0_6 a0_7 = 1) := ⟨by rw [tcpCheck, if_neg (by unfold tcpOk; omega)]⟩
        clear c1 c2 c3 c4
        go_wp2
        go_ret
        exact ⟨by rw [HC.out]; rfl, HB.out⟩
    | i + 5, HK, H0, H1, H2, H3 => exact absurd HK.out (by omega)

set_option maxHeartbeats 4000000 in
set_option maxRecDepth 100000 in
theorem tcp_Put.calls (a0_0 a0_1 a0_2 a0_3 a0_4 a0_5 a0_6 : Int) (a0_7 a0_8 : ByteArray) (a1 : Int) (r1 : ByteArray) (r2 : Int) (w : World) (h : tcp_Put.f a0_0 a0_1 a0_2 a0_3 a0_4 a0_5 a0_6 a0_7 a0_8 a1 = some (r1, r2)) :
    Calls Try.prog 105 #[.agg #[.int .i64 a0_0, .int .i64 a0_1, .int .u32 a0_2, .int .u32 a0_3, .int .i64 a0_4, .int .i64 a0_5, .int .i64 a0_6, .string a0_7, .string a0_8], .int .i64 a1] w fun e w' => e = .returned (.tuple #[.string r1, .int .i64 r2]) ∧ Below w.heap.size w w' := by
  unfold tcp_Put.f at h
  have hu := Try.underlying127
  have HB := Aside0.mk ((Below.refl w.heap.size w).alloc (Nat.le_refl _) (.cells #[.int .i64 a0_0, .int .i64 a0_1, .int .u32 a0_2, .int .u32 a0_3, .int .i64 a0_4, .int .i64 a0_5, .int .i64 a0_6, .string a0_7, .string a0_8] 127))
  have HK := Aside0.mk (Blk.new w 127 #[.int .i64 a0_0, .int .i64 a0_1, .int .u32 a0_2, .int .u32 a0_3, .int .i64 a0_4, .int .i64 a0_5, .int .i64 a0_6, .string a0_7, .string a0_8])
  by_cases hb : a0_8.size ≤ 140737488351232 ∧ (0 ≤ a0_2 ∧ a0_2 < 4294967296) ∧ (0 ≤ a0_3 ∧ a0_3 < 4294967296)
  case neg => rw [if_neg hb] at h; exact absurd h (by simp)
  rw [if_pos hb] at h
  have HX := Aside0.mk hb
  clear hb
  by_cases hck : tcpCheck a0_0 a0_1 a0_4 a0_5 a0_6 a0_7 = 0
  case neg =>
    rw [if_neg (fun h => hck h.1)] at h
    obtain ⟨rfl, rfl⟩ := Prod.mk.inj (Option.some.inj h)
    have d1 : (tcpCheck a0_0 a0_1 a0_4 a0_5 a0_6 a0_7 != 0) = true := bne_iff_ne.mpr hck
    clear hck h
    go_enter Try.func105, Try.ntmps105
    go_wp2_with fail
    refine (tcp_Check.calls a0_0 a0_1 a0_2 a0_3 a0_4 a0_5 a0_6 a0_7 a0_8 _ _ rfl).mono ?_
    rintro e w2 ⟨rfl, g1⟩
    replace HB := Aside0.mk (HB.out.trans (g1.mono HB.out.size))
    clear g1
    go_wp2
    go_ret2
    exact ⟨rfl, HB.out⟩
  have HC := Aside0.mk hck
  have HO := Aside0.mk (tcpCheck_ok hck)
  clear hck
  by_cases c1 : a1 < 0
  · rw [if_neg (by unfold in16; omega)] at h
    obtain ⟨rfl, rfl⟩ := Prod.mk.inj (Option.some.inj h)
    have d1 : decide (a1 < 0) = true := decide_eq_true c1
    clear h c1
    go_enter Try.func105, Try.ntmps105
    go_wp2_with fail
    refine (tcp_Check.calls a0_0 a0_1 a0_2 a0_3 a0_4 a0_5 a0_6 a0_7 a0_8 _ _ rfl).mono ?_
    rintro e w2 ⟨rfl, g1⟩
    rw [HC.out]
    replace HB := Aside0.mk (HB.out.trans (g1.mono HB.out.size))
    clear g1
    go_wp2
    go_ret2
    exact ⟨rfl, HB.out⟩
  have d1 : decide (a1 < 0) = false := decide_eq_false c1
  by_cases c2 : 65535 < a1
  · rw [if_neg (by unfold in16; omega)] at h
    obtain ⟨rfl, rfl⟩ := Prod.mk.inj (Option.some.inj h)
    have d2 : decide (65535 < a1) = true := decide_eq_true c2
    clear h c1 c2
    go_enter Try.func105, Try.ntmps105
    go_wp2_with fail
    refine (tcp_Check.calls a0_0 a0_1 a0_2 a0_3 a0_4 a0_5 a0_6 a0_7 a0_8 _ _ rfl).mono ?_
    rintro e w2 ⟨rfl, g1⟩
    rw [HC.out]
    replace HB := Aside0.mk (HB.out.trans (g1.mono HB.out.size))
    clear g1
    go_wp2
    go_ret2
    exact ⟨rfl, HB.out⟩
  have d2 : decide (65535 < a1) = false := decide_eq_false c2
  rw [if_pos ⟨HC.out, by unfold in16; omega⟩] at h
  obtain ⟨rfl, rfl⟩ := Prod.mk.inj (Option.some.inj h)
  clear h c1 c2
  go_enter Try.func105, Try.ntmps105
  go_wp2_with fail
  refine (tcp_Check.calls a0_0 a0_1 a0_2 a0_3 a0_4 a0_5 a0_6 a0_7 a0_8 _ _ rfl).mono ?_
  rintro e w2 ⟨rfl, g1⟩
  rw [HC.out]
  replace HB := Aside0.mk (HB.out.trans (g1.mono HB.out.size))
  replace HK := Aside0.mk (HK.out.below g1 (by simp))
  clear g1
  have HS := Aside0.mk (WS.startAt HK.out HB.out HB.out.size)
  clear HK HB
  have hc := HS.out.1.2.1.cells
  go_wp2_with fail
  clear d1 d2
  refine (Writer_U16.calls _ _ _ _ HS.out.1.1 (by simp [nb_length])).mono ?_
  rintro e w3 ⟨rfl, g1, g2⟩
  replace HS := Aside0.mk (HS.out.next g1 g2)
  clear g1 g2 hc
  have hc := HS.out.1.2.1.cells
  go_wp2_with fail
  refine (Writer_U16.calls _ _ _ _ HS.out.1.1 (by simp [nb_length])).mono ?_
  rintro e w4 ⟨rfl, g1, g2⟩
  replace HS := Aside0.mk (HS.out.next g1 g2)
  clear g1 g2 hc
  have hc := HS.out.1.2.1.cells
  go_wp2_with fail
  refine (Writer_U32.calls _ _ _ _ HS.out.1.1 (by have := HX.out; omega) (by have := HX.out; omega) (by simp [nb_length])).mono ?_
  rintro e w5 ⟨rfl, g1, g2⟩
  replace HS := Aside0.mk (HS.out.next g1 g2)
  clear g1 g2 hc
  have hc := HS.out.1.2.1.cells
  go_wp2_with fail
  refine (Writer_U32.calls _ _ _ _ HS.out.1.1 (by have := HX.out; omega) (by have := HX.out; omega) (by simp [nb_length])).mono ?_
  rintro e w6 ⟨rfl, g1, g2⟩
  replace HS := Aside0.mk (HS.out.next g1 g2)
  clear g1 g2 hc
  have hc := HS.out.1.2.1.cells
  have w1 : ((20 + (a0_7.size : Int)) / 4 * 16) = (((20 + a0_7.size) / 4 * 16 : Nat) : Int) := by omega
  have w2_ : wrap64 ((20 + (a0_7.size : Int)) / 4 * 16) = (((20 + a0_7.size) / 4 * 16 : Nat) : Int) := by have := HO.out; unfold wrap64; omega
  go_wp2_with fail
  clear w1 w2_
  refine (Writer_U8.calls _ _ _ _ HS.out.1.1 (by simp [nb_length])).mono ?_
  rintro e w7 ⟨rfl, g1, g2⟩
  replace HS := Aside0.mk (HS.out.next g1 g2)
  clear g1 g2 hc
  have hc := HS.out.1.2.1.cells
  go_wp2_with fail
  refine (Writer_U8.calls _ _ _ _ HS.out.1.1 (by simp [nb_length])).mono ?_
  rintro e w8 ⟨rfl, g1, g2⟩
  replace HS := Aside0.mk (HS.out.next g1 g2)
  clear g1 g2 hc
  have hc := HS.out.1.2.1.cells
  go_wp2_with fail
  refine (Writer_U16.calls _ _ _ _ HS.out.1.1 (by simp [nb_length])).mono ?_
  rintro e w9 ⟨rfl, g1, g2⟩
  replace HS := Aside0.mk (HS.out.next g1 g2)
  clear g1 g2 hc
  have hc := HS.out.1.2.1.cells
  go_wp2_with fail
  refine (Writer_U16.calls _ _ _ _ HS.out.1.1 (by simp [nb_length])).mono ?_
  rintro e w10 ⟨rfl, g1, g2⟩
  replace HS := Aside0.mk (HS.out.next g1 g2)
  clear g1 g2 hc
  have hc := HS.out.1.2.1.cells
  go_wp2_with fail
  refine (Writer_U16.calls _ _ _ _ HS.out.1.1 (by simp [nb_length])).mono ?_
  rintro e w11 ⟨rfl, g1, g2⟩
  replace HS := Aside0.mk (HS.out.next g1 g2)
  clear g1 g2 hc
  have hc := HS.out.1.2.1.cells
  have d3 : (9223372036854775807 < a0_7.size + a0_8.size) = False := eq_false (by have := HO.out; have := HX.out; omega)
  go_wp2_with fail
  refine (Writer_Text.calls _ _ _ _ HS.out.1.1 (by have := HO.out; have := HX.out; simp only [List.length_append, List.length_nil, nb_length, ByteArray.size_append]; omega)).mono ?_
  rintro e w12 ⟨rfl, g1, g2⟩
  replace HS := Aside0.mk (HS.out.next g1 g2)
  clear g1 g2 hc
  go_wp2_with fail
  refine (Writer_String.calls _ _ _ HS.out.1.1).mono ?_
  rintro e w13 ⟨rfl, g1, g2⟩
  replace HS := Aside0.mk (HS.out.next g1 g2)
  clear g1 g2
  go_wp2
  go_ret2
  have hw : wrap64 (wrap64 (Int.tdiv (wrap64 (20 + (a0_7.size : Int))) 4) * 16) = (20 + (a0_7.size : Int)) / 4 * 16 := by
    have := HO.out
    rw [show wrap64 (20 + (a0_7.size : Int)) = 20 + (a0_7.size : Int) by unfold wrap64; omega, Int.tdiv_eq_ediv_of_nonneg (by omega)]
    unfold wrap64; omega
  exact ⟨by simp [tcpBytes, u64n, hw, bl_append], HS.out.1.2.2⟩
end Go.Proofs.Ytejmipoolbodgaa.G
end

section
/- What ip4.Get computes, as a function. -/
namespace Go.Proofs.Ytejmipoolbodgaa.Pure
theorem and_low (i : Nat) (hi : i ≤ 62) (x : Nat) (hx : x < 9223372036854775808) : Go.bits .and .i64 (x : Int) (((2 ^ i - 1 : Nat)) : Int) = ((x % 2 ^ i : Nat) : Int) := by
  have hp : 2 ^ i ≤ 2 ^ 62 := Nat.pow_le_pow_right (by decide) hi
  have h1 : 1 ≤ 2 ^ i := Nat.one_le_two_pow
  rw [Pal.i64_and x (2 ^ i - 1) hx (by omega), Nat.and_two_pow_sub_one_eq_mod]
theorem and15 (x : Nat) (hx : x < 65536) : Go.bits .and .i64 (x : Int) 15 = ((x % 16 : Nat) : Int) := and_low 4 (by decide) x (by omega)
theorem and1 (x : Nat) (hx : x < 65536) : Go.bits .and .i64 (x : Int) 1 = ((x % 2 : Nat) : Int) := and_low 1 (by decide) x (by omega)
theorem and8191 (x : Nat) (hx : x < 65536) : Go.bits .and .i64 (x : Int) 8191 = ((x % 8192 : Nat) : Int) := and_low 13 (by decide) x (by omega)
end Go.Proofs.Ytejmipoolbodgaa.Pure
namespace Go.Proofs.Ytejmipoolbodgaa.G
open Go.Proofs.Ytejmipoolbodgaa.Pal
/-- How long a packet's header says it is. -/
def hl4 (s : ByteArray) : Nat := 4 * (be (bl (s.extract 0 1)) % 16)
/-- With which error ip4.Get stops. -/
def ip4Err (s : ByteArray) : Int :=
  if s.size < 20 then 2 else if be (bl (s.extract 0 1)) / 16 = 4 then (if 20 ≤ hl4 s ∧ hl4 s ≤ s.size ∧ be (bl (s.extract 2 4)) = s.size then (if csum (bl (s.extract 0 (hl4 s))) = 0 then (if be (bl (s.extract 6 8)) / 32768 = 0 then 0 else 9) else 5) else 4) else 3
end Go.Proofs.Ytejmipoolbodgaa.G
end

section
/- By hand: tcp.Get's closure, walked once, with a branch at each Need. Printed by wip/gen/tcpget.py. -/
namespace Go.Proofs.Ytejmipoolbodgaa.G
open Go.RowKit Go.Proofs.YtejmipoolbodgaaW.PrintWords Go.Proofs.YtejmipoolbodgaaW.PrintLast Go.Proofs.YtejmipoolbodgaaW.PrintMore Go.Proofs.Ytejmipoolbodgaa.Pal
set_option linter.unusedVariables false
set_option linter.unusedSimpArgs false

theorem TakeT.went (R : Nat) (s : ByteArray) (n m : Nat) (w : World) (h : Rd w R s n) (hm : n + m ≤ s.size) :
    Calls Try.prog 49 #[.pointer (some ⟨R, 0, none⟩), .int .i64 (m : Int)] w fun e w' => e = .returned (.string (s.extract n (n + m))) ∧ Went w w' R s (n + m) := by
  refine (Reader_Take.yes R s n m w h hm).mono ?_
  rintro e w' ⟨rfl, k, j, rfl⟩
  exact ⟨rfl, grown_drewN (World.grownBy.trans (grown_drewN (grown_refl w _) k) (grown_setCell _ _ _ _)) j, (((h.1.drewN k).set 1 (.int .i64 ((n + m : Nat) : Int))).drewN j), hm, h.2.2⟩
/-- What tcp.Get's closure works on: the text, the named result, the segment, the sum, Read's result; then the reader. -/
def VT (k : Nat) (s : ByteArray) (w w1 : World) (n : Nat) (cs : Array Value) (x : Int) : Prop :=
  Rd w1 (k + 5) s n ∧ Hp w1 [(k, 9, #[.string s]), (k + 1, 127, #[.int .i64 0, .int .i64 0, .int .u32 0, .int .u32 0, .int .i64 0, .int .i64 0, .int .i64 0, .string ⟨#[]⟩, .string ⟨#[]⟩]), (k + 2, 127, cs), (k + 3, 3, #[.int .i64 x]), (k + 4, 38, #[.int .i64 0])] ∧ Below k w w1
theorem VT.went {k : Nat} {s : ByteArray} {w w1 w2 : World} {n m : Nat} {cs : Array Value} {x : Int} (h : VT k s w w1 n cs x) (hw : Went w1 w2 (k + 5) s m) : VT k s w w2 m cs x :=
  ⟨hw.2, h.2.1.grown hw.1 (by simp), h.2.2.trans (below_of_grown hw.1 (by have := h.1.1.lt; omega) (by omega))⟩
theorem VT.put {k : Nat} {s : ByteArray} {w w1 : World} {n : Nat} {cs : Array Value} {x : Int} (h : VT k s w w1 n cs x) (j : Nat) (v : Value) : VT k s w (w1.setCell ⟨k + 2, j, none⟩ v) n (cs.setIfInBounds j v) x :=
  ⟨⟨h.1.1.other _ (by simp) _, h.1.2⟩, h.2.1.set (l1 := [_, _]) (l2 := [_, _]) j v (by simp) (by simp), h.2.2.setCell (by simp) _⟩
theorem VT.putSum {k : Nat} {s : ByteArray} {w w1 : World} {n : Nat} {cs : Array Value} {x : Int} (h : VT k s w w1 n cs x) (y : Int) : VT k s w (w1.setCell ⟨k + 3, 0, none⟩ (.int .i64 y)) n cs y :=
  ⟨⟨h.1.1.other _ (by simp) _, h.1.2⟩, h.2.1.set (l1 := [_, _, _]) (l2 := [_]) 0 (.int .i64 y) (by simp) (by simp), h.2.2.setCell (by simp) _⟩
theorem VT.drew {k : Nat} {s : ByteArray} {w w1 : World} {n : Nat} {cs : Array Value} {x : Int} (h : VT k s w w1 n cs x) : VT k s w w1.drew n cs x := ⟨h.1, h.2.1, h.2.2.drew⟩
theorem VT.step {k : Nat} {s : ByteArray} {w w1 w2 : World} {n : Nat} {cs : Array Value} {x : Int} (h : VT k s w w1 n cs x) (hb : Below w1.heap.size w1 w2) : VT k s w w2 n cs x :=
  ⟨⟨h.1.1.below hb h.1.1.lt, h.1.2⟩, h.2.1.below hb (fun y hy => (h.2.1 y hy).lt), h.2.2.trans (hb.mono (by have := h.1.1.lt; omega))⟩
theorem VT.facts {k : Nat} {s : ByteArray} {w w1 : World} {n : Nat} {cs : Array Value} {x : Int} (h : VT k s w w1 n cs x) :
    w1.cell? ⟨k, 0, none⟩ = some (.string s) ∧ (∀ j, w1.frozen? ⟨k + 2, j, none⟩ = false) ∧ (∀ j, w1.cell? ⟨k + 2, j, none⟩ = cs[j]?) ∧ w1.cell? ⟨k + 3, 0, none⟩ = some (.int .i64 x) ∧ w1.frozen? ⟨k + 3, 0, none⟩ = false :=
  ⟨h.2.1.head.cell 0 _ rfl, h.2.1.tail.tail.head.frees, h.2.1.tail.tail.head.cells, h.2.1.tail.tail.tail.head.cell 0 _ rfl, h.2.1.tail.tail.tail.head.free 0⟩
def zeroT : Array Value := #[.int .i64 0, .int .i64 0, .int .u32 0, .int .u32 0, .int .i64 0, .int .i64 0, .int .i64 0, .string ⟨#[]⟩, .string ⟨#[]⟩]
def finalT (s : ByteArray) : Array Value := #[(.int .i64 ((be (bl (s.extract 0 2)) : Nat) : Int)), (.int .i64 ((be (bl (s.extract 2 4)) : Nat) : Int)), (.int .u32 ((be (bl (s.extract 4 8)) : Nat) : Int)), (.int .u32 ((be (bl (s.extract 8 12)) : Nat) : Int)), (.int .i64 ((be (bl (s.extract 13 14)) : Nat) : Int)), (.int .i64 ((be (bl (s.extract 14 16)) : Nat) : Int)), (.int .i64 ((be (bl (s.extract 18 20)) : Nat) : Int)), (.string (s.extract 20 (ht s))), (.string (s.extract (ht s) s.size))]
theorem lessT (N : Nat) (h : 20 ≤ N) (h2 : N ≤ 60) : ∃ M : Nat, 20 + M = N ∧ ((N : Int) - 20) = (M : Int) ∧ wrap64 ((N : Int) - 20) = (M : Int) ∧ IntKind.i64.wrap ((N : Int) - 20) = (M : Int) := by
  refine ⟨N - 20, by omega, by omega, ?_, ?_⟩
  · unfold wrap64; omega
  · rw [IntKind.wrap_i64]; omega

set_option maxHeartbeats 8000000 in
set_option maxRecDepth 100000 in
theorem tcp_Get1.walk (k : Nat) (s : ByteArray) (w w1 : World) (h : VT k s w w1 0 zeroT 0) :
    Calls Try.prog 154 #[.pointer (some ⟨k + 5, 0, none⟩), .pointer (some ⟨k, 0, none⟩), .pointer (some ⟨k + 2, 0, none⟩), .pointer (some ⟨k + 3, 0, none⟩)] w1 fun e w2 => e = did (tcpErr s) ∧ ∃ n cs x, VT k s w w2 n cs x ∧ (tcpErr s = 0 → cs = finalT s ∧ x = ((be (bl (s.extract 16 18)) : Nat) : Int)) := by
  have HG := Aside0.mk h
  obtain ⟨c0, c1, c2, c3, c4⟩ := HG.out.facts
  clear h c1 c2 c3 c4
  go_enter Try.func154, Try.ntmps154
  by_cases h20 : s.size < 20
  · have he : tcpErr s = 2 := if_pos h20
    have d1 : decide ((20 : Int) ≤ (s.size : Int)) = false := decide_eq_false (by omega)
    have d2 : decide (20 ≤ s.size) = false := decide_eq_false (by omega)
    clear h20
    go_wp2_with fail
    refine (Reader_Need.no _ _ _).mono ?_
    rintro e w2 ⟨rfl, rfl⟩
    exact ⟨rfl, by rw [he]; rfl, _, _, _, HG.out, fun h0 => absurd (he.symm.trans h0) (by decide)⟩
  have d1 : decide ((20 : Int) ≤ (s.size : Int)) = true := decide_eq_true (by omega)
  have d2 : decide (20 ≤ s.size) = true := decide_eq_true (by omega)
  go_wp2_with fail
  refine (Reader_Need.yes _ _ _).mono ?_
  rintro e w2 ⟨rfl, rfl⟩
  have HX := Aside0.mk (show 20 ≤ s.size by omega)
  clear d1 d2 c0 h20
  go_wp2_with fail
  refine (Reader_U16.yes _ _ _ _ HG.out.1 (by have := HX.out; omega)).mono ?_
  rintro e w11 ⟨rfl, g1⟩
  replace HG := Aside0.mk (HG.out.went g1)
  clear g1
  go_wp2_with fail
  refine (Reader_U16.yes _ _ _ _ HG.out.1 (by have := HX.out; omega)).mono ?_
  rintro e w12 ⟨rfl, g1⟩
  replace HG := Aside0.mk (HG.out.went g1)
  clear g1
  go_wp2_with fail
  refine (Reader_U32.yes _ _ _ _ HG.out.1 (by have := HX.out; omega)).mono ?_
  rintro e w13 ⟨rfl, g1⟩
  replace HG := Aside0.mk (HG.out.went g1)
  clear g1
  go_wp2_with fail
  refine (Reader_U32.yes _ _ _ _ HG.out.1 (by have := HX.out; omega)).mono ?_
  rintro e w14 ⟨rfl, g1⟩
  replace HG := Aside0.mk (HG.out.went g1)
  clear g1
  obtain ⟨c0, c1, c2, c3, c4⟩ := HG.out.facts
  simp only [zeroT] at c2
  clear c0 c3 c4
  go_wp2_with fail
  clear c1 c2
  replace HG := Aside0.mk ((((HG.out.put 0 (.int .i64 ((be (bl (s.extract 0 2)) : Nat) : Int))).put 1 (.int .i64 ((be (bl (s.extract 2 4)) : Nat) : Int))).put 2 (.int .u32 ((be (bl (s.extract 4 8)) : Nat) : Int))).put 3 (.int .u32 ((be (bl (s.extract 8 12)) : Nat) : Int)))
  simp only [zeroT, List.setIfInBounds_toArray, List.set_cons_zero, List.set_cons_succ] at HG
  generalize ((((w14.setCell ⟨k + 2, 0, none⟩ (.int .i64 ((be (bl (s.extract 0 2)) : Nat) : Int))).setCell ⟨k + 2, 1, none⟩ (.int .i64 ((be (bl (s.extract 2 4)) : Nat) : Int))).setCell ⟨k + 2, 2, none⟩ (.int .u32 ((be (bl (s.extract 4 8)) : Nat) : Int))).setCell ⟨k + 2, 3, none⟩ (.int .u32 ((be (bl (s.extract 8 12)) : Nat) : Int))) = wa at HG ⊢
  refine (Reader_U8.yes _ _ _ _ HG.out.1 (by have := HX.out; omega)).mono ?_
  rintro e wb ⟨rfl, g1⟩
  replace HG := Aside0.mk (HG.out.went g1)
  clear g1
  have hB : be (bl (s.extract 12 13)) < 256 := be_lt_of _ 1 (by rw [bl_length, ByteArray.size_extract]; have := HX.out; omega)
  have m1 : Go.bits .and .i64 ((be (bl (s.extract 12 13)) : Nat) : Int) 15 = ((be (bl (s.extract 12 13)) % 16 : Nat) : Int) := by exact Pure.and15 _ (by omega)
  have m2 : wrap64 ((ht s : Nat) : Int) = ((ht s : Nat) : Int) := by unfold ht wrap64; omega
  have m3 : IntKind.i64.wrap ((ht s : Nat) : Int) = ((ht s : Nat) : Int) := by rw [IntKind.wrap_i64]; unfold ht; omega
  have m4 : (((be (bl (s.extract 12 13)) : Nat) : Int) / 16 * 4) = ((ht s : Nat) : Int) := by unfold ht; omega
  have HN := Aside0.mk (show ht s ≤ 60 by unfold ht; omega)
  have c0 := HG.out.facts.1
  by_cases hl : 20 ≤ ht s
  case neg =>
    have l1 : decide ((20 : Int) ≤ ((ht s : Nat) : Int)) = false := decide_eq_false (by omega)
    have l2 : decide (20 ≤ ht s) = false := decide_eq_false hl
    have he : tcpErr s = 4 := by unfold tcpErr; rw [if_neg (by have := HX.out; omega), if_neg (fun h => hl h.1)]
    clear hl hB
    go_wp2_with fail
    refine (Reader_Need.no _ _ _).mono ?_
    rintro e wc ⟨rfl, rfl⟩
    exact ⟨rfl, by rw [he]; rfl, _, _, _, HG.out, fun h0 => absurd (he.symm.trans h0) (by decide)⟩
  have l1 : decide ((20 : Int) ≤ ((ht s : Nat) : Int)) = true := decide_eq_true (by omega)
  have l2 : decide (20 ≤ ht s) = true := decide_eq_true hl
  by_cases hm : ht s ≤ s.size
  case neg =>
    have m5 : decide (((ht s : Nat) : Int) ≤ (s.size : Int)) = false := decide_eq_false (by omega)
    have m6 : decide (ht s ≤ s.size) = false := decide_eq_false hm
    have he : tcpErr s = 4 := by unfold tcpErr; rw [if_neg (by have := HX.out; omega), if_neg (fun h => hm h.2)]
    clear hl hB hm
    go_wp2_with fail
    refine (Reader_Need.no _ _ _).mono ?_
    rintro e wc ⟨rfl, rfl⟩
    exact ⟨rfl, by rw [he]; rfl, _, _, _, HG.out, fun h0 => absurd (he.symm.trans h0) (by decide)⟩
  have m5 : decide (((ht s : Nat) : Int) ≤ (s.size : Int)) = true := decide_eq_true (by omega)
  have m6 : decide (ht s ≤ s.size) = true := decide_eq_true hm
  have HM := Aside0.mk (show 20 ≤ ht s ∧ ht s ≤ s.size from ⟨hl, hm⟩)
  clear hl hm
  go_wp2_with fail
  refine (Reader_Need.yes _ _ _).mono ?_
  rintro e wc ⟨rfl, rfl⟩
  clear l1 l2 m5 m6 c0
  by_cases hf : be (bl (s.extract 12 13)) % 16 = 0
  case neg =>
    have z1 : (((be (bl (s.extract 12 13)) % 16 : Nat) : Int) == 0) = false := by rw [beq_eq_false_iff_ne]; omega
    have z2 : (((be (bl (s.extract 12 13)) : Nat) : Int) % 16 == 0) = false := by rw [beq_eq_false_iff_ne]; omega
    have z3 : (be (bl (s.extract 12 13)) % 16 == 0) = false := by rw [beq_eq_false_iff_ne]; exact hf
    have he : tcpErr s = 9 := by unfold tcpErr; rw [if_neg (by have := HX.out; omega), if_pos HM.out, if_neg hf]
    clear hf hB
    go_wp2_with fail
    refine (Reader_Need.no _ _ _).mono ?_
    rintro e wd ⟨rfl, rfl⟩
    exact ⟨rfl, by rw [he]; rfl, _, _, _, HG.out, fun h0 => absurd (he.symm.trans h0) (by decide)⟩
  have z1 : (((be (bl (s.extract 12 13)) % 16 : Nat) : Int) == 0) = true := by rw [beq_iff_eq]; omega
  have z2 : (((be (bl (s.extract 12 13)) : Nat) : Int) % 16 == 0) = true := by rw [beq_iff_eq]; omega
  have z3 : (be (bl (s.extract 12 13)) % 16 == 0) = true := by rw [beq_iff_eq]; exact hf
  have HF := Aside0.mk hf
  clear hf
  go_wp2_with fail
  refine (Reader_Need.yes _ _ _).mono ?_
  rintro e wd ⟨rfl, rfl⟩
  clear z1 z2 z3 m1 m2 m3 m4 hB
  go_wp2_with fail
  refine (Reader_U8.yes _ _ _ _ HG.out.1 (by have := HX.out; omega)).mono ?_
  rintro e w15 ⟨rfl, g1⟩
  replace HG := Aside0.mk (HG.out.went g1)
  clear g1
  go_wp2_with fail
  refine (Reader_U16.yes _ _ _ _ HG.out.1 (by have := HX.out; omega)).mono ?_
  rintro e w16 ⟨rfl, g1⟩
  replace HG := Aside0.mk (HG.out.went g1)
  clear g1
  obtain ⟨c0, c1, c2, c3, c4⟩ := HG.out.facts
  clear c0 c3 c4
  go_wp2_with fail
  clear c1 c2
  replace HG := Aside0.mk ((HG.out.put 4 (.int .i64 ((be (bl (s.extract 13 14)) : Nat) : Int))).put 5 (.int .i64 ((be (bl (s.extract 14 16)) : Nat) : Int)))
  simp only [zeroT, List.setIfInBounds_toArray, List.set_cons_zero, List.set_cons_succ] at HG
  generalize ((w16.setCell ⟨k + 2, 4, none⟩ (.int .i64 ((be (bl (s.extract 13 14)) : Nat) : Int))).setCell ⟨k + 2, 5, none⟩ (.int .i64 ((be (bl (s.extract 14 16)) : Nat) : Int))) = we at HG ⊢
  refine (Reader_U16.yes _ _ _ _ HG.out.1 (by have := HX.out; omega)).mono ?_
  rintro e wf ⟨rfl, g1⟩
  replace HG := Aside0.mk (HG.out.went g1)
  clear g1
  go_wp2_with fail
  refine (Reader_U16.yes _ _ _ _ HG.out.1 (by have := HX.out; omega)).mono ?_
  rintro e w17 ⟨rfl, g1⟩
  replace HG := Aside0.mk (HG.out.went g1)
  clear g1
  obtain ⟨c0, c1, c2, c3, c4⟩ := HG.out.facts
  clear c0
  obtain ⟨M, hM, e1, e2, e3⟩ := lessT (ht s) HM.out.1 HN.out
  have HS := Aside0.mk hM
  have HS2 := Aside0.mk e2
  clear hM e1 e2 e3
  go_wp2_with fail
  rw [HS2.out]
  clear c1 c2 c3 c4
  replace HG := Aside0.mk ((HG.out.putSum ((be (bl (s.extract 16 18)) : Nat) : Int)).put 6 (.int .i64 ((be (bl (s.extract 18 20)) : Nat) : Int)))
  simp only [zeroT, List.setIfInBounds_toArray, List.set_cons_zero, List.set_cons_succ] at HG
  generalize ((w17.setCell ⟨k + 3, 0, none⟩ (.int .i64 ((be (bl (s.extract 16 18)) : Nat) : Int))).setCell ⟨k + 2, 6, none⟩ (.int .i64 ((be (bl (s.extract 18 20)) : Nat) : Int))) = wg at HG ⊢
  refine (TakeT.went _ _ _ M _ HG.out.1 (by have := HM.out; have := HS.out; omega)).mono ?_
  rintro e wh ⟨rfl, g1⟩
  replace HG := Aside0.mk (HG.out.went g1)
  clear g1
  go_wp2_with fail
  refine (Reader_Rest.calls _ _ _ _ HG.out.1).mono ?_
  rintro e wi ⟨rfl, g1⟩
  replace HG := Aside0.mk (HG.out.went g1)
  clear g1
  have HT := Aside0.mk (show 20 + M = ht s from HS.out)
  simp only [Nat.reduceAdd, HT.out] at HG ⊢
  obtain ⟨c0, c1, c2, c3, c4⟩ := HG.out.facts
  clear c0 c3 c4
  go_wp2_with fail
  clear c1 c2
  replace HG := Aside0.mk ((HG.out.put 7 (.string (s.extract 20 (ht s)))).put 8 (.string (s.extract (ht s) s.size)))
  simp only [zeroT, List.setIfInBounds_toArray, List.set_cons_zero, List.set_cons_succ] at HG
  generalize ((wi.setCell ⟨k + 2, 7, none⟩ (.string (s.extract 20 (ht s)))).setCell ⟨k + 2, 8, none⟩ (.string (s.extract (ht s) s.size))) = wj at HG ⊢
  refine (tcp_Right.calls (s.extract 20 (ht s)) (rightO (bl (s.extract 20 (ht s)))) _ (Pure.right_is _ (by simp only [ByteArray.size_extract]; have := HN.out; omega))).mono ?_
  rintro e wk ⟨rfl, g1⟩
  replace HG := Aside0.mk (HG.out.step g1)
  clear g1
  by_cases hr : rightO (bl (s.extract 20 (ht s))) = true
  case neg =>
    have he : tcpErr s = 4 := by unfold tcpErr; rw [if_neg (by have := HX.out; omega), if_pos HM.out, if_pos HF.out, if_neg hr]
    rw [Bool.eq_false_iff.mpr hr]
    clear hr
    go_wp2_with fail
    refine (Reader_Need.no _ _ _).mono ?_
    rintro e wl ⟨rfl, rfl⟩
    exact ⟨rfl, by rw [he]; rfl, _, _, _, HG.out, fun h0 => absurd (he.symm.trans h0) (by decide)⟩
  have he : tcpErr s = 0 := by unfold tcpErr; rw [if_neg (by have := HX.out; omega), if_pos HM.out, if_pos HF.out, if_pos hr]
  have HE := Aside0.mk he
  rw [hr]
  clear hr he
  go_wp2_with fail
  refine (Reader_Need.yes _ _ _).mono ?_
  rintro e wl ⟨rfl, rfl⟩
  go_wp2
  go_end0
  refine ⟨by rw [HE.out]; rfl, _, _, _, HG.out, fun _ => ⟨?_, rfl⟩⟩
  simp only [finalT]
end Go.Proofs.Ytejmipoolbodgaa.G
end

section
/- By hand: wire.Read round tcp.Get's closure, and tcp.Get. Turned from XHIp4R by wip/gen/tcpget.py. -/
namespace Go.Proofs.Ytejmipoolbodgaa.G
open Go.RowKit Go.Proofs.YtejmipoolbodgaaW.PrintWords Go.Proofs.YtejmipoolbodgaaW.PrintLast Go.Proofs.YtejmipoolbodgaaW.PrintMore Go.Proofs.Ytejmipoolbodgaa.Pal
set_option linter.unusedVariables false
set_option linter.unusedSimpArgs false
/-- What Get's closure leaves, and Read's end behind it. -/
def VRT (k : Nat) (s : ByteArray) (w w1 : World) : Prop :=
  ∃ cs x, Hp w1 [(k, 9, #[.string s]), (k + 1, 127, #[.int .i64 0, .int .i64 0, .int .u32 0, .int .u32 0, .int .i64 0, .int .i64 0, .int .i64 0, .string ⟨#[]⟩, .string ⟨#[]⟩]), (k + 2, 127, cs), (k + 3, 3, #[.int .i64 x])] ∧ Below k w w1 ∧
    (tcpErr s = 0 → cs = finalT s ∧ x = ((be (bl (s.extract 16 18)) : Nat) : Int))
theorem VT.done {k : Nat} {s : ByteArray} {w w1 w2 : World} {n : Nat} {cs : Array Value} {x : Int} (h : VT k s w w1 n cs x) (hw : w1.grownBy w2 (some (k + 4)))
    (hx : tcpErr s = 0 → cs = finalT s ∧ x = ((be (bl (s.extract 16 18)) : Nat) : Int)) : VRT k s w w2 :=
  ⟨cs, x, Hp.grown (R := k + 4) (fun y hy => h.2.1 y (by simp at hy ⊢; rcases hy with rfl | rfl | rfl | rfl <;> simp)) hw (by simp), h.2.2.trans (below_of_grown hw (by have := h.1.1.lt; omega) (by omega)), hx⟩

set_option maxRecDepth 100000 in
theorem tcp_Get.reads (s : ByteArray) (hs : s.size ≤ 140737488351232) (w : World) :
    Calls Try.prog 46 #[.string s, .func (.func 154) #[] #[.pointer (some ⟨w.heap.size, 0, none⟩), .pointer (some ⟨w.heap.size + 1 + 1, 0, none⟩), .pointer (some ⟨w.heap.size + 1 + 1 + 1, 0, none⟩)]]
      ((((w.alloc (.cells #[.string s] 9)).alloc (.cells #[.int .i64 0, .int .i64 0, .int .u32 0, .int .u32 0, .int .i64 0, .int .i64 0, .int .i64 0, .string ⟨#[]⟩, .string ⟨#[]⟩] 127)).alloc (.cells #[.int .i64 0, .int .i64 0, .int .u32 0, .int .u32 0, .int .i64 0, .int .i64 0, .int .i64 0, .string ⟨#[]⟩, .string ⟨#[]⟩] 127)).alloc (.cells #[.int .i64 0] 3))
      fun e w' => e = .returned (.int .i64 (tcpErr s)) ∧ VRT w.heap.size s w w' := by
  obtain ⟨W, hW⟩ : ∃ W, W = ((((w.alloc (.cells #[.string s] 9)).alloc (.cells #[.int .i64 0, .int .i64 0, .int .u32 0, .int .u32 0, .int .i64 0, .int .i64 0, .int .i64 0, .string ⟨#[]⟩, .string ⟨#[]⟩] 127)).alloc (.cells #[.int .i64 0, .int .i64 0, .int .u32 0, .int .u32 0, .int .i64 0, .int .i64 0, .int .i64 0, .string ⟨#[]⟩, .string ⟨#[]⟩] 127)).alloc (.cells #[.int .i64 0] 3)) := ⟨_, rfl⟩
  have hk : W.heap.size = w.heap.size + 4 := by rw [hW]; simp
  have b0 : Blk W w.heap.size 9 #[.string s] := by rw [hW]; exact (((Blk.new w _ _).alloc _).alloc _).alloc _
  have b1 : Blk W (w.heap.size + 1) 127 #[.int .i64 0, .int .i64 0, .int .u32 0, .int .u32 0, .int .i64 0, .int .i64 0, .int .i64 0, .string ⟨#[]⟩, .string ⟨#[]⟩] := by
    rw [hW]
    have := Blk.new (w.alloc (.cells #[.string s] 9)) 127 #[.int .i64 0, .int .i64 0, .int .u32 0, .int .u32 0, .int .i64 0, .int .i64 0, .int .i64 0, .string ⟨#[]⟩, .string ⟨#[]⟩]
    rw [World.size_alloc] at this
    exact (this.alloc _).alloc _
  have b2 : Blk W (w.heap.size + 2) 127 #[.int .i64 0, .int .i64 0, .int .u32 0, .int .u32 0, .int .i64 0, .int .i64 0, .int .i64 0, .string ⟨#[]⟩, .string ⟨#[]⟩] := by
    rw [hW]
    have := Blk.new ((w.alloc (.cells #[.string s] 9)).alloc (.cells #[.int .i64 0, .int .i64 0, .int .u32 0, .int .u32 0, .int .i64 0, .int .i64 0, .int .i64 0, .string ⟨#[]⟩, .string ⟨#[]⟩] 127)) 127 #[.int .i64 0, .int .i64 0, .int .u32 0, .int .u32 0, .int .i64 0, .int .i64 0, .int .i64 0, .string ⟨#[]⟩, .string ⟨#[]⟩]
    rw [World.size_alloc, World.size_alloc] at this
    exact this.alloc _
  have b3 : Blk W (w.heap.size + 3) 3 #[.int .i64 0] := by
    rw [hW]
    have := Blk.new (((w.alloc (.cells #[.string s] 9)).alloc (.cells #[.int .i64 0, .int .i64 0, .int .u32 0, .int .u32 0, .int .i64 0, .int .i64 0, .int .i64 0, .string ⟨#[]⟩, .string ⟨#[]⟩] 127)).alloc (.cells #[.int .i64 0, .int .i64 0, .int .u32 0, .int .u32 0, .int .i64 0, .int .i64 0, .int .i64 0, .string ⟨#[]⟩, .string ⟨#[]⟩] 127)) 3 #[.int .i64 0]
    rw [World.size_alloc, World.size_alloc, World.size_alloc] at this
    exact this
  have hb : Below w.heap.size w W := by
    rw [hW]
    exact ((((Below.refl _ _).alloc (Nat.le_refl _) _).alloc (by simp) _).alloc (by simp; omega) _).alloc (by simp; omega) _
  rw [← hW]
  clear hW
  have hrd := readW_rd W s hs
  have hres := readW_res W s
  have hbl := readW_below W s
  rw [hk] at hrd hres hbl
  have hG : VT w.heap.size s w (readW W s) 0 zeroT 0 :=
    ⟨hrd, .cons (b0.below hbl (by omega)) (.cons (b1.below hbl (by omega)) (.cons (b2.below hbl (by omega)) (.cons (b3.below hbl (by omega)) (.cons hres (.nil _))))), hb.trans (hbl.mono (by omega))⟩
  have hrd' : ∀ Q : World → Prop, Calls Try.prog 154 (#[.pointer (some ⟨W.heap.size + 1, 0, none⟩)] ++ #[.pointer (some ⟨w.heap.size, 0, none⟩), .pointer (some ⟨w.heap.size + 1 + 1, 0, none⟩), .pointer (some ⟨w.heap.size + 1 + 1 + 1, 0, none⟩)]) (readW W s) (fun e w2 => e = did (tcpErr s) ∧ Blk w2 W.heap.size 38 #[.int .i64 0] ∧ Q w2) →
      Calls Try.prog 46 #[.string s, .func (.func 154) #[] #[.pointer (some ⟨w.heap.size, 0, none⟩), .pointer (some ⟨w.heap.size + 1 + 1, 0, none⟩), .pointer (some ⟨w.heap.size + 1 + 1 + 1, 0, none⟩)]] W
        fun e w' => e = .returned (.int .i64 (tcpErr s)) ∧ ∃ w2, Q w2 ∧ w2.grownBy w' (some W.heap.size) :=
    fun Q h => Read_calls 154 _ s (tcpErr s) W Q (fun _ _ => rfl) h
  rw [hk] at hrd'
  clear hrd hres hbl b0 b1 b2 b3 hb
  refine (hrd' (fun w2 => ∃ n cs x, VT w.heap.size s w w2 n cs x ∧ (tcpErr s = 0 → cs = finalT s ∧ x = ((be (bl (s.extract 16 18)) : Nat) : Int))) ?_).mono ?_
  · refine (tcp_Get1.walk w.heap.size s w (readW W s) hG).mono ?_
    rintro e w2 ⟨rfl, n, cs, x, hu, hx⟩
    exact ⟨rfl, hu.2.1.tail.tail.tail.tail.head, n, cs, x, hu, hx⟩
  · rintro e w' ⟨rfl, w2, ⟨n, cs, x, hu, hx⟩, hg⟩
    exact ⟨rfl, hu.done hg hx⟩

set_option maxHeartbeats 1000000 in
set_option maxRecDepth 100000 in
theorem tcp_Get.calls (s : ByteArray) (r1 r2 r3 r4 r5 r6 r7 : Int) (r8 r9 : ByteArray) (r10 r11 : Int) (w : World) (h : tcp_Get.f s = some (r1, r2, r3, r4, r5, r6, r7, r8, r9, r10, r11)) :
    Calls Try.prog 107 #[.string s] w fun e w' => e = .returned (.tuple #[.agg #[.int .i64 r1, .int .i64 r2, .int .u32 r3, .int .u32 r4, .int .i64 r5, .int .i64 r6, .int .i64 r7, .string r8, .string r9], .int .i64 r10, .int .i64 r11]) ∧ Below w.heap.size w w' := by
  unfold tcp_Get.f at h
  by_cases hs : s.size ≤ 140737488351232
  case neg => rw [if_neg hs] at h; exact absurd h (by simp)
  rw [if_pos hs] at h
  have hmf : ∀ (fn : Fn) (first cap : Array Value) (w : World), (Instr.makeFunc fn first cap).run Try.prog w = .ok (.func fn first cap) w := fun _ _ _ _ => rfl
  have hu := Try.underlying127
  have HS := Aside0.mk hs
  clear hs
  by_cases h0 : tcpErr s = 0
  · rw [if_pos h0] at h
    replace h := Option.some.inj h
    simp only [Prod.mk.injEq] at h
    obtain ⟨rfl, rfl, rfl, rfl, rfl, rfl, rfl, rfl, rfl, rfl, rfl⟩ := h
    have d1 : (tcpErr s != 0) = false := bne_eq_false_iff_eq.mpr h0
    have h := Aside0.mk h0
    clear h0
    go_enter Try.func107, Try.ntmps107
    go_wp2_with fail
    refine (tcp_Get.reads s HS.out w).mono ?_
    rintro e w2 ⟨rfl, cs, x, hp, hb, hx⟩
    obtain ⟨rfl, rfl⟩ := hx h.out
    have HB := Aside0.mk hb
    have c1 := hp.tail.head.cells
    have c2 := hp.tail.head.frees
    have c3 := hp.tail.tail.head.cells
    simp only [finalT] at c3
    have c4 := hp.tail.tail.tail.head.cell 0 _ rfl
    have HK := Aside0.mk hp.tail.head
    clear hp hb hx
    go_wp2_with fail
    go_region
    all_goals
      have c5 := (((((((((HK.out.set 0 (.int .i64 ((be (bl (s.extract 0 2)) : Nat) : Int))).set 1 (.int .i64 ((be (bl (s.extract 2 4)) : Nat) : Int))).set 2 (.int .u32 ((be (bl (s.extract 4 8)) : Nat) : Int))).set 3 (.int .u32 ((be (bl (s.extract 8 12)) : Nat) : Int))).set 4 (.int .i64 ((be (bl (s.extract 13 14)) : Nat) : Int))).set 5 (.int .i64 ((be (bl (s.extract 14 16)) : Nat) : Int))).set 6 (.int .i64 ((be (bl (s.extract 18 20)) : Nat) : Int))).set 7 (.string (s.extract 20 (ht s)))).set 8 (.string (s.extract (ht s) s.size))).drew.cells
      simp only [List.setIfInBounds_toArray, List.set_cons_zero, List.set_cons_succ] at c5
      clear c1 c2 c3 c4
      go_wp2
      refine ⟨rfl, _, ?_, rfl, ?_⟩
      rotate_left
      · exact (((((((((HB.out.setCell (by simp) _).setCell (by simp) _).setCell (by simp) _).setCell (by simp) _).setCell (by simp) _).setCell (by simp) _).setCell (by simp) _).setCell (by simp) _).setCell (by simp) _).drew
      simp [results, Try.results107, go_sem, hu, c5]
  · rw [if_neg h0] at h
    replace h := Option.some.inj h
    simp only [Prod.mk.injEq] at h
    obtain ⟨rfl, rfl, rfl, rfl, rfl, rfl, rfl, rfl, rfl, rfl, rfl⟩ := h
    have d1 : (tcpErr s != 0) = true := bne_iff_ne.mpr h0
    clear h0
    go_enter Try.func107, Try.ntmps107
    go_wp2_with fail
    refine (tcp_Get.reads s HS.out w).mono ?_
    rintro e w2 ⟨rfl, cs, x, hp, hb, hx⟩
    have HB := Aside0.mk hb
    have c1 := hp.tail.head.cells
    have c2 := hp.tail.head.frees
    have HK := Aside0.mk hp.tail.head
    clear hp hb hx
    go_wp2
    have c5 := (((((((((HK.out.set 0 (.int .i64 0)).set 1 (.int .i64 0)).set 2 (.int .u32 0)).set 3 (.int .u32 0)).set 4 (.int .i64 0)).set 5 (.int .i64 0)).set 6 (.int .i64 0)).set 7 (.string ⟨#[]⟩)).set 8 (.string ⟨#[]⟩)).cells
    simp only [List.setIfInBounds_toArray, List.set_cons_zero, List.set_cons_succ] at c5
    clear c1 c2
    refine ⟨rfl, _, ?_, rfl, ?_⟩
    rotate_left
    · exact (((((((((HB.out.setCell (by simp) _).setCell (by simp) _).setCell (by simp) _).setCell (by simp) _).setCell (by simp) _).setCell (by simp) _).setCell (by simp) _).setCell (by simp) _).setCell (by simp) _)
    simp [results, Try.results107, go_sem, hu, c5]
end Go.Proofs.Ytejmipoolbodgaa.G
end
