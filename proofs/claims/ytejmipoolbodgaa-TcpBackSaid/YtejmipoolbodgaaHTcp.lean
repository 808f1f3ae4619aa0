/- By hand: tcp.Check, tcp.Put. Printed by wip/gen/tcpchk.py. -/
import Derived.Test.YtejmipoolbodgaaHWireW
import Derived.Test.YtejmipoolbodgaaHUdp
import Derived.Test.YtejmipoolbodgaaHTcpF
import Derived.WalkLawsBesides
import Derived.Deep.RegionWith
namespace Go.Proofs.Ytejmipoolbodgaa.G
open Go.RowKit Go.Proofs.YtejmipoolbodgaaW.PrintWords Go.Proofs.YtejmipoolbodgaaW.PrintLast Go.Proofs.YtejmipoolbodgaaW.PrintMore Go.Proofs.Ytejmipoolbodgaa.Pal
set_option linter.unusedVariables false
set_option linter.unusedSimpArgs false

set_option maxHeartbeats 2000000 in
set_option maxRecDepth 100000 in
theorem tcp_Check.calls (a0_0 a0_1 a0_2 a0_3 a0_4 a0_5 a0_6 : Int) (a0_7 a0_8 : ByteArray) (r : Int) (w : World) (h : tcp_Check.f a0_0 a0_1 a0_2 a0_3 a0_4 a0_5 a0_6 a0_7 a0_8 = some r) :
    Calls Try.prog 109 #[.agg #[.int .i64 a0_0, .int .i64 a0_1, .int .u32 a0_2, .int .u32 a0_3, .int .i64 a0_4, .int .i64 a0_5, .int .i64 a0_6, .string a0_7, .string a0_8]] w fun e w' => e = .returned (.int .i64 r) ∧ Below w.heap.size w w' := by
  obtain rfl := Option.some.inj h
  clear h
  have hu := Try.underlying127
  have i0 : ∀ w, (Instr.index 176 (.agg #[.int .i64 a0_0, .int .i64 a0_1, .int .i64 a0_5, .int .i64 a0_6]) (.int .i64 0)).run Try.prog w = .ok (.int .i64 a0_0) w := fun _ => by kernel_rfl
  have i1 : ∀ w, (Instr.index 176 (.agg #[.int .i64 a0_0, .int .i64 a0_1, .int .i64 a0_5, .int .i64 a0_6]) (.int .i64 1)).run Try.prog w = .ok (.int .i64 a0_1) w := fun _ => by kernel_rfl
  have i2 : ∀ w, (Instr.index 176 (.agg #[.int .i64 a0_0, .int .i64 a0_1, .int .i64 a0_5, .int .i64 a0_6]) (.int .i64 2)).run Try.prog w = .ok (.int .i64 a0_5) w := fun _ => by kernel_rfl
  have i3 : ∀ w, (Instr.index 176 (.agg #[.int .i64 a0_0, .int .i64 a0_1, .int .i64 a0_5, .int .i64 a0_6]) (.int .i64 3)).run Try.prog w = .ok (.int .i64 a0_6) w := fun _ => by kernel_rfl
  go_enter Try.func109, Try.ntmps109
  go_wp2
  have HB := Aside0.mk ((Below.refl w.heap.size w).alloc (Nat.le_refl _) (.cells #[.int .i64 a0_0, .int .i64 a0_1, .int .u32 a0_2, .int .u32 a0_3, .int .i64 a0_4, .int .i64 a0_5, .int .i64 a0_6, .string a0_7, .string a0_8] 127))
  have hc := (Blk.new w 127 #[.int .i64 a0_0, .int .i64 a0_1, .int .u32 a0_2, .int .u32 a0_3, .int .i64 a0_4, .int .i64 a0_5, .int .i64 a0_6, .string a0_7, .string a0_8]).cells
  generalize w.alloc (.cells #[.int .i64 a0_0, .int .i64 a0_1, .int .u32 a0_2, .int .u32 a0_3, .int .i64 a0_4, .int .i64 a0_5, .int .i64 a0_6, .string a0_7, .string a0_8] 127) = w1 at HB hc ⊢
  go_loopg [14] 4 (fun kq vq wr => ∃ i : Nat, vq = .int .i64 (i : Int) ∧ Aside0 (i + kq = 4) ∧ Aside0 (1 ≤ i → in16 a0_0) ∧ Aside0 (2 ≤ i → in16 a0_1) ∧ Aside0 (3 ≤ i → in16 a0_5) ∧ Aside0 (4 ≤ i → in16 a0_6) ∧ Aside0 (wr = w1))
  case atStart => exact ⟨0, rfl, ⟨rfl⟩, ⟨by omega⟩, ⟨by omega⟩, ⟨by omega⟩, ⟨by omega⟩, ⟨rfl⟩⟩
  case round =>
    obtain ⟨i, rfl, HK, H0, H1, H2, H3, HE⟩ := hrel
    obtain rfl := HE.out
    match i, HK, H0, H1, H2, H3 with
    | 0, HK, H0, H1, H2, H3 =>
      clear i1 i2 i3
      by_cases c1 : a0_0 < 0
      · have d1 : decide (a0_0 < 0) = true := decide_eq_true c1
        go_wp2
        go_ret
        exact ⟨by rw [tcpCheck, if_neg (by unfold tcpOk in16; omega)]; rfl, HB.out⟩
      · have d1 : decide (a0_0 < 0) = false := decide_eq_false c1
        by_cases c2 : 65535 < a0_0
        · have d2 : decide (65535 < a0_0) = true := decide_eq_true c2
          go_wp2
          go_ret
          exact ⟨by rw [tcpCheck, if_neg (by unfold tcpOk in16; omega)]; rfl, HB.out⟩
        · have d2 : decide (65535 < a0_0) = false := decide_eq_false c2
          go_wp2
          go_roundg 3
          case measure => have := HK.out; omega
          case rel => exact ⟨1, rfl, ⟨rfl⟩, ⟨fun _ => by unfold in16; omega⟩, ⟨by omega⟩, ⟨by omega⟩, ⟨by omega⟩, ⟨rfl⟩⟩
    | 1, HK, H0, H1, H2, H3 =>
      clear i0 i2 i3
      by_cases c1 : a0_1 < 0
      · have d1 : decide (a0_1 < 0) = true := decide_eq_true c1
        go_wp2
        go_ret
        exact ⟨by rw [tcpCheck, if_neg (by unfold tcpOk in16; omega)]; rfl, HB.out⟩
      · have d1 : decide (a0_1 < 0) = false := decide_eq_false c1
        by_cases c2 : 65535 < a0_1
        · have d2 : decide (65535 < a0_1) = true := decide_eq_true c2
          go_wp2
          go_ret
          exact ⟨by rw [tcpCheck, if_neg (by unfold tcpOk in16; omega)]; rfl, HB.out⟩
        · have d2 : decide (65535 < a0_1) = false := decide_eq_false c2
          go_wp2
          go_roundg 2
          case measure => have := HK.out; omega
          case rel => exact ⟨2, rfl, ⟨rfl⟩, ⟨fun _ => H0.out (by omega)⟩, ⟨fun _ => by unfold in16; omega⟩, ⟨by omega⟩, ⟨by omega⟩, ⟨rfl⟩⟩
    | 2, HK, H0, H1, H2, H3 =>
      clear i0 i1 i3
      by_cases c1 : a0_5 < 0
      · have d1 : decide (a0_5 < 0) = true := decide_eq_true c1
        go_wp2
        go_ret
        exact ⟨by rw [tcpCheck, if_neg (by unfold tcpOk in16; omega)]; rfl, HB.out⟩
      · have d1 : decide (a0_5 < 0) = false := decide_eq_false c1
        by_cases c2 : 65535 < a0_5
        · have d2 : decide (65535 < a0_5) = true := decide_eq_true c2
          go_wp2
          go_ret
          exact ⟨by rw [tcpCheck, if_neg (by unfold tcpOk in16; omega)]; rfl, HB.out⟩
        · have d2 : decide (65535 < a0_5) = false := decide_eq_false c2
          go_wp2
          go_roundg 1
          case measure => have := HK.out; omega
          case rel => exact ⟨3, rfl, ⟨rfl⟩, ⟨fun _ => H0.out (by omega)⟩, ⟨fun _ => H1.out (by omega)⟩, ⟨fun _ => by unfold in16; omega⟩, ⟨by omega⟩, ⟨rfl⟩⟩
    | 3, HK, H0, H1, H2, H3 =>
      clear i0 i1 i2
      by_cases c1 : a0_6 < 0
      · have d1 : decide (a0_6 < 0) = true := decide_eq_true c1
        go_wp2
        go_ret
        exact ⟨by rw [tcpCheck, if_neg (by unfold tcpOk in16; omega)]; rfl, HB.out⟩
      · have d1 : decide (a0_6 < 0) = false := decide_eq_false c1
        by_cases c2 : 65535 < a0_6
        · have d2 : decide (65535 < a0_6) = true := decide_eq_true c2
          go_wp2
          go_ret
          exact ⟨by rw [tcpCheck, if_neg (by unfold tcpOk in16; omega)]; rfl, HB.out⟩
        · have d2 : decide (65535 < a0_6) = false := decide_eq_false c2
          go_wp2
          go_roundg 0
          case measure => have := HK.out; omega
          case rel => exact ⟨4, rfl, ⟨rfl⟩, ⟨fun _ => H0.out (by omega)⟩, ⟨fun _ => H1.out (by omega)⟩, ⟨fun _ => H2.out (by omega)⟩, ⟨fun _ => by unfold in16; omega⟩, ⟨rfl⟩⟩
    | 4, HK, H0, H1, H2, H3 =>
      clear i0 i1 i2 i3
      have HA : Aside0 (in16 a0_0 ∧ in16 a0_1 ∧ in16 a0_5 ∧ in16 a0_6) := ⟨⟨H0.out (by omega), H1.out (by omega), H2.out (by omega), H3.out (by omega)⟩⟩
      by_cases c1 : a0_4 < 0
      · have d1 : decide (a0_4 < 0) = true := decide_eq_true c1
        have HC : Aside0 (tcpCheck a0_0 a0_1 a0_4 a0_5 a0_6 a0_7 = 1) := ⟨by rw [tcpCheck, if_neg (by unfold tcpOk; omega)]⟩
        clear c1
        go_wp2
        go_ret
        exact ⟨by rw [HC.out]; rfl, HB.out⟩
      have d1 : decide (a0_4 < 0) = false := decide_eq_false c1
      by_cases c2 : 255 < a0_4
      · have d2 : decide (255 < a0_4) = true := decide_eq_true c2
        have HC : Aside0 (tcpCheck a0_0 a0_1 a0_4 a0_5 a0_6 a0_7 = 1) := ⟨by rw [tcpCheck, if_neg (by unfold tcpOk; omega)]⟩
        clear c1 c2
        go_wp2
        go_ret
        exact ⟨by rw [HC.out]; rfl, HB.out⟩
      have d2 : decide (255 < a0_4) = false := decide_eq_false c2
      by_cases c3 : 40 < a0_7.size
      · have d3 : decide ((40 : Int) < (a0_7.size : Int)) = true := decide_eq_true (by omega)
        have d4 : decide (40 < a0_7.size) = true := decide_eq_true c3
        have HC : Aside0 (tcpCheck a0_0 a0_1 a0_4 a0_5 a0_6 a0_7 = 1) := ⟨by rw [tcpCheck, if_neg (by unfold tcpOk; omega)]⟩
        clear c1 c2 c3
        go_wp2
        go_ret
        exact ⟨by rw [HC.out]; rfl, HB.out⟩
      have d3 : decide ((40 : Int) < (a0_7.size : Int)) = false := decide_eq_false (by omega)
      have d4 : decide (40 < a0_7.size) = false := decide_eq_false c3
      by_cases c4 : a0_7.size % 4 = 0
      · have d5 : ((a0_7.size : Int) % 4 != 0) = false := by rw [bne_eq_false_iff_eq]; omega
        have d6 : (a0_7.size % 4 != 0) = false := by rw [bne_eq_false_iff_eq]; exact c4
        have d7 : ((a0_7.size : Int) % 4 == 0) = true := by rw [beq_iff_eq]; omega
        have HC : Aside0 (tcpCheck a0_0 a0_1 a0_4 a0_5 a0_6 a0_7 = 0) := ⟨by rw [tcpCheck, if_pos ⟨HA.out.1, HA.out.2.1, HA.out.2.2.1, HA.out.2.2.2, by omega, by omega, c4⟩]⟩
        clear c1 c2 c3 c4
        go_wp2
        go_ret
        exact ⟨by rw [HC.out]; rfl, HB.out⟩
      · have d5 : ((a0_7.size : Int) % 4 != 0) = true := by rw [bne_iff_ne]; omega
        have d6 : (a0_7.size % 4 != 0) = true := by rw [bne_iff_ne]; exact c4
        have d7 : ((a0_7.size : Int) % 4 == 0) = false := by rw [beq_eq_false_iff_ne]; omega
        have HC : Aside0 (tcpCheck a0_0 a0_1 a0_4 a0_5 a0_6 a0_7 = 1) := ⟨by rw [tcpCheck, if_neg (by unfold tcpOk; omega)]⟩
        clear c1 c2 c3 c4
        go_wp2
        go_ret
        exact ⟨by rw [HC.out]; rfl, HB.out⟩
    | i + 5, HK, H0, H1, H2, H3 => exact absurd HK.out (by omega)

set_option maxHeartbeats 4000000 in
set_option maxRecDepth 100000 in
theorem tcp_Put.calls (a0_0 a0_1 a0_2 a0_3 a0_4 a0_5 a0_6 : Int) (a0_7 a0_8 : ByteArray) (a1 : Int) (r1 : ByteArray) (r2 : Int) (w : World) (h : tcp_Put.f a0_0 a0_1 a0_2 a0_3 a0_4 a0_5 a0_6 a0_7 a0_8 a1 = some (r1, r2)) :
    Calls Try.prog 105 #[.agg #[.int .i64 a0_0, .int .i64 a0_1, .int .u32 a0_2, .int .u32 a0_3, .int .i64 a0_4, .int .i64 a0_5, .int .i64 a0_6, .string a0_7, .string a0_8], .int .i64 a1] w fun e w' => e = .returned (.tuple #[.string r1, .int .i64 r2]) ∧ Below w.heap.size w w' := by
  unfold tcp_Put.f at h
  have hu := Try.underlying127
  have HB := Aside0.mk ((Below.refl w.heap.size w).alloc (Nat.le_refl _) (.cells #[.int .i64 a0_0, .int .i64 a0_1, .int .u32 a0_2, .int .u32 a0_3, .int .i64 a0_4, .int .i64 a0_5, .int .i64 a0_6, .string a0_7, .string a0_8] 127))
  have HK := Aside0.mk (Blk.new w 127 #[.int .i64 a0_0, .int .i64 a0_1, .int .u32 a0_2, .int .u32 a0_3, .int .i64 a0_4, .int .i64 a0_5, .int .i64 a0_6, .string a0_7, .string a0_8])
  by_cases hb : a0_8.size ≤ 140737488351232 ∧ (0 ≤ a0_2 ∧ a0_2 < 4294967296) ∧ (0 ≤ a0_3 ∧ a0_3 < 4294967296)
  case neg => rw [if_neg hb] at h; exact absurd h (by simp)
  rw [if_pos hb] at h
  have HX := Aside0.mk hb
  clear hb
  by_cases hck : tcpCheck a0_0 a0_1 a0_4 a0_5 a0_6 a0_7 = 0
  case neg =>
    rw [if_neg (fun h => hck h.1)] at h
    obtain ⟨rfl, rfl⟩ := Prod.mk.inj (Option.some.inj h)
    have d1 : (tcpCheck a0_0 a0_1 a0_4 a0_5 a0_6 a0_7 != 0) = true := bne_iff_ne.mpr hck
    clear hck h
    go_enter Try.func105, Try.ntmps105
    go_wp2_with fail
    refine (tcp_Check.calls a0_0 a0_1 a0_2 a0_3 a0_4 a0_5 a0_6 a0_7 a0_8 _ _ rfl).mono ?_
    rintro e w2 ⟨rfl, g1⟩
    replace HB := Aside0.mk (HB.out.trans (g1.mono HB.out.size))
    clear g1
    go_wp2
    go_ret2
    exact ⟨rfl, HB.out⟩
  have HC := Aside0.mk hck
  have HO := Aside0.mk (tcpCheck_ok hck)
  clear hck
  by_cases c1 : a1 < 0
  · rw [if_neg (by unfold in16; omega)] at h
    obtain ⟨rfl, rfl⟩ := Prod.mk.inj (Option.some.inj h)
    have d1 : decide (a1 < 0) = true := decide_eq_true c1
    clear h c1
    go_enter Try.func105, Try.ntmps105
    go_wp2_with fail
    refine (tcp_Check.calls a0_0 a0_1 a0_2 a0_3 a0_4 a0_5 a0_6 a0_7 a0_8 _ _ rfl).mono ?_
    rintro e w2 ⟨rfl, g1⟩
    rw [HC.out]
    replace HB := Aside0.mk (HB.out.trans (g1.mono HB.out.size))
    clear g1
    go_wp2
    go_ret2
    exact ⟨rfl, HB.out⟩
  have d1 : decide (a1 < 0) = false := decide_eq_false c1
  by_cases c2 : 65535 < a1
  · rw [if_neg (by unfold in16; omega)] at h
    obtain ⟨rfl, rfl⟩ := Prod.mk.inj (Option.some.inj h)
    have d2 : decide (65535 < a1) = true := decide_eq_true c2
    clear h c1 c2
    go_enter Try.func105, Try.ntmps105
    go_wp2_with fail
    refine (tcp_Check.calls a0_0 a0_1 a0_2 a0_3 a0_4 a0_5 a0_6 a0_7 a0_8 _ _ rfl).mono ?_
    rintro e w2 ⟨rfl, g1⟩
    rw [HC.out]
    replace HB := Aside0.mk (HB.out.trans (g1.mono HB.out.size))
    clear g1
    go_wp2
    go_ret2
    exact ⟨rfl, HB.out⟩
  have d2 : decide (65535 < a1) = false := decide_eq_false c2
  rw [if_pos ⟨HC.out, by unfold in16; omega⟩] at h
  obtain ⟨rfl, rfl⟩ := Prod.mk.inj (Option.some.inj h)
  clear h c1 c2
  go_enter Try.func105, Try.ntmps105
  go_wp2_with fail
  refine (tcp_Check.calls a0_0 a0_1 a0_2 a0_3 a0_4 a0_5 a0_6 a0_7 a0_8 _ _ rfl).mono ?_
  rintro e w2 ⟨rfl, g1⟩
  rw [HC.out]
  replace HB := Aside0.mk (HB.out.trans (g1.mono HB.out.size))
  replace HK := Aside0.mk (HK.out.below g1 (by simp))
  clear g1
  have HS := Aside0.mk (WS.startAt HK.out HB.out HB.out.size)
  clear HK HB
  have hc := HS.out.1.2.1.cells
  go_wp2_with fail
  clear d1 d2
  refine (Writer_U16.calls _ _ _ _ HS.out.1.1 (by simp [nb_length])).mono ?_
  rintro e w3 ⟨rfl, g1, g2⟩
  replace HS := Aside0.mk (HS.out.next g1 g2)
  clear g1 g2 hc
  have hc := HS.out.1.2.1.cells
  go_wp2_with fail
  refine (Writer_U16.calls _ _ _ _ HS.out.1.1 (by simp [nb_length])).mono ?_
  rintro e w4 ⟨rfl, g1, g2⟩
  replace HS := Aside0.mk (HS.out.next g1 g2)
  clear g1 g2 hc
  have hc := HS.out.1.2.1.cells
  go_wp2_with fail
  refine (Writer_U32.calls _ _ _ _ HS.out.1.1 (by have := HX.out; omega) (by have := HX.out; omega) (by simp [nb_length])).mono ?_
  rintro e w5 ⟨rfl, g1, g2⟩
  replace HS := Aside0.mk (HS.out.next g1 g2)
  clear g1 g2 hc
  have hc := HS.out.1.2.1.cells
  go_wp2_with fail
  refine (Writer_U32.calls _ _ _ _ HS.out.1.1 (by have := HX.out; omega) (by have := HX.out; omega) (by simp [nb_length])).mono ?_
  rintro e w6 ⟨rfl, g1, g2⟩
  replace HS := Aside0.mk (HS.out.next g1 g2)
  clear g1 g2 hc
  have hc := HS.out.1.2.1.cells
  have w1 : ((20 + (a0_7.size : Int)) / 4 * 16) = (((20 + a0_7.size) / 4 * 16 : Nat) : Int) := by omega
  have w2_ : wrap64 ((20 + (a0_7.size : Int)) / 4 * 16) = (((20 + a0_7.size) / 4 * 16 : Nat) : Int) := by have := HO.out; unfold wrap64; omega
  go_wp2_with fail
  clear w1 w2_
  refine (Writer_U8.calls _ _ _ _ HS.out.1.1 (by simp [nb_length])).mono ?_
  rintro e w7 ⟨rfl, g1, g2⟩
  replace HS := Aside0.mk (HS.out.next g1 g2)
  clear g1 g2 hc
  have hc := HS.out.1.2.1.cells
  go_wp2_with fail
  refine (Writer_U8.calls _ _ _ _ HS.out.1.1 (by simp [nb_length])).mono ?_
  rintro e w8 ⟨rfl, g1, g2⟩
  replace HS := Aside0.mk (HS.out.next g1 g2)
  clear g1 g2 hc
  have hc := HS.out.1.2.1.cells
  go_wp2_with fail
  refine (Writer_U16.calls _ _ _ _ HS.out.1.1 (by simp [nb_length])).mono ?_
  rintro e w9 ⟨rfl, g1, g2⟩
  replace HS := Aside0.mk (HS.out.next g1 g2)
  clear g1 g2 hc
  have hc := HS.out.1.2.1.cells
  go_wp2_with fail
  refine (Writer_U16.calls _ _ _ _ HS.out.1.1 (by simp [nb_length])).mono ?_
  rintro e w10 ⟨rfl, g1, g2⟩
  replace HS := Aside0.mk (HS.out.next g1 g2)
  clear g1 g2 hc
  have hc := HS.out.1.2.1.cells
  go_wp2_with fail
  refine (Writer_U16.calls _ _ _ _ HS.out.1.1 (by simp [nb_length])).mono ?_
  rintro e w11 ⟨rfl, g1, g2⟩
  replace HS := Aside0.mk (HS.out.next g1 g2)
  clear g1 g2 hc
  have hc := HS.out.1.2.1.cells
  have d3 : (9223372036854775807 < a0_7.size + a0_8.size) = False := eq_false (by have := HO.out; have := HX.out; omega)
  go_wp2_with fail
  refine (Writer_Text.calls _ _ _ _ HS.out.1.1 (by have := HO.out; have := HX.out; simp only [List.length_append, List.length_nil, nb_length, ByteArray.size_append]; omega)).mono ?_
  rintro e w12 ⟨rfl, g1, g2⟩
  replace HS := Aside0.mk (HS.out.next g1 g2)
  clear g1 g2 hc
  go_wp2_with fail
  refine (Writer_String.calls _ _ _ HS.out.1.1).mono ?_
  rintro e w13 ⟨rfl, g1, g2⟩
  replace HS := Aside0.mk (HS.out.next g1 g2)
  clear g1 g2
  go_wp2
  go_ret2
  have hw : wrap64 (wrap64 (Int.tdiv (wrap64 (20 + (a0_7.size : Int))) 4) * 16) = (20 + (a0_7.size : Int)) / 4 * 16 := by
    have := HO.out
    rw [show wrap64 (20 + (a0_7.size : Int)) = 20 + (a0_7.size : Int) by unfold wrap64; omega, Int.tdiv_eq_ediv_of_nonneg (by omega)]
    unfold wrap64; omega
  exact ⟨by simp [tcpBytes, u64n, hw, bl_append], HS.out.1.2.2⟩
end Go.Proofs.Ytejmipoolbodgaa.G
