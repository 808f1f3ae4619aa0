/- Texts of this session, joined: each is a section. -/
import Derived.Test.YtcmalglippmocaaDoorMFtun14
import Derived.Deep.RegionHeld3
set_option linter.unusedVariables false
set_option linter.unusedSimpArgs false
section
namespace Go.Proofs.YtcmalglippmocaaDoor.G
open Go.RowKit Go.Proofs.YtcmalglippmocaaDoorW.PrintWords Go.Proofs.YtcmalglippmocaaDoorW.PrintLast Go.Proofs.YtcmalglippmocaaDoorW.PrintMore Go.Proofs.YtcmalglippmocaaDoor.Pal
theorem mode_field2 (a b c s n d : Nat) (wx : World) : (Instr.field 161 (modeV a b c s n d) 2).run Tryd.prog wx = .ok (fnv c) wx := by kernel_rfl
theorem put_any {m : Int} {a b c n d : Nat} {s k df : Bool} {v ttl tos id port p e : Int} {src dst inner pay : ByteArray} (hF : Fns m a b c n d) (h : tunPut m s k v port src dst inner = some (p, pay, e)) (W : World) (hV : GV W) (hP : GP W) :
    Calls Tryd.prog c #[.agg (tunV m s k v df ttl tos), .agg (wayV src dst id port), .string inner] W fun e' w' => e' = .returned (.tuple #[.int .i64 p, .string pay, .int .i64 e]) ∧ Below W.heap.size W w' := by
  unfold tunPut at h
  rcases hF with ⟨rfl, _, _, rfl, _⟩ | ⟨rfl, _, _, rfl, _⟩ | ⟨rfl, _, _, rfl, _⟩
  · rw [if_pos rfl] at h
    exact put3.calls _ _ _ _ _ _ _ W _ _ _ _ _ _ _ _ h hV
  · rw [if_neg (by decide), if_pos rfl] at h
    obtain ⟨⟨q1, q2⟩, h1, h2⟩ := Option.bind_eq_some_iff.mp h
    have h3 := Option.some.inj h2
    simp only [Prod.mk.injEq] at h3
    obtain ⟨rfl, rfl, rfl⟩ := h3
    exact put7.calls _ _ _ _ _ _ _ W _ _ _ _ _ _ _ h1 hV
  · rw [if_neg (by decide), if_neg (by decide)] at h
    obtain ⟨⟨q1, q2⟩, h1, h2⟩ := Option.bind_eq_some_iff.mp h
    have h3 := Option.some.inj h2
    simp only [Prod.mk.injEq] at h3
    obtain ⟨rfl, rfl, rfl⟩ := h3
    exact put11.calls _ _ _ _ _ _ _ W _ _ _ _ _ _ _ h1 hV hP
theorem call_put {m : Int} {a b c n d : Nat} (hF : Fns m a b c n d) : ∀ (args : Array Value) (wx : World), (callFunc c args).run Tryd.prog wx = .ok (.enter c args) wx := by
  rcases hF with ⟨_, _, _, rfl, _⟩ | ⟨_, _, _, rfl, _⟩ | ⟨_, _, _, rfl, _⟩ <;> intro args wx <;> kernel_rfl
theorem endW {w wr w' w'' : World} {k l : Nat} {cs ws : Array Value} {T Y : TypeId} (HK : Blk wr k T cs) (HW : Blk wr l Y ws) (HB : Below w.heap.size w wr) (h1 : Below wr.drew.heap.size wr.drew w') (h2 : Below w'.heap.size w' w'') :
    Aside0 (Blk w'' k T cs) ∧ Aside0 (Blk w'' l Y ws) ∧ Aside0 (Below w.heap.size w w'') := by
  have a := Blk.belowD h1 HK rfl
  have b := Blk.belowD h1 HW rfl
  have c : Below w.heap.size w w' := HB.drew.trans (h1.mono HB.size)
  exact ⟨⟨a.below h2 a.lt⟩, ⟨b.below h2 b.lt⟩, ⟨c.trans (h2.mono c.size)⟩⟩
theorem tunErr_mode {m v ttl tos : Int} {s k : Bool} (h : tunErr m s k v ttl tos = 0) : tunMode m := by
  unfold tunErr at h
  split at h
  · exact absurd h (by decide)
  · rename_i a; exact Classical.not_not.1 a
set_option maxHeartbeats 32000000
set_option maxRecDepth 100000
theorem tunnel_Wrap.calls (m : Int) (s k : Bool) (v : Int) (df : Bool) (ttl tos : Int) (src dst : ByteArray) (id port : Int) (inner : ByteArray) (r1 : ByteArray) (r2 : Int) (w : World) (h : tunnel_Wrap.f m s k v df ttl tos src dst id port inner = some (r1, r2)) (hV : GV w) (hP : GP w) :
    Calls Tryd.prog 54 #[.agg (tunV m s k v df ttl tos), .agg (wayV src dst id port), .string inner] w fun e w' => e = .returned (.tuple #[.string r1, .int .i64 r2]) ∧ Below w.heap.size w w' := by
  have HR := Aside0.mk h
  have HV := Aside0.mk hV
  have HP := Aside0.mk hP
  have HK := Aside0.mk ((Blk.new w 93 (tunV m s k v df ttl tos)).alloc (.cells (wayV src dst id port) 98))
  have HW := Aside0.mk (show Blk ((w.alloc (.cells (tunV m s k v df ttl tos) 93)).alloc (.cells (wayV src dst id port) 98)) (w.heap.size + 1) 98 (wayV src dst id port) by have h := Blk.new (w.alloc (.cells (tunV m s k v df ttl tos) 93)) 98 (wayV src dst id port); rw [World.size_alloc] at h; exact h)
  have HB := Aside0.mk (twoBoxes w (.cells (tunV m s k v df ttl tos) 93) (.cells (wayV src dst id port) 98))
  clear h hV hP
  go_enter Tryd.func54, Tryd.ntmps54
  go_wp2_with fail
  refine (tunnel_Check.calls m s k v df ttl tos _ _ rfl).mono ?_
  rintro e w2 ⟨rfl, g1⟩
  replace HK := Aside0.mk (HK.out.below g1 HK.out.lt)
  replace HW := Aside0.mk (HW.out.below g1 HW.out.lt)
  replace HB := Aside0.mk (HB.out.trans (g1.mono HB.out.size))
  clear g1
  have hsz : src.size ≤ 300 ∧ dst.size ≤ 300 := by
    apply Classical.byContradiction
    intro hn
    have h := HR.out
    unfold tunnel_Wrap.f at h
    rw [if_pos hn] at h
    cases h
  have HZ := Aside0.mk hsz
  have h0 := HR.out
  unfold tunnel_Wrap.f at h0
  have HE := Aside0.mk ((if_neg (fun h => h hsz)).symm.trans h0)
  clear h0 hsz
  by_cases he : tunErr m s k v ttl tos = 0
  case neg =>
    have hr : (⟨#[]⟩, tunErr m s k v ttl tos) = (r1, r2) := Option.some.inj ((if_pos he).symm.trans HE.out)
    simp only [Prod.mk.injEq] at hr
    obtain ⟨rfl, rfl⟩ := hr
    have k1 : (tunErr m s k v ttl tos != 0) = true := bne_iff_ne.mpr he
    clear he
    go_wp2
    go_ret2
    exact ⟨rfl, HB.out⟩
  have k1 : (tunErr m s k v ttl tos != 0) = false := by rw [he]; rfl
  have HE2 := Aside0.mk ((if_neg (fun h => h he)).symm.trans HE.out)
  have e4 : w2.cell? ⟨w.heap.size + 1, 0, none⟩ = some (.string src) := HW.out.cell 0 _ rfl
  have e5 : w2.cell? ⟨w.heap.size + 1, 1, none⟩ = some (.string dst) := HW.out.cell 1 _ rfl
  have e6 : w2.cell? ⟨w.heap.size + 1, 2, none⟩ = some (.int .i64 id) := HW.out.cell 2 _ rfl
  have e7 : w2.cell? ⟨w.heap.size + 1, 3, none⟩ = some (.int .i64 port) := HW.out.cell 3 _ rfl
  have HEE := Aside0.mk he
  clear he HE HR
  go_wp2
  obtain ⟨x0, hx0⟩ : ∃ x, Go.bits .xor .i64 (src.size : Int) 4 = x := ⟨_, rfl⟩
  obtain ⟨x1, hx1⟩ : ∃ x, Go.bits .xor .i64 (dst.size : Int) 4 = x := ⟨_, rfl⟩
  obtain ⟨x2, hx2⟩ : ∃ x, id / 65536 = x := ⟨_, rfl⟩
  obtain ⟨x3, hx3⟩ : ∃ x, port / 65536 = x := ⟨_, rfl⟩
  have z0 := xor_four src.size (by have := HZ.out.1; omega)
  have z1 := xor_four dst.size (by have := HZ.out.2; omega)
  rw [hx0] at z0
  rw [hx1] at z1
  have HX := Aside0.mk (show tunWayOk src dst id port ↔ x0 = 0 ∧ x1 = 0 ∧ x2 = 0 ∧ x3 = 0 by unfold tunWayOk; omega)
  rw [hx0, hx1, hx2, hx3]
  clear k1 hx0 hx1 hx2 hx3 z0 z1 e4 e5 e6 e7
  have i0 : ∀ wx : World, (Instr.index 156 (.agg #[.int .i64 x0, .int .i64 x1, .int .i64 x2, .int .i64 x3]) (.int .i64 0)).run Tryd.prog wx = .ok (.int .i64 x0) wx := fun _ => by kernel_rfl
  have i1 : ∀ wx : World, (Instr.index 156 (.agg #[.int .i64 x0, .int .i64 x1, .int .i64 x2, .int .i64 x3]) (.int .i64 1)).run Tryd.prog wx = .ok (.int .i64 x1) wx := fun _ => by kernel_rfl
  have i2 : ∀ wx : World, (Instr.index 156 (.agg #[.int .i64 x0, .int .i64 x1, .int .i64 x2, .int .i64 x3]) (.int .i64 2)).run Tryd.prog wx = .ok (.int .i64 x2) wx := fun _ => by kernel_rfl
  have i3 : ∀ wx : World, (Instr.index 156 (.agg #[.int .i64 x0, .int .i64 x1, .int .i64 x2, .int .i64 x3]) (.int .i64 3)).run Tryd.prog wx = .ok (.int .i64 x3) wx := fun _ => by kernel_rfl
  have hbad : ¬ tunWayOk src dst id port → (⟨#[]⟩, (1 : Int)) = (r1, r2) := fun hn => Option.some.inj ((if_pos hn).symm.trans HE2.out)
  have HBad := Aside0.mk hbad
  clear hbad
  go_loopg [34] 4 (fun kq v34 wr => ∃ i : Nat, v34 = .int .i64 (i : Int) ∧ Aside0 (i + kq = 4) ∧ Aside0 ((1 ≤ i → x0 = 0) ∧ (2 ≤ i → x1 = 0) ∧ (3 ≤ i → x2 = 0) ∧ (4 ≤ i → x3 = 0)) ∧ wr = w2)
  case atStart => exact ⟨0, rfl, ⟨by omega⟩, ⟨by omega, by omega, by omega, by omega⟩, rfl⟩
  case round =>
    obtain ⟨i, rfl, HI, HY, rfl⟩ := hrel
    have h5 : i = 0 ∨ i = 1 ∨ i = 2 ∨ i = 3 ∨ i = 4 := by have := HI.out; omega
    rcases h5 with rfl | rfl | rfl | rfl | rfl
    · as_aux_lemma =>
      by_cases hz : x0 = 0
      · have d0 : (x0 != 0) = false := by rw [hz]; rfl
        have HZZ := Aside0.mk hz
        clear hz
        go_wp2
        go_roundg 3
        case measure => have := HI.out; omega
        case rel => exact ⟨1, rfl, ⟨by omega⟩, ⟨fun _ => HZZ.out, by omega, by omega, by omega⟩, rfl⟩
      · have d0 : (x0 != 0) = true := bne_iff_ne.mpr hz
        have hb := HBad.out (fun h => hz (HX.out.1 h |>.1))
        simp only [Prod.mk.injEq] at hb
        obtain ⟨rfl, rfl⟩ := hb
        clear hz
        go_wp2
        go_ret2
        exact ⟨rfl, HB.out⟩
    · as_aux_lemma =>
      by_cases hz : x1 = 0
      · have d0 : (x1 != 0) = false := by rw [hz]; rfl
        have HZZ := Aside0.mk hz
        clear hz
        go_wp2
        go_roundg 2
        case measure => have := HI.out; omega
        case rel => exact ⟨2, rfl, ⟨by omega⟩, ⟨fun _ => HY.out.1 (by decide), fun _ => HZZ.out, by omega, by omega⟩, rfl⟩
      · have d0 : (x1 != 0) = true := bne_iff_ne.mpr hz
        have hb := HBad.out (fun h => hz (HX.out.1 h |>.2.1))
        simp only [Prod.mk.injEq] at hb
        obtain ⟨rfl, rfl⟩ := hb
        clear hz
        go_wp2
        go_ret2
        exact ⟨rfl, HB.out⟩
    · as_aux_lemma =>
      by_cases hz : x2 = 0
      · have d0 : (x2 != 0) = false := by rw [hz]; rfl
        have HZZ := Aside0.mk hz
        clear hz
        go_wp2
        go_roundg 1
        case measure => have := HI.out; omega
        case rel => exact ⟨3, rfl, ⟨by omega⟩, ⟨fun _ => HY.out.1 (by decide), fun _ => HY.out.2.1 (by decide), fun _ => HZZ.out, by omega⟩, rfl⟩
      · have d0 : (x2 != 0) = true := bne_iff_ne.mpr hz
        have hb := HBad.out (fun h => hz (HX.out.1 h |>.2.2.1))
        simp only [Prod.mk.injEq] at hb
        obtain ⟨rfl, rfl⟩ := hb
        clear hz
        go_wp2
        go_ret2
        exact ⟨rfl, HB.out⟩
    · as_aux_lemma =>
      by_cases hz : x3 = 0
      · have d0 : (x3 != 0) = false := by rw [hz]; rfl
        have HZZ := Aside0.mk hz
        clear hz
        go_wp2
        go_roundg 0
        case measure => have := HI.out; omega
        case rel => exact ⟨4, rfl, ⟨by omega⟩, ⟨fun _ => HY.out.1 (by decide), fun _ => HY.out.2.1 (by decide), fun _ => HY.out.2.2.1 (by decide), fun _ => HZZ.out⟩, rfl⟩
      · have d0 : (x3 != 0) = true := bne_iff_ne.mpr hz
        have hb := HBad.out (fun h => hz (HX.out.1 h |>.2.2.2))
        simp only [Prod.mk.injEq] at hb
        obtain ⟨rfl, rfl⟩ := hb
        clear hz
        go_wp2
        go_ret2
        exact ⟨rfl, HB.out⟩
    clear i0 i1 i2 i3
    have hw : tunWayOk src dst id port := HX.out.2 ⟨HY.out.1 (by decide), HY.out.2.1 (by decide), HY.out.2.2.1 (by decide), HY.out.2.2.2 (by decide)⟩
    have h3 := (if_neg (fun h => h hw)).symm.trans HE2.out
    obtain ⟨⟨p, pay, e⟩, hput, h4⟩ := Option.bind_eq_some_iff.mp h3
    dsimp only at h4
    obtain ⟨fa, fb, fc, n, fd, hF, hL⟩ := MD.at (tunErr_mode HEE.out)
    have HF := Aside0.mk hF
    have HL := Aside0.mk hL
    have HPut := Aside0.mk (fun W g1 g2 => put_any (m := m) (s := s) (k := k) (v := v) (df := df) (ttl := ttl) (tos := tos) (src := src) (dst := dst) (id := id) (port := port) (inner := inner) hF hput W g1 g2)
    have H4 := Aside0.mk h4
    clear hw h3 hput h4 hF hL HX HY HBad HE2
    have e0 : wr.cell? ⟨w.heap.size, 0, none⟩ = some (.int .i64 m) := HK.out.cell 0 _ rfl
    have e1 : wr.cell? ⟨w.heap.size, 1, none⟩ = some (.bool s) := HK.out.cell 1 _ rfl
    have e2 : wr.cell? ⟨w.heap.size, 2, none⟩ = some (.bool k) := HK.out.cell 2 _ rfl
    have e3 : wr.cell? ⟨w.heap.size, 3, none⟩ = some (.int .u32 v) := HK.out.cell 3 _ rfl
    have e4 : wr.cell? ⟨w.heap.size, 4, none⟩ = some (.bool df) := HK.out.cell 4 _ rfl
    have e5 : wr.cell? ⟨w.heap.size, 5, none⟩ = some (.int .i64 ttl) := HK.out.cell 5 _ rfl
    have e6 : wr.cell? ⟨w.heap.size, 6, none⟩ = some (.int .i64 tos) := HK.out.cell 6 _ rfl
    have f0 : wr.cell? ⟨w.heap.size + 1, 0, none⟩ = some (.string src) := HW.out.cell 0 _ rfl
    have f1 : wr.cell? ⟨w.heap.size + 1, 1, none⟩ = some (.string dst) := HW.out.cell 1 _ rfl
    have f2 : wr.cell? ⟨w.heap.size + 1, 2, none⟩ = some (.int .i64 id) := HW.out.cell 2 _ rfl
    have f3 : wr.cell? ⟨w.heap.size + 1, 3, none⟩ = some (.int .i64 port) := HW.out.cell 3 _ rfl
    have hfd := mode_field2
    go_upto_region 10 with (fail)
    go_cut [11, 12, 13] from 40 to 52 (fun v11 v12 v13 wd => v11 = .int .i64 p ∧ v12 = .string pay ∧ v13 = .int .i64 e ∧ Aside0 (Blk wd w.heap.size 93 (tunV m s k v df ttl tos)) ∧ Aside0 (Blk wd (w.heap.size + 1) 98 (wayV src dst id port)) ∧ Aside0 (Below w.heap.size w wd))
    case first =>
      have HB2 := Aside0.mk (fun (w' : World) (hb : Below wr.drew.heap.size wr.drew w') => (show Below w.heap.size w w' from HB.out.drew.trans (hb.mono HB.out.size)))
      have hcall := call_put HF.out
      as_aux_lemma =>
        go_region_held3 (fun ws => ws.cell? ⟨w.heap.size, 0, none⟩ = some (.int .i64 m) ∧ ws.cell? ⟨w.heap.size, 1, none⟩ = some (.bool s) ∧ ws.cell? ⟨w.heap.size, 2, none⟩ = some (.bool k) ∧ ws.cell? ⟨w.heap.size, 3, none⟩ = some (.int .u32 v) ∧ ws.cell? ⟨w.heap.size, 4, none⟩ = some (.bool df) ∧ ws.cell? ⟨w.heap.size, 5, none⟩ = some (.int .i64 ttl) ∧ ws.cell? ⟨w.heap.size, 6, none⟩ = some (.int .i64 tos) ∧ ws.cell? ⟨w.heap.size + 1, 0, none⟩ = some (.string src) ∧ ws.cell? ⟨w.heap.size + 1, 1, none⟩ = some (.string dst) ∧ ws.cell? ⟨w.heap.size + 1, 2, none⟩ = some (.int .i64 id) ∧ ws.cell? ⟨w.heap.size + 1, 3, none⟩ = some (.int .i64 port)) (first | exact ⟨z0, z1, z2, z3, z4, z5, z6, y0, y1, y2, y3⟩ | exact ⟨q0, q1, q2, q3, q4, q5, q6, p0, p1, p2, p3⟩ | exact ⟨e0, e1, e2, e3, e4, e5, e6, f0, f1, f2, f3⟩) (first | (go_at_call 98; refine (tunnel_modes.calls _).mono ?_; rintro e w' ⟨b, s1, s2, s3, rfl, hm, hb⟩; have HM1 := Aside0.mk hb; have K1 := Aside0.mk (Blk.belowD hb HK.out rfl); have W1 := Aside0.mk (Blk.belowD hb HW.out rfl); have q0 : w'.cell? ⟨w.heap.size, 0, none⟩ = some (.int .i64 m) := K1.out.cell 0 _ rfl; have q1 : w'.cell? ⟨w.heap.size, 1, none⟩ = some (.bool s) := K1.out.cell 1 _ rfl; have q2 : w'.cell? ⟨w.heap.size, 2, none⟩ = some (.bool k) := K1.out.cell 2 _ rfl; have q3 : w'.cell? ⟨w.heap.size, 3, none⟩ = some (.int .u32 v) := K1.out.cell 3 _ rfl; have q4 : w'.cell? ⟨w.heap.size, 4, none⟩ = some (.bool df) := K1.out.cell 4 _ rfl; have q5 : w'.cell? ⟨w.heap.size, 5, none⟩ = some (.int .i64 ttl) := K1.out.cell 5 _ rfl; have q6 : w'.cell? ⟨w.heap.size, 6, none⟩ = some (.int .i64 tos) := K1.out.cell 6 _ rfl; have p0 : w'.cell? ⟨w.heap.size + 1, 0, none⟩ = some (.string src) := W1.out.cell 0 _ rfl; have p1 : w'.cell? ⟨w.heap.size + 1, 1, none⟩ = some (.string dst) := W1.out.cell 1 _ rfl; have p2 : w'.cell? ⟨w.heap.size + 1, 2, none⟩ = some (.int .i64 id) := W1.out.cell 2 _ rfl; have p3 : w'.cell? ⟨w.heap.size + 1, 3, none⟩ = some (.int .i64 port) := W1.out.cell 3 _ rfl; have l1 := HL.out w' _ _ _ _ hm false; rw [if_neg (by decide)] at l1; clear hm hb) | (refine (HPut.out _ (HV.out.below (HB2.out _ HM1.out)) (HP.out.below (HB2.out _ HM1.out))).mono ?_; rintro e w'' ⟨rfl, hb2⟩; have HM2 := Aside0.mk hb2; have K2 := Aside0.mk (K1.out.below hb2 K1.out.lt); have W2 := Aside0.mk (W1.out.below hb2 W1.out.lt); have z0 : w''.cell? ⟨w.heap.size, 0, none⟩ = some (.int .i64 m) := K2.out.cell 0 _ rfl; have z1 : w''.cell? ⟨w.heap.size, 1, none⟩ = some (.bool s) := K2.out.cell 1 _ rfl; have z2 : w''.cell? ⟨w.heap.size, 2, none⟩ = some (.bool k) := K2.out.cell 2 _ rfl; have z3 : w''.cell? ⟨w.heap.size, 3, none⟩ = some (.int .u32 v) := K2.out.cell 3 _ rfl; have z4 : w''.cell? ⟨w.heap.size, 4, none⟩ = some (.bool df) := K2.out.cell 4 _ rfl; have z5 : w''.cell? ⟨w.heap.size, 5, none⟩ = some (.int .i64 ttl) := K2.out.cell 5 _ rfl; have z6 : w''.cell? ⟨w.heap.size, 6, none⟩ = some (.int .i64 tos) := K2.out.cell 6 _ rfl; have y0 : w''.cell? ⟨w.heap.size + 1, 0, none⟩ = some (.string src) := W2.out.cell 0 _ rfl; have y1 : w''.cell? ⟨w.heap.size + 1, 1, none⟩ = some (.string dst) := W2.out.cell 1 _ rfl; have y2 : w''.cell? ⟨w.heap.size + 1, 2, none⟩ = some (.int .i64 id) := W2.out.cell 2 _ rfl; have y3 : w''.cell? ⟨w.heap.size + 1, 3, none⟩ = some (.int .i64 port) := W2.out.cell 3 _ rfl; clear hb2))
        all_goals
          go_wp2_with fail
          go_meet
          (with_reducible refine ⟨rfl, rfl, rfl, ?_⟩); (with_reducible exact endW HK.out HW.out HB.out HM1.out HM2.out)
    case rest =>
      obtain ⟨rfl, rfl, rfl, HK', HW', HB'⟩ := hcut
      clear e0 e1 e2 e3 e4 e5 e6 f0 f1 f2 f3 HK HW HB HL HPut
      by_cases he : e = 0
      · have h5 := (if_neg (fun h => h he)).symm.trans H4.out
        have H5 := Aside0.mk h5
        have k1 : (e != 0) = false := by rw [he]; rfl
        clear he h5
        have e4 : wc.cell? ⟨w.heap.size, 4, none⟩ = some (.bool df) := HK'.out.cell 4 _ rfl
        have e5 : wc.cell? ⟨w.heap.size, 5, none⟩ = some (.int .i64 ttl) := HK'.out.cell 5 _ rfl
        have e6 : wc.cell? ⟨w.heap.size, 6, none⟩ = some (.int .i64 tos) := HK'.out.cell 6 _ rfl
        have f0 : wc.cell? ⟨w.heap.size + 1, 0, none⟩ = some (.string src) := HW'.out.cell 0 _ rfl
        have f1 : wc.cell? ⟨w.heap.size + 1, 1, none⟩ = some (.string dst) := HW'.out.cell 1 _ rfl
        have f2 : wc.cell? ⟨w.heap.size + 1, 2, none⟩ = some (.int .i64 id) := HW'.out.cell 2 _ rfl
        go_wp2_with fail
        refine (ip4_Put.calls _ _ _ _ _ _ _ _ _ _ _ _ _ _ H5.out).mono ?_
        rintro e' w9 ⟨rfl, g1⟩
        replace HB' := Aside0.mk (HB'.out.trans (g1.mono HB'.out.size))
        clear g1 e4 e5 e6 f0 f1 f2
        go_wp2
        go_ret2
        exact ⟨rfl, HB'.out⟩
      · have h5 := Option.some.inj ((if_pos he).symm.trans H4.out)
        simp only [Prod.mk.injEq] at h5
        obtain ⟨rfl, rfl⟩ := h5
        have k1 : (e != 0) = true := bne_iff_ne.mpr he
        clear he
        go_wp2
        go_ret2
        exact ⟨rfl, HB'.out⟩
end Go.Proofs.YtcmalglippmocaaDoor.G
end
