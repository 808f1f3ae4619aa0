/- Texts of this session, joined: each is a section. -/
import Derived.Test.YtcmalglippmocaaMClampTells3
import Derived.Test.YtcmalglippmocaaMClampTells2
import Derived.WalkLawsBesides
import Derived.BigQuiet
import Derived.RegionTactic
import Derived.Deep.RegionWith
import Derived.Test.YtcmalglippmocaaMClampTells4
import Derived.Test.YtcmalglippmocaaMClampTells5
import Derived.Test.YtcmalglippmocaaMClampTells9
import Derived.Test.YtcmalglippmocaaMClampTells10
set_option linter.unusedVariables false
set_option linter.unusedSimpArgs false
section
namespace Go.Proofs.Ytcmalglippmocaa.G
open Go.RowKit Go.Proofs.YtcmalglippmocaaW.PrintWords Go.Proofs.YtcmalglippmocaaW.PrintLast Go.Proofs.YtcmalglippmocaaW.PrintMore Go.Proofs.Ytcmalglippmocaa.Pal
def sealAt (p : Int) (n : Nat) : Nat := if p = 6 ∧ 20 ≤ n then 16 else if p = 17 ∧ 8 ≤ n then 6 else 0
def sealNo (p n : Int) : Int := if n = 0 ∧ p = 17 then 65535 else n
def sealBytes (s : ByteArray) (q : Nat) (n : Int) : ByteArray := ⟨(bl (s.extract 0 q) ++ nb 2 (u64n n) ++ bl (s.extract (q + 2) s.size)).toArray⟩
def seal_with (a0 : Int) (a1 a2 a3 : ByteArray) (q : Nat) : Option ByteArray :=
  (sum_Pseudo.f a1 a2 a0 a3.size).bind fun ps => (sum_Sum.f [ps, a3.extract 0 q, ⟨#[0, 0]⟩, a3.extract (q + 2) a3.size]).bind fun n => some (sealBytes a3 q (sealNo a0 n))
def flow_Seal.f (a0 : Int) (a1 a2 a3 : ByteArray) : Option ByteArray :=
  if a3.size ≤ 1000000000 then (if sealAt a0 a3.size = 0 then some a3 else seal_with a0 a1 a2 a3 (sealAt a0 a3.size)) else none
def SW (k b : Nat) (w w1 : World) (l : List UInt8) : Prop := WAt b l w1 ∧ Below k w w1 ∧ k ≤ b
theorem SW.next {k b : Nat} {w w1 w2 : World} {l l' : List UInt8} (h : SW k b w w1 l) (h1 : WAt b l' w2) (h2 : Below b w1 w2) : SW k b w w2 l' := ⟨h1, h.2.1.trans (h2.mono h.2.2), h.2.2⟩
theorem SW.start {k : Nat} {w w1 : World} (h : Below k w w1) (hk : k ≤ w1.heap.size) : SW k w1.heap.size w (w1.alloc (.cells #[.pointer none, .slice none 0 0] 117)) [] := ⟨WAt.new w1, h.alloc hk _, hk⟩
end Go.Proofs.Ytcmalglippmocaa.G
end

section
namespace Go.Proofs.Ytcmalglippmocaa.G
open Go.RowKit Go.Proofs.YtcmalglippmocaaW.PrintWords Go.Proofs.YtcmalglippmocaaW.PrintLast Go.Proofs.YtcmalglippmocaaW.PrintMore Go.Proofs.Ytcmalglippmocaa.Pal
def numB (c : Int) : ByteArray := ⟨(nb 2 (u64n c)).toArray⟩
def clamp_number.f (a0 : Int) : Option ByteArray := some (numB a0)
set_option maxHeartbeats 2000000 in
set_option maxRecDepth 100000 in
theorem clamp_number.calls (a0 : Int) (r : ByteArray) (w : World) (h : clamp_number.f a0 = some r) :
    Calls Try.prog 39 #[.int .i64 a0] w fun e w' => e = .returned (.string r) ∧ Below w.heap.size w w' := by
  obtain rfl := Option.some.inj h
  clear h
  have HW := Aside0.mk (SW.start (w1 := w) (Below.refl w.heap.size w) (Nat.le_refl _))
  go_enter Try.func39, Try.ntmps39
  go_wp2_with fail
  refine (Writer_U16.calls _ _ _ _ HW.out.1 (by simp)).mono ?_
  rintro e w5 ⟨rfl, g1, g2⟩
  replace HW := Aside0.mk (HW.out.next g1 g2)
  clear g1 g2
  go_wp2_with fail
  refine (Writer_String.calls _ _ _ HW.out.1).mono ?_
  rintro e w6 ⟨rfl, g1, g2⟩
  replace HW := Aside0.mk (HW.out.next g1 g2)
  clear g1 g2
  go_wp2
  go_ret
  exact ⟨by simp [u64n, numB], HW.out.2.1⟩
def cutW (s : ByteArray) (i : Nat) (fresh : ByteArray) : ByteArray := s.extract 0 i ++ fresh ++ s.extract (i + 2) s.size
set_option maxHeartbeats 2000000 in
set_option maxRecDepth 100000 in
theorem clamp_cut (s fresh : ByteArray) (i : Nat) (w : World) (hi : i + 2 ≤ s.size) (hs : s.size ≤ 1000000000) (hf : fresh.size = 2) :
    Calls Try.prog 37 #[.string s, .int .i64 (i : Int), .string fresh] w fun e w' => e = .returned (.string (cutW s i fresh)) ∧ ∃ n, w' = w.drewN n := by
  unfold cutW
  obtain ⟨j, hj⟩ : ∃ j, j = i + 2 := ⟨_, rfl⟩
  rw [← hj]
  have z1 : wrap64 ((i : Int) + (fresh.size : Int)) = (j : Int) := by unfold wrap64; omega
  have z2 : IntKind.i64.wrap ((i : Int) + (fresh.size : Int)) = (j : Int) := by rw [IntKind.wrap_i64]; omega
  have q1 : ((i : Int) ≤ (s.size : Int)) = True := eq_true (by omega)
  have q2 : (i ≤ s.size) = True := eq_true (by omega)
  have q3 : ((j : Int) ≤ (s.size : Int)) = True := eq_true (by omega)
  have q4 : (j ≤ s.size) = True := eq_true (by omega)
  have q5 : (9223372036854775807 < i + fresh.size) = False := eq_false (by omega)
  have q6 : (9223372036854775807 < i + fresh.size + (s.size - j)) = False := eq_false (by omega)
  have q7 : (i + fresh.size ≤ 9223372036854775807) = True := eq_true (by omega)
  have q8 : (i + fresh.size + (s.size - j) ≤ 9223372036854775807) = True := eq_true (by omega)
  clear hi hs hf hj
  go_enter Try.func37, Try.ntmps37
  go_wp2
  go_quiet (fail)
  go_wp2
  go_ret
  exact ⟨rfl, _, rfl⟩
end Go.Proofs.Ytcmalglippmocaa.G
end

section
namespace Go.Proofs.Ytcmalglippmocaa.G
open Go.RowKit Go.Proofs.YtcmalglippmocaaW.PrintWords Go.Proofs.YtcmalglippmocaaW.PrintLast Go.Proofs.YtcmalglippmocaaW.PrintMore Go.Proofs.Ytcmalglippmocaa.Pal
attribute [local go_sem] max2_int min2_int max_two min_two
def clampLim (l : Int) : Int := mx 0 (mn l 65535)
def clampSeg (p : ByteArray) (i n : Nat) (l : Int) : ByteArray := (cutW p i (numB (clampLim l))).extract n (cutW p i (numB (clampLim l))).size
def clamp_fin (p : ByteArray) (i n : Nat) (l : Int) (proto : Int) (src dst : ByteArray) : Option ByteArray :=
  (sum_Pseudo.f src dst proto (clampSeg p i n l).size).bind fun ps => (sum_Sum.f [ps, cutW (clampSeg p i n l) 16 ⟨#[0, 0]⟩]).bind fun c => some (p.extract 0 n ++ cutW (clampSeg p i n l) 16 (numB c))
def clamp_Clamp.f (p : ByteArray) (l : Int) : Option ByteArray :=
  (clamp_find.f 1 p).bind fun t => if t.2.2 = false ∨ t.2.1 ≤ clampLim l then some p else
  (clamp_head.f p).bind fun n => (flow_Get.f p).bind fun f =>
  if 0 ≤ t.1 ∧ t.1 + 2 ≤ (p.size : Int) ∧ 0 ≤ n ∧ n + 18 ≤ (p.size : Int) ∧ p.size ≤ 1000000 then clamp_fin p t.1.toNat n.toNat l f.1 f.2.1 f.2.2.1 else none
theorem numB_size (c : Int) : (numB c).size = 2 := rfl
theorem cutW_size {s : ByteArray} {i : Nat} {f : ByteArray} (h : i + 2 ≤ s.size) (hf : f.size = 2) : (cutW s i f).size = s.size := by
  unfold cutW; simp only [ByteArray.size_append, ByteArray.size_extract]; omega
set_option maxHeartbeats 4000000 in
set_option maxRecDepth 100000 in
theorem clamp_main (p : ByteArray) (l : Int) (i n : Nat) (v : Int) (proto : Int) (src dst : ByteArray) (f4 f5 f6 : Int) (r : ByteArray) (w : World) (hfind : clamp_find.f 1 p = some ((i : Int), v, true)) (hv : ¬ v ≤ clampLim l) (hhead : clamp_head.f p = some (n : Int)) (hflow : flow_Get.f p = some (proto, src, dst, f4, f5, f6))
    (hi : i + 2 ≤ p.size) (hn : n + 18 ≤ p.size) (hp : p.size ≤ 1000000) (h : clamp_fin p i n l proto src dst = some r) :
    Calls Try.prog 14 #[.string p, .int .i64 l] w fun e w' => e = .returned (.string r) ∧ Below w.heap.size w w' := by
  have hu := Try.underlying24
  obtain ⟨k, hk⟩ : ∃ k, w.heap.size = k := ⟨_, rfl⟩
  have HK := Aside0.mk (show w.heap.size = k from hk)
  have HB := Aside0.mk (show Below k w w from hk ▸ Below.refl w.heap.size w)
  unfold clamp_fin at h
  obtain ⟨ps, hps, h⟩ := Option.bind_eq_some_iff.1 h
  obtain ⟨c, hc, h⟩ := Option.bind_eq_some_iff.1 h
  obtain rfl := Option.some.inj h
  have HF := Aside0.mk hfind
  have HH := Aside0.mk hhead
  have HG := Aside0.mk hflow
  have HP := Aside0.mk hps
  have HC := Aside0.mk hc
  obtain ⟨q, hq⟩ : ∃ q, q = cutW p i (numB (clampLim l)) := ⟨_, rfl⟩
  have hqz : q.size = p.size := by rw [hq]; exact cutW_size hi (numB_size _)
  have HQ := Aside0.mk hq
  obtain ⟨s, hs⟩ : ∃ s, s = clampSeg p i n l := ⟨_, rfl⟩
  have hsq : s = q.extract n q.size := by rw [hs, hq]; rfl
  have hsz : s.size = p.size - n := by rw [hsq, ByteArray.size_extract, hqz]; omega
  have HS := Aside0.mk hs
  have HSQ := Aside0.mk hsq
  have HI := Aside0.mk (And.intro hi (And.intro hn hp))
  have HSZ := Aside0.mk (And.intro hqz hsz)
  have e1 : decide (v ≤ clampLim l) = false := decide_eq_false hv
  obtain ⟨L, hL⟩ : ∃ L, L = clampLim l := ⟨_, rfl⟩
  have HL := Aside0.mk hL
  obtain ⟨jm, hjm⟩ : ∃ jm : Int, (if 65535 < l then 65535 else l) = jm := ⟨_, rfl⟩
  have hL2 : (if 0 < jm then jm else 0) = L := by rw [hL, ← hjm]; rfl
  rw [← hL] at e1
  clear hfind hv hhead hflow h hps hc hi hn hp hq hqz hs hsq hsz hk hL
  go_enter Try.func14, Try.ntmps14
  go_wp2_with fail
  clear hL2 hjm
  refine (clamp_find.calls 1 p _ _ _ _ HF.out).mono ?_
  rintro e w2 ⟨rfl, hb⟩
  replace HB := Aside0.mk (HB.out.trans (hb.mono (by have := HK.out; omega)))
  clear hb
  go_wp2_with fail
  refine (clamp_head.calls p _ _ HH.out).mono ?_
  rintro e w3 ⟨rfl, nd, rfl⟩
  replace HB := Aside0.mk (pw_below_drewN HB.out nd)
  generalize w2.drewN nd = w3 at HB ⊢
  clear e1
  go_wp2_with fail
  refine (flow_Get.calls p _ _ _ _ _ _ _ HG.out).mono ?_
  rintro e w4 ⟨rfl, hb⟩
  replace HB := Aside0.mk (HB.out.trans (hb.mono (by have := HB.out.size; have := HK.out; omega)))
  clear hb
  go_upto_region 8 with (fail)
  have HN := Aside0.mk (Blk.new w4 24 #[.int .i64 proto, .string src, .string dst, .int .i64 f4, .int .i64 f5])
  have HGT := Aside0.mk (show k ≤ w4.heap.size by have := HB.out.size; have := HK.out; omega)
  replace HB := Aside0.mk (HB.out.alloc HGT.out (.cells #[.int .i64 proto, .string src, .string dst, .int .i64 f4, .int .i64 f5] 24))
  generalize w4.heap.size = g at HN HGT ⊢
  generalize w4.alloc (.cells #[.int .i64 proto, .string src, .string dst, .int .i64 f4, .int .i64 f5] 24) = w5 at HN HB ⊢
  go_wp2_with fail
  refine (clamp_number.calls L _ _ rfl).mono ?_
  rintro e w6 ⟨rfl, hb⟩
  replace HB := Aside0.mk (HB.out.trans (hb.mono (by have := HB.out.size; have := HK.out; omega)))
  replace HN := Aside0.mk (HN.out.below hb HN.out.lt)
  clear hb
  go_wp2_with fail
  refine (clamp_cut p (numB L) i _ HI.out.1 (by have := HI.out; omega) rfl).mono ?_
  rintro e w7 ⟨rfl, nd2, rfl⟩
  replace HB := Aside0.mk (pw_below_drewN HB.out nd2)
  replace HN := Aside0.mk (HN.out.drewN nd2)
  generalize w6.drewN nd2 = w7 at HB HN ⊢
  rw [HL.out, ← HQ.out]
  have a1 : ((n : Int) ≤ (q.size : Int)) = True := eq_true (by have := HSZ.out; have := HI.out; omega)
  have a2 : (n ≤ q.size) = True := eq_true (by have := HSZ.out; have := HI.out; omega)
  have n1 := HN.out.cells
  go_wp2_with fail
  rw [← HSQ.out, show q.size - n = s.size by have := HSZ.out; omega]
  refine (sum_Pseudo.calls src dst proto (s.size : Int) ps _ (by rw [HS.out]; exact HP.out)).mono ?_
  rintro e w8 ⟨rfl, hb⟩
  replace HB := Aside0.mk (HB.out.trans (hb.mono (by have := HB.out.size; have := HK.out; omega)))
  replace HN := Aside0.mk (HN.out.below hb HN.out.lt)
  clear hb n1 a1 a2
  go_wp2_with fail
  refine (clamp_cut s ⟨#[0, 0]⟩ 16 _ (by have := HSZ.out; have := HI.out; omega) (by have := HSZ.out; have := HI.out; omega) rfl).mono ?_
  rintro e w9 ⟨rfl, nd3, rfl⟩
  replace HB := Aside0.mk (pw_below_drewN HB.out nd3)
  generalize w8.drewN nd3 = w9 at HB ⊢
  clear HN
  go_wp2_with fail
  refine (sum_Sum.calls _ _ [ps, cutW s 16 ⟨#[0, 0]⟩] c _ (C_two _ _ _ _) (by simp) (by rw [HS.out]; exact HC.out)).mono ?_
  rintro e w10 ⟨rfl, hb⟩
  replace HB := Aside0.mk ((HB.out.alloc (by have := HB.out.size; have := HK.out; omega) _).trans (hb.mono (by have := HB.out.size; have := HK.out; simp; omega)))
  clear hb
  have a3 : ((n : Int) ≤ (p.size : Int)) = True := eq_true (by have := HI.out; omega)
  have a4 : (n ≤ p.size) = True := eq_true (by have := HI.out; omega)
  obtain ⟨t, ht⟩ : ∃ t, t = cutW s 16 (numB c) := ⟨_, rfl⟩
  have HT := Aside0.mk ht
  have HTZ := Aside0.mk (show t.size = s.size by rw [ht]; exact cutW_size (by have := HSZ.out; have := HI.out; omega) (numB_size _))
  have a5 : (9223372036854775807 < n + t.size) = False := eq_false (by have := HTZ.out; have := HSZ.out; have := HI.out; omega)
  have a6 : (n + t.size ≤ 9223372036854775807) = True := eq_true (by have := HTZ.out; have := HSZ.out; have := HI.out; omega)
  clear ht
  go_wp2_with fail
  go_region_with ((first
    | (go_at_call 39; refine (clamp_number.calls c _ _ rfl).mono ?_; rintro e w11 ⟨rfl, hb⟩; have HB5 := Aside0.mk (show Below k w w11 from by first | exact HB.out.trans (hb.mono (by have := HB.out.size; have := HK.out; omega)) | exact HB.out.drew.trans (hb.mono (by have := HB.out.size; have := HK.out; simp; omega)) | exact (pw_below_drewN HB.out _).trans (hb.mono (by have := HB.out.size; have := HK.out; simp; omega))); clear hb)
    | (go_at_call 37; refine (clamp_cut s (numB c) 16 _ (by have := HSZ.out; have := HI.out; omega) (by have := HSZ.out; have := HI.out; omega) rfl).mono ?_; rintro e w12 ⟨rfl, nd4, rfl⟩; rw [← HT.out]; have HB6 := Aside0.mk (show Below k w _ from by first | exact pw_below_drewN HB5.out nd4 | exact pw_below_drewN HB5.out.drew nd4))))
  all_goals
    go_wp2
    go_ret
    exact ⟨by rw [HT.out, HS.out]; rfl, by rw [HK.out]; first | exact HB6.out | exact HB6.out.drew⟩
set_option maxHeartbeats 4000000 in
set_option maxRecDepth 100000 in
theorem clamp_same (p : ByteArray) (l : Int) (i v : Int) (ok : Bool) (w : World) (hfind : clamp_find.f 1 p = some (i, v, ok)) (hv : ok = false ∨ v ≤ clampLim l) :
    Calls Try.prog 14 #[.string p, .int .i64 l] w fun e w' => e = .returned (.string p) ∧ Below w.heap.size w w' := by
  have HF := Aside0.mk hfind
  obtain ⟨L, hL⟩ : ∃ L, L = clampLim l := ⟨_, rfl⟩
  obtain ⟨jm, hjm⟩ : ∃ jm : Int, (if 65535 < l then 65535 else l) = jm := ⟨_, rfl⟩
  have hL2 : (if 0 < jm then jm else 0) = L := by rw [hL, ← hjm]; rfl
  rw [← hL] at hv
  clear hfind hL
  cases ok with
  | false =>
    clear hv
    go_enter Try.func14, Try.ntmps14
    go_wp2_with fail
    refine (clamp_find.calls 1 p _ _ _ _ HF.out).mono ?_
    rintro e w2 ⟨rfl, hb⟩
    have HB := Aside0.mk hb
    clear hb
    go_wp2
    go_ret
    exact ⟨rfl, HB.out⟩
  | true =>
    have e1 : decide (v ≤ L) = true := decide_eq_true (by rcases hv with h | h; exact absurd h (by decide); exact h)
    clear hv
    go_enter Try.func14, Try.ntmps14
    go_wp2_with fail
    refine (clamp_find.calls 1 p _ _ _ _ HF.out).mono ?_
    rintro e w2 ⟨rfl, hb⟩
    have HB := Aside0.mk hb
    clear hb
    go_wp2
    go_ret
    exact ⟨rfl, HB.out⟩
theorem clamp_Clamp.calls (a0 : ByteArray) (a1 : Int) (r : ByteArray) (w : World) (h : clamp_Clamp.f a0 a1 = some r) :
    Calls Try.prog 14 #[.string a0, .int .i64 a1] w fun e w' => e = .returned (.string r) ∧ Below w.heap.size w w' := by
  unfold clamp_Clamp.f at h
  obtain ⟨⟨i, v, ok⟩, hf, h⟩ := Option.bind_eq_some_iff.1 h
  by_cases hv : ok = false ∨ v ≤ clampLim a1
  · rw [if_pos hv] at h
    obtain rfl := Option.some.inj h
    exact clamp_same a0 a1 i v ok w hf hv
  · rw [if_neg hv] at h
    obtain ⟨n, hn, h⟩ := Option.bind_eq_some_iff.1 h
    obtain ⟨⟨proto, src, dst, f4, f5, f6⟩, hg, h⟩ := Option.bind_eq_some_iff.1 h
    split at h
    · rename_i hb
      obtain ⟨b1, b2, b3, b4, b5⟩ := hb
      obtain ⟨i, rfl⟩ := Int.eq_ofNat_of_zero_le (show 0 ≤ i from b1)
      obtain ⟨n, rfl⟩ := Int.eq_ofNat_of_zero_le (show 0 ≤ n from b3)
      have hok : ok = true := by cases ok; exact absurd (.inl rfl) hv; rfl
      subst hok
      exact clamp_main a0 a1 i n v proto src dst f4 f5 f6 r w hf (fun h => hv (.inr h)) hn hg (by have b2 : (i : Int) + 2 ≤ (a0.size : Int) := b2; omega) (by omega) b5 h
    · exact absurd h (by simp)
end Go.Proofs.Ytcmalglippmocaa.G
end

section
namespace Go.Proofs.Ytcmalglippmocaa.G
open Go.RowKit Go.Proofs.YtcmalglippmocaaW.PrintWords Go.Proofs.YtcmalglippmocaaW.PrintLast Go.Proofs.YtcmalglippmocaaW.PrintMore
attribute [local go_sem] max2_int min2_int max_two min_two max_three min_three max_four min_four

def palanquinlaw10_awake.f (k : Nat)  : Option (Bool) := (palanquinref07_Put.f k 0 0 0 0 2 0 0 (⟨#[2, 4, 5, 180]⟩ : ByteArray) (⟨#[]⟩ : ByteArray) 0).bind fun bt327 => ((palanquinref09_Build4.f k 0 0 0 0 6 false false (⟨#[97, 98, 99, 100]⟩ : ByteArray) (⟨#[101, 102, 103, 104]⟩ : ByteArray) (⟨#[]⟩ : ByteArray) bt327.1).bind fun bt329 => ((clamp_Clamp.f bt329.1 1400).bind fun t331 => ((clamp_MSS.f k t331).bind fun bt332 => (if bt332.1 = 1400 then (if bt332.2 = true then ((clamp_Clamp.f bt329.1 1500).bind fun t334 => (some (t334.toList == bt329.1.toList))) else (some false)) else (some false)))))
set_option maxHeartbeats 8000000 in
set_option maxRecDepth 100000 in
theorem palanquinlaw10_awake.calls (k : Nat)  (r : Bool) (w : World) (h : palanquinlaw10_awake.f k  = some r) :
  Calls Try.prog 13 #[] w fun e w' => e = .returned (.bool r) ∧ Below w.heap.size w w' := by
 have hu69 := Try.underlying69
 have hu50 := Try.underlying50
 have HB := mA (Below.refl w.heap.size w)
 have H : ((palanquinref07_Put.f k 0 0 0 0 2 0 0 (⟨#[2, 4, 5, 180]⟩ : ByteArray) (⟨#[]⟩ : ByteArray) 0).bind fun bt327 => ((palanquinref09_Build4.f k 0 0 0 0 6 false false (⟨#[97, 98, 99, 100]⟩ : ByteArray) (⟨#[101, 102, 103, 104]⟩ : ByteArray) (⟨#[]⟩ : ByteArray) bt327.1).bind fun bt329 => ((clamp_Clamp.f bt329.1 1400).bind fun t331 => ((clamp_MSS.f k t331).bind fun bt332 => (if bt332.1 = 1400 then (if bt332.2 = true then ((clamp_Clamp.f bt329.1 1500).bind fun t334 => (some (t334.toList == bt329.1.toList))) else (some false)) else (some false)))))) = some r := h
 clear h
 replace H := Option.bind_eq_some_iff.mp H
 obtain ⟨⟨t327, t328⟩, A10, H⟩ := H
 try dsimp +instances only at H
 have A1 := mA A10
 clear A10
 replace H := Option.bind_eq_some_iff.mp H
 obtain ⟨⟨t329, t330⟩, A20, H⟩ := H
 try dsimp +instances only at H
 have A2 := mA A20
 clear A20
 replace H := Option.bind_eq_some_iff.mp H
 obtain ⟨t331, A30, H⟩ := H
 try dsimp +instances only at H
 have A3 := mA A30
 clear A30
 replace H := Option.bind_eq_some_iff.mp H
 obtain ⟨⟨t332, t333⟩, A40, H⟩ := H
 try dsimp +instances only at H
 have A4 := mA A40
 clear A40
 by_cases c5 : t332 = 1400
 ·rw [if_pos c5] at H
  have c5b0 : (t332 == 1400) = true := beq_iff_eq.mpr c5
  have c5b1 : (t332 != 1400) = false := bne_eq_false_iff_eq.mpr c5
  clear c5
  by_cases c6 : t333 = true
  ·subst c6
   rw [if_pos rfl] at H
   replace H := Option.bind_eq_some_iff.mp H
   obtain ⟨t334, A70, H⟩ := H
   try dsimp +instances only at H
   have A7 := mA A70
   clear A70
   obtain rfl := Option.some.inj H
   go_enter Try.func13, Try.ntmps13
   go_wp2_with (first | ((with_reducible refine gate_callee (f := 34) rfl ?_); refine goesL_ (some 9) rfl rfl Try.func34 (by kernel_rfl) rfl #[.agg #[.int .i64 0, .int .i64 0, .int .u32 0, .int .u32 0, .int .i64 2, .int .i64 0, .int .i64 0, .string (⟨#[2, 4, 5, 180]⟩ : ByteArray), .string ⟨#[]⟩], .int .i64 0] rfl (by (try simp only [List.map_toArray, List.map_cons, List.map_nil]); first | done | rfl | (simp only [List.length_drop, List.length_take]; rfl)) ?_; (with_reducible refine (palanquinref07_Put.calls k 0 0 0 0 2 0 0 (⟨#[2, 4, 5, 180]⟩ : ByteArray) (⟨#[]⟩ : ByteArray) 0 t327 t328 _ A1.out).mono ?_); rintro e w8 ⟨rfl, hb⟩; refine ⟨_, rfl, ?_⟩; have n0_ := mA (bP (by repeat (first | (with_reducible first | exact HB.out | apply bA | apply bN | apply bD) | exact HB.out)) hb); clear HB; have HB := n0_; clear n0_; (try clear hb); (try clear hb2); (try clear hk); (try clear hi)) | ((with_reducible refine gate_callee (f := 35) rfl ?_); refine goesL_ (some 15) rfl rfl Try.func35 (by kernel_rfl) rfl #[.agg #[.int .i64 0, .int .i64 0, .int .i64 0, .int .i64 0, .int .i64 6, .bool false, .bool false, .string (⟨#[97, 98, 99, 100]⟩ : ByteArray), .string (⟨#[101, 102, 103, 104]⟩ : ByteArray), .string ⟨#[]⟩], .string t327] rfl (by (try simp only [List.map_toArray, List.map_cons, List.map_nil]); first | done | rfl | (simp only [List.length_drop, List.length_take]; rfl)) ?_; (with_reducible refine (palanquinref09_Build4.calls k 0 0 0 0 6 false false (⟨#[97, 98, 99, 100]⟩ : ByteArray) (⟨#[101, 102, 103, 104]⟩ : ByteArray) (⟨#[]⟩ : ByteArray) t327 t329 t330 _ A2.out).mono ?_); rintro e w9 ⟨rfl, hb⟩; refine ⟨_, rfl, ?_⟩; have n0_ := mA (bP (by repeat (first | (with_reducible first | exact HB.out | apply bA | apply bN | apply bD) | exact HB.out)) hb); clear HB; have HB := n0_; clear n0_; (try clear hb); (try clear hb2); (try clear hk); (try clear hi)) | ((with_reducible refine gate_callee (f := 14) rfl ?_); refine goesL_ (some 20) rfl rfl Try.func14 (by kernel_rfl) rfl #[.string t329, .int .i64 1400] rfl (by (try simp only [List.map_toArray, List.map_cons, List.map_nil]); first | done | rfl | (simp only [List.length_drop, List.length_take]; rfl)) ?_; (with_reducible refine (clamp_Clamp.calls t329 1400 t331 _ A3.out).mono ?_); rintro e w10 ⟨rfl, hb⟩; refine ⟨_, rfl, ?_⟩; have n0_ := mA (bP (by repeat (first | (with_reducible first | exact HB.out | apply bA | apply bN | apply bD) | exact HB.out)) hb); clear HB; have HB := n0_; clear n0_; (try clear hb); (try clear hb2); (try clear hk); (try clear hi)) | ((with_reducible refine gate_callee (f := 15) rfl ?_); refine goesL_ (some 21) rfl rfl Try.func15 (by kernel_rfl) rfl #[.string t331] rfl (by (try simp only [List.map_toArray, List.map_cons, List.map_nil]); first | done | rfl | (simp only [List.length_drop, List.length_take]; rfl)) ?_; (with_reducible refine (clamp_MSS.calls k t331 t332 true _ A4.out).mono ?_); rintro e w11 ⟨rfl, hb⟩; refine ⟨_, rfl, ?_⟩; have n0_ := mA (bP (by repeat (first | (with_reducible first | exact HB.out | apply bA | apply bN | apply bD) | exact HB.out)) hb); clear HB; have HB := n0_; clear n0_; (try clear hb); (try clear hb2); (try clear hk); (try clear hi)) | (go_at_call 14; (with_reducible refine (clamp_Clamp.calls t329 1500 t334 _ A7.out).mono ?_); rintro e w12 ⟨rfl, hb⟩; have n0_ := mA (bP (by repeat (first | (with_reducible first | exact HB.out | apply bA | apply bN | apply bD) | exact HB.out)) hb); clear HB; have HB := n0_; clear n0_; (try clear hb); (try clear hb2); (try clear hk); (try clear hi)))
   go_ret
   exact ⟨by first | rfl | (simp [errW_none, errW_some] <;> rfl) | (simp [*, errW_none, errW_some] <;> rfl), by repeat (first | (with_reducible first | exact HB.out | apply bA | apply bN | apply bD) | exact HB.out)⟩
  ·replace c6 := Bool.eq_false_iff.mpr c6
   subst c6
   rw [if_neg (show ¬ (false = true) by decide)] at H
   obtain rfl := Option.some.inj H
   go_enter Try.func13, Try.ntmps13
   go_wp2_with (first | ((with_reducible refine gate_callee (f := 34) rfl ?_); refine goesL_ (some 9) rfl rfl Try.func34 (by kernel_rfl) rfl #[.agg #[.int .i64 0, .int .i64 0, .int .u32 0, .int .u32 0, .int .i64 2, .int .i64 0, .int .i64 0, .string (⟨#[2, 4, 5, 180]⟩ : ByteArray), .string ⟨#[]⟩], .int .i64 0] rfl (by (try simp only [List.map_toArray, List.map_cons, List.map_nil]); first | done | rfl | (simp only [List.length_drop, List.length_take]; rfl)) ?_; (with_reducible refine (palanquinref07_Put.calls k 0 0 0 0 2 0 0 (⟨#[2, 4, 5, 180]⟩ : ByteArray) (⟨#[]⟩ : ByteArray) 0 t327 t328 _ A1.out).mono ?_); rintro e w13 ⟨rfl, hb⟩; refine ⟨_, rfl, ?_⟩; have n0_ := mA (bP (by repeat (first | (with_reducible first | exact HB.out | apply bA | apply bN | apply bD) | exact HB.out)) hb); clear HB; have HB := n0_; clear n0_; (try clear hb); (try clear hb2); (try clear hk); (try clear hi)) | ((with_reducible refine gate_callee (f := 35) rfl ?_); refine goesL_ (some 15) rfl rfl Try.func35 (by kernel_rfl) rfl #[.agg #[.int .i64 0, .int .i64 0, .int .i64 0, .int .i64 0, .int .i64 6, .bool false, .bool false, .string (⟨#[97, 98, 99, 100]⟩ : ByteArray), .string (⟨#[101, 102, 103, 104]⟩ : ByteArray), .string ⟨#[]⟩], .string t327] rfl (by (try simp only [List.map_toArray, List.map_cons, List.map_nil]); first | done | rfl | (simp only [List.length_drop, List.length_take]; rfl)) ?_; (with_reducible refine (palanquinref09_Build4.calls k 0 0 0 0 6 false false (⟨#[97, 98, 99, 100]⟩ : ByteArray) (⟨#[101, 102, 103, 104]⟩ : ByteArray) (⟨#[]⟩ : ByteArray) t327 t329 t330 _ A2.out).mono ?_); rintro e w14 ⟨rfl, hb⟩; refine ⟨_, rfl, ?_⟩; have n0_ := mA (bP (by repeat (first | (with_reducible first | exact HB.out | apply bA | apply bN | apply bD) | exact HB.out)) hb); clear HB; have HB := n0_; clear n0_; (try clear hb); (try clear hb2); (try clear hk); (try clear hi)) | ((with_reducible refine gate_callee (f := 14) rfl ?_); refine goesL_ (some 20) rfl rfl Try.func14 (by kernel_rfl) rfl #[.string t329, .int .i64 1400] rfl (by (try simp only [List.map_toArray, List.map_cons, List.map_nil]); first | done | rfl | (simp only [List.length_drop, List.length_take]; rfl)) ?_; (with_reducible refine (clamp_Clamp.calls t329 1400 t331 _ A3.out).mono ?_); rintro e w15 ⟨rfl, hb⟩; refine ⟨_, rfl, ?_⟩; have n0_ := mA (bP (by repeat (first | (with_reducible first | exact HB.out | apply bA | apply bN | apply bD) | exact HB.out)) hb); clear HB; have HB := n0_; clear n0_; (try clear hb); (try clear hb2); (try clear hk); (try clear hi)) | ((with_reducible refine gate_callee (f := 15) rfl ?_); refine goesL_ (some 21) rfl rfl Try.func15 (by kernel_rfl) rfl #[.string t331] rfl (by (try simp only [List.map_toArray, List.map_cons, List.map_nil]); first | done | rfl | (simp only [List.length_drop, List.length_take]; rfl)) ?_; (with_reducible refine (clamp_MSS.calls k t331 t332 false _ A4.out).mono ?_); rintro e w16 ⟨rfl, hb⟩; refine ⟨_, rfl, ?_⟩; have n0_ := mA (bP (by repeat (first | (with_reducible first | exact HB.out | apply bA | apply bN | apply bD) | exact HB.out)) hb); clear HB; have HB := n0_; clear n0_; (try clear hb); (try clear hb2); (try clear hk); (try clear hi)))
   go_ret
   exact ⟨by first | rfl | (simp [errW_none, errW_some] <;> rfl) | (simp [*, errW_none, errW_some] <;> rfl), by repeat (first | (with_reducible first | exact HB.out | apply bA | apply bN | apply bD) | exact HB.out)⟩
 ·rw [if_neg c5] at H
  have c5b0 : (t332 == 1400) = false := beq_eq_false_iff_ne.mpr c5
  have c5b1 : (t332 != 1400) = true := bne_iff_ne.mpr c5
  obtain rfl := Option.some.inj H
  go_enter Try.func13, Try.ntmps13
  go_wp2_with (first | ((with_reducible refine gate_callee (f := 34) rfl ?_); refine goesL_ (some 9) rfl rfl Try.func34 (by kernel_rfl) rfl #[.agg #[.int .i64 0, .int .i64 0, .int .u32 0, .int .u32 0, .int .i64 2, .int .i64 0, .int .i64 0, .string (⟨#[2, 4, 5, 180]⟩ : ByteArray), .string ⟨#[]⟩], .int .i64 0] rfl (by (try simp only [List.map_toArray, List.map_cons, List.map_nil]); first | done | rfl | (simp only [List.length_drop, List.length_take]; rfl)) ?_; (with_reducible refine (palanquinref07_Put.calls k 0 0 0 0 2 0 0 (⟨#[2, 4, 5, 180]⟩ : ByteArray) (⟨#[]⟩ : ByteArray) 0 t327 t328 _ A1.out).mono ?_); rintro e w17 ⟨rfl, hb⟩; refine ⟨_, rfl, ?_⟩; have n0_ := mA (bP (by repeat (first | (with_reducible first | exact HB.out | apply bA | apply bN | apply bD) | exact HB.out)) hb); clear HB; have HB := n0_; clear n0_; (try clear hb); (try clear hb2); (try clear hk); (try clear hi)) | ((with_reducible refine gate_callee (f := 35) rfl ?_); refine goesL_ (some 15) rfl rfl Try.func35 (by kernel_rfl) rfl #[.agg #[.int .i64 0, .int .i64 0, .int .i64 0, .int .i64 0, .int .i64 6, .bool false, .bool false, .string (⟨#[97, 98, 99, 100]⟩ : ByteArray), .string (⟨#[101, 102, 103, 104]⟩ : ByteArray), .string ⟨#[]⟩], .string t327] rfl (by (try simp only [List.map_toArray, List.map_cons, List.map_nil]); first | done | rfl | (simp only [List.length_drop, List.length_take]; rfl)) ?_; (with_reducible refine (palanquinref09_Build4.calls k 0 0 0 0 6 false false (⟨#[97, 98, 99, 100]⟩ : ByteArray) (⟨#[101, 102, 103, 104]⟩ : ByteArray) (⟨#[]⟩ : ByteArray) t327 t329 t330 _ A2.out).mono ?_); rintro e w18 ⟨rfl, hb⟩; refine ⟨_, rfl, ?_⟩; have n0_ := mA (bP (by repeat (first | (with_reducible first | exact HB.out | apply bA | apply bN | apply bD) | exact HB.out)) hb); clear HB; have HB := n0_; clear n0_; (try clear hb); (try clear hb2); (try clear hk); (try clear hi)) | ((with_reducible refine gate_callee (f := 14) rfl ?_); refine goesL_ (some 20) rfl rfl Try.func14 (by kernel_rfl) rfl #[.string t329, .int .i64 1400] rfl (by (try simp only [List.map_toArray, List.map_cons, List.map_nil]); first | done | rfl | (simp only [List.length_drop, List.length_take]; rfl)) ?_; (with_reducible refine (clamp_Clamp.calls t329 1400 t331 _ A3.out).mono ?_); rintro e w19 ⟨rfl, hb⟩; refine ⟨_, rfl, ?_⟩; have n0_ := mA (bP (by repeat (first | (with_reducible first | exact HB.out | apply bA | apply bN | apply bD) | exact HB.out)) hb); clear HB; have HB := n0_; clear n0_; (try clear hb); (try clear hb2); (try clear hk); (try clear hi)) | ((with_reducible refine gate_callee (f := 15) rfl ?_); refine goesL_ (some 21) rfl rfl Try.func15 (by kernel_rfl) rfl #[.string t331] rfl (by (try simp only [List.map_toArray, List.map_cons, List.map_nil]); first | done | rfl | (simp only [List.length_drop, List.length_take]; rfl)) ?_; (with_reducible refine (clamp_MSS.calls k t331 t332 t333 _ A4.out).mono ?_); rintro e w20 ⟨rfl, hb⟩; refine ⟨_, rfl, ?_⟩; have n0_ := mA (bP (by repeat (first | (with_reducible first | exact HB.out | apply bA | apply bN | apply bD) | exact HB.out)) hb); clear HB; have HB := n0_; clear n0_; (try clear hb); (try clear hb2); (try clear hk); (try clear hi)))
  go_ret
  exact ⟨by first | rfl | (simp [errW_none, errW_some] <;> rfl) | (simp [*, errW_none, errW_some] <;> rfl), by repeat (first | (with_reducible first | exact HB.out | apply bA | apply bN | apply bD) | exact HB.out)⟩

end Go.Proofs.Ytcmalglippmocaa.G
end

section
namespace Go.Proofs.Ytcmalglippmocaa.G
open Go.RowKit Go.Proofs.YtcmalglippmocaaW.PrintWords Go.Proofs.YtcmalglippmocaaW.PrintLast Go.Proofs.YtcmalglippmocaaW.PrintMore
attribute [local go_sem] max2_int min2_int max_two min_two max_three min_three max_four min_four

def palanquinref08_Get.f (k : Nat) (a0 : ByteArray) : Option (Int × Int × ByteArray × Int × Int) := if (a0.size : Int) < 8 then (some (0, 0, (⟨#[]⟩ : ByteArray), 0, 2)) else (if 4 ≤ 6 then (if 6 ≤ (a0.size : Int) then ((palanquinref01_Value.f k (a0.extract 4 6)).bind fun t221 => (if (wrap64 (t221)) = (a0.size : Int) then (if 0 ≤ 2 then (if 2 ≤ (a0.size : Int) then ((palanquinref01_Value.f k (a0.extract 0 2)).bind fun t222 => (if 2 ≤ 4 then (if 4 ≤ (a0.size : Int) then ((palanquinref01_Value.f k (a0.extract 2 4)).bind fun t223 => (if 8 ≤ (a0.size : Int) then (if 6 ≤ 8 then ((palanquinref01_Value.f k (a0.extract 6 8)).bind fun t224 => (some (wrap64 (t222), wrap64 (t223), a0.extract 8 a0.size, wrap64 (t224), 0))) else (none)) else (none))) else (none)) else (none))) else (none)) else (none)) else (some (0, 0, (⟨#[]⟩ : ByteArray), 0, 4)))) else (none)) else (none))
def palanquinref08_Get.T5 : Bool × List (List Nat × List Nat) := (true, [([], []), ([0], [0]), ([1], [1]), ([2], [2]), ([], []), ([4], [4]), ([5, 2], [5]), ([6], [6]), ([], []), ([8], [8]), ([3, 7, 9], [3, 7, 9]), ([], []), ([11], [11]), ([12, 6], [12]), ([13], [13]), ([10, 13, 0, 1, 2, 3, 4, 5, 6, 7, 8, 9, 10], [10]), ([14, 15, 0, 1, 2, 3, 4, 5, 6, 7, 8, 9, 10, 11, 12, 13, 14, 15], [14]), ([16, 0, 1, 2, 3, 4, 5, 6, 7, 8, 9, 10, 11, 12, 13, 14, 15, 16], [])])
def palanquinref08_Get.B5 : List Nat := [0, 1, 3, 7, 0, 16, 55, 119, 0, 256, 1023, 0, 2048, 6263, 14455, 16383, 65535, 131071]
theorem palanquinref08_Get.tab5 : rtab .any (opsOf Try.f31 5) = palanquinref08_Get.T5 := by kernel_rfl
theorem palanquinref08_Get.bits5 : waitsOk palanquinref08_Get.T5.2 palanquinref08_Get.B5 = true := by kernel_rfl
set_option maxHeartbeats 8000000 in
set_option maxRecDepth 100000 in
theorem palanquinref08_Get.calls (k : Nat) (a0 : ByteArray) (r1 : Int) (r2 : Int) (r3 : ByteArray) (r4 : Int) (r5 : Int) (w : World) (h : palanquinref08_Get.f k a0 = some (r1, r2, r3, r4, r5)) :
  Calls Try.prog 31 #[.string a0] w fun e w' => e = .returned (.tuple #[.agg #[.int .i64 r1, .int .i64 r2, .string r3], .int .i64 r4, .int .i64 r5]) ∧ Below w.heap.size w w' := by
 have hu73 := Try.underlying73
 have HB := mA (Below.refl w.heap.size w)
 have H : (if (a0.size : Int) < 8 then (some (0, 0, (⟨#[]⟩ : ByteArray), 0, 2)) else (if 4 ≤ 6 then (if 6 ≤ (a0.size : Int) then ((palanquinref01_Value.f k (a0.extract 4 6)).bind fun t221 => (if (wrap64 (t221)) = (a0.size : Int) then (if 0 ≤ 2 then (if 2 ≤ (a0.size : Int) then ((palanquinref01_Value.f k (a0.extract 0 2)).bind fun t222 => (if 2 ≤ 4 then (if 4 ≤ (a0.size : Int) then ((palanquinref01_Value.f k (a0.extract 2 4)).bind fun t223 => (if 8 ≤ (a0.size : Int) then (if 6 ≤ 8 then ((palanquinref01_Value.f k (a0.extract 6 8)).bind fun t224 => (some (wrap64 (t222), wrap64 (t223), a0.extract 8 a0.size, wrap64 (t224), 0))) else (none)) else (none))) else (none)) else (none))) else (none)) else (none)) else (some (0, 0, (⟨#[]⟩ : ByteArray), 0, 4)))) else (none)) else (none))) = some (r1, r2, r3, r4, r5) := h
 clear h
 by_cases c2 : (a0.size : Int) < 8
 ·rw [if_pos c2] at H
  have c2b0 : decide ((a0.size : Int) < 8) = true := decide_eq_true c2
  have c2b1 : decide (a0.size < 8) = true := decide_eq_true (by omega)
  clear c2
  simp only [Option.some.injEq, Prod.mk.injEq] at H
  obtain ⟨rfl, rfl, rfl, rfl, rfl⟩ := H
  go_enter Try.func31, Try.ntmps31
  go_wp2_with (first | ((with_reducible refine gate_dst (N := 2) rfl ?_); refine box_event ?hg (N := 2) ?hd (cs := #[.int .i64 0, .int .i64 0, .string ⟨#[]⟩]) (t := 73) ?hr ?_; (case hd => rfl); (case hg => rfl); (case hr => first | (go_simp; done) | (go_simp; rfl)); intro gb220 hg w3 hbox hb; obtain ⟨n0_, nq_⟩ := bpr (by repeat (first | (with_reducible first | exact HB.out | apply bA | apply bN | apply bD) | exact HB.out)) hb; have n1_ := mA (hbox); have n2_ := mA ((by rw [hg]; exact nq_ : w.heap.size ≤ gb220)); have n3_ := mA ((by rw [hg]; exact nq_ : w.heap.size ≤ gb220)); clear HB; have HB := n0_; have BK220 := n1_; have GW220 := n2_; have GE220 := n3_; clear nq_; clear n0_ n1_ n2_ n3_; clear hb hbox hg; obtain ⟨hcz4_0, hcz4_1, hcz4_2⟩ := bc3 BK220.out; obtain ⟨hfz4_0, hfz4_1, hfz4_2⟩ := bf3 BK220.out))
  refine bodyPost_ret (results_ctt rfl _ _ gb220 73 #[.int .i64 0, .int .i64 0, .string ⟨#[]⟩] (0, 0) _ rfl (by (with_reducible repeat (first | apply kN | apply kD | apply kA)); refine blk_put (cs := #[.int .i64 0, .int .i64 0, .string ⟨#[]⟩]) ?_ 2 _ (by first | rfl | (simp [*]; done)); (with_reducible repeat (first | apply kN | apply kD | apply kA)); refine blk_put (cs := #[.int .i64 0, .int .i64 0, .string ⟨#[]⟩]) ?_ 1 _ (by first | rfl | (simp [*]; done)); (with_reducible repeat (first | apply kN | apply kD | apply kA)); refine blk_put (cs := #[.int .i64 0, .int .i64 0, .string ⟨#[]⟩]) ?_ 0 _ (by first | rfl | (simp [*]; done)); (with_reducible repeat (first | apply kN | apply kD | apply kA)); exact BK220.out) Try.underlying73 rfl (by kernel_rfl)) rfl ?_
  exact ⟨by first | rfl | (simp [errW_none, errW_some] <;> rfl) | (simp [*, errW_none, errW_some] <;> rfl), by repeat (first | (with_reducible first | exact HB.out | apply bA | apply bN | apply bD | refine bS ?_ GE220.out) | exact HB.out)⟩
 ·rw [if_neg c2] at H
  have c2b0 : decide ((a0.size : Int) < 8) = false := decide_eq_false c2
  have c2b1 : decide (a0.size < 8) = false := decide_eq_false (by omega)
  clear c2
  by_cases c5 : 4 ≤ 6
  ·rw [if_pos c5] at H
   have c5b0 := eq_true c5
   have c5b1 : decide (4 ≤ 6) = true := decide_eq_true c5
   clear c5
   by_cases c6 : 6 ≤ (a0.size : Int)
   ·rw [if_pos c6] at H
    have c6b0 := eq_true c6
    have c6b1 : decide (6 ≤ (a0.size : Int)) = true := decide_eq_true c6
    clear c6
    replace H := Option.bind_eq_some_iff.mp H
    obtain ⟨t221, A70, H⟩ := H
    try dsimp +instances only at H
    have A7 := mA A70
    clear A70
    by_cases c8 : (wrap64 (t221)) = (a0.size : Int)
    ·rw [if_pos c8] at H
     have c8b0 : ((wrap64 (t221)) == (a0.size : Int)) = true := beq_iff_eq.mpr c8
     have c8b1 : ((wrap64 (t221)) != (a0.size : Int)) = false := bne_eq_false_iff_eq.mpr c8
     clear c8
     by_cases c9 : 0 ≤ 2
     ·rw [if_pos c9] at H
      have c9b0 := eq_true c9
      have c9b1 : decide (0 ≤ 2) = true := decide_eq_true c9
      clear c9
      by_cases c10 : 2 ≤ (a0.size : Int)
      ·rw [if_pos c10] at H
       have c10b0 := eq_true c10
       have c10b1 : decide (2 ≤ (a0.size : Int)) = true := decide_eq_true c10
       clear c10
       replace H := Option.bind_eq_some_iff.mp H
       obtain ⟨t222, A110, H⟩ := H
       try dsimp +instances only at H
       have A11 := mA A110
       clear A110
       by_cases c12 : 2 ≤ 4
       ·rw [if_pos c12] at H
        have c12b0 := eq_true c12
        have c12b1 : decide (2 ≤ 4) = true := decide_eq_true c12
        clear c12
        by_cases c13 : 4 ≤ (a0.size : Int)
        ·rw [if_pos c13] at H
         have c13b0 := eq_true c13
         have c13b1 : decide (4 ≤ (a0.size : Int)) = true := decide_eq_true c13
         clear c13
         replace H := Option.bind_eq_some_iff.mp H
         obtain ⟨t223, A140, H⟩ := H
         try dsimp +instances only at H
         have A14 := mA A140
         clear A140
         by_cases c15 : 8 ≤ (a0.size : Int)
         ·rw [if_pos c15] at H
          have c15b0 := eq_true c15
          have c15b1 : decide (8 ≤ (a0.size : Int)) = true := decide_eq_true c15
          clear c15
          by_cases c16 : 6 ≤ 8
          ·rw [if_pos c16] at H
           have c16b0 := eq_true c16
           have c16b1 : decide (6 ≤ 8) = true := decide_eq_true c16
           clear c16
           have c17b0 := eq_true (of_decide_eq_true (by first | (with_reducible assumption) | assumption) : 8 ≤ (a0.size : Int))
           replace H := Option.bind_eq_some_iff.mp H
           obtain ⟨t224, A180, H⟩ := H
           try dsimp +instances only at H
           have A18 := mA A180
           clear A180
           simp only [Option.some.injEq, Prod.mk.injEq] at H
           obtain ⟨rfl, rfl, rfl, rfl, rfl⟩ := H
           go_enter Try.func31, Try.ntmps31
           try go_wp2_with (first | ((with_reducible refine gate_dst (N := 2) rfl ?_); refine box_event ?hg (N := 2) ?hd (cs := #[.int .i64 0, .int .i64 0, .string ⟨#[]⟩]) (t := 73) ?hr ?_; (case hd => rfl); (case hg => rfl); (case hr => first | (go_simp; done) | (go_simp; rfl)); intro gb220 hg w19 hbox hb; obtain ⟨n0_, nq_⟩ := bpr (by repeat (first | (with_reducible first | exact HB.out | apply bA | apply bN | apply bD) | exact HB.out)) hb; have n1_ := mA (hbox); have n2_ := mA ((by rw [hg]; exact nq_ : w.heap.size ≤ gb220)); have n3_ := mA ((by rw [hg]; exact nq_ : w.heap.size ≤ gb220)); clear HB; have HB := n0_; have BK220 := n1_; have GW220 := n2_; have GE220 := n3_; clear nq_; clear n0_ n1_ n2_ n3_; clear hb hbox hg) | ((with_reducible refine gate_callee (f := 54) rfl ?_); refine goesL_ (some 11) rfl rfl Try.func54 (by kernel_rfl) rfl #[.string (a0.extract 4 6)] rfl (by (try simp only [List.map_toArray, List.map_cons, List.map_nil]); first | done | rfl | (simp only [List.length_drop, List.length_take]; rfl)) ?_; (with_reducible refine (palanquinref01_Value.calls k (a0.extract 4 6) t221 _ A7.out).mono ?_); rintro e w' ⟨rfl, ⟨nd, rfl⟩⟩; refine ⟨_, rfl, ?_⟩; (try (rw [drewN_self w19]; generalize hq_ : World.drewN w19 _ = w19; have n0_ : Aside0 (w19.heap[gb220]? = some (.cells #[.int .i64 0, .int .i64 0, .string ⟨#[]⟩] 73 (0, 0))) := ⟨by rw [← hq_]; exact (by (with_reducible repeat (first | apply kN | apply kD | apply kA)); exact BK220.out)⟩; have n1_ : Aside0 (Below w.heap.size w w19) := ⟨by rw [← hq_]; exact (by repeat (first | (with_reducible first | exact HB.out | apply bA | apply bN | apply bD | refine bS ?_ GE220.out) | exact HB.out))⟩; clear BK220 HB hq_; have BK220 := n0_; have HB := n1_; clear n0_ n1_))))
           have n0_ := mA (kD BK220.out)
           have n1_ := mA (bD HB.out)
           clear BK220
           clear HB
           have BK220 := n0_
           have HB := n1_
           clear n0_ n1_
           refine start_ (n := 18) (S := fun w' => True) (ds := []) (bv 18 0) (by kernel_rfl) rfl rfl trivial (fun hHeld => ?_); refine with_tabW palanquinref08_Get.tab5 palanquinref08_Get.bits5 (fun HT_ HW_ => ?_)
           generalize w19.drew = w20 at BK220 HB hHeld ⊢
           refine pure_ (i := 0) (N := some 17) (v := ?_) (a' := ?_) (bv 18 1) rfl rfl (any_of HT_.out (by kernel_rfl)) (fun _ _ _ h => h) (Or.inl ⟨by rfl, ?_⟩) ?_ ?_; rotate_left; (intro w'; go_simp; with_reducible rfl); rotate_left; (simp only [Act.put, List.setIfInBounds_toArray, List.set_cons_zero, List.set_cons_succ, i64_w, i32_w]; rfl)
           refine pure_ (i := 1) (N := some 18) (v := ?_) (a' := ?_) (bv 18 3) rfl rfl (any_of HT_.out (by kernel_rfl)) (fun _ _ _ h => h) (Or.inl ⟨by rfl, ?_⟩) ?_ ?_; rotate_left; (intro w'; go_simp; with_reducible rfl); rotate_left; (simp only [Act.put, List.setIfInBounds_toArray, List.set_cons_zero, List.set_cons_succ, i64_w, i32_w]; rfl)
           refine pure_ (i := 4) (N := some 21) (v := ?_) (a' := ?_) (bv 18 19) rfl rfl (any_of HT_.out (by kernel_rfl)) (fun _ _ _ h => h) (Or.inl ⟨by rfl, ?_⟩) ?_ ?_; rotate_left; (intro w'; go_simp; with_reducible rfl); rotate_left; (simp only [Act.put, List.setIfInBounds_toArray, List.set_cons_zero, List.set_cons_succ, i64_w, i32_w]; rfl)
           refine pure_ (i := 5) (N := some 22) (v := ?_) (a' := ?_) (bv 18 51) rfl rfl (any_of HT_.out (by kernel_rfl)) (fun _ _ _ h => h) (Or.inl ⟨by rfl, ?_⟩) ?_ ?_; rotate_left; (intro w'; go_simp; with_reducible rfl); rotate_left; (simp only [Act.put, List.setIfInBounds_toArray, List.set_cons_zero, List.set_cons_succ, i64_w, i32_w]; rfl)
           refine pure_ (i := 8) (N := some 25) (v := ?_) (a' := ?_) (bv 18 307) rfl rfl (any_of HT_.out (by kernel_rfl)) (fun _ _ _ h => h) (Or.inl ⟨by rfl, ?_⟩) ?_ ?_; rotate_left; (intro w'; go_simp; with_reducible rfl); rotate_left; (simp only [Act.put, List.setIfInBounds_toArray, List.set_cons_zero, List.set_cons_succ, i64_w, i32_w]; rfl)
           refine pure_ (i := 9) (N := some 26) (v := ?_) (a' := ?_) (bv 18 819) rfl rfl (any_of HT_.out (by kernel_rfl)) (fun _ _ _ h => h) (Or.inl ⟨by rfl, ?_⟩) ?_ ?_; rotate_left; (intro w'; go_simp; with_reducible rfl); rotate_left; (simp only [Act.put, List.setIfInBounds_toArray, List.set_cons_zero, List.set_cons_succ, i64_w, i32_w]; rfl)
           refine pure_ (i := 11) (N := some 28) (v := ?_) (a' := ?_) (bv 18 2867) rfl rfl (any_of HT_.out (by kernel_rfl)) (fun _ _ _ h => h) (Or.inl ⟨by rfl, ?_⟩) ?_ ?_; rotate_left; (intro w'; go_simp; with_reducible rfl); rotate_left; (simp only [Act.put, List.setIfInBounds_toArray, List.set_cons_zero, List.set_cons_succ, i64_w, i32_w]; rfl)
           refine pure_ (i := 12) (N := some 29) (v := ?_) (a' := ?_) (bv 18 6963) rfl rfl (any_of HT_.out (by kernel_rfl)) (fun _ _ _ h => h) (Or.inl ⟨by rfl, ?_⟩) ?_ ?_; rotate_left; (intro w'; go_simp; with_reducible rfl); rotate_left; (simp only [Act.put, List.setIfInBounds_toArray, List.set_cons_zero, List.set_cons_succ, i64_w, i32_w]; rfl)
           refine one_ (i := 2) (N := some 19) (bv 18 6967) rfl rfl (one_of HT_.out (by kernel_rfl)) (by decide) (fun K hK => ?_)
           refine goes_ Try.func54 (by kernel_rfl) rfl #[.string (a0.extract 0 2)] (by rfl) rfl rfl (by (try simp only [List.map_toArray, List.map_cons, List.map_nil]); first | done | rfl | (simp only [List.length_drop, List.length_take]; rfl)) ?_
           with_reducible refine (palanquinref01_Value.calls k (a0.extract 0 2) t222 _ A11.out).mono ?_
           rintro e w' ⟨rfl, ⟨nd, rfl⟩⟩
           refine ⟨_, rfl, ?_⟩
           refine hK.out _ _ trivial (fun hHeld => ?_)
           clear hK K
           refine norm_ (a' := ?_) ?_ ?_
           rotate_left
           ·show Act.put _ (some 19) _ = _
            simp only [Act.put, List.setIfInBounds_toArray, List.set_cons_zero, List.set_cons_succ, i64_w, i32_w]
            rfl
           refine pure_ (i := 3) (N := some 20) (v := ?_) (a' := ?_) (bv 18 6975) rfl rfl (any_of HT_.out (by kernel_rfl)) (fun _ _ _ h => h) (Or.inl ⟨by rfl, ?_⟩) ?_ ?_; rotate_left; (intro w'; go_simp; with_reducible rfl); rotate_left; (simp only [Act.put, List.setIfInBounds_toArray, List.set_cons_zero, List.set_cons_succ, i64_w, i32_w]; rfl)
           refine one_ (i := 6) (N := some 23) (bv 18 7039) rfl rfl (one_of HT_.out (by kernel_rfl)) (by decide) (fun K hK => ?_)
           refine goes_ Try.func54 (by kernel_rfl) rfl #[.string (a0.extract 2 4)] (by rfl) rfl rfl (by (try simp only [List.map_toArray, List.map_cons, List.map_nil]); first | done | rfl | (simp only [List.length_drop, List.length_take]; rfl)) ?_
           with_reducible refine (palanquinref01_Value.calls k (a0.extract 2 4) t223 _ A14.out).mono ?_
           rintro e w' ⟨rfl, ⟨nd, rfl⟩⟩
           refine ⟨_, rfl, ?_⟩
           refine hK.out _ _ trivial (fun hHeld => ?_)
           clear hK K
           refine norm_ (a' := ?_) ?_ ?_
           rotate_left
           ·show Act.put _ (some 23) _ = _
            simp only [Act.put, List.setIfInBounds_toArray, List.set_cons_zero, List.set_cons_succ, i64_w, i32_w]
            rfl
           refine pure_ (i := 7) (N := some 24) (v := ?_) (a' := ?_) (bv 18 7167) rfl rfl (any_of HT_.out (by kernel_rfl)) (fun _ _ _ h => h) (Or.inl ⟨by rfl, ?_⟩) ?_ ?_; rotate_left; (intro w'; go_simp; with_reducible rfl); rotate_left; (simp only [Act.put, List.setIfInBounds_toArray, List.set_cons_zero, List.set_cons_succ, i64_w, i32_w]; rfl)
           refine pure_ (i := 10) (N := some 27) (v := ?_) (a' := ?_) (bv 18 8191) rfl rfl (any_of HT_.out (by kernel_rfl)) (fun _ _ _ h => h) (Or.inl ⟨by rfl, ?_⟩) ?_ ?_; rotate_left; (intro w'; go_simp; with_reducible rfl); rotate_left; (simp only [Act.put, List.setIfInBounds_toArray, List.set_cons_zero, List.set_cons_succ, i64_w, i32_w]; rfl)
           refine one_ (i := 13) (N := some 30) (bv 18 16383) rfl rfl (one_of HT_.out (by kernel_rfl)) (by decide) (fun K hK => ?_)
           refine goes_ Try.func54 (by kernel_rfl) rfl #[.string (a0.extract 6 8)] (by rfl) rfl rfl (by (try simp only [List.map_toArray, List.map_cons, List.map_nil]); first | done | rfl | (simp only [List.length_drop, List.length_take]; rfl)) ?_
           with_reducible refine (palanquinref01_Value.calls k (a0.extract 6 8) t224 _ A18.out).mono ?_
           rintro e w' ⟨rfl, ⟨nd, rfl⟩⟩
           refine ⟨_, rfl, ?_⟩
           refine hK.out _ _ trivial (fun hHeld => ?_)
           clear hK K
           refine norm_ (a' := ?_) ?_ ?_
           rotate_left
           ·show Act.put _ (some 30) _ = _
            simp only [Act.put, List.setIfInBounds_toArray, List.set_cons_zero, List.set_cons_succ, i64_w, i32_w]
            rfl
           refine pure_ (i := 14) (N := some 31) (v := ?_) (a' := ?_) (bv 18 32767) rfl rfl (any_of HT_.out (by kernel_rfl)) (fun _ _ _ h => h) (Or.inl ⟨by rfl, ?_⟩) ?_ ?_; rotate_left; (intro w'; go_simp; with_reducible rfl); rotate_left; (simp only [Act.put, List.setIfInBounds_toArray, List.set_cons_zero, List.set_cons_succ, i64_w, i32_w]; rfl)
           refine one_ (i := 15) (N := none) (bv 18 65535) rfl rfl (one_of HT_.out (by kernel_rfl)) (by decide) (fun K hK => ?_)
           have hs21 : w20.cell? ⟨gb220, 0, none⟩ = some (.int .i64 0) := (zC BK220.out 0).trans rfl
           have hfs21 := zF BK220.out 0
           have hs22 : w20.cell? ⟨gb220, 1, none⟩ = some (.int .i64 0) := (zC BK220.out 1).trans rfl
           have hfs22 := zF BK220.out 1
           have hs23 : w20.cell? ⟨gb220, 2, none⟩ = some (.string ⟨#[]⟩) := (zC BK220.out 2).trans rfl
           have hfs23 := zF BK220.out 2
           refine skip_ (w1 := ?_) (by rfl) rfl ?_ ?_
           rotate_left
           ·go_simp
            rfl
           refine hK.out _ _ trivial (fun hHeld => ?_)
           clear hK K
           refine pure_ (i := 16) (N := some 3) (v := ?_) (a' := ?_) (bv 18 131071) rfl rfl (any_of HT_.out (by kernel_rfl)) (fun _ _ _ h => h) (Or.inl ⟨by rfl, ?_⟩) ?_ ?_; rotate_left; (intro w'; go_simp; with_reducible rfl); rotate_left; (simp only [Act.put, List.setIfInBounds_toArray, List.set_cons_zero, List.set_cons_succ, i64_w, i32_w]; rfl)
           refine pure_ (i := 17) (N := some 4) (v := ?_) (a' := ?_) (bv 18 262143) rfl rfl (any_of HT_.out (by kernel_rfl)) (fun _ _ _ h => h) (Or.inl ⟨by rfl, ?_⟩) ?_ ?_; rotate_left; (intro w'; go_simp; with_reducible rfl); rotate_left; (simp only [Act.put, List.setIfInBounds_toArray, List.set_cons_zero, List.set_cons_succ, i64_w, i32_w]; rfl)
           refine done_ (done_of HT_.out (by kernel_rfl)) ?_
           try go_wp2
           refine bodyPost_ret (results_ctt rfl _ _ gb220 73 #[.int .i64 (wrap64 (t222)), .int .i64 (wrap64 (t223)), .string (a0.extract 8 a0.size)] (0, 0) _ rfl (by (with_reducible repeat (first | apply kN | apply kD | apply kA)); refine blk_put (cs := #[.int .i64 (wrap64 (t222)), .int .i64 (wrap64 (t223)), .string ⟨#[]⟩]) ?_ 2 _ (by first | rfl | (simp [*]; done)); (with_reducible repeat (first | apply kN | apply kD | apply kA)); refine blk_put (cs := #[.int .i64 (wrap64 (t222)), .int .i64 0, .string ⟨#[]⟩]) ?_ 1 _ (by first | rfl | (simp [*]; done)); (with_reducible repeat (first | apply kN | apply kD | apply kA)); refine blk_put (cs := #[.int .i64 0, .int .i64 0, .string ⟨#[]⟩]) ?_ 0 _ (by first | rfl | (simp [*]; done)); (with_reducible repeat (first | apply kN | apply kD | apply kA)); exact BK220.out) Try.underlying73 rfl (by kernel_rfl)) rfl ?_
           exact ⟨by first | rfl | (simp [errW_none, errW_some] <;> rfl) | (simp [*, errW_none, errW_some] <;> rfl), by repeat (first | (with_reducible first | exact HB.out | apply bA | apply bN | apply bD | refine bS ?_ GE220.out) | exact HB.out)⟩
          ·rw [if_neg c16] at H
           exact absurd H (by simp)
         ·rw [if_neg c15] at H
          exact absurd H (by simp)
        ·rw [if_neg c13] at H
         exact absurd H (by simp)
       ·rw [if_neg c12] at H
        exact absurd H (by simp)
      ·rw [if_neg c10] at H
       exact absurd H (by simp)
     ·rw [if_neg c9] at H
      exact absurd H (by simp)
    ·rw [if_neg c8] at H
     have c8b0 : ((wrap64 (t221)) == (a0.size : Int)) = false := beq_eq_false_iff_ne.mpr c8
     have c8b1 : ((wrap64 (t221)) != (a0.size : Int)) = true := bne_iff_ne.mpr c8
     simp only [Option.some.injEq, Prod.mk.injEq] at H
     obtain ⟨rfl, rfl, rfl, rfl, rfl⟩ := H
     go_enter Try.func31, Try.ntmps31
     go_wp2_with (first | ((with_reducible refine gate_dst (N := 2) rfl ?_); refine box_event ?hg (N := 2) ?hd (cs := #[.int .i64 0, .int .i64 0, .string ⟨#[]⟩]) (t := 73) ?hr ?_; (case hd => rfl); (case hg => rfl); (case hr => first | (go_simp; done) | (go_simp; rfl)); intro gb220 hg w24 hbox hb; obtain ⟨n0_, nq_⟩ := bpr (by repeat (first | (with_reducible first | exact HB.out | apply bA | apply bN | apply bD) | exact HB.out)) hb; have n1_ := mA (hbox); have n2_ := mA ((by rw [hg]; exact nq_ : w.heap.size ≤ gb220)); have n3_ := mA ((by rw [hg]; exact nq_ : w.heap.size ≤ gb220)); clear HB; have HB := n0_; have BK220 := n1_; have GW220 := n2_; have GE220 := n3_; clear nq_; clear n0_ n1_ n2_ n3_; clear hb hbox hg) | ((with_reducible refine gate_callee (f := 54) rfl ?_); refine goesL_ (some 11) rfl rfl Try.func54 (by kernel_rfl) rfl #[.string (a0.extract 4 6)] rfl (by (try simp only [List.map_toArray, List.map_cons, List.map_nil]); first | done | rfl | (simp only [List.length_drop, List.length_take]; rfl)) ?_; (with_reducible refine (palanquinref01_Value.calls k (a0.extract 4 6) t221 _ A7.out).mono ?_); rintro e w' ⟨rfl, ⟨nd, rfl⟩⟩; refine ⟨_, rfl, ?_⟩; (try (rw [drewN_self w24]; generalize hq_ : World.drewN w24 _ = w24; have n0_ : Aside0 (w24.heap[gb220]? = some (.cells #[.int .i64 0, .int .i64 0, .string ⟨#[]⟩] 73 (0, 0))) := ⟨by rw [← hq_]; exact (by (with_reducible repeat (first | apply kN | apply kD | apply kA)); exact BK220.out)⟩; have n1_ : Aside0 (Below w.heap.size w w24) := ⟨by rw [← hq_]; exact (by repeat (first | (with_reducible first | exact HB.out | apply bA | apply bN | apply bD | refine bS ?_ GE220.out) | exact HB.out))⟩; clear BK220 HB hq_; have BK220 := n0_; have HB := n1_; clear n0_ n1_)); obtain ⟨hcz25_0, hcz25_1, hcz25_2⟩ := bc3 BK220.out; obtain ⟨hfz25_0, hfz25_1, hfz25_2⟩ := bf3 BK220.out))
     refine bodyPost_ret (results_ctt rfl _ _ gb220 73 #[.int .i64 0, .int .i64 0, .string ⟨#[]⟩] (0, 0) _ rfl (by (with_reducible repeat (first | apply kN | apply kD | apply kA)); refine blk_put (cs := #[.int .i64 0, .int .i64 0, .string ⟨#[]⟩]) ?_ 2 _ (by first | rfl | (simp [*]; done)); (with_reducible repeat (first | apply kN | apply kD | apply kA)); refine blk_put (cs := #[.int .i64 0, .int .i64 0, .string ⟨#[]⟩]) ?_ 1 _ (by first | rfl | (simp [*]; done)); (with_reducible repeat (first | apply kN | apply kD | apply kA)); refine blk_put (cs := #[.int .i64 0, .int .i64 0, .string ⟨#[]⟩]) ?_ 0 _ (by first | rfl | (simp [*]; done)); (with_reducible repeat (first | apply kN | apply kD | apply kA)); exact BK220.out) Try.underlying73 rfl (by kernel_rfl)) rfl ?_
     exact ⟨by first | rfl | (simp [errW_none, errW_some] <;> rfl) | (simp [*, errW_none, errW_some] <;> rfl), by repeat (first | (with_reducible first | exact HB.out | apply bA | apply bN | apply bD | refine bS ?_ GE220.out) | exact HB.out)⟩
   ·rw [if_neg c6] at H
    exact absurd H (by simp)
  ·rw [if_neg c5] at H
   exact absurd H (by simp)

end Go.Proofs.Ytcmalglippmocaa.G
end

section
namespace Go.Proofs.Ytcmalglippmocaa.Pure
open Go.RowKit Go.Proofs.YtcmalglippmocaaW.PrintWords Go.Proofs.YtcmalglippmocaaW.PrintLast Go.Proofs.Ytcmalglippmocaa.G Go.Proofs.Ytcmalglippmocaa.Pal
theorem bt_bl (s : ByteArray) (i : Nat) (h : i < s.size) : bt s (i : Int) = (((bl s)[i]'(by rw [bl_length]; exact h)).toNat : Int) := by
  unfold bt
  rw [dif_pos (by simpa using h)]
  rfl
theorem value_loop (s : ByteArray) (hs : s.size ≤ 8) : ∀ (n i k : Nat), i + n = s.size → n < k → palanquinref01_Value.l0 k s ((be ((bl s).take i) : Nat) : Int) (i : Int) = some ((be (bl s) : Nat) : Int)
  | 0, i, k + 1, hi, _ => by
    rw [palanquinref01_Value.l0, if_neg (by omega), List.take_of_length_le (by rw [bl_length]; omega)]
  | n + 1, i, k + 1, hi, hk => by
    have hlt : i < s.size := by omega
    have hlen : i < (bl s).length := by rw [bl_length]; exact hlt
    rw [palanquinref01_Value.l0, if_pos (by omega), if_pos (by omega)]
    have hb : (bl s)[i].toNat < 256 := (bl s)[i].toNat_lt
    have h1 : be ((bl s).take (i + 1)) = be ((bl s).take i) * 256 + (bl s)[i].toNat := by
      rw [List.take_succ_eq_append_getElem hlen, be_snoc]
    have h2 : be ((bl s).take (i + 1)) < 256 ^ 8 := be_lt_of _ 8 (by rw [List.length_take]; omega)
    have h3 : (256 : Nat) ^ 8 = 18446744073709551616 := by decide
    rw [bt_bl s i hlt, show wrap64 ((i : Int) + 1) = ((i + 1 : Nat) : Int) by unfold wrap64; omega,
      show IntKind.u64.wrap ((IntKind.u64.wrap (((be ((bl s).take i) : Nat) : Int) * 256)) + (IntKind.u64.wrap ((bl s)[i].toNat : Int))) = ((be ((bl s).take (i + 1)) : Nat) : Int) by rw [IntKind.wrap_u64, IntKind.wrap_u64, IntKind.wrap_u64]; omega]
    exact value_loop s hs n (i + 1) k (by omega) (by omega)
theorem value_is (s : ByteArray) (hs : s.size ≤ 8) (k : Nat) (hk : s.size < k) : palanquinref01_Value.f k s = some ((be (bl s) : Nat) : Int) := by
  have := value_loop s hs s.size 0 k (by omega) hk
  exact this
theorem byte_is (x : Int) (h0 : 0 ≤ x) : strOfNums [Int.tmod x 256 % 256] = ⟨#[UInt8.ofNat x.toNat]⟩ := by
  obtain ⟨n, rfl⟩ := Int.eq_ofNat_of_zero_le h0
  have e : Int.tmod (n : Int) 256 % 256 = ((n % 256 : Nat) : Int) := by rw [Int.tmod_eq_emod_of_nonneg (by omega)]; omega
  rw [e]
  simp [strOfNums]
  apply UInt8.toNat.inj
  simp
  omega
theorem bytes_loop (n : Nat) (hn : n ≤ 8) : ∀ (m i k x : Nat) (t : ByteArray), i + m = n → m < k → x ≤ 18446744073709551615 → t.size = i →
    ∃ r, palanquinref01_Bytes.l0 k (x : Int) (n : Int) t (i : Int) = some r ∧ bl r = nb m x ++ bl t
  | 0, i, k + 1, x, t, hi, _, _, _ => by
    refine ⟨t, ?_, by simp [nb]⟩
    rw [palanquinref01_Bytes.l0, if_neg (by omega)]
  | m + 1, i, k + 1, x, t, hi, hk, hx, ht => by
    have hd : IntKind.u64.wrap (Int.tdiv (x : Int) 256) = ((x / 256 : Nat) : Int) := by rw [IntKind.wrap_u64, Int.tdiv_eq_ediv_of_nonneg (by omega)]; omega
    have hb := byte_is (x : Int) (by omega)
    rw [Int.toNat_natCast] at hb
    have h1 : (⟨#[UInt8.ofNat x]⟩ : ByteArray).size = 1 := rfl
    obtain ⟨r, hr, hr2⟩ := bytes_loop n hn m (i + 1) k (x / 256) (⟨#[UInt8.ofNat x]⟩ ++ t) (by omega) (by omega) (by omega) (by rw [ByteArray.size_append, h1]; omega)
    refine ⟨r, ?_, ?_⟩
    · rw [palanquinref01_Bytes.l0, if_pos (by omega), Option.bind_some, hb, if_pos (by rw [h1]; omega), hd, show wrap64 ((i : Int) + 1) = ((i + 1 : Nat) : Int) by unfold wrap64; omega]
      exact hr
    · rw [hr2, bl_append, nb, List.append_assoc]
      rfl
theorem bytes_is (n : Nat) (hn : n ≤ 8) (x : Nat) (hx : x ≤ 18446744073709551615) (k : Nat) (hk : n < k) : ∃ r, palanquinref01_Bytes.f k (x : Int) (n : Int) = some r ∧ bl r = nb n x := by
  obtain ⟨r, h1, h2⟩ := bytes_loop n hn n 0 k x ⟨#[]⟩ (by omega) hk hx rfl
  refine ⟨r, h1, ?_⟩
  rw [h2]
  simp [bl]
theorem bytes_sized {n : Nat} {r : ByteArray} {x : Nat} (h : bl r = nb n x) : r.size = n := by rw [← bl_length, h, nb_length]
end Go.Proofs.Ytcmalglippmocaa.Pure
end

section
namespace Go.Proofs.Ytcmalglippmocaa.Pure
open Go.RowKit Go.Proofs.YtcmalglippmocaaW.PrintWords Go.Proofs.YtcmalglippmocaaW.PrintLast Go.Proofs.Ytcmalglippmocaa.G Go.Proofs.Ytcmalglippmocaa.Pal
theorem btD (s : ByteArray) (i : Nat) (h : i < s.size) : bt s (i : Int) = (((bl s).getD i 0).toNat : Int) := by
  rw [bt_bl s i h]
  simp [List.getD_eq_getElem?_getD, List.getElem?_eq_getElem (show i < (bl s).length by rw [bl_length]; exact h)]
theorem byte_eq (b : UInt8) (n : Nat) (hn : n < 256) : ((b.toNat : Int) = (n : Int)) ↔ b = UInt8.ofNat n := by
  constructor
  · intro h; apply UInt8.toNat_inj.1; simp only [UInt8.toNat_ofNat']; omega
  · intro h; rw [h]; simp only [UInt8.toNat_ofNat']; omega
theorem byte_two (b : UInt8) : ((b.toNat : Int) = 2) ↔ b = 2 := byte_eq b 2 (by decide)
theorem mss_arith (a b : Nat) (ha : a < 256) (hb : b < 256) : wrap64 (wrap64 (wrap64 (a : Int) * 256) + wrap64 (b : Int)) = ((a * 256 + b : Nat) : Int) := by unfold wrap64; omega
theorem W_count {l : List UInt8} : ∀ i L, W l i = some L → L.length + i ≤ max l.length i := by
  refine W_ind (P := fun i => ∀ L, W l i = some L → L.length + i ≤ max l.length i) l fun i ih L h => ?_
  rcases W_cons h with ⟨c, rfl⟩ | ⟨c, n, L', ho, hw, rfl⟩
  · simp; omega
  · have hb := optLen_bound c.1 ho
    have := ih n hb.1 c.1 L' hw
    rw [List.length_cons]
    omega
def posns (L : List (Nat × Nat)) : List Int := L.map fun p => (p.1 : Int)
theorem walk07 (s : ByteArray) (hs : s.size ≤ 10000000000) : ∀ (m i k : Nat) (out : List Int), s.size ≤ m + i → i ≤ s.size → 2 * m + 2 ≤ k → out.length ≤ i →
    palanquinref07_Walk.l0 k s out (i : Int) = some (match W (bl s) i with | some L => (out ++ posns L, true) | none => ([], false)) := by
  intro m
  induction m with
  | zero =>
    intro i k out h1 h2 h3 h4
    obtain ⟨k, rfl⟩ : ∃ k', k = k' + 2 := ⟨k - 2, by omega⟩
    rw [palanquinref07_Walk.l0, if_neg (by omega), palanquinref07_Walk.j1, if_neg (by decide), W_end (by rw [bl_length]; omega)]
    simp [posns]
  | succ m ih =>
    intro i k out h1 h2 h3 h4
    obtain ⟨k, rfl⟩ : ∃ k', k = k' + 2 := ⟨k - 2, by omega⟩
    by_cases hi : i < s.size
    case neg =>
      rw [palanquinref07_Walk.l0, if_neg (by omega), palanquinref07_Walk.j1, if_neg (by decide), W_end (by rw [bl_length]; omega)]
      simp [posns]
    rw [palanquinref07_Walk.l0, if_pos (by omega), if_pos (by omega), btD s i hi]
    by_cases h0 : (bl s).getD i 0 = 0
    · rw [h0, W_end (fun h => h.2 h0), palanquinref07_Walk.j1, if_neg (by decide)]
      simp [posns]
    have hne : (((((bl s).getD i 0).toNat : Int)) != 0) = true := by
      rw [bne_iff_ne]; intro h; exact h0 (by rw [show (0 : Int) = ((0 : Nat) : Int) from rfl] at h; exact (byte_eq _ 0 (by decide)).mp h)
    have hc : i < (bl s).length ∧ (bl s).getD i 0 ≠ 0 := ⟨by rw [bl_length]; exact hi, h0⟩
    rw [hne, palanquinref07_Walk.j1, if_pos rfl, if_pos (by omega), Option.bind_some, if_pos (by omega), if_pos (by omega), btD s i hi, W_step hc]
    by_cases h1' : (bl s).getD i 0 = 1
    · rw [h1', if_pos (by rfl), show wrap64 ((i : Int) + 1) = ((i + 1 : Nat) : Int) by unfold wrap64; omega,
        ih (i + 1) k (out ++ [(i : Int)]) (by omega) (by omega) (by omega) (by rw [List.length_append, List.length_singleton]; omega), show optLen (bl s) i = some 1 by unfold optLen; rw [if_pos h1'], Option.bind_some]
      cases W (bl s) (i + 1) <;> simp [posns]
    have hn1 : ¬ ((((bl s).getD i 0).toNat : Int)) = 1 := fun h => h1' ((byte_eq _ 1 (by decide)).mp h)
    rw [if_neg hn1, show wrap64 ((s.size : Int) - (i : Int)) = ((s.size - i : Nat) : Int) by unfold wrap64; omega]
    by_cases he : i + 1 = s.size
    · rw [if_pos (by omega), show optLen (bl s) i = none by unfold optLen; rw [if_neg h1', if_pos (.inl (by rw [bl_length]; exact he))], Option.bind_none]
    have hb := UInt8.toNat_lt ((bl s).getD (i + 1) 0)
    rw [if_neg (by omega), show wrap64 ((i : Int) + 1) = ((i + 1 : Nat) : Int) by unfold wrap64; omega, if_pos (by omega), if_pos (by omega), btD s (i + 1) (by omega), show wrap64 ((((bl s).getD (i + 1) 0).toNat : Int)) = ((((bl s).getD (i + 1) 0).toNat : Int)) by unfold wrap64; omega]
    by_cases h2' : ((bl s).getD (i + 1) 0).toNat < 2
    · rw [if_pos (by omega), show optLen (bl s) i = none by unfold optLen; rw [if_neg h1', if_pos (.inr (.inl h2'))], Option.bind_none]
    rw [if_neg (by omega)]
    by_cases h3' : (bl s).length < i + ((bl s).getD (i + 1) 0).toNat
    · rw [if_pos (by rw [bl_length] at h3'; omega), show optLen (bl s) i = none by unfold optLen; rw [if_neg h1', if_pos (.inr (.inr h3'))], Option.bind_none]
    have h3'' := h3'
    rw [bl_length] at h3''
    rw [if_neg (by omega), show wrap64 ((i : Int) + ((((bl s).getD (i + 1) 0).toNat : Int))) = ((i + ((bl s).getD (i + 1) 0).toNat : Nat) : Int) by unfold wrap64; omega,
      ih (i + ((bl s).getD (i + 1) 0).toNat) k (out ++ [(i : Int)]) (by omega) (by omega) (by omega) (by rw [List.length_append, List.length_singleton]; omega),
      show optLen (bl s) i = some ((bl s).getD (i + 1) 0).toNat by unfold optLen; rw [if_neg h1', if_neg (fun h => h.elim (fun h => he (by rw [bl_length] at h; exact h)) (fun h => h.elim h2' h3'))], Option.bind_some]
    cases W (bl s) (i + ((bl s).getD (i + 1) 0).toNat) <;> simp [posns]
def walkR (s : ByteArray) : List Int × Bool := match W (bl s) 0 with | some L => (posns L, true) | none => ([], false)
theorem walkR_snd (s : ByteArray) : (walkR s).2 = rightO (bl s) := by unfold walkR rightO; cases W (bl s) 0 <;> rfl
theorem walk07_is (s : ByteArray) (k : Nat) (hs : s.size ≤ 10000000000) (hk : 2 * s.size + 2 ≤ k) : palanquinref07_Walk.f k s = some (walkR s) := by
  have h := walk07 s hs s.size 0 k [] (by omega) (by omega) hk (by simp)
  unfold palanquinref07_Walk.f
  rw [show (0 : Int) = ((0 : Nat) : Int) from rfl, h]
  unfold walkR
  cases W (bl s) 0 <;> simp
theorem rd_posns (L : List (Nat × Nat)) (j : Nat) (h : j < L.length) : rd (posns L) (j : Int) = ((L[j].1 : Nat) : Int) := by
  unfold rd posns
  simp [h]
theorem mss07 (s : ByteArray) (hs : s.size ≤ 10000000000) (L : List (Nat × Nat)) (hL : ∀ p ∈ L, p.1 + p.2 ≤ (bl s).length ∧ 1 ≤ p.2 ∧ optLen (bl s) p.1 = some p.2) (hlen : L.length ≤ 10000000000) : ∀ (m j k : Nat), L.length ≤ m + j → m + 1 ≤ k →
    palanquinref07_MSS.l0 k s (posns L) (j : Int) = some (match ((L.drop j).find? (isMSS (bl s))).map (mssAt (bl s)) with | some r => (((r.1 : Nat) : Int), ((r.2 : Nat) : Int), true) | none => (0, 0, false)) := by
  have hpl : (posns L).length = L.length := by simp [posns]
  intro m
  induction m with
  | zero =>
    intro j k h1 h2
    obtain ⟨k, rfl⟩ : ∃ k', k = k' + 1 := ⟨k - 1, by omega⟩
    rw [palanquinref07_MSS.l0, if_neg (by omega), List.drop_eq_nil_of_le (by omega)]
    rfl
  | succ m ih =>
    intro j k h1 h2
    obtain ⟨k, rfl⟩ : ∃ k', k = k' + 1 := ⟨k - 1, by omega⟩
    by_cases hj : j < L.length
    case neg =>
      rw [palanquinref07_MSS.l0, if_neg (by omega), List.drop_eq_nil_of_le (by omega)]
      rfl
    obtain ⟨hp1, hp2, hp3⟩ := hL L[j] (List.getElem_mem hj)
    have hbl := bl_length s
    rw [palanquinref07_MSS.l0, if_pos (by omega), if_pos (by omega), rd_posns L j hj, List.drop_eq_getElem_cons hj, List.find?_cons]
    rcases hLj : L[j] with ⟨q, n⟩
    rw [hLj] at hp1 hp2 hp3
    dsimp only at hp1 hp2 hp3 ⊢
    have next := ih (j + 1) k (by omega) (by omega)
    rw [if_pos (by omega), if_pos (by omega), btD s q (by omega)]
    by_cases h2' : (bl s).getD q 0 = 2
    case neg =>
      rw [if_neg (fun h => h2' ((byte_two _).mp h)), show isMSS (bl s) (q, n) = false by show ((bl s).getD q 0 == 2 && n == 4) = false; rw [beq_eq_false_iff_ne.mpr h2', Bool.false_and], show wrap64 ((j : Int) + 1) = ((j + 1 : Nat) : Int) by unfold wrap64; omega]
      exact next
    have hn : n = ((bl s).getD (q + 1) 0).toNat ∧ q + 1 < s.size := by
      unfold optLen at hp3
      rw [if_neg (by rw [h2']; decide)] at hp3
      split at hp3
      · exact absurd hp3 (by simp)
      · rename_i hx
        exact ⟨(Option.some.inj hp3).symm, by rw [hbl] at hx; omega⟩
    rw [if_pos ((byte_two _).mpr h2'), show wrap64 ((q : Int) + 1) = ((q + 1 : Nat) : Int) by unfold wrap64; omega, if_pos (by omega), if_pos (by omega), btD s (q + 1) hn.2]
    by_cases h4 : n = 4
    case neg =>
      rw [if_neg (by omega), show isMSS (bl s) (q, n) = false by show ((bl s).getD q 0 == 2 && n == 4) = false; rw [beq_eq_false_iff_ne.mpr h4, Bool.and_false], show wrap64 ((j : Int) + 1) = ((j + 1 : Nat) : Int) by unfold wrap64; omega]
      exact next
    have l2 : ((bl s).getD (q + 2) 0).toNat < 256 := UInt8.toNat_lt ((bl s).getD (q + 2) 0)
    have l3 : ((bl s).getD (q + 3) 0).toNat < 256 := UInt8.toNat_lt ((bl s).getD (q + 3) 0)
    rw [if_pos (by omega), show wrap64 ((q : Int) + 2) = ((q + 2 : Nat) : Int) by unfold wrap64; omega, if_pos (by omega), if_pos (by omega), show wrap64 ((q : Int) + 3) = ((q + 3 : Nat) : Int) by unfold wrap64; omega, if_pos (by omega), if_pos (by omega), btD s (q + 2) (by omega), btD s (q + 3) (by omega), show isMSS (bl s) (q, n) = true by show ((bl s).getD q 0 == 2 && n == 4) = true; rw [h2', h4]; rfl]
    simp only [Option.map_some, mssAt]
    rw [mss_arith _ _ l2 l3]
theorem mss07_is (s : ByteArray) (k : Nat) (hs : s.size ≤ 1000000) (hk : 2 * s.size + 2 ≤ k) : palanquinref07_MSS.f k s = some (mssR (mssOf (bl s))) := by
  unfold palanquinref07_MSS.f
  rw [walk07_is s k (by omega) hk, Option.bind_some]
  unfold mssOf walkR
  cases hW : W (bl s) 0 with
  | none =>
    have h := mss07 s (by omega) [] (fun p hp => absurd hp (by simp)) (by simp) 0 0 k (by simp) (by omega)
    exact h
  | some L =>
    have hm := W_mem 0 L hW
    have hlen : L.length ≤ s.size := by
      have := W_count 0 L hW
      rw [bl_length] at this; omega
    have h := mss07 s (by omega) L (fun p hp => (hm p hp).2) (by omega) L.length 0 k (by omega) (by omega)
    rw [List.drop_zero] at h
    refine h.trans ?_
    rw [Option.bind_some]
    cases (L.find? (isMSS (bl s))).map (mssAt (bl s)) <;> rfl
end Go.Proofs.Ytcmalglippmocaa.Pure
end

section
namespace Go.Proofs.Ytcmalglippmocaa.Pure
open Go.RowKit Go.Proofs.YtcmalglippmocaaW.PrintWords Go.Proofs.YtcmalglippmocaaW.PrintLast Go.Proofs.Ytcmalglippmocaa.G Go.Proofs.Ytcmalglippmocaa.Pal
theorem errT_zero {s : ByteArray} (h : tcpErr s = 0) : 20 ≤ s.size ∧ (20 ≤ ht s ∧ ht s ≤ s.size) ∧ be (bl (s.extract 12 13)) % 16 = 0 ∧ rightO (bl (s.extract 20 (ht s))) = true := by
  unfold tcpErr at h
  by_cases h1 : s.size < 20
  · rw [if_pos h1] at h; exact absurd h (by decide)
  rw [if_neg h1] at h
  by_cases h2 : 20 ≤ ht s ∧ ht s ≤ s.size
  case neg => rw [if_neg h2] at h; exact absurd h (by decide)
  rw [if_pos h2] at h
  by_cases h3 : be (bl (s.extract 12 13)) % 16 = 0
  case neg => rw [if_neg h3] at h; exact absurd h (by decide)
  rw [if_pos h3] at h
  by_cases h4 : rightO (bl (s.extract 20 (ht s))) = true
  case neg => rw [if_neg h4] at h; exact absurd h (by decide)
  exact ⟨by omega, h2, h3, h4⟩
theorem getT_is {s : ByteArray} (hs : s.size ≤ 140737488351232) : tcp_Get.f s = some (if tcpErr s = 0 then (((be (bl (s.extract 0 2)) : Nat) : Int), ((be (bl (s.extract 2 4)) : Nat) : Int), ((be (bl (s.extract 4 8)) : Nat) : Int), ((be (bl (s.extract 8 12)) : Nat) : Int), ((be (bl (s.extract 13 14)) : Nat) : Int), ((be (bl (s.extract 14 16)) : Nat) : Int), ((be (bl (s.extract 18 20)) : Nat) : Int), s.extract 20 (ht s), s.extract (ht s) s.size, ((be (bl (s.extract 16 18)) : Nat) : Int), 0) else (0, 0, 0, 0, 0, 0, 0, ⟨#[]⟩, ⟨#[]⟩, 0, tcpErr s)) := by
  unfold tcp_Get.f; rw [if_pos hs]
end Go.Proofs.Ytcmalglippmocaa.Pure
end
