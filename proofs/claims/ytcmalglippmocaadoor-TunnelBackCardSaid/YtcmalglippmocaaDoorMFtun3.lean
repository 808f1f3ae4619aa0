/- Texts of this session, joined: each is a section. -/
import Derived.Test.YtcmalglippmocaaDoorMFtun2
import Derived.WalkLawsBesides
import Derived.BigQuiet
import Derived.RegionTactic
import Derived.Deep.RegionWith
set_option linter.unusedVariables false
set_option linter.unusedSimpArgs false
section
namespace Go.Proofs.YtcmalglippmocaaDoor.G
open Go.RowKit Go.Proofs.YtcmalglippmocaaDoorW.PrintWords Go.Proofs.YtcmalglippmocaaDoorW.PrintLast Go.Proofs.YtcmalglippmocaaDoorW.PrintMore Go.Proofs.YtcmalglippmocaaDoor.Pal
def sealAt (p : Int) (n : Nat) : Nat := if p = 6 ∧ 20 ≤ n then 16 else if p = 17 ∧ 8 ≤ n then 6 else 0
def sealNo (p n : Int) : Int := if n = 0 ∧ p = 17 then 65535 else n
def sealBytes (s : ByteArray) (q : Nat) (n : Int) : ByteArray := ⟨(bl (s.extract 0 q) ++ nb 2 (u64n n) ++ bl (s.extract (q + 2) s.size)).toArray⟩
def seal_with (a0 : Int) (a1 a2 a3 : ByteArray) (q : Nat) : Option ByteArray :=
  (sum_Pseudo.f a1 a2 a0 a3.size).bind fun ps => (sum_Sum.f [ps, a3.extract 0 q, ⟨#[0, 0]⟩, a3.extract (q + 2) a3.size]).bind fun n => some (sealBytes a3 q (sealNo a0 n))
def flow_Seal.f (a0 : Int) (a1 a2 a3 : ByteArray) : Option ByteArray :=
  if a3.size ≤ 1000000000 then (if sealAt a0 a3.size = 0 then some a3 else seal_with a0 a1 a2 a3 (sealAt a0 a3.size)) else none
theorem pl_ix0 (wx : World) : (Instr.index 135 (.agg #[.int .i64 6, .int .i64 16, .int .i64 17, .int .i64 6]) (.int .i64 0)).run Tryd.prog wx = .ok (.agg #[.int .i64 6, .int .i64 16]) wx := by kernel_rfl
theorem pl_ix1 (wx : World) : (Instr.index 135 (.agg #[.int .i64 6, .int .i64 16, .int .i64 17, .int .i64 6]) (.int .i64 1)).run Tryd.prog wx = .ok (.agg #[.int .i64 17, .int .i64 6]) wx := by kernel_rfl
def SW (k b : Nat) (w w1 : World) (l : List UInt8) : Prop := WAt b l w1 ∧ Below k w w1 ∧ k ≤ b
theorem SW.next {k b : Nat} {w w1 w2 : World} {l l' : List UInt8} (h : SW k b w w1 l) (h1 : WAt b l' w2) (h2 : Below b w1 w2) : SW k b w w2 l' := ⟨h1, h.2.1.trans (h2.mono h.2.2), h.2.2⟩
theorem SW.start {k : Nat} {w w1 : World} (h : Below k w w1) (hk : k ≤ w1.heap.size) : SW k w1.heap.size w (w1.alloc (.cells #[.pointer none, .slice none 0 0] 140)) [] := ⟨WAt.new w1, h.alloc hk _, hk⟩
def flow_Seal.T6 : Bool × List (List Nat × List Nat) := (true, [([], []), ([], []), ([], []), ([], []), ([3], [3]), ([0, 1, 2, 4], [0, 1, 2, 4]), ([], []), ([], []), ([6, 7], [6, 7]), ([], []), ([], []), ([10], [10]), ([9, 11], [9, 11]), ([5, 8, 12], [5, 8, 12]), ([13, 5], [13]), ([14, 14, 0, 1, 2, 3, 4, 5, 6, 7, 8, 9, 10, 11, 12, 13, 14], [14])])
def flow_Seal.B6 : List Nat := [0, 0, 0, 0, 8, 31, 0, 0, 192, 0, 0, 1024, 3584, 8191, 16383, 32767]
theorem flow_Seal.tab6 : rtab .any (opsOf Tryd.f41 6) = flow_Seal.T6 := by kernel_rfl
theorem flow_Seal.bits6 : waitsOk flow_Seal.T6.2 flow_Seal.B6 = true := by kernel_rfl
set_option maxHeartbeats 4000000 in
set_option maxRecDepth 100000 in
theorem flow_Seal.calls (a0 : Int) (a1 a2 a3 : ByteArray) (r : ByteArray) (w : World) (h : flow_Seal.f a0 a1 a2 a3 = some r) (hG : GP w) :
    Calls Tryd.prog 41 #[.int .i64 a0, .string a1, .string a2, .string a3] w fun e w' => e = .returned (.string r) ∧ Below w.heap.size w w' := by
  unfold flow_Seal.f at h
  by_cases hs : a3.size ≤ 1000000000
  case neg => rw [if_neg hs] at h; exact absurd h (by simp)
  rw [if_pos hs] at h
  have HS := Aside0.mk hs
  have HV := Aside0.mk h
  have HG := Aside0.mk hG
  clear h hs hG
  obtain ⟨k, hk⟩ : ∃ k, w.heap.size = k := ⟨_, rfl⟩
  have HB := Aside0.mk (show Below k w w from hk ▸ Below.refl w.heap.size w)
  have HK := Aside0.mk hk
  clear hk
  go_enter Tryd.func41, Tryd.ntmps41
  obtain ⟨⟨g0, g1, g2, g3⟩, g4, g5⟩ := HG.out.cells
  go_wp2
  clear g0 g1 g2 g3 g4 g5
  go_loopg [15] 2 (fun kq v15 wr => ∃ i : Nat, v15 = .int .i64 (i : Int) ∧ Aside0 (i + kq = 2) ∧ Aside0 (1 ≤ i → ¬ (a0 = 6 ∧ 20 ≤ a3.size)) ∧ Aside0 (2 ≤ i → ¬ (a0 = 17 ∧ 8 ≤ a3.size)) ∧ Aside0 (Below k w wr))
  case atStart => exact ⟨0, rfl, ⟨by omega⟩, ⟨by omega⟩, ⟨by omega⟩, HB⟩
  case round =>
    clear HB
    obtain ⟨i, rfl, HI, H0, H1, HB⟩ := hrel
    have HGr := Aside0.mk (HG.out.below (by rw [HK.out]; exact HB.out))
    have h012 : i = 0 ∨ i = 1 ∨ i = 2 := by have := HI.out; omega
    rcases h012 with rfl | rfl | rfl
    · have ix := pl_ix0
      obtain ⟨_, g4, g5⟩ := (HGr.out.below ((Below.refl wr.heap.size wr).alloc (Nat.le_refl _) (.cells #[.int .i64 6, .int .i64 16] 134))).cells
      by_cases hp : a0 = 6
      · subst hp
        by_cases hl : 20 ≤ a3.size
        · as_aux_lemma =>
          have d1 : (6 != 6) = false := rfl
          have hr : seal_with 6 a1 a2 a3 16 = some r := by
            have := HV.out; rw [show sealAt 6 a3.size = 16 by unfold sealAt; split <;> (try split) <;> omega, if_neg (by decide)] at this; exact this
          clear HV
          obtain ⟨ps, hps, hr⟩ := Option.bind_eq_some_iff.1 hr
          obtain ⟨n, hn, hr⟩ := Option.bind_eq_some_iff.1 hr
          obtain rfl := Option.some.inj hr
          clear hr
          have HP := Aside0.mk hps
          have HN := Aside0.mk hn
          have HL := Aside0.mk (show 20 ≤ a3.size from by omega)
          have d2 : decide ((a3.size : Int) < 20) = false := decide_eq_false (by have := HL.out; omega)
          have d3 : decide (a3.size < 20) = false := decide_eq_false (by have := HL.out; omega)
          clear hps hn
          go_upto_region 6 with (fail)
          clear ix g4 g5 d1 d2 d3
          have HC := Aside0.mk (HB.out.alloc (by have := HB.out.size; have := HK.out; omega) (.cells #[.int .i64 6, .int .i64 16] 134))
          rw [← HK.out] at HC
          have s1 : ((16 : Int) ≤ (a3.size : Int)) = True := eq_true (by have := HL.out; omega)
          have s2 : (16 ≤ a3.size) = True := eq_true (by have := HL.out; omega)
          have s3 : ((18 : Int) ≤ (a3.size : Int)) = True := eq_true (by have := HL.out; omega)
          have s4 : (18 ≤ a3.size) = True := eq_true (by have := HL.out; omega)
          have z1 : wrap64 (16 + 2) = 18 := by decide +kernel
          have z2 : IntKind.i64.wrap (16 + 2) = 18 := by decide +kernel
          have z3 : wrap64 18 = 18 := by decide +kernel
          have z4 : IntKind.i64.wrap 18 = 18 := by decide +kernel
          generalize wr.alloc (.cells #[.int .i64 6, .int .i64 16] 134) = w4 at HC ⊢
          replace HC := Aside0.mk (below_drew1 HC.out)
          refine start_ (n := 16) (S := fun w' => True) (ds := []) #[false, false, false, false, false, false, false, false, false, false, false, false, false, false, false, false] (by kernel_rfl) rfl rfl trivial (fun hHeld => ?_); refine with_tabW flow_Seal.tab6 flow_Seal.bits6 (fun HT_ HW_ => ?_)
          generalize w4.drew = w5 at HC hHeld ⊢
          refine pure_ (i := 0) (N := some 33) (v := ?_) (a' := ?_) #[true, false, false, false, false, false, false, false, false, false, false, false, false, false, false, false] rfl rfl (any_of HT_.out (by kernel_rfl)) (fun _ _ _ h => h) (Or.inl ⟨by rfl, ?_⟩) ?_ ?_
          rotate_left
          · intro w'
            go_simp
            with_reducible rfl
          rotate_left
          · simp only [Act.put, List.setIfInBounds_toArray, List.set_cons_zero, List.set_cons_succ, i64_w, i32_w]
            rfl
          refine pure_ (i := 1) (N := some 34) (v := ?_) (a' := ?_) #[true, true, false, false, false, false, false, false, false, false, false, false, false, false, false, false] rfl rfl (any_of HT_.out (by kernel_rfl)) (fun _ _ _ h => h) (Or.inl ⟨by rfl, ?_⟩) ?_ ?_
          rotate_left
          · intro w'
            go_simp
            with_reducible rfl
          rotate_left
          · simp only [Act.put, List.setIfInBounds_toArray, List.set_cons_zero, List.set_cons_succ, i64_w, i32_w]
            rfl
          refine pure_ (i := 2) (N := some 35) (v := ?_) (a' := ?_) #[true, true, true, false, false, false, false, false, false, false, false, false, false, false, false, false] rfl rfl (any_of HT_.out (by kernel_rfl)) (fun _ _ _ h => h) (Or.inl ⟨by rfl, ?_⟩) ?_ ?_
          rotate_left
          · intro w'
            go_simp
            with_reducible rfl
          rotate_left
          · simp only [Act.put, List.setIfInBounds_toArray, List.set_cons_zero, List.set_cons_succ, i64_w, i32_w]
            rfl
          refine pure_ (i := 3) (N := some 36) (v := ?_) (a' := ?_) #[true, true, true, true, false, false, false, false, false, false, false, false, false, false, false, false] rfl rfl (any_of HT_.out (by kernel_rfl)) (fun _ _ _ h => h) (Or.inl ⟨by rfl, ?_⟩) ?_ ?_
          rotate_left
          · intro w'
            go_simp
            with_reducible rfl
          rotate_left
          · simp only [Act.put, List.setIfInBounds_toArray, List.set_cons_zero, List.set_cons_succ, i64_w, i32_w]
            rfl
          refine pure_ (i := 4) (N := some 37) (v := ?_) (a' := ?_) #[true, true, true, true, true, false, false, false, false, false, false, false, false, false, false, false] rfl rfl (any_of HT_.out (by kernel_rfl)) (fun _ _ _ h => h) (Or.inl ⟨by rfl, ?_⟩) ?_ ?_
          rotate_left
          · intro w'
            go_simp
            with_reducible rfl
          rotate_left
          · simp only [Act.put, List.setIfInBounds_toArray, List.set_cons_zero, List.set_cons_succ, i64_w, i32_w]
            rfl
          refine pure_ (i := 6) (N := some 39) (v := ?_) (a' := ?_) #[true, true, true, true, true, false, true, false, false, false, false, false, false, false, false, false] rfl rfl (any_of HT_.out (by kernel_rfl)) (fun _ _ _ h => h) (Or.inl ⟨by rfl, ?_⟩) ?_ ?_
          rotate_left
          · intro w'
            go_simp
            with_reducible rfl
          rotate_left
          · simp only [Act.put, List.setIfInBounds_toArray, List.set_cons_zero, List.set_cons_succ, i64_w, i32_w]
            rfl
          refine pure_ (i := 7) (N := some 40) (v := ?_) (a' := ?_) #[true, true, true, true, true, false, true, true, false, false, false, false, false, false, false, false] rfl rfl (any_of HT_.out (by kernel_rfl)) (fun _ _ _ h => h) (Or.inl ⟨by rfl, ?_⟩) ?_ ?_
          rotate_left
          · intro w'
            go_simp
            with_reducible rfl
          rotate_left
          · simp only [Act.put, List.setIfInBounds_toArray, List.set_cons_zero, List.set_cons_succ, i64_w, i32_w]
            rfl
          refine pure_ (i := 8) (N := some 41) (v := ?_) (a' := ?_) #[true, true, true, true, true, false, true, true, true, false, false, false, false, false, false, false] rfl rfl (any_of HT_.out (by kernel_rfl)) (fun _ _ _ h => h) (Or.inl ⟨by rfl, ?_⟩) ?_ ?_
          rotate_left
          · intro w'
            go_simp
            with_reducible rfl
          rotate_left
          · simp only [Act.put, List.setIfInBounds_toArray, List.set_cons_zero, List.set_cons_succ, i64_w, i32_w]
            rfl
          refine pure_ (i := 9) (N := some 42) (v := ?_) (a' := ?_) #[true, true, true, true, true, false, true, true, true, true, false, false, false, false, false, false] rfl rfl (any_of HT_.out (by kernel_rfl)) (fun _ _ _ h => h) (Or.inl ⟨by rfl, ?_⟩) ?_ ?_
          rotate_left
          · intro w'
            go_simp
            with_reducible rfl
          rotate_left
          · simp only [Act.put, List.setIfInBounds_toArray, List.set_cons_zero, List.set_cons_succ, i64_w, i32_w]
            rfl
          refine pure_ (i := 10) (N := some 43) (v := ?_) (a' := ?_) #[true, true, true, true, true, false, true, true, true, true, true, false, false, false, false, false] rfl rfl (any_of HT_.out (by kernel_rfl)) (fun _ _ _ h => h) (Or.inl ⟨by rfl, ?_⟩) ?_ ?_
          rotate_left
          · intro w'
            go_simp
            with_reducible rfl
          rotate_left
          · simp only [Act.put, List.setIfInBounds_toArray, List.set_cons_zero, List.set_cons_succ, i64_w, i32_w]
            rfl
          refine pure_ (i := 11) (N := some 44) (v := ?_) (a' := ?_) #[true, true, true, true, true, false, true, true, true, true, true, true, false, false, false, false] rfl rfl (any_of HT_.out (by kernel_rfl)) (fun _ _ _ h => h) (Or.inl ⟨by rfl, ?_⟩) ?_ ?_
          rotate_left
          · intro w'
            go_simp
            with_reducible rfl
          rotate_left
          · simp only [Act.put, List.setIfInBounds_toArray, List.set_cons_zero, List.set_cons_succ, i64_w, i32_w]
            rfl
          refine pure_ (i := 12) (N := some 45) (v := ?_) (a' := ?_) #[true, true, true, true, true, false, true, true, true, true, true, true, true, false, false, false] rfl rfl (any_of HT_.out (by kernel_rfl)) (fun _ _ _ h => h) (Or.inl ⟨by rfl, ?_⟩) ?_ ?_
          rotate_left
          · intro w'
            go_simp
            with_reducible rfl
          rotate_left
          · simp only [Act.put, List.setIfInBounds_toArray, List.set_cons_zero, List.set_cons_succ, i64_w, i32_w]
            rfl
          refine one_ (i := 5) (N := some 38) #[true, true, true, true, true, true, true, true, true, true, true, true, true, false, false, false] rfl rfl (one_of HT_.out (by kernel_rfl)) (by decide) (fun K hK => ?_)
          refine goes_ Tryd.func77 (by kernel_rfl) rfl #[.string a1, .string a2, .int .i64 6, .int .i64 (a3.size : Int)] (by rfl) rfl rfl (by (try simp only [List.map_toArray, List.map_cons, List.map_nil]); first | done | rfl) ?_
          with_reducible refine (sum_Pseudo.calls a1 a2 6 (a3.size : Int) ps _ HP.out).mono ?_
          rintro e w6 ⟨rfl, hb⟩
          refine ⟨_, rfl, ?_⟩
          have n0_ := Aside0.mk (below_step (by repeat (first | (with_reducible first | exact HC.out | apply below_alloc | apply pw_below_drewN | apply below_drew1) | exact HC.out)) hb)
          clear HC
          have HC := n0_
          clear n0_ hb
          refine hK.out _ _ trivial (fun hHeld => ?_)
          clear hK K
          refine norm_ (a' := ?_) ?_ ?_
          rotate_left
          · show Act.put _ (some 38) _ = _
            simp only [Act.put, List.setIfInBounds_toArray, List.set_cons_zero, List.set_cons_succ, i64_w, i32_w]
            rfl
          obtain ⟨y, hy⟩ : ∃ y : List ByteArray, y = [ps, a3.extract 0 16, (⟨#[0, 0]⟩ : ByteArray), a3.extract (16 + 2) a3.size] := ⟨_, rfl⟩
          rw [← hy] at HN
          have NY := Aside0.mk hy
          clear hy
          refine one_ (i := 13) (N := some 46) #[true, true, true, true, true, true, true, true, true, true, true, true, true, true, false, false] rfl rfl (one_of HT_.out (by kernel_rfl)) (by decide) (fun K hK => ?_)
          refine Kd.R_lit_step Kd.string _ 9 ?hg (N := 46) ?hd (xs := ([ps, a3.extract 0 16, (⟨#[0, 0]⟩ : ByteArray), a3.extract (16 + 2) a3.size] : List ByteArray)) (inner := [.string ps, .string (a3.extract 0 16), .string (⟨#[0, 0]⟩ : ByteArray), .string (a3.extract (16 + 2) a3.size)]) (ok := fun _ => True) (okp := fun _ => True) ?hr ?hp (fun _ hk => hk) trivial (Below.refl _ _) (Nat.le_refl _) (by simp) ?_; (case hd => rfl); (case hg => rfl); (case hr => first | (go_simp; done) | (go_simp; rfl)); (case hp => exact (Reps.one (show Kd.M Kd.string _ _ _ ps [.string ps] from rfl) (Reps.one (show Kd.M Kd.string _ _ _ (a3.extract 0 16) [.string (a3.extract 0 16)] from rfl) (Reps.one (show Kd.M Kd.string _ _ _ (⟨#[0, 0]⟩ : ByteArray) [.string (⟨#[0, 0]⟩ : ByteArray)] from rfl) (Reps.one (show Kd.M Kd.string _ _ _ (a3.extract (16 + 2) a3.size) [.string (a3.extract (16 + 2) a3.size)] from rfl) (Reps.none _ _))))))
          intro v47 w7 ho hb hg_ hnew_
          clear hg_ hnew_
          (first | rw [← NY.out] at ho | (simp only [Int.reduceToNat] at ho; rw [← NY.out] at ho))
          have HO := Aside0.mk (Kd.R_lower ho (below_size (by repeat (first | (with_reducible first | exact HC.out | apply below_alloc | apply pw_below_drewN | apply below_drew1) | exact HC.out))))
          have n0_ := Aside0.mk (below_step (by repeat (first | (with_reducible first | exact HC.out | apply below_alloc | apply pw_below_drewN | apply below_drew1) | exact HC.out)) hb)
          clear HC
          have HC := n0_
          clear n0_ hb
          clear ho
          obtain ⟨Ao, co, eo⟩ := Kd.R_slice HO.out
          (first | subst eo | (injection eo with f1_ f2_ f3_; have f4_ := f1_.symm; have f5_ := f3_.symm; clear f1_ f2_ f3_; subst f4_; subst f5_))
          refine hK.out _ _ trivial (fun hHeld => ?_)
          clear hK K
          refine norm_ (a' := ?_) ?_ ?_
          rotate_left
          · show Act.put _ (some 46) _ = _
            simp only [Act.put, List.setIfInBounds_toArray, List.set_cons_zero, List.set_cons_succ, i64_w, i32_w]
            rfl
          refine one_ (i := 14) (N := some 47) #[true, true, true, true, true, true, true, true, true, true, true, true, true, true, true, false] rfl rfl (one_of HT_.out (by kernel_rfl)) (by decide) (fun K hK => ?_)
          refine goes_ Tryd.func60 (by kernel_rfl) rfl #[.slice Ao y.length co] (by rfl) rfl rfl (by (try simp only [List.map_toArray, List.map_cons, List.map_nil]); first | done | rfl) ?_
          with_reducible refine (sum_Sum.calls _ _ y n _ ?side1 ?side2 HN.out).mono ?_
          (case side1 => repeat (first | exact (Kd.R_reads' HO.out).2.2 | (with_reducible refine Kd.C_alloc ?_ _) | (with_reducible refine Kd.C_drewN ?_ _) | (with_reducible refine Kd.C_drew ?_)))
          (case side2 => exact (Kd.R_reads' HO.out).2.1)
          rintro e w8 ⟨rfl, hb⟩
          refine ⟨_, rfl, ?_⟩
          clear HO
          have n0_ := Aside0.mk (below_step (by repeat (first | (with_reducible first | exact HC.out | apply below_alloc | apply pw_below_drewN | apply below_drew1) | exact HC.out)) hb)
          clear HC
          have HC := n0_
          clear n0_ hb
          refine hK.out _ _ trivial (fun hHeld => ?_)
          clear hK K
          refine norm_ (a' := ?_) ?_ ?_
          rotate_left
          · show Act.put _ (some 47) _ = _
            simp only [Act.put, List.setIfInBounds_toArray, List.set_cons_zero, List.set_cons_succ, i64_w, i32_w]
            rfl
          refine pure_ (i := 15) (N := some 12) (v := ?_) (a' := ?_) #[true, true, true, true, true, true, true, true, true, true, true, true, true, true, true, true] rfl rfl (any_of HT_.out (by kernel_rfl)) (fun _ _ _ h => h) (Or.inl ⟨by rfl, ?_⟩) ?_ ?_
          rotate_left
          · intro w'
            go_simp
            with_reducible rfl
          rotate_left
          · simp only [Act.put, List.setIfInBounds_toArray, List.set_cons_zero, List.set_cons_succ, i64_w, i32_w]
            rfl
          refine done_ (done_of HT_.out (by kernel_rfl)) ?_
          by_cases hn0 : n = 0
          · as_aux_lemma =>
            have e1 : (n == 0) = true := beq_iff_eq.mpr hn0
            have e2 : sealNo 6 n = n := by unfold sealNo; rw [if_neg (fun h => absurd h.2 (by decide))]
            clear hn0
            go_wp2_with fail
            have HW := Aside0.mk (SW.start (w1 := _) (by repeat (first | (with_reducible first | exact HC.out | apply below_alloc | apply pw_below_drewN | apply below_drew1) | exact HC.out)) (Below.size (by repeat (first | (with_reducible first | exact HC.out | apply below_alloc | apply pw_below_drewN | apply below_drew1) | exact HC.out))))
            refine (Writer_Text.calls _ _ _ _ HW.out.1 (by have := HS.out; simp [ByteArray.size_extract]; omega)).mono ?_
            rintro e w9 ⟨rfl, g1, g2⟩
            replace HW := Aside0.mk (HW.out.next g1 g2)
            clear g1 g2
            go_wp2_with fail
            refine (Writer_U16.calls _ _ _ _ HW.out.1 (by have := HS.out; simp [ByteArray.size_extract, bl_length]; omega)).mono ?_
            rintro e w10 ⟨rfl, g1, g2⟩
            replace HW := Aside0.mk (HW.out.next g1 g2)
            clear g1 g2
            go_wp2_with fail
            refine (Writer_Text.calls _ _ _ _ HW.out.1 (by have := HS.out; simp [ByteArray.size_extract, bl_length, nb_length]; omega)).mono ?_
            rintro e w11 ⟨rfl, g1, g2⟩
            replace HW := Aside0.mk (HW.out.next g1 g2)
            clear g1 g2
            go_wp2_with fail
            refine (Writer_String.calls _ _ _ HW.out.1).mono ?_
            rintro e w12 ⟨rfl, g1, g2⟩
            replace HW := Aside0.mk (HW.out.next g1 g2)
            clear g1 g2
            go_wp2
            go_ret
            exact ⟨by rw [e2]; first | rfl | (simp [sealBytes, u64n]; done), HW.out.2.1⟩
          · as_aux_lemma =>
            have e1 : (n == 0) = false := beq_eq_false_iff_ne.mpr hn0
            have e2 : sealNo 6 n = n := by unfold sealNo; rw [if_neg (fun h => absurd h.2 (by decide))]
            clear hn0
            go_wp2_with fail
            have HW := Aside0.mk (SW.start (w1 := _) (by repeat (first | (with_reducible first | exact HC.out | apply below_alloc | apply pw_below_drewN | apply below_drew1) | exact HC.out)) (Below.size (by repeat (first | (with_reducible first | exact HC.out | apply below_alloc | apply pw_below_drewN | apply below_drew1) | exact HC.out))))
            refine (Writer_Text.calls _ _ _ _ HW.out.1 (by have := HS.out; simp [ByteArray.size_extract]; omega)).mono ?_
            rintro e w9 ⟨rfl, g1, g2⟩
            replace HW := Aside0.mk (HW.out.next g1 g2)
            clear g1 g2
            go_wp2_with fail
            refine (Writer_U16.calls _ _ _ _ HW.out.1 (by have := HS.out; simp [ByteArray.size_extract, bl_length]; omega)).mono ?_
            rintro e w10 ⟨rfl, g1, g2⟩
            replace HW := Aside0.mk (HW.out.next g1 g2)
            clear g1 g2
            go_wp2_with fail
            refine (Writer_Text.calls _ _ _ _ HW.out.1 (by have := HS.out; simp [ByteArray.size_extract, bl_length, nb_length]; omega)).mono ?_
            rintro e w11 ⟨rfl, g1, g2⟩
            replace HW := Aside0.mk (HW.out.next g1 g2)
            clear g1 g2
            go_wp2_with fail
            refine (Writer_String.calls _ _ _ HW.out.1).mono ?_
            rintro e w12 ⟨rfl, g1, g2⟩
            replace HW := Aside0.mk (HW.out.next g1 g2)
            clear g1 g2
            go_wp2
            go_ret
            exact ⟨by rw [e2]; first | rfl | (simp [sealBytes, u64n]; done), HW.out.2.1⟩
        · as_aux_lemma =>
          have d1 : ((6 : Int) != 6) = false := rfl
          have d2 : decide ((a3.size : Int) < 20) = true := decide_eq_true (by omega)
          have d3 : decide (a3.size < 20) = true := decide_eq_true (by omega)
          have HX := Aside0.mk hl
          clear hl
          go_wp2
          go_roundg 1
          case measure => have := HI.out; omega
          case rel => exact ⟨1, by first | rfl | (simp; done) | (unfold wrap64; simp; done), ⟨by omega⟩, ⟨fun _ h => HX.out h.2⟩, ⟨fun h => by omega⟩, ⟨HB.out.alloc (by have := HB.out.size; have := HK.out; omega) _⟩⟩
      · as_aux_lemma =>
        have d1 : (a0 != 6) = true := bne_iff_ne.mpr hp
        have HX := Aside0.mk hp
        clear hp
        go_wp2
        go_roundg 1
        case measure => have := HI.out; omega
        case rel => exact ⟨1, by first | rfl | (simp; done) | (unfold wrap64; simp; done), ⟨by omega⟩, ⟨fun _ h => HX.out h.1⟩, ⟨fun h => by omega⟩, ⟨HB.out.alloc (by have := HB.out.size; have := HK.out; omega) _⟩⟩
    · have ix := pl_ix1
      obtain ⟨_, g4, g5⟩ := (HGr.out.below ((Below.refl wr.heap.size wr).alloc (Nat.le_refl _) (.cells #[.int .i64 17, .int .i64 6] 134))).cells
      by_cases hp : a0 = 17
      · subst hp
        by_cases hl : 8 ≤ a3.size
        · as_aux_lemma =>
          have d1 : (17 != 17) = false := rfl
          have hr : seal_with 17 a1 a2 a3 6 = some r := by
            have := HV.out; rw [show sealAt 17 a3.size = 6 by unfold sealAt; split <;> (try split) <;> omega, if_neg (by decide)] at this; exact this
          clear HV
          obtain ⟨ps, hps, hr⟩ := Option.bind_eq_some_iff.1 hr
          obtain ⟨n, hn, hr⟩ := Option.bind_eq_some_iff.1 hr
          obtain rfl := Option.some.inj hr
          clear hr
          have HP := Aside0.mk hps
          have HN := Aside0.mk hn
          have HL := Aside0.mk (show 8 ≤ a3.size from by omega)
          have d2 : decide ((a3.size : Int) < 8) = false := decide_eq_false (by have := HL.out; omega)
          have d3 : decide (a3.size < 8) = false := decide_eq_false (by have := HL.out; omega)
          clear hps hn
          go_upto_region 6 with (fail)
          clear ix g4 g5 d1 d2 d3
          have HC := Aside0.mk (HB.out.alloc (by have := HB.out.size; have := HK.out; omega) (.cells #[.int .i64 17, .int .i64 6] 134))
          rw [← HK.out] at HC
          have s1 : ((6 : Int) ≤ (a3.size : Int)) = True := eq_true (by have := HL.out; omega)
          have s2 : (6 ≤ a3.size) = True := eq_true (by have := HL.out; omega)
          have s3 : ((8 : Int) ≤ (a3.size : Int)) = True := eq_true (by have := HL.out; omega)
          have s4 : (8 ≤ a3.size) = True := eq_true (by have := HL.out; omega)
          have z1 : wrap64 (6 + 2) = 8 := by decide +kernel
          have z2 : IntKind.i64.wrap (6 + 2) = 8 := by decide +kernel
          have z3 : wrap64 8 = 8 := by decide +kernel
          have z4 : IntKind.i64.wrap 8 = 8 := by decide +kernel
          generalize wr.alloc (.cells #[.int .i64 17, .int .i64 6] 134) = w4 at HC ⊢
          replace HC := Aside0.mk (below_drew1 HC.out)
          refine start_ (n := 16) (S := fun w' => True) (ds := []) #[false, false, false, false, false, false, false, false, false, false, false, false, false, false, false, false] (by kernel_rfl) rfl rfl trivial (fun hHeld => ?_); refine with_tabW flow_Seal.tab6 flow_Seal.bits6 (fun HT_ HW_ => ?_)
          generalize w4.drew = w5 at HC hHeld ⊢
          refine pure_ (i := 0) (N := some 33) (v := ?_) (a' := ?_) #[true, false, false, false, false, false, false, false, false, false, false, false, false, false, false, false] rfl rfl (any_of HT_.out (by kernel_rfl)) (fun _ _ _ h => h) (Or.inl ⟨by rfl, ?_⟩) ?_ ?_
          rotate_left
          · intro w'
            go_simp
            with_reducible rfl
          rotate_left
          · simp only [Act.put, List.setIfInBounds_toArray, List.set_cons_zero, List.set_cons_succ, i64_w, i32_w]
            rfl
          refine pure_ (i := 1) (N := some 34) (v := ?_) (a' := ?_) #[true, true, false, false, false, false, false, false, false, false, false, false, false, false, false, false] rfl rfl (any_of HT_.out (by kernel_rfl)) (fun _ _ _ h => h) (Or.inl ⟨by rfl, ?_⟩) ?_ ?_
          rotate_left
          · intro w'
            go_simp
            with_reducible rfl
          rotate_left
          · simp only [Act.put, List.setIfInBounds_toArray, List.set_cons_zero, List.set_cons_succ, i64_w, i32_w]
            rfl
          refine pure_ (i := 2) (N := some 35) (v := ?_) (a' := ?_) #[true, true, true, false, false, false, false, false, false, false, false, false, false, false, false, false] rfl rfl (any_of HT_.out (by kernel_rfl)) (fun _ _ _ h => h) (Or.inl ⟨by rfl, ?_⟩) ?_ ?_
          rotate_left
          · intro w'
            go_simp
            with_reducible rfl
          rotate_left
          · simp only [Act.put, List.setIfInBounds_toArray, List.set_cons_zero, List.set_cons_succ, i64_w, i32_w]
            rfl
          refine pure_ (i := 3) (N := some 36) (v := ?_) (a' := ?_) #[true, true, true, true, false, false, false, false, false, false, false, false, false, false, false, false] rfl rfl (any_of HT_.out (by kernel_rfl)) (fun _ _ _ h => h) (Or.inl ⟨by rfl, ?_⟩) ?_ ?_
          rotate_left
          · intro w'
            go_simp
            with_reducible rfl
          rotate_left
          · simp only [Act.put, List.setIfInBounds_toArray, List.set_cons_zero, List.set_cons_succ, i64_w, i32_w]
            rfl
          refine pure_ (i := 4) (N := some 37) (v := ?_) (a' := ?_) #[true, true, true, true, true, false, false, false, false, false, false, false, false, false, false, false] rfl rfl (any_of HT_.out (by kernel_rfl)) (fun _ _ _ h => h) (Or.inl ⟨by rfl, ?_⟩) ?_ ?_
          rotate_left
          · intro w'
            go_simp
            with_reducible rfl
          rotate_left
          · simp only [Act.put, List.setIfInBounds_toArray, List.set_cons_zero, List.set_cons_succ, i64_w, i32_w]
            rfl
          refine pure_ (i := 6) (N := some 39) (v := ?_) (a' := ?_) #[true, true, true, true, true, false, true, false, false, false, false, false, false, false, false, false] rfl rfl (any_of HT_.out (by kernel_rfl)) (fun _ _ _ h => h) (Or.inl ⟨by rfl, ?_⟩) ?_ ?_
          rotate_left
          · intro w'
            go_simp
            with_reducible rfl
          rotate_left
          · simp only [Act.put, List.setIfInBounds_toArray, List.set_cons_zero, List.set_cons_succ, i64_w, i32_w]
            rfl
          refine pure_ (i := 7) (N := some 40) (v := ?_) (a' := ?_) #[true, true, true, true, true, false, true, true, false, false, false, false, false, false, false, false] rfl rfl (any_of HT_.out (by kernel_rfl)) (fun _ _ _ h => h) (Or.inl ⟨by rfl, ?_⟩) ?_ ?_
          rotate_left
          · intro w'
            go_simp
            with_reducible rfl
          rotate_left
          · simp only [Act.put, List.setIfInBounds_toArray, List.set_cons_zero, List.set_cons_succ, i64_w, i32_w]
            rfl
          refine pure_ (i := 8) (N := some 41) (v := ?_) (a' := ?_) #[true, true, true, true, true, false, true, true, true, false, false, false, false, false, false, false] rfl rfl (any_of HT_.out (by kernel_rfl)) (fun _ _ _ h => h) (Or.inl ⟨by rfl, ?_⟩) ?_ ?_
          rotate_left
          · intro w'
            go_simp
            with_reducible rfl
          rotate_left
          · simp only [Act.put, List.setIfInBounds_toArray, List.set_cons_zero, List.set_cons_succ, i64_w, i32_w]
            rfl
          refine pure_ (i := 9) (N := some 42) (v := ?_) (a' := ?_) #[true, true, true, true, true, false, true, true, true, true, false, false, false, false, false, false] rfl rfl (any_of HT_.out (by kernel_rfl)) (fun _ _ _ h => h) (Or.inl ⟨by rfl, ?_⟩) ?_ ?_
          rotate_left
          · intro w'
            go_simp
            with_reducible rfl
          rotate_left
          · simp only [Act.put, List.setIfInBounds_toArray, List.set_cons_zero, List.set_cons_succ, i64_w, i32_w]
            rfl
          refine pure_ (i := 10) (N := some 43) (v := ?_) (a' := ?_) #[true, true, true, true, true, false, true, true, true, true, true, false, false, false, false, false] rfl rfl (any_of HT_.out (by kernel_rfl)) (fun _ _ _ h => h) (Or.inl ⟨by rfl, ?_⟩) ?_ ?_
          rotate_left
          · intro w'
            go_simp
            with_reducible rfl
          rotate_left
          · simp only [Act.put, List.setIfInBounds_toArray, List.set_cons_zero, List.set_cons_succ, i64_w, i32_w]
            rfl
          refine pure_ (i := 11) (N := some 44) (v := ?_) (a' := ?_) #[true, true, true, true, true, false, true, true, true, true, true, true, false, false, false, false] rfl rfl (any_of HT_.out (by kernel_rfl)) (fun _ _ _ h => h) (Or.inl ⟨by rfl, ?_⟩) ?_ ?_
          rotate_left
          · intro w'
            go_simp
            with_reducible rfl
          rotate_left
          · simp only [Act.put, List.setIfInBounds_toArray, List.set_cons_zero, List.set_cons_succ, i64_w, i32_w]
            rfl
          refine pure_ (i := 12) (N := some 45) (v := ?_) (a' := ?_) #[true, true, true, true, true, false, true, true, true, true, true, true, true, false, false, false] rfl rfl (any_of HT_.out (by kernel_rfl)) (fun _ _ _ h => h) (Or.inl ⟨by rfl, ?_⟩) ?_ ?_
          rotate_left
          · intro w'
            go_simp
            with_reducible rfl
          rotate_left
          · simp only [Act.put, List.setIfInBounds_toArray, List.set_cons_zero, List.set_cons_succ, i64_w, i32_w]
            rfl
          refine one_ (i := 5) (N := some 38) #[true, true, true, true, true, true, true, true, true, true, true, true, true, false, false, false] rfl rfl (one_of HT_.out (by kernel_rfl)) (by decide) (fun K hK => ?_)
          refine goes_ Tryd.func77 (by kernel_rfl) rfl #[.string a1, .string a2, .int .i64 17, .int .i64 (a3.size : Int)] (by rfl) rfl rfl (by (try simp only [List.map_toArray, List.map_cons, List.map_nil]); first | done | rfl) ?_
          with_reducible refine (sum_Pseudo.calls a1 a2 17 (a3.size : Int) ps _ HP.out).mono ?_
          rintro e w6 ⟨rfl, hb⟩
          refine ⟨_, rfl, ?_⟩
          have n0_ := Aside0.mk (below_step (by repeat (first | (with_reducible first | exact HC.out | apply below_alloc | apply pw_below_drewN | apply below_drew1) | exact HC.out)) hb)
          clear HC
          have HC := n0_
          clear n0_ hb
          refine hK.out _ _ trivial (fun hHeld => ?_)
          clear hK K
          refine norm_ (a' := ?_) ?_ ?_
          rotate_left
          · show Act.put _ (some 38) _ = _
            simp only [Act.put, List.setIfInBounds_toArray, List.set_cons_zero, List.set_cons_succ, i64_w, i32_w]
            rfl
          obtain ⟨y, hy⟩ : ∃ y : List ByteArray, y = [ps, a3.extract 0 6, (⟨#[0, 0]⟩ : ByteArray), a3.extract (6 + 2) a3.size] := ⟨_, rfl⟩
          rw [← hy] at HN
          have NY := Aside0.mk hy
          clear hy
          refine one_ (i := 13) (N := some 46) #[true, true, true, true, true, true, true, true, true, true, true, true, true, true, false, false] rfl rfl (one_of HT_.out (by kernel_rfl)) (by decide) (fun K hK => ?_)
          refine Kd.R_lit_step Kd.string _ 9 ?hg (N := 46) ?hd (xs := ([ps, a3.extract 0 6, (⟨#[0, 0]⟩ : ByteArray), a3.extract (6 + 2) a3.size] : List ByteArray)) (inner := [.string ps, .string (a3.extract 0 6), .string (⟨#[0, 0]⟩ : ByteArray), .string (a3.extract (6 + 2) a3.size)]) (ok := fun _ => True) (okp := fun _ => True) ?hr ?hp (fun _ hk => hk) trivial (Below.refl _ _) (Nat.le_refl _) (by simp) ?_; (case hd => rfl); (case hg => rfl); (case hr => first | (go_simp; done) | (go_simp; rfl)); (case hp => exact (Reps.one (show Kd.M Kd.string _ _ _ ps [.string ps] from rfl) (Reps.one (show Kd.M Kd.string _ _ _ (a3.extract 0 6) [.string (a3.extract 0 6)] from rfl) (Reps.one (show Kd.M Kd.string _ _ _ (⟨#[0, 0]⟩ : ByteArray) [.string (⟨#[0, 0]⟩ : ByteArray)] from rfl) (Reps.one (show Kd.M Kd.string _ _ _ (a3.extract (6 + 2) a3.size) [.string (a3.extract (6 + 2) a3.size)] from rfl) (Reps.none _ _))))))
          intro v47 w7 ho hb hg_ hnew_
          clear hg_ hnew_
          (first | rw [← NY.out] at ho | (simp only [Int.reduceToNat] at ho; rw [← NY.out] at ho))
          have HO := Aside0.mk (Kd.R_lower ho (below_size (by repeat (first | (with_reducible first | exact HC.out | apply below_alloc | apply pw_below_drewN | apply below_drew1) | exact HC.out))))
          have n0_ := Aside0.mk (below_step (by repeat (first | (with_reducible first | exact HC.out | apply below_alloc | apply pw_below_drewN | apply below_drew1) | exact HC.out)) hb)
          clear HC
          have HC := n0_
          clear n0_ hb
          clear ho
          obtain ⟨Ao, co, eo⟩ := Kd.R_slice HO.out
          (first | subst eo | (injection eo with f1_ f2_ f3_; have f4_ := f1_.symm; have f5_ := f3_.symm; clear f1_ f2_ f3_; subst f4_; subst f5_))
          refine hK.out _ _ trivial (fun hHeld => ?_)
          clear hK K
          refine norm_ (a' := ?_) ?_ ?_
          rotate_left
          · show Act.put _ (some 46) _ = _
            simp only [Act.put, List.setIfInBounds_toArray, List.set_cons_zero, List.set_cons_succ, i64_w, i32_w]
            rfl
          refine one_ (i := 14) (N := some 47) #[true, true, true, true, true, true, true, true, true, true, true, true, true, true, true, false] rfl rfl (one_of HT_.out (by kernel_rfl)) (by decide) (fun K hK => ?_)
          refine goes_ Tryd.func60 (by kernel_rfl) rfl #[.slice Ao y.length co] (by rfl) rfl rfl (by (try simp only [List.map_toArray, List.map_cons, List.map_nil]); first | done | rfl) ?_
          with_reducible refine (sum_Sum.calls _ _ y n _ ?side1 ?side2 HN.out).mono ?_
          (case side1 => repeat (first | exact (Kd.R_reads' HO.out).2.2 | (with_reducible refine Kd.C_alloc ?_ _) | (with_reducible refine Kd.C_drewN ?_ _) | (with_reducible refine Kd.C_drew ?_)))
          (case side2 => exact (Kd.R_reads' HO.out).2.1)
          rintro e w8 ⟨rfl, hb⟩
          refine ⟨_, rfl, ?_⟩
          clear HO
          have n0_ := Aside0.mk (below_step (by repeat (first | (with_reducible first | exact HC.out | apply below_alloc | apply pw_below_drewN | apply below_drew1) | exact HC.out)) hb)
          clear HC
          have HC := n0_
          clear n0_ hb
          refine hK.out _ _ trivial (fun hHeld => ?_)
          clear hK K
          refine norm_ (a' := ?_) ?_ ?_
          rotate_left
          · show Act.put _ (some 47) _ = _
            simp only [Act.put, List.setIfInBounds_toArray, List.set_cons_zero, List.set_cons_succ, i64_w, i32_w]
            rfl
          refine pure_ (i := 15) (N := some 12) (v := ?_) (a' := ?_) #[true, true, true, true, true, true, true, true, true, true, true, true, true, true, true, true] rfl rfl (any_of HT_.out (by kernel_rfl)) (fun _ _ _ h => h) (Or.inl ⟨by rfl, ?_⟩) ?_ ?_
          rotate_left
          · intro w'
            go_simp
            with_reducible rfl
          rotate_left
          · simp only [Act.put, List.setIfInBounds_toArray, List.set_cons_zero, List.set_cons_succ, i64_w, i32_w]
            rfl
          refine done_ (done_of HT_.out (by kernel_rfl)) ?_
          by_cases hn0 : n = 0
          · as_aux_lemma =>
            have e1 : (n == 0) = true := beq_iff_eq.mpr hn0
            have e2 : sealNo 17 n = 65535 := by unfold sealNo; rw [if_pos ⟨hn0, rfl⟩]
            clear hn0
            go_wp2_with fail
            have HW := Aside0.mk (SW.start (w1 := _) (by repeat (first | (with_reducible first | exact HC.out | apply below_alloc | apply pw_below_drewN | apply below_drew1) | exact HC.out)) (Below.size (by repeat (first | (with_reducible first | exact HC.out | apply below_alloc | apply pw_below_drewN | apply below_drew1) | exact HC.out))))
            refine (Writer_Text.calls _ _ _ _ HW.out.1 (by have := HS.out; simp [ByteArray.size_extract]; omega)).mono ?_
            rintro e w9 ⟨rfl, g1, g2⟩
            replace HW := Aside0.mk (HW.out.next g1 g2)
            clear g1 g2
            go_wp2_with fail
            refine (Writer_U16.calls _ _ _ _ HW.out.1 (by have := HS.out; simp [ByteArray.size_extract, bl_length]; omega)).mono ?_
            rintro e w10 ⟨rfl, g1, g2⟩
            replace HW := Aside0.mk (HW.out.next g1 g2)
            clear g1 g2
            go_wp2_with fail
            refine (Writer_Text.calls _ _ _ _ HW.out.1 (by have := HS.out; simp [ByteArray.size_extract, bl_length, nb_length]; omega)).mono ?_
            rintro e w11 ⟨rfl, g1, g2⟩
            replace HW := Aside0.mk (HW.out.next g1 g2)
            clear g1 g2
            go_wp2_with fail
            refine (Writer_String.calls _ _ _ HW.out.1).mono ?_
            rintro e w12 ⟨rfl, g1, g2⟩
            replace HW := Aside0.mk (HW.out.next g1 g2)
            clear g1 g2
            go_wp2
            go_ret
            exact ⟨by rw [e2]; first | rfl | (simp [sealBytes, u64n]; done), HW.out.2.1⟩
          · as_aux_lemma =>
            have e1 : (n == 0) = false := beq_eq_false_iff_ne.mpr hn0
            have e2 : sealNo 17 n = n := by unfold sealNo; rw [if_neg (fun h => hn0 h.1)]
            clear hn0
            go_wp2_with fail
            have HW := Aside0.mk (SW.start (w1 := _) (by repeat (first | (with_reducible first | exact HC.out | apply below_alloc | apply pw_below_drewN | apply below_drew1) | exact HC.out)) (Below.size (by repeat (first | (with_reducible first | exact HC.out | apply below_alloc | apply pw_below_drewN | apply below_drew1) | exact HC.out))))
            refine (Writer_Text.calls _ _ _ _ HW.out.1 (by have := HS.out; simp [ByteArray.size_extract]; omega)).mono ?_
            rintro e w9 ⟨rfl, g1, g2⟩
            replace HW := Aside0.mk (HW.out.next g1 g2)
            clear g1 g2
            go_wp2_with fail
            refine (Writer_U16.calls _ _ _ _ HW.out.1 (by have := HS.out; simp [ByteArray.size_extract, bl_length]; omega)).mono ?_
            rintro e w10 ⟨rfl, g1, g2⟩
            replace HW := Aside0.mk (HW.out.next g1 g2)
            clear g1 g2
            go_wp2_with fail
            refine (Writer_Text.calls _ _ _ _ HW.out.1 (by have := HS.out; simp [ByteArray.size_extract, bl_length, nb_length]; omega)).mono ?_
            rintro e w11 ⟨rfl, g1, g2⟩
            replace HW := Aside0.mk (HW.out.next g1 g2)
            clear g1 g2
            go_wp2_with fail
            refine (Writer_String.calls _ _ _ HW.out.1).mono ?_
            rintro e w12 ⟨rfl, g1, g2⟩
            replace HW := Aside0.mk (HW.out.next g1 g2)
            clear g1 g2
            go_wp2
            go_ret
            exact ⟨by rw [e2]; first | rfl | (simp [sealBytes, u64n]; done), HW.out.2.1⟩
        · as_aux_lemma =>
          have d1 : ((17 : Int) != 17) = false := rfl
          have d2 : decide ((a3.size : Int) < 8) = true := decide_eq_true (by omega)
          have d3 : decide (a3.size < 8) = true := decide_eq_true (by omega)
          have HX := Aside0.mk hl
          clear hl
          go_wp2
          go_roundg 0
          case measure => have := HI.out; omega
          case rel => exact ⟨2, by first | rfl | (simp; done) | (unfold wrap64; simp; done), ⟨by omega⟩, ⟨fun _ h => absurd h.1 (by decide)⟩, ⟨fun _ h => HX.out h.2⟩, ⟨HB.out.alloc (by have := HB.out.size; have := HK.out; omega) _⟩⟩
      · as_aux_lemma =>
        have d1 : (a0 != 17) = true := bne_iff_ne.mpr hp
        have HX := Aside0.mk hp
        clear hp
        go_wp2
        go_roundg 0
        case measure => have := HI.out; omega
        case rel => exact ⟨2, by first | rfl | (simp; done) | (unfold wrap64; simp; done), ⟨by omega⟩, ⟨fun _ => H0.out (by omega)⟩, ⟨fun _ h => HX.out h.1⟩, ⟨HB.out.alloc (by have := HB.out.size; have := HK.out; omega) _⟩⟩
    · as_aux_lemma =>
      have hr : some a3 = some r := by
        have := HV.out; rw [if_pos (by unfold sealAt; rw [if_neg (H0.out (by omega)), if_neg (H1.out (by omega))])] at this; exact this
      obtain rfl := Option.some.inj hr
      clear hr
      go_wp2
      go_ret
      exact ⟨rfl, by rw [HK.out]; exact HB.out⟩
end Go.Proofs.YtcmalglippmocaaDoor.G
end
