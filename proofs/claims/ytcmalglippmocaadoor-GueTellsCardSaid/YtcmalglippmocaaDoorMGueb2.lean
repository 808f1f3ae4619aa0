/- Texts of this session, joined: each is a section. -/
import Derived.Test.YtcmalglippmocaaDoorMGueb1
import Derived.WalkLawsBesides
import Derived.BigQuiet
import Derived.RegionTactic
import Derived.Deep.RegionWith
import Derived.Lib.ConvBytes
import Derived.Recover
import Derived.Defers
import Derived.WideLaws
import Derived.Lib.Hide
set_option linter.unusedVariables false
set_option linter.unusedSimpArgs false
section
/- By hand: flow.Seal, which reads the package-level tables of places. -/
namespace Go.Proofs.YtcmalglippmocaaDoor.G
open Go.RowKit Go.Proofs.YtcmalglippmocaaDoorW.PrintWords Go.Proofs.YtcmalglippmocaaDoorW.PrintLast Go.Proofs.YtcmalglippmocaaDoorW.PrintMore Go.Proofs.YtcmalglippmocaaDoor.Pal
set_option linter.unusedVariables false
set_option linter.unusedSimpArgs false
/-- Where a payload's sum stands, if it has one. -/
def sealAt (p : Int) (n : Nat) : Nat := if p = 6 ∧ 20 ≤ n then 16 else if p = 17 ∧ 8 ≤ n then 6 else 0
def sealNo (p n : Int) : Int := if n = 0 ∧ p = 17 then 65535 else n
def sealBytes (s : ByteArray) (q : Nat) (n : Int) : ByteArray := ⟨(bl (s.extract 0 q) ++ nb 2 (u64n n) ++ bl (s.extract (q + 2) s.size)).toArray⟩
def seal_with (a0 : Int) (a1 a2 a3 : ByteArray) (q : Nat) : Option ByteArray :=
  (sum_Pseudo.f a1 a2 a0 a3.size).bind fun ps => (sum_Sum.f [ps, a3.extract 0 q, ⟨#[0, 0]⟩, a3.extract (q + 2) a3.size]).bind fun n => some (sealBytes a3 q (sealNo a0 n))
def flow_Seal.f (a0 : Int) (a1 a2 a3 : ByteArray) : Option ByteArray :=
  if a3.size ≤ 1000000000 then (if sealAt a0 a3.size = 0 then some a3 else seal_with a0 a1 a2 a3 (sealAt a0 a3.size)) else none
theorem pl_ix0 (wx : World) : (Instr.index 135 (.agg #[.int .i64 6, .int .i64 16, .int .i64 17, .int .i64 6]) (.int .i64 0)).run Tryd.prog wx = .ok (.agg #[.int .i64 6, .int .i64 16]) wx := by kernel_rfl
theorem pl_ix1 (wx : World) : (Instr.index 135 (.agg #[.int .i64 6, .int .i64 16, .int .i64 17, .int .i64 6]) (.int .i64 1)).run Tryd.prog wx = .ok (.agg #[.int .i64 17, .int .i64 6]) wx := by kernel_rfl
theorem four_C (w : World) (T : TypeId) (x y z u : ByteArray) : Go.Proofs.YtcmalglippmocaaDoorW.PrintWords.Kd.C Go.Proofs.YtcmalglippmocaaDoorW.PrintWords.Kd.string (w.alloc (.cells #[.string x, .string y, .string z, .string u] T)) (some ⟨w.heap.size, 0, none⟩) 4 [x, y, z, u] :=
  C_cells [x, y, z, u] (by simp) fun j p hp => by
    match j, hp with
    | 0, hp => obtain rfl := Option.some.inj hp; exact (Blk.new w T #[.string x, .string y, .string z, .string u]).cell 0 _ rfl
    | 1, hp => obtain rfl := Option.some.inj hp; exact (Blk.new w T #[.string x, .string y, .string z, .string u]).cell 1 _ rfl
    | 2, hp => obtain rfl := Option.some.inj hp; exact (Blk.new w T #[.string x, .string y, .string z, .string u]).cell 2 _ rfl
    | 3, hp => obtain rfl := Option.some.inj hp; exact (Blk.new w T #[.string x, .string y, .string z, .string u]).cell 3 _ rfl
    | j + 4, hp => simp at hp
/-- A writer that stands in a block of its own above k. -/
def SW (k b : Nat) (w w1 : World) (l : List UInt8) : Prop := WAt b l w1 ∧ Below k w w1 ∧ k ≤ b
theorem SW.next {k b : Nat} {w w1 w2 : World} {l l' : List UInt8} (h : SW k b w w1 l) (h1 : WAt b l' w2) (h2 : Below b w1 w2) : SW k b w w2 l' := ⟨h1, h.2.1.trans (h2.mono h.2.2), h.2.2⟩
theorem SW.start {k : Nat} {w w1 : World} (h : Below k w w1) (hk : k ≤ w1.heap.size) : SW k w1.heap.size w (w1.alloc (.cells #[.pointer none, .slice none 0 0] 140)) [] := ⟨WAt.new w1, h.alloc hk _, hk⟩
def flow_Seal.T6 : Bool × List (List Nat × List Nat) := (true, [([], []), ([], []), ([], []), ([], []), ([3], [3]), ([0, 1, 2, 4], [0, 1, 2, 4]), ([], []), ([], []), ([6, 7], [6, 7]), ([], []), ([], []), ([10], [10]), ([9, 11], [9, 11]), ([5, 8, 12], [5, 8, 12]), ([13, 5], [13]), ([14, 14, 0, 1, 2, 3, 4, 5, 6, 7, 8, 9, 10, 11, 12, 13, 14], [14])])
def flow_Seal.B6 : List Nat := [0, 0, 0, 0, 8, 31, 0, 0, 192, 0, 0, 1024, 3584, 8191, 16383, 32767]
theorem flow_Seal.tab6 : rtab .any (opsOf Tryd.f41 6) = flow_Seal.T6 := by kernel_rfl
theorem flow_Seal.bits6 : waitsOk flow_Seal.T6.2 flow_Seal.B6 = true := by kernel_rfl
set_option maxHeartbeats 4000000 in
set_option maxRecDepth 100000 in
theorem flow_Seal.calls (a0 : Int) (a1 a2 a3 : ByteArray) (r : ByteArray) (w : World) (h : flow_Seal.f a0 a1 a2 a3 = some r) (hG : GP w) :
    Calls Tryd.prog 41 #[.int .i64 a0, .string a1, .string a2, .string a3] w fun e w' => e = .returned (.string r) ∧ Below w.heap.size w w' := by
  unfold flow_Seal.f at h
  by_cases hs : a3.size ≤ 1000000000
  case neg => rw [if_neg hs] at h; exact absurd h (by simp)
  rw [if_pos hs] at h
  have HS := Aside0.mk hs
  have HV := Aside0.mk h
  have HG := Aside0.mk hG
  clear h hs hG
  obtain ⟨k, hk⟩ : ∃ k, w.heap.size = k := ⟨_, rfl⟩
  have HB := Aside0.mk (show Below k w w from hk ▸ Below.refl w.heap.size w)
  have HK := Aside0.mk hk
  clear hk
  go_enter Tryd.func41, Tryd.ntmps41
  obtain ⟨⟨g0, g1, g2, g3⟩, g4, g5⟩ := HG.out.cells
  go_wp2
  clear g0 g1 g2 g3 g4 g5
  go_loopg [15] 2 (fun kq v15 wr => ∃ i : Nat, v15 = .int .i64 (i : Int) ∧ Aside0 (i + kq = 2) ∧ Aside0 (1 ≤ i → ¬ (a0 = 6 ∧ 20 ≤ a3.size)) ∧ Aside0 (2 ≤ i → ¬ (a0 = 17 ∧ 8 ≤ a3.size)) ∧ Aside0 (Below k w wr))
  case atStart => exact ⟨0, rfl, ⟨by omega⟩, ⟨by omega⟩, ⟨by omega⟩, HB⟩
  case round =>
    clear HB
    obtain ⟨i, rfl, HI, H0, H1, HB⟩ := hrel
    have HGr := Aside0.mk (HG.out.below (by rw [HK.out]; exact HB.out))
    have h012 : i = 0 ∨ i = 1 ∨ i = 2 := by have := HI.out; omega
    rcases h012 with rfl | rfl | rfl
    · have ix := pl_ix0
      obtain ⟨_, g4, g5⟩ := (HGr.out.below ((Below.refl wr.heap.size wr).alloc (Nat.le_refl _) (.cells #[.int .i64 6, .int .i64 16] 134))).cells
      by_cases hp : a0 = 6
      · subst hp
        by_cases hl : 20 ≤ a3.size
        · as_aux_lemma =>
          have d1 : (6 != 6) = false := rfl
          have hr : seal_with 6 a1 a2 a3 16 = some r := by
            have := HV.out; rw [show sealAt 6 a3.size = 16 by unfold sealAt; split <;> (try split) <;> omega, if_neg (by decide)] at this; exact this
          clear HV
          obtain ⟨ps, hps, hr⟩ := Option.bind_eq_some_iff.1 hr
          obtain ⟨n, hn, hr⟩ := Option.bind_eq_some_iff.1 hr
          obtain rfl := Option.some.inj hr
          clear hr
          have HP := Aside0.mk hps
          have HN := Aside0.mk hn
          have HL := Aside0.mk (show 20 ≤ a3.size from by omega)
          have d2 : decide ((a3.size : Int) < 20) = false := decide_eq_false (by have := HL.out; omega)
          have d3 : decide (a3.size < 20) = false := decide_eq_false (by have := HL.out; omega)
          clear hps hn
          go_upto_region 6 with (fail)
          clear ix g4 g5 d1 d2 d3
          have HC := Aside0.mk (HB.out.alloc (by have := HB.out.size; have := HK.out; omega) (.cells #[.int .i64 6, .int .i64 16] 134))
          rw [← HK.out] at HC
          have s1 : ((16 : Int) ≤ (a3.size : Int)) = True := eq_true (by have := HL.out; omega)
          have s2 : (16 ≤ a3.size) = True := eq_true (by have := HL.out; omega)
          have s3 : ((18 : Int) ≤ (a3.size : Int)) = True := eq_true (by have := HL.out; omega)
          have s4 : (18 ≤ a3.size) = True := eq_true (by have := HL.out; omega)
          have z1 : wrap64 (16 + 2) = 18 := by decide +kernel
          have z2 : IntKind.i64.wrap (16 + 2) = 18 := by decide +kernel
          have z3 : wrap64 18 = 18 := by decide +kernel
          have z4 : IntKind.i64.wrap 18 = 18 := by decide +kernel
          generalize wr.alloc (.cells #[.int .i64 6, .int .i64 16] 134) = w4 at HC ⊢
          replace HC := Aside0.mk (below_drew1 HC.out)
          refine start_ (n := 16) (S := fun w' => True) (ds := []) #[false, false, false, false, false, false, false, false, false, false, false, false, false, false, false, false] (by kernel_rfl) rfl rfl trivial (fun hHeld => ?_); refine with_tabW flow_Seal.tab6 flow_Seal.bits6 (fun HT_ HW_ => ?_)
          generalize w4.drew = w5 at HC hHeld ⊢
          refine pure_ (i := 0) (N := some 33) (v := ?_) (a' := ?_) #[true, false, false, false, false, false, false, false, false, false, false, false, false, false, false, false] rfl rfl (any_of HT_.out (by kernel_rfl)) (fun _ _ _ h => h) (Or.inl ⟨by rfl, ?_⟩) ?_ ?_
          rotate_left
          · intro w'
            go_simp
            with_reducible rfl
          rotate_left
          · simp only [Act.put, List.setIfInBounds_toArray, List.set_cons_zero, List.set_cons_succ, i64_w, i32_w]
            rfl
          refine pure_ (i := 1) (N := some 34) (v := ?_) (a' := ?_) #[true, true, false, false, false, false, false, false, false, false, false, false, false, false, false, false] rfl rfl (any_of HT_.out (by kernel_rfl)) (fun _ _ _ h => h) (Or.inl ⟨by rfl, ?_⟩) ?_ ?_
          rotate_left
          · intro w'
            go_simp
            with_reducible rfl
          rotate_left
          · simp only [Act.put, List.setIfInBounds_toArray, List.set_cons_zero, List.set_cons_succ, i64_w, i32_w]
            rfl
          refine pure_ (i := 2) (N := some 35) (v := ?_) (a' := ?_) #[true, true, true, false, false, false, false, false, false, false, false, false, false, false, false, false] rfl rfl (any_of HT_.out (by kernel_rfl)) (fun _ _ _ h => h) (Or.inl ⟨by rfl, ?_⟩) ?_ ?_
          rotate_left
          · intro w'
            go_simp
            with_reducible rfl
          rotate_left
          · simp only [Act.put, List.setIfInBounds_toArray, List.set_cons_zero, List.set_cons_succ, i64_w, i32_w]
            rfl
          refine pure_ (i := 3) (N := some 36) (v := ?_) (a' := ?_) #[true, true, true, true, false, false, false, false, false, false, false, false, false, false, false, false] rfl rfl (any_of HT_.out (by kernel_rfl)) (fun _ _ _ h => h) (Or.inl ⟨by rfl, ?_⟩) ?_ ?_
          rotate_left
          · intro w'
            go_simp
            with_reducible rfl
          rotate_left
          · simp only [Act.put, List.setIfInBounds_toArray, List.set_cons_zero, List.set_cons_succ, i64_w, i32_w]
            rfl
          refine pure_ (i := 4) (N := some 37) (v := ?_) (a' := ?_) #[true, true, true, true, true, false, false, false, false, false, false, false, false, false, false, false] rfl rfl (any_of HT_.out (by kernel_rfl)) (fun _ _ _ h => h) (Or.inl ⟨by rfl, ?_⟩) ?_ ?_
          rotate_left
          · intro w'
            go_simp
            with_reducible rfl
          rotate_left
          · simp only [Act.put, List.setIfInBounds_toArray, List.set_cons_zero, List.set_cons_succ, i64_w, i32_w]
            rfl
          refine pure_ (i := 6) (N := some 39) (v := ?_) (a' := ?_) #[true, true, true, true, true, false, true, false, false, false, false, false, false, false, false, false] rfl rfl (any_of HT_.out (by kernel_rfl)) (fun _ _ _ h => h) (Or.inl ⟨by rfl, ?_⟩) ?_ ?_
          rotate_left
          · intro w'
            go_simp
            with_reducible rfl
          rotate_left
          · simp only [Act.put, List.setIfInBounds_toArray, List.set_cons_zero, List.set_cons_succ, i64_w, i32_w]
            rfl
          refine pure_ (i := 7) (N := some 40) (v := ?_) (a' := ?_) #[true, true, true, true, true, false, true, true, false, false, false, false, false, false, false, false] rfl rfl (any_of HT_.out (by kernel_rfl)) (fun _ _ _ h => h) (Or.inl ⟨by rfl, ?_⟩) ?_ ?_
          rotate_left
          · intro w'
            go_simp
            with_reducible rfl
          rotate_left
          · simp only [Act.put, List.setIfInBounds_toArray, List.set_cons_zero, List.set_cons_succ, i64_w, i32_w]
            rfl
          refine pure_ (i := 8) (N := some 41) (v := ?_) (a' := ?_) #[true, true, true, true, true, false, true, true, true, false, false, false, false, false, false, false] rfl rfl (any_of HT_.out (by kernel_rfl)) (fun _ _ _ h => h) (Or.inl ⟨by rfl, ?_⟩) ?_ ?_
          rotate_left
          · intro w'
            go_simp
            with_reducible rfl
          rotate_left
          · simp only [Act.put, List.setIfInBounds_toArray, List.set_cons_zero, List.set_cons_succ, i64_w, i32_w]
            rfl
          refine pure_ (i := 9) (N := some 42) (v := ?_) (a' := ?_) #[true, true, true, true, true, false, true, true, true, true, false, false, false, false, false, false] rfl rfl (any_of HT_.out (by kernel_rfl)) (fun _ _ _ h => h) (Or.inl ⟨by rfl, ?_⟩) ?_ ?_
          rotate_left
          · intro w'
            go_simp
            with_reducible rfl
          rotate_left
          · simp only [Act.put, List.setIfInBounds_toArray, List.set_cons_zero, List.set_cons_succ, i64_w, i32_w]
            rfl
          refine pure_ (i := 10) (N := some 43) (v := ?_) (a' := ?_) #[true, true, true, true, true, false, true, true, true, true, true, false, false, false, false, false] rfl rfl (any_of HT_.out (by kernel_rfl)) (fun _ _ _ h => h) (Or.inl ⟨by rfl, ?_⟩) ?_ ?_
          rotate_left
          · intro w'
            go_simp
            with_reducible rfl
          rotate_left
          · simp only [Act.put, List.setIfInBounds_toArray, List.set_cons_zero, List.set_cons_succ, i64_w, i32_w]
            rfl
          refine pure_ (i := 11) (N := some 44) (v := ?_) (a' := ?_) #[true, true, true, true, true, false, true, true, true, true, true, true, false, false, false, false] rfl rfl (any_of HT_.out (by kernel_rfl)) (fun _ _ _ h => h) (Or.inl ⟨by rfl, ?_⟩) ?_ ?_
          rotate_left
          · intro w'
            go_simp
            with_reducible rfl
          rotate_left
          · simp only [Act.put, List.setIfInBounds_toArray, List.set_cons_zero, List.set_cons_succ, i64_w, i32_w]
            rfl
          refine pure_ (i := 12) (N := some 45) (v := ?_) (a' := ?_) #[true, true, true, true, true, false, true, true, true, true, true, true, true, false, false, false] rfl rfl (any_of HT_.out (by kernel_rfl)) (fun _ _ _ h => h) (Or.inl ⟨by rfl, ?_⟩) ?_ ?_
          rotate_left
          · intro w'
            go_simp
            with_reducible rfl
          rotate_left
          · simp only [Act.put, List.setIfInBounds_toArray, List.set_cons_zero, List.set_cons_succ, i64_w, i32_w]
            rfl
          refine one_ (i := 5) (N := some 38) #[true, true, true, true, true, true, true, true, true, true, true, true, true, false, false, false] rfl rfl (one_of HT_.out (by kernel_rfl)) (by decide) (fun K hK => ?_)
          refine goes_ Tryd.func77 (by kernel_rfl) rfl #[.string a1, .string a2, .int .i64 6, .int .i64 (a3.size : Int)] (by rfl) rfl rfl (by (try simp only [List.map_toArray, List.map_cons, List.map_nil]); first | done | rfl) ?_
          with_reducible refine (sum_Pseudo.calls a1 a2 6 (a3.size : Int) ps _ HP.out).mono ?_
          rintro e w6 ⟨rfl, hb⟩
          refine ⟨_, rfl, ?_⟩
          have n0_ := Aside0.mk (below_step (by repeat (first | (with_reducible first | exact HC.out | apply below_alloc | apply pw_below_drewN | apply below_drew1) | exact HC.out)) hb)
          clear HC
          have HC := n0_
          clear n0_ hb
          refine hK.out _ _ trivial (fun hHeld => ?_)
          clear hK K
          refine norm_ (a' := ?_) ?_ ?_
          rotate_left
          · show Act.put _ (some 38) _ = _
            simp only [Act.put, List.setIfInBounds_toArray, List.set_cons_zero, List.set_cons_succ, i64_w, i32_w]
            rfl
          obtain ⟨y, hy⟩ : ∃ y : List ByteArray, y = [ps, a3.extract 0 16, (⟨#[0, 0]⟩ : ByteArray), a3.extract (16 + 2) a3.size] := ⟨_, rfl⟩
          rw [← hy] at HN
          have NY := Aside0.mk hy
          clear hy
          refine one_ (i := 13) (N := some 46) #[true, true, true, true, true, true, true, true, true, true, true, true, true, true, false, false] rfl rfl (one_of HT_.out (by kernel_rfl)) (by decide) (fun K hK => ?_)
          refine Kd.R_lit_step Kd.string _ 9 ?hg (N := 46) ?hd (xs := ([ps, a3.extract 0 16, (⟨#[0, 0]⟩ : ByteArray), a3.extract (16 + 2) a3.size] : List ByteArray)) (inner := [.string ps, .string (a3.extract 0 16), .string (⟨#[0, 0]⟩ : ByteArray), .string (a3.extract (16 + 2) a3.size)]) (ok := fun _ => True) (okp := fun _ => True) ?hr ?hp (fun _ hk => hk) trivial (Below.refl _ _) (Nat.le_refl _) (by simp) ?_; (case hd => rfl); (case hg => rfl); (case hr => first | (go_simp; done) | (go_simp; rfl)); (case hp => exact (Reps.one (show Kd.M Kd.string _ _ _ ps [.string ps] from rfl) (Reps.one (show Kd.M Kd.string _ _ _ (a3.extract 0 16) [.string (a3.extract 0 16)] from rfl) (Reps.one (show Kd.M Kd.string _ _ _ (⟨#[0, 0]⟩ : ByteArray) [.string (⟨#[0, 0]⟩ : ByteArray)] from rfl) (Reps.one (show Kd.M Kd.string _ _ _ (a3.extract (16 + 2) a3.size) [.string (a3.extract (16 + 2) a3.size)] from rfl) (Reps.none _ _))))))
          intro v47 w7 ho hb hg_ hnew_
          clear hg_ hnew_
          (first | rw [← NY.out] at ho | (simp only [Int.reduceToNat] at ho; rw [← NY.out] at ho))
          have HO := Aside0.mk (Kd.R_lower ho (below_size (by repeat (first | (with_reducible first | exact HC.out | apply below_alloc | apply pw_below_drewN | apply below_drew1) | exact HC.out))))
          have n0_ := Aside0.mk (below_step (by repeat (first | (with_reducible first | exact HC.out | apply below_alloc | apply pw_below_drewN | apply below_drew1) | exact HC.out)) hb)
          clear HC
          have HC := n0_
          clear n0_ hb
          clear ho
          obtain ⟨Ao, co, eo⟩ := Kd.R_slice HO.out
          (first | subst eo | (injection eo with f1_ f2_ f3_; have f4_ := f1_.symm; have f5_ := f3_.symm; clear f1_ f2_ f3_; subst f4_; subst f5_))
          refine hK.out _ _ trivial (fun hHeld => ?_)
          clear hK K
          refine norm_ (a' := ?_) ?_ ?_
          rotate_left
          · show Act.put _ (some 46) _ = _
            simp only [Act.put, List.setIfInBounds_toArray, List.set_cons_zero, List.set_cons_succ, i64_w, i32_w]
            rfl
          refine one_ (i := 14) (N := some 47) #[true, true, true, true, true, true, true, true, true, true, true, true, true, true, true, false] rfl rfl (one_of HT_.out (by kernel_rfl)) (by decide) (fun K hK => ?_)
          refine goes_ Tryd.func60 (by kernel_rfl) rfl #[.slice Ao y.length co] (by rfl) rfl rfl (by (try simp only [List.map_toArray, List.map_cons, List.map_nil]); first | done | rfl) ?_
          with_reducible refine (sum_Sum.calls _ _ y n _ ?side1 ?side2 HN.out).mono ?_
          (case side1 => repeat (first | exact (Kd.R_reads' HO.out).2.2 | (with_reducible refine Kd.C_alloc ?_ _) | (with_reducible refine Kd.C_drewN ?_ _) | (with_reducible refine Kd.C_drew ?_)))
          (case side2 => exact (Kd.R_reads' HO.out).2.1)
          rintro e w8 ⟨rfl, hb⟩
          refine ⟨_, rfl, ?_⟩
          clear HO
          have n0_ := Aside0.mk (below_step (by repeat (first | (with_reducible first | exact HC.out | apply below_alloc | apply pw_below_drewN | apply below_drew1) | exact HC.out)) hb)
          clear HC
          have HC := n0_
          clear n0_ hb
          refine hK.out _ _ trivial (fun hHeld => ?_)
          clear hK K
          refine norm_ (a' := ?_) ?_ ?_
          rotate_left
          · show Act.put _ (some 47) _ = _
            simp only [Act.put, List.setIfInBounds_toArray, List.set_cons_zero, List.set_cons_succ, i64_w, i32_w]
            rfl
          refine pure_ (i := 15) (N := some 12) (v := ?_) (a' := ?_) #[true, true, true, true, true, true, true, true, true, true, true, true, true, true, true, true] rfl rfl (any_of HT_.out (by kernel_rfl)) (fun _ _ _ h => h) (Or.inl ⟨by rfl, ?_⟩) ?_ ?_
          rotate_left
          · intro w'
            go_simp
            with_reducible rfl
          rotate_left
          · simp only [Act.put, List.setIfInBounds_toArray, List.set_cons_zero, List.set_cons_succ, i64_w, i32_w]
            rfl
          refine done_ (done_of HT_.out (by kernel_rfl)) ?_
          by_cases hn0 : n = 0
          · as_aux_lemma =>
            have e1 : (n == 0) = true := beq_iff_eq.mpr hn0
            have e2 : sealNo 6 n = n := by unfold sealNo; rw [if_neg (fun h => absurd h.2 (by decide))]
            clear hn0
            go_wp2_with fail
            have HW := Aside0.mk (SW.start (w1 := _) (by repeat (first | (with_reducible first | exact HC.out | apply below_alloc | apply pw_below_drewN | apply below_drew1) | exact HC.out)) (Below.size (by repeat (first | (with_reducible first | exact HC.out | apply below_alloc | apply pw_below_drewN | apply below_drew1) | exact HC.out))))
            refine (Writer_Text.calls _ _ _ _ HW.out.1 (by have := HS.out; simp [ByteArray.size_extract]; omega)).mono ?_
            rintro e w9 ⟨rfl, g1, g2⟩
            replace HW := Aside0.mk (HW.out.next g1 g2)
            clear g1 g2
            go_wp2_with fail
            refine (Writer_U16.calls _ _ _ _ HW.out.1 (by have := HS.out; simp [ByteArray.size_extract, bl_length]; omega)).mono ?_
            rintro e w10 ⟨rfl, g1, g2⟩
            replace HW := Aside0.mk (HW.out.next g1 g2)
            clear g1 g2
            go_wp2_with fail
            refine (Writer_Text.calls _ _ _ _ HW.out.1 (by have := HS.out; simp [ByteArray.size_extract, bl_length, nb_length]; omega)).mono ?_
            rintro e w11 ⟨rfl, g1, g2⟩
            replace HW := Aside0.mk (HW.out.next g1 g2)
            clear g1 g2
            go_wp2_with fail
            refine (Writer_String.calls _ _ _ HW.out.1).mono ?_
            rintro e w12 ⟨rfl, g1, g2⟩
            replace HW := Aside0.mk (HW.out.next g1 g2)
            clear g1 g2
            go_wp2
            go_ret
            exact ⟨by rw [e2]; first | rfl | (simp [sealBytes, u64n]; done), HW.out.2.1⟩
          · as_aux_lemma =>
            have e1 : (n == 0) = false := beq_eq_false_iff_ne.mpr hn0
            have e2 : sealNo 6 n = n := by unfold sealNo; rw [if_neg (fun h => absurd h.2 (by decide))]
            clear hn0
            go_wp2_with fail
            have HW := Aside0.mk (SW.start (w1 := _) (by repeat (first | (with_reducible first | exact HC.out | apply below_alloc | apply pw_below_drewN | apply below_drew1) | exact HC.out)) (Below.size (by repeat (first | (with_reducible first | exact HC.out | apply below_alloc | apply pw_below_drewN | apply below_drew1) | exact HC.out))))
            refine (Writer_Text.calls _ _ _ _ HW.out.1 (by have := HS.out; simp [ByteArray.size_extract]; omega)).mono ?_
            rintro e w9 ⟨rfl, g1, g2⟩
            replace HW := Aside0.mk (HW.out.next g1 g2)
            clear g1 g2
            go_wp2_with fail
            refine (Writer_U16.calls _ _ _ _ HW.out.1 (by have := HS.out; simp [ByteArray.size_extract, bl_length]; omega)).mono ?_
            rintro e w10 ⟨rfl, g1, g2⟩
            replace HW := Aside0.mk (HW.out.next g1 g2)
            clear g1 g2
            go_wp2_with fail
            refine (Writer_Text.calls _ _ _ _ HW.out.1 (by have := HS.out; simp [ByteArray.size_extract, bl_length, nb_length]; omega)).mono ?_
            rintro e w11 ⟨rfl, g1, g2⟩
            replace HW := Aside0.mk (HW.out.next g1 g2)
            clear g1 g2
            go_wp2_with fail
            refine (Writer_String.calls _ _ _ HW.out.1).mono ?_
            rintro e w12 ⟨rfl, g1, g2⟩
            replace HW := Aside0.mk (HW.out.next g1 g2)
            clear g1 g2
            go_wp2
            go_ret
            exact ⟨by rw [e2]; first | rfl | (simp [sealBytes, u64n]; done), HW.out.2.1⟩
        · as_aux_lemma =>
          have d1 : ((6 : Int) != 6) = false := rfl
          have d2 : decide ((a3.size : Int) < 20) = true := decide_eq_true (by omega)
          have d3 : decide (a3.size < 20) = true := decide_eq_true (by omega)
          have HX := Aside0.mk hl
          clear hl
          go_wp2
          go_roundg 1
          case measure => have := HI.out; omega
          case rel => exact ⟨1, by first | rfl | (simp; done) | (unfold wrap64; simp; done), ⟨by omega⟩, ⟨fun _ h => HX.out h.2⟩, ⟨fun h => by omega⟩, ⟨HB.out.alloc (by have := HB.out.size; have := HK.out; omega) _⟩⟩
      · as_aux_lemma =>
        have d1 : (a0 != 6) = true := bne_iff_ne.mpr hp
        have HX := Aside0.mk hp
        clear hp
        go_wp2
        go_roundg 1
        case measure => have := HI.out; omega
        case rel => exact ⟨1, by first | rfl | (simp; done) | (unfold wrap64; simp; done), ⟨by omega⟩, ⟨fun _ h => HX.out h.1⟩, ⟨fun h => by omega⟩, ⟨HB.out.alloc (by have := HB.out.size; have := HK.out; omega) _⟩⟩
    · have ix := pl_ix1
      obtain ⟨_, g4, g5⟩ := (HGr.out.below ((Below.refl wr.heap.size wr).alloc (Nat.le_refl _) (.cells #[.int .i64 17, .int .i64 6] 134))).cells
      by_cases hp : a0 = 17
      · subst hp
        by_cases hl : 8 ≤ a3.size
        · as_aux_lemma =>
          have d1 : (17 != 17) = false := rfl
          have hr : seal_with 17 a1 a2 a3 6 = some r := by
            have := HV.out; rw [show sealAt 17 a3.size = 6 by unfold sealAt; split <;> (try split) <;> omega, if_neg (by decide)] at this; exact this
          clear HV
          obtain ⟨ps, hps, hr⟩ := Option.bind_eq_some_iff.1 hr
          obtain ⟨n, hn, hr⟩ := Option.bind_eq_some_iff.1 hr
          obtain rfl := Option.some.inj hr
          clear hr
          have HP := Aside0.mk hps
          have HN := Aside0.mk hn
          have HL := Aside0.mk (show 8 ≤ a3.size from by omega)
          have d2 : decide ((a3.size : Int) < 8) = false := decide_eq_false (by have := HL.out; omega)
          have d3 : decide (a3.size < 8) = false := decide_eq_false (by have := HL.out; omega)
          clear hps hn
          go_upto_region 6 with (fail)
          clear ix g4 g5 d1 d2 d3
          have HC := Aside0.mk (HB.out.alloc (by have := HB.out.size; have := HK.out; omega) (.cells #[.int .i64 17, .int .i64 6] 134))
          rw [← HK.out] at HC
          have s1 : ((6 : Int) ≤ (a3.size : Int)) = True := eq_true (by have := HL.out; omega)
          have s2 : (6 ≤ a3.size) = True := eq_true (by have := HL.out; omega)
          have s3 : ((8 : Int) ≤ (a3.size : Int)) = True := eq_true (by have := HL.out; omega)
          have s4 : (8 ≤ a3.size) = True := eq_true (by have := HL.out; omega)
          have z1 : wrap64 (6 + 2) = 8 := by decide +kernel
          have z2 : IntKind.i64.wrap (6 + 2) = 8 := by decide +kernel
          have z3 : wrap64 8 = 8 := by decide +kernel
          have z4 : IntKind.i64.wrap 8 = 8 := by decide +kernel
          generalize wr.alloc (.cells #[.int .i64 17, .int .i64 6] 134) = w4 at HC ⊢
          replace HC := Aside0.mk (below_drew1 HC.out)
          refine start_ (n := 16) (S := fun w' => True) (ds := []) #[false, false, false, false, false, false, false, false, false, false, false, false, false, false, false, false] (by kernel_rfl) rfl rfl trivial (fun hHeld => ?_); refine with_tabW flow_Seal.tab6 flow_Seal.bits6 (fun HT_ HW_ => ?_)
          generalize w4.drew = w5 at HC hHeld ⊢
          refine pure_ (i := 0) (N := some 33) (v := ?_) (a' := ?_) #[true, false, false, false, false, false, false, false, false, false, false, false, false, false, false, false] rfl rfl (any_of HT_.out (by kernel_rfl)) (fun _ _ _ h => h) (Or.inl ⟨by rfl, ?_⟩) ?_ ?_
          rotate_left
          · intro w'
            go_simp
            with_reducible rfl
          rotate_left
          · simp only [Act.put, List.setIfInBounds_toArray, List.set_cons_zero, List.set_cons_succ, i64_w, i32_w]
            rfl
          refine pure_ (i := 1) (N := some 34) (v := ?_) (a' := ?_) #[true, true, false, false, false, false, false, false, false, false, false, false, false, false, false, false] rfl rfl (any_of HT_.out (by kernel_rfl)) (fun _ _ _ h => h) (Or.inl ⟨by rfl, ?_⟩) ?_ ?_
          rotate_left
          · intro w'
            go_simp
            with_reducible rfl
          rotate_left
          · simp only [Act.put, List.setIfInBounds_toArray, List.set_cons_zero, List.set_cons_succ, i64_w, i32_w]
            rfl
          refine pure_ (i := 2) (N := some 35) (v := ?_) (a' := ?_) #[true, true, true, false, false, false, false, false, false, false, false, false, false, false, false, false] rfl rfl (any_of HT_.out (by kernel_rfl)) (fun _ _ _ h => h) (Or.inl ⟨by rfl, ?_⟩) ?_ ?_
          rotate_left
          · intro w'
            go_simp
            with_reducible rfl
          rotate_left
          · simp only [Act.put, List.setIfInBounds_toArray, List.set_cons_zero, List.set_cons_succ, i64_w, i32_w]
            rfl
          refine pure_ (i := 3) (N := some 36) (v := ?_) (a' := ?_) #[true, true, true, true, false, false, false, false, false, false, false, false, false, false, false, false] rfl rfl (any_of HT_.out (by kernel_rfl)) (fun _ _ _ h => h) (Or.inl ⟨by rfl, ?_⟩) ?_ ?_
          rotate_left
          · intro w'
            go_simp
            with_reducible rfl
          rotate_left
          · simp only [Act.put, List.setIfInBounds_toArray, List.set_cons_zero, List.set_cons_succ, i64_w, i32_w]
            rfl
          refine pure_ (i := 4) (N := some 37) (v := ?_) (a' := ?_) #[true, true, true, true, true, false, false, false, false, false, false, false, false, false, false, false] rfl rfl (any_of HT_.out (by kernel_rfl)) (fun _ _ _ h => h) (Or.inl ⟨by rfl, ?_⟩) ?_ ?_
          rotate_left
          · intro w'
            go_simp
            with_reducible rfl
          rotate_left
          · simp only [Act.put, List.setIfInBounds_toArray, List.set_cons_zero, List.set_cons_succ, i64_w, i32_w]
            rfl
          refine pure_ (i := 6) (N := some 39) (v := ?_) (a' := ?_) #[true, true, true, true, true, false, true, false, false, false, false, false, false, false, false, false] rfl rfl (any_of HT_.out (by kernel_rfl)) (fun _ _ _ h => h) (Or.inl ⟨by rfl, ?_⟩) ?_ ?_
          rotate_left
          · intro w'
            go_simp
            with_reducible rfl
          rotate_left
          · simp only [Act.put, List.setIfInBounds_toArray, List.set_cons_zero, List.set_cons_succ, i64_w, i32_w]
            rfl
          refine pure_ (i := 7) (N := some 40) (v := ?_) (a' := ?_) #[true, true, true, true, true, false, true, true, false, false, false, false, false, false, false, false] rfl rfl (any_of HT_.out (by kernel_rfl)) (fun _ _ _ h => h) (Or.inl ⟨by rfl, ?_⟩) ?_ ?_
          rotate_left
          · intro w'
            go_simp
            with_reducible rfl
          rotate_left
          · simp only [Act.put, List.setIfInBounds_toArray, List.set_cons_zero, List.set_cons_succ, i64_w, i32_w]
            rfl
          refine pure_ (i := 8) (N := some 41) (v := ?_) (a' := ?_) #[true, true, true, true, true, false, true, true, true, false, false, false, false, false, false, false] rfl rfl (any_of HT_.out (by kernel_rfl)) (fun _ _ _ h => h) (Or.inl ⟨by rfl, ?_⟩) ?_ ?_
          rotate_left
          · intro w'
            go_simp
            with_reducible rfl
          rotate_left
          · simp only [Act.put, List.setIfInBounds_toArray, List.set_cons_zero, List.set_cons_succ, i64_w, i32_w]
            rfl
          refine pure_ (i := 9) (N := some 42) (v := ?_) (a' := ?_) #[true, true, true, true, true, false, true, true, true, true, false, false, false, false, false, false] rfl rfl (any_of HT_.out (by kernel_rfl)) (fun _ _ _ h => h) (Or.inl ⟨by rfl, ?_⟩) ?_ ?_
          rotate_left
          · intro w'
            go_simp
            with_reducible rfl
          rotate_left
          · simp only [Act.put, List.setIfInBounds_toArray, List.set_cons_zero, List.set_cons_succ, i64_w, i32_w]
            rfl
          refine pure_ (i := 10) (N := some 43) (v := ?_) (a' := ?_) #[true, true, true, true, true, false, true, true, true, true, true, false, false, false, false, false] rfl rfl (any_of HT_.out (by kernel_rfl)) (fun _ _ _ h => h) (Or.inl ⟨by rfl, ?_⟩) ?_ ?_
          rotate_left
          · intro w'
            go_simp
            with_reducible rfl
          rotate_left
          · simp only [Act.put, List.setIfInBounds_toArray, List.set_cons_zero, List.set_cons_succ, i64_w, i32_w]
            rfl
          refine pure_ (i := 11) (N := some 44) (v := ?_) (a' := ?_) #[true, true, true, true, true, false, true, true, true, true, true, true, false, false, false, false] rfl rfl (any_of HT_.out (by kernel_rfl)) (fun _ _ _ h => h) (Or.inl ⟨by rfl, ?_⟩) ?_ ?_
          rotate_left
          · intro w'
            go_simp
            with_reducible rfl
          rotate_left
          · simp only [Act.put, List.setIfInBounds_toArray, List.set_cons_zero, List.set_cons_succ, i64_w, i32_w]
            rfl
          refine pure_ (i := 12) (N := some 45) (v := ?_) (a' := ?_) #[true, true, true, true, true, false, true, true, true, true, true, true, true, false, false, false] rfl rfl (any_of HT_.out (by kernel_rfl)) (fun _ _ _ h => h) (Or.inl ⟨by rfl, ?_⟩) ?_ ?_
          rotate_left
          · intro w'
            go_simp
            with_reducible rfl
          rotate_left
          · simp only [Act.put, List.setIfInBounds_toArray, List.set_cons_zero, List.set_cons_succ, i64_w, i32_w]
            rfl
          refine one_ (i := 5) (N := some 38) #[true, true, true, true, true, true, true, true, true, true, true, true, true, false, false, false] rfl rfl (one_of HT_.out (by kernel_rfl)) (by decide) (fun K hK => ?_)
          refine goes_ Tryd.func77 (by kernel_rfl) rfl #[.string a1, .string a2, .int .i64 17, .int .i64 (a3.size : Int)] (by rfl) rfl rfl (by (try simp only [List.map_toArray, List.map_cons, List.map_nil]); first | done | rfl) ?_
          with_reducible refine (sum_Pseudo.calls a1 a2 17 (a3.size : Int) ps _ HP.out).mono ?_
          rintro e w6 ⟨rfl, hb⟩
          refine ⟨_, rfl, ?_⟩
          have n0_ := Aside0.mk (below_step (by repeat (first | (with_reducible first | exact HC.out | apply below_alloc | apply pw_below_drewN | apply below_drew1) | exact HC.out)) hb)
          clear HC
          have HC := n0_
          clear n0_ hb
          refine hK.out _ _ trivial (fun hHeld => ?_)
          clear hK K
          refine norm_ (a' := ?_) ?_ ?_
          rotate_left
          · show Act.put _ (some 38) _ = _
            simp only [Act.put, List.setIfInBounds_toArray, List.set_cons_zero, List.set_cons_succ, i64_w, i32_w]
            rfl
          obtain ⟨y, hy⟩ : ∃ y : List ByteArray, y = [ps, a3.extract 0 6, (⟨#[0, 0]⟩ : ByteArray), a3.extract (6 + 2) a3.size] := ⟨_, rfl⟩
          rw [← hy] at HN
          have NY := Aside0.mk hy
          clear hy
          refine one_ (i := 13) (N := some 46) #[true, true, true, true, true, true, true, true, true, true, true, true, true, true, false, false] rfl rfl (one_of HT_.out (by kernel_rfl)) (by decide) (fun K hK => ?_)
          refine Kd.R_lit_step Kd.string _ 9 ?hg (N := 46) ?hd (xs := ([ps, a3.extract 0 6, (⟨#[0, 0]⟩ : ByteArray), a3.extract (6 + 2) a3.size] : List ByteArray)) (inner := [.string ps, .string (a3.extract 0 6), .string (⟨#[0, 0]⟩ : ByteArray), .string (a3.extract (6 + 2) a3.size)]) (ok := fun _ => True) (okp := fun _ => True) ?hr ?hp (fun _ hk => hk) trivial (Below.refl _ _) (Nat.le_refl _) (by simp) ?_; (case hd => rfl); (case hg => rfl); (case hr => first | (go_simp; done) | (go_simp; rfl)); (case hp => exact (Reps.one (show Kd.M Kd.string _ _ _ ps [.string ps] from rfl) (Reps.one (show Kd.M Kd.string _ _ _ (a3.extract 0 6) [.string (a3.extract 0 6)] from rfl) (Reps.one (show Kd.M Kd.string _ _ _ (⟨#[0, 0]⟩ : ByteArray) [.string (⟨#[0, 0]⟩ : ByteArray)] from rfl) (Reps.one (show Kd.M Kd.string _ _ _ (a3.extract (6 + 2) a3.size) [.string (a3.extract (6 + 2) a3.size)] from rfl) (Reps.none _ _))))))
          intro v47 w7 ho hb hg_ hnew_
          clear hg_ hnew_
          (first | rw [← NY.out] at ho | (simp only [Int.reduceToNat] at ho; rw [← NY.out] at ho))
          have HO := Aside0.mk (Kd.R_lower ho (below_size (by repeat (first | (with_reducible first | exact HC.out | apply below_alloc | apply pw_below_drewN | apply below_drew1) | exact HC.out))))
          have n0_ := Aside0.mk (below_step (by repeat (first | (with_reducible first | exact HC.out | apply below_alloc | apply pw_below_drewN | apply below_drew1) | exact HC.out)) hb)
          clear HC
          have HC := n0_
          clear n0_ hb
          clear ho
          obtain ⟨Ao, co, eo⟩ := Kd.R_slice HO.out
          (first | subst eo | (injection eo with f1_ f2_ f3_; have f4_ := f1_.symm; have f5_ := f3_.symm; clear f1_ f2_ f3_; subst f4_; subst f5_))
          refine hK.out _ _ trivial (fun hHeld => ?_)
          clear hK K
          refine norm_ (a' := ?_) ?_ ?_
          rotate_left
          · show Act.put _ (some 46) _ = _
            simp only [Act.put, List.setIfInBounds_toArray, List.set_cons_zero, List.set_cons_succ, i64_w, i32_w]
            rfl
          refine one_ (i := 14) (N := some 47) #[true, true, true, true, true, true, true, true, true, true, true, true, true, true, true, false] rfl rfl (one_of HT_.out (by kernel_rfl)) (by decide) (fun K hK => ?_)
          refine goes_ Tryd.func60 (by kernel_rfl) rfl #[.slice Ao y.length co] (by rfl) rfl rfl (by (try simp only [List.map_toArray, List.map_cons, List.map_nil]); first | done | rfl) ?_
          with_reducible refine (sum_Sum.calls _ _ y n _ ?side1 ?side2 HN.out).mono ?_
          (case side1 => repeat (first | exact (Kd.R_reads' HO.out).2.2 | (with_reducible refine Kd.C_alloc ?_ _) | (with_reducible refine Kd.C_drewN ?_ _) | (with_reducible refine Kd.C_drew ?_)))
          (case side2 => exact (Kd.R_reads' HO.out).2.1)
          rintro e w8 ⟨rfl, hb⟩
          refine ⟨_, rfl, ?_⟩
          clear HO
          have n0_ := Aside0.mk (below_step (by repeat (first | (with_reducible first | exact HC.out | apply below_alloc | apply pw_below_drewN | apply below_drew1) | exact HC.out)) hb)
          clear HC
          have HC := n0_
          clear n0_ hb
          refine hK.out _ _ trivial (fun hHeld => ?_)
          clear hK K
          refine norm_ (a' := ?_) ?_ ?_
          rotate_left
          · show Act.put _ (some 47) _ = _
            simp only [Act.put, List.setIfInBounds_toArray, List.set_cons_zero, List.set_cons_succ, i64_w, i32_w]
            rfl
          refine pure_ (i := 15) (N := some 12) (v := ?_) (a' := ?_) #[true, true, true, true, true, true, true, true, true, true, true, true, true, true, true, true] rfl rfl (any_of HT_.out (by kernel_rfl)) (fun _ _ _ h => h) (Or.inl ⟨by rfl, ?_⟩) ?_ ?_
          rotate_left
          · intro w'
            go_simp
            with_reducible rfl
          rotate_left
          · simp only [Act.put, List.setIfInBounds_toArray, List.set_cons_zero, List.set_cons_succ, i64_w, i32_w]
            rfl
          refine done_ (done_of HT_.out (by kernel_rfl)) ?_
          by_cases hn0 : n = 0
          · as_aux_lemma =>
            have e1 : (n == 0) = true := beq_iff_eq.mpr hn0
            have e2 : sealNo 17 n = 65535 := by unfold sealNo; rw [if_pos ⟨hn0, rfl⟩]
            clear hn0
            go_wp2_with fail
            have HW := Aside0.mk (SW.start (w1 := _) (by repeat (first | (with_reducible first | exact HC.out | apply below_alloc | apply pw_below_drewN | apply below_drew1) | exact HC.out)) (Below.size (by repeat (first | (with_reducible first | exact HC.out | apply below_alloc | apply pw_below_drewN | apply below_drew1) | exact HC.out))))
            refine (Writer_Text.calls _ _ _ _ HW.out.1 (by have := HS.out; simp [ByteArray.size_extract]; omega)).mono ?_
            rintro e w9 ⟨rfl, g1, g2⟩
            replace HW := Aside0.mk (HW.out.next g1 g2)
            clear g1 g2
            go_wp2_with fail
            refine (Writer_U16.calls _ _ _ _ HW.out.1 (by have := HS.out; simp [ByteArray.size_extract, bl_length]; omega)).mono ?_
            rintro e w10 ⟨rfl, g1, g2⟩
            replace HW := Aside0.mk (HW.out.next g1 g2)
            clear g1 g2
            go_wp2_with fail
            refine (Writer_Text.calls _ _ _ _ HW.out.1 (by have := HS.out; simp [ByteArray.size_extract, bl_length, nb_length]; omega)).mono ?_
            rintro e w11 ⟨rfl, g1, g2⟩
            replace HW := Aside0.mk (HW.out.next g1 g2)
            clear g1 g2
            go_wp2_with fail
            refine (Writer_String.calls _ _ _ HW.out.1).mono ?_
            rintro e w12 ⟨rfl, g1, g2⟩
            replace HW := Aside0.mk (HW.out.next g1 g2)
            clear g1 g2
            go_wp2
            go_ret
            exact ⟨by rw [e2]; first | rfl | (simp [sealBytes, u64n]; done), HW.out.2.1⟩
          · as_aux_lemma =>
            have e1 : (n == 0) = false := beq_eq_false_iff_ne.mpr hn0
            have e2 : sealNo 17 n = n := by unfold sealNo; rw [if_neg (fun h => hn0 h.1)]
            clear hn0
            go_wp2_with fail
            have HW := Aside0.mk (SW.start (w1 := _) (by repeat (first | (with_reducible first | exact HC.out | apply below_alloc | apply pw_below_drewN | apply below_drew1) | exact HC.out)) (Below.size (by repeat (first | (with_reducible first | exact HC.out | apply below_alloc | apply pw_below_drewN | apply below_drew1) | exact HC.out))))
            refine (Writer_Text.calls _ _ _ _ HW.out.1 (by have := HS.out; simp [ByteArray.size_extract]; omega)).mono ?_
            rintro e w9 ⟨rfl, g1, g2⟩
            replace HW := Aside0.mk (HW.out.next g1 g2)
            clear g1 g2
            go_wp2_with fail
            refine (Writer_U16.calls _ _ _ _ HW.out.1 (by have := HS.out; simp [ByteArray.size_extract, bl_length]; omega)).mono ?_
            rintro e w10 ⟨rfl, g1, g2⟩
            replace HW := Aside0.mk (HW.out.next g1 g2)
            clear g1 g2
            go_wp2_with fail
            refine (Writer_Text.calls _ _ _ _ HW.out.1 (by have := HS.out; simp [ByteArray.size_extract, bl_length, nb_length]; omega)).mono ?_
            rintro e w11 ⟨rfl, g1, g2⟩
            replace HW := Aside0.mk (HW.out.next g1 g2)
            clear g1 g2
            go_wp2_with fail
            refine (Writer_String.calls _ _ _ HW.out.1).mono ?_
            rintro e w12 ⟨rfl, g1, g2⟩
            replace HW := Aside0.mk (HW.out.next g1 g2)
            clear g1 g2
            go_wp2
            go_ret
            exact ⟨by rw [e2]; first | rfl | (simp [sealBytes, u64n]; done), HW.out.2.1⟩
        · as_aux_lemma =>
          have d1 : ((17 : Int) != 17) = false := rfl
          have d2 : decide ((a3.size : Int) < 8) = true := decide_eq_true (by omega)
          have d3 : decide (a3.size < 8) = true := decide_eq_true (by omega)
          have HX := Aside0.mk hl
          clear hl
          go_wp2
          go_roundg 0
          case measure => have := HI.out; omega
          case rel => exact ⟨2, by first | rfl | (simp; done) | (unfold wrap64; simp; done), ⟨by omega⟩, ⟨fun _ h => absurd h.1 (by decide)⟩, ⟨fun _ h => HX.out h.2⟩, ⟨HB.out.alloc (by have := HB.out.size; have := HK.out; omega) _⟩⟩
      · as_aux_lemma =>
        have d1 : (a0 != 17) = true := bne_iff_ne.mpr hp
        have HX := Aside0.mk hp
        clear hp
        go_wp2
        go_roundg 0
        case measure => have := HI.out; omega
        case rel => exact ⟨2, by first | rfl | (simp; done) | (unfold wrap64; simp; done), ⟨by omega⟩, ⟨fun _ => H0.out (by omega)⟩, ⟨fun _ h => HX.out h.1⟩, ⟨HB.out.alloc (by have := HB.out.size; have := HK.out; omega) _⟩⟩
    · as_aux_lemma =>
      have hr : some a3 = some r := by
        have := HV.out; rw [if_pos (by unfold sealAt; rw [if_neg (H0.out (by omega)), if_neg (H1.out (by omega))])] at this; exact this
      obtain rfl := Option.some.inj hr
      clear hr
      go_wp2
      go_ret
      exact ⟨rfl, by rw [HK.out]; exact HB.out⟩
end Go.Proofs.YtcmalglippmocaaDoor.G
end

section
/- By hand: gue.header (a writer). -/
namespace Go.Proofs.YtcmalglippmocaaDoor.G
open Go.RowKit Go.Proofs.YtcmalglippmocaaDoorW.PrintWords Go.Proofs.YtcmalglippmocaaDoorW.PrintLast Go.Proofs.YtcmalglippmocaaDoorW.PrintMore Go.Proofs.YtcmalglippmocaaDoor.Pal
set_option linter.unusedVariables false
set_option linter.unusedSimpArgs false
def gue_header.f (a0 : Int) : Option ByteArray := some ⟨(nb 1 0 ++ nb 1 (u64n a0) ++ nb 2 0).toArray⟩
theorem wrap_u64_0 : IntKind.u64.wrap 0 = 0 := by decide +kernel
set_option maxHeartbeats 2000000 in
set_option maxRecDepth 100000 in
theorem gue_header.calls (a0 : Int) (r : ByteArray) (w : World) (h : gue_header.f a0 = some r) :
    Calls Tryd.prog 74 #[.int .i64 a0] w fun e w' => e = .returned (.string r) ∧ Below w.heap.size w w' := by
  obtain rfl := Option.some.inj h
  clear h
  have HW := Aside0.mk (SW.start (w1 := w) (Below.refl w.heap.size w) (Nat.le_refl _))
  go_enter Tryd.func74, Tryd.ntmps74
  go_wp2_with fail
  refine (Writer_U8.calls _ _ _ _ HW.out.1 (by simp)).mono ?_
  rintro e w3 ⟨rfl, g1, g2⟩
  replace HW := Aside0.mk (HW.out.next g1 g2)
  clear g1 g2
  go_wp2_with fail
  refine (Writer_U8.calls _ _ _ _ HW.out.1 (by simp [nb_length])).mono ?_
  rintro e w4 ⟨rfl, g1, g2⟩
  replace HW := Aside0.mk (HW.out.next g1 g2)
  clear g1 g2
  go_wp2_with fail
  refine (Writer_U16.calls _ _ _ _ HW.out.1 (by simp [nb_length])).mono ?_
  rintro e w5 ⟨rfl, g1, g2⟩
  replace HW := Aside0.mk (HW.out.next g1 g2)
  clear g1 g2
  go_wp2_with fail
  refine (Writer_String.calls _ _ _ HW.out.1).mono ?_
  rintro e w6 ⟨rfl, g1, g2⟩
  replace HW := Aside0.mk (HW.out.next g1 g2)
  clear g1 g2
  go_wp2
  go_ret
  exact ⟨by simp [u64n, wrap_u64_0], HW.out.2.1⟩
end Go.Proofs.YtcmalglippmocaaDoor.G
end

section
/- By hand: wire's Reader: each method's contract over a reader's block. -/
namespace Go.Proofs.YtcmalglippmocaaDoor.G
open Go.RowKit Go.Proofs.YtcmalglippmocaaDoorW.PrintWords Go.Proofs.YtcmalglippmocaaDoorW.PrintLast Go.Proofs.YtcmalglippmocaaDoorW.PrintMore Go.Proofs.YtcmalglippmocaaDoor.Pal
set_option linter.unusedVariables false
set_option linter.unusedSimpArgs false

/-- Block R is a reader of s that has read so many bytes. -/
def Rd (w : World) (R : Nat) (s : ByteArray) (n : Nat) : Prop := Blk w R 177 #[.string s, .int .i64 (n : Int)] ∧ n ≤ s.size ∧ s.size ≤ 140737488351232
def stopV (e : Int) : Value := .iface 175 (.agg #[.int .i64 e])
def stopped (e : Int) : Ending := .panicked [{ v := stopV e, recovered := false }]
theorem Rd.facts {w : World} {R : Nat} {s : ByteArray} {n : Nat} (h : Rd w R s n) :
    w.cell? ⟨R, 0, none⟩ = some (.string s) ∧ w.cell? ⟨R, 1, none⟩ = some (.int .i64 (n : Int)) ∧ w.frozen? ⟨R, 1, none⟩ = false :=
  ⟨h.1.cell 0 _ rfl, h.1.cell 1 _ rfl, h.1.free 1⟩
theorem Rd.step {w : World} {R : Nat} {s : ByteArray} {n : Nat} (h : Rd w R s n) (m : Nat) (hm : m ≤ s.size) : Rd (w.setCell ⟨R, 1, none⟩ (.int .i64 (m : Int))) R s m := ⟨h.1.set 1 _, hm, h.2.2⟩
theorem Rd.below {w w' : World} {R : Nat} {s : ByteArray} {n : Nat} (h : Rd w R s n) (hb : Below w.heap.size w w') : Rd w' R s n := ⟨h.1.below hb h.1.lt, h.2⟩

set_option maxHeartbeats 400000 in
theorem Reader_Left.calls (R : Nat) (s : ByteArray) (n : Nat) (w : World) (h : Rd w R s n) :
    Calls Tryd.prog 78 #[.pointer (some ⟨R, 0, none⟩)] w fun e w' => e = .returned (.int .i64 ((s.size : Int) - n)) ∧ ∃ k, w' = w.drewN k := by
  obtain ⟨c0, c1, c2⟩ := h.facts
  have hn := h.2.1
  have hs := h.2.2
  clear h
  go_enter Tryd.func78, Tryd.ntmps78
  go_wp2
  go_quiet (fail)
  go_wp2
  go_ret
  exact ⟨rfl, _, rfl⟩

set_option maxHeartbeats 400000 in
theorem Reader_Need.yes (R : Nat) (e : Int) (w : World) :
    Calls Tryd.prog 65 #[.pointer (some ⟨R, 0, none⟩), .bool true, .int .i64 e] w fun e w' => e = .returned (.tuple #[]) ∧ w' = w := by
  go_enter Tryd.func65, Tryd.ntmps65
  go_wp2
  go_end0
  exact ⟨rfl, rfl⟩

set_option maxHeartbeats 400000 in
theorem Reader_Need.no (R : Nat) (e : Int) (w : World) :
    Calls Tryd.prog 65 #[.pointer (some ⟨R, 0, none⟩), .bool false, .int .i64 e] w fun e1 w' => e1 = stopped e ∧ w' = w := by
  go_enter Tryd.func65, Tryd.ntmps65
  go_wp2
  exact ⟨rfl, rfl, rfl⟩

set_option maxHeartbeats 800000 in
theorem Reader_Take.yes (R : Nat) (s : ByteArray) (n : Nat) (m : Nat) (w : World) (h : Rd w R s n) (hm : n + m ≤ s.size) :
    Calls Tryd.prog 106 #[.pointer (some ⟨R, 0, none⟩), .int .i64 (m : Int)] w fun e w' =>
      e = .returned (.string (s.extract n (n + m))) ∧ ∃ k j, w' = ((w.drewN k).setCell ⟨R, 1, none⟩ (.int .i64 ((n + m : Nat) : Int))).drewN j := by
  have hn := h.2.1
  have hs := h.2.2
  have g1 : decide ((0 : Int) ≤ (m : Int)) = true := by simp
  have g2 : decide ((m : Int) ≤ (s.size : Int) - n) = true := by simp; omega
  go_enter Tryd.func106, Tryd.ntmps106
  go_wp2_with fail
  refine (Reader_Left.calls R s n _ h).mono ?_
  rintro e w1 ⟨rfl, k, rfl⟩
  have h1 := (show Rd (w.drewN k) R s n from h)
  go_wp2_with fail
  refine (Reader_Need.yes R 2 _).mono ?_
  rintro e w1 ⟨rfl, hw⟩
  subst hw
  obtain ⟨c0, c1, c2⟩ := h1.facts
  have h2 := h1.step (n + m) hm
  obtain ⟨d0, d1, d2⟩ := h2.facts
  have e1 : (((n + m : Nat) : Int)) = (n : Int) + m := by omega
  rw [e1] at d0 d1
  have h2' := Aside0.mk h2
  clear h2 h1 h
  go_wp2
  have hwn : IntKind.i64.wrap (n : Int) = n := wraps_i64 _ (by omega) (by omega)
  have hsl : ∀ wx : World, (Instr.slice 9 (.string s) (some (.int .i64 (n : Int))) (some (.int .i64 ((n : Int) + m))) none).run Tryd.prog wx = .ok (.string (s.extract n (n + m))) wx := fun wx => by
    have := run_slice_string (P := Tryd.prog) wx 9 s .i64 .i64 (n : Int) ((n : Int) + m) Tryd.underlying9 (by omega) (by omega) (by omega)
    rwa [Int.toNat_natCast, ← e1, Int.toNat_natCast] at this
  go_quiet (fail)
  clear hwn hsl
  go_wp2
  go_ret
  exact ⟨rfl, _, _, by rw [e1]⟩

set_option maxHeartbeats 800000 in
theorem Reader_Take.no (R : Nat) (s : ByteArray) (n : Nat) (m : Int) (w : World) (h : Rd w R s n) (hm : m < 0 ∨ (s.size : Int) < n + m) :
    Calls Tryd.prog 106 #[.pointer (some ⟨R, 0, none⟩), .int .i64 m] w fun e w' =>
      e = stopped 2 ∧ ∃ k, w' = w.drewN k := by
  have hn := h.2.1
  have hs := h.2.2
  by_cases h0 : 0 ≤ m
  · have g1 : decide ((0 : Int) ≤ m) = true := by simp; omega
    have g2 : decide (m ≤ (s.size : Int) - n) = false := by simp; omega
    clear h0 hm
    go_enter Tryd.func106, Tryd.ntmps106
    go_wp2_with fail
    refine (Reader_Left.calls R s n _ h).mono ?_
    rintro e w1 ⟨rfl, k, rfl⟩
    go_wp2_with fail
    refine (Reader_Need.no R 2 _).mono ?_
    rintro e w1 ⟨rfl, hw⟩
    subst hw
    exact ⟨rfl, rfl, _, rfl⟩
  · have g1 : decide ((0 : Int) ≤ m) = false := by simp; omega
    clear h0 hm
    go_enter Tryd.func106, Tryd.ntmps106
    go_wp2_with fail
    refine (Reader_Need.no R 2 _).mono ?_
    rintro e w1 ⟨rfl, hw⟩
    subst hw
    exact ⟨rfl, rfl, 0, rfl⟩


/-- What a reading that goes on leaves: so many bytes more are read; of the other blocks all is as it was. -/
def Went (w w' : World) (R : Nat) (s : ByteArray) (n : Nat) : Prop := w.grownBy w' (some R) ∧ Rd w' R s n
theorem Went.take {w : World} {R : Nat} {s : ByteArray} {n : Nat} (h : Rd w R s n) (m : Nat) (hm : n + m ≤ s.size) (k j : Nat) :
    Went w (((w.drewN k).setCell ⟨R, 1, none⟩ (.int .i64 ((n + m : Nat) : Int))).drewN j) R s (n + m) :=
  ⟨grown_drewN (World.grownBy.trans (grown_drewN (grown_refl w _) k) (grown_setCell _ _ _ _)) j, ((show Rd (w.drewN k) R s n from h).step (n + m) hm)⟩

set_option maxHeartbeats 400000 in
theorem Reader_Rest.calls (R : Nat) (s : ByteArray) (n : Nat) (w : World) (h : Rd w R s n) :
    Calls Tryd.prog 70 #[.pointer (some ⟨R, 0, none⟩)] w fun e w' => e = .returned (.string (s.extract n s.size)) ∧ Went w w' R s s.size := by
  have hn := h.2.1
  go_enter Tryd.func70, Tryd.ntmps70
  go_wp2_with fail
  refine (Reader_Left.calls R s n _ h).mono ?_
  rintro e w1 ⟨rfl, k, rfl⟩
  have h1 := (show Rd (w.drewN k) R s n from h)
  go_wp2_with fail
  rw [show ((s.size : Int) - n) = ((s.size - n : Nat) : Int) from by omega]
  refine (Reader_Take.yes R s n (s.size - n) _ h1 (by omega)).mono ?_
  rintro e w1 ⟨rfl, k1, j1, rfl⟩
  have HW := Aside0.mk (Went.take h1 (s.size - n) (by omega) k1 j1)
  have hsz : n + (s.size - n) = s.size := by omega
  rw [hsz] at HW ⊢
  generalize (((w.drewN k).drewN k1).setCell ⟨R, 1, none⟩ (.int .i64 ((s.size : Nat) : Int))).drewN j1 = w2 at HW ⊢
  clear hsz
  go_wp2
  go_ret
  exact ⟨rfl, World.grownBy.trans (grown_drewN (grown_refl w _) k) HW.out.1, HW.out.2⟩

theorem shl_or (x : Nat) (b : UInt8) (hx : x < 72057594037927936) : Go.bits .or .u64 ((x : Int) * 256) (b.toNat : Int) = ((x * 256 + b.toNat : Nat) : Int) := by
  have hb := b.toNat_lt
  have e := u64_or_nat (x * 256) b.toNat (by omega) (by omega)
  rw [nat_join 8 (x * 256) b.toNat (by omega) (by omega)] at e
  rw [← e]
  simp
theorem bl_extract (s : ByteArray) (n m : Nat) : bl (s.extract n m) = ((bl s).take m).drop n := by
  simp [bl, ByteArray.data_extract, List.drop_take]

set_option maxHeartbeats 800000 in
theorem Reader_number.yes (R : Nat) (s : ByteArray) (n : Nat) (m : Nat) (w : World) (h : Rd w R s n) (hm : n + m ≤ s.size) (h8 : m ≤ 8) :
    Calls Tryd.prog 105 #[.pointer (some ⟨R, 0, none⟩), .int .i64 (m : Int)] w fun e w' =>
      e = .returned (.int .u64 (be (bl (s.extract n (n + m))) : Nat)) ∧ Went w w' R s (n + m) := by
  have hs := h.2.2
  go_enter Tryd.func105, Tryd.ntmps105
  go_wp2_with fail
  refine (Reader_Take.yes R s n m _ h hm).mono ?_
  rintro e w1 ⟨rfl, k1, j1, rfl⟩
  have HW := Aside0.mk (Went.take h m hm k1 j1)
  have hsz : (s.extract n (n + m)).size = m := by simp only [ByteArray.size_extract]; omega
  generalize ((w.drewN k1).setCell ⟨R, 1, none⟩ (.int .i64 ((n + m : Nat) : Int))).drewN j1 = w2 at HW ⊢
  generalize hte : s.extract n (n + m) = t at hsz ⊢
  have HE := Aside0.mk hte
  have HS := Aside0.mk hsz
  clear hsz h hte
  have hcv := fun (wx : World) => Lib.run_convert_string_bytes (P := Tryd.prog) wx 9 23 5 t Tryd.underlying9 Tryd.underlying23 Tryd.underlying5
  go_wp2
  clear hcv
  have hB : Below w2.heap.size w2 (Lib.bytesWorld w2 5 t) := ⟨rfl, rfl, rfl, by rw [Lib.bytesWorld_size]; omega, fun k hk => Lib.bytesWorld_at_old _ _ _ _ hk⟩
  have hC : ∀ j, j < t.size → (Lib.bytesWorld w2 5 t).cell? ⟨w2.heap.size, j, none⟩ = some (.int .u8 ((bl t).getD j 0).toNat) := fun j hj => Lib.bytesWorld_cell _ _ _ _ hj
  generalize Lib.bytesWorld w2 5 t = w3 at hB hC ⊢
  have HB := Aside0.mk hB
  have HC := Aside0.mk hC
  clear hB hC
  go_loopg [5, 13] t.size (fun kq v5 v13 wr => ∃ j : Nat, v13 = .int .i64 (j : Int) ∧ v5 = .int .u64 (be ((bl t).take j) : Nat) ∧ Aside0 (j + kq = t.size) ∧ Aside0 (wr = w3))
  case atStart => exact ⟨0, rfl, rfl, ⟨by omega⟩, ⟨rfl⟩⟩
  case round =>
    obtain ⟨j, rfl, rfl, HK, HEw⟩ := hrel
    obtain rfl := HEw.out
    clear HEw
    by_cases hlt : j < t.size
    · have hcell := HC.out j hlt
      have hx : be ((bl t).take j) < 72057594037927936 := by
        have := be_lt_of ((bl t).take j) 7 (by rw [List.length_take, bl_length]; have := HS.out; omega)
        simpa using this
      have HT : Aside0 ((bl t).take (j + 1) = (bl t).take j ++ [(bl t).getD j 0]) := ⟨by
        rw [List.take_succ_eq_append_getElem (by rw [bl_length]; exact hlt), List.getD_eq_getElem?_getD, List.getElem?_eq_getElem (by rw [bl_length]; exact hlt)]
        rfl⟩
      generalize (bl t).getD j 0 = b at hcell HT
      have hor := shl_or (be ((bl t).take j)) b hx
      have HN : Aside0 (be ((bl t).take (j + 1)) = be ((bl t).take j) * 256 + b.toNat) := ⟨by rw [HT.out, be_snoc]⟩
      generalize be ((bl t).take j) = x at hx hor HN ⊢
      have hw : wrap64 ((j : Int) + 1) = ((j + 1 : Nat) : Int) := by have := HS.out; unfold wrap64; omega
      go_wp2
      go_roundg (t.size - (j + 1))
      case measure => have := HK.out; omega
      case rel => exact ⟨j + 1, by rw [hw], by rw [show IntKind.u64.wrap (b.toNat : Int) = (b.toNat : Int) from by have := b.toNat_lt; exact wraps_u64 _ (by omega) (by omega), hor, HN.out], ⟨by omega⟩, ⟨rfl⟩⟩
    · have HT : Aside0 ((bl t).take j = bl t) := ⟨List.take_of_length_le (by rw [bl_length]; omega)⟩
      rw [HT.out]
      go_wp2
      go_ret
      exact ⟨by rw [← HE.out]; rfl, grown_of_below' HW.out.1 HB.out, HW.out.2.below HB.out⟩

set_option maxHeartbeats 800000 in
theorem Reader_number.no (R : Nat) (s : ByteArray) (n : Nat) (m : Nat) (w : World) (h : Rd w R s n) (hm : s.size < n + m) :
    Calls Tryd.prog 105 #[.pointer (some ⟨R, 0, none⟩), .int .i64 (m : Int)] w fun e w' =>
      e = stopped 2 ∧ ∃ k, w' = w.drewN k := by
  go_enter Tryd.func105, Tryd.ntmps105
  go_wp2_with fail
  refine (Reader_Take.no R s n m _ h (.inr (by omega))).mono ?_
  rintro e w1 ⟨rfl, k1, rfl⟩
  exact ⟨rfl, rfl, _, rfl⟩

theorem be_small_U8 (s : ByteArray) (n : Nat) : be (bl (s.extract n (n + 1))) < 256 := by
  have := be_lt_of (bl (s.extract n (n + 1))) 1 (by rw [bl_length]; simp only [ByteArray.size_extract]; omega)
  simpa using this

set_option maxHeartbeats 400000 in
theorem Reader_U8.yes (R : Nat) (s : ByteArray) (n : Nat) (w : World) (h : Rd w R s n) (hm : n + 1 ≤ s.size) :
    Calls Tryd.prog 79 #[.pointer (some ⟨R, 0, none⟩)] w fun e w' => e = .returned (.int .i64 (be (bl (s.extract n (n + 1))) : Nat)) ∧ Went w w' R s (n + 1) := by
  have hw : wrap64 ((be (bl (s.extract n (n + 1))) : Nat) : Int) = ((be (bl (s.extract n (n + 1))) : Nat) : Int) := by have := be_small_U8 s n; unfold wrap64; omega
  go_enter Tryd.func79, Tryd.ntmps79
  go_wp2_with fail
  refine (Reader_number.yes R s n 1 _ h hm (by decide)).mono ?_
  rintro e w1 ⟨rfl, hw1⟩
  have HW := Aside0.mk hw1
  clear hw1
  go_wp2
  go_ret
  exact ⟨by first | rfl | exact congrArg (fun z => Ending.returned (.int .i64 z)) hw, HW.out⟩
set_option maxHeartbeats 400000 in
theorem Reader_U8.no (R : Nat) (s : ByteArray) (n : Nat) (w : World) (h : Rd w R s n) (hm : s.size < n + 1) :
    Calls Tryd.prog 79 #[.pointer (some ⟨R, 0, none⟩)] w fun e w' => e = stopped 2 ∧ ∃ k, w' = w.drewN k := by
  go_enter Tryd.func79, Tryd.ntmps79
  go_wp2_with fail
  refine (Reader_number.no R s n 1 _ h hm).mono ?_
  rintro e w1 ⟨rfl, k1, rfl⟩
  exact ⟨rfl, rfl, _, rfl⟩

theorem be_small_U16 (s : ByteArray) (n : Nat) : be (bl (s.extract n (n + 2))) < 65536 := by
  have := be_lt_of (bl (s.extract n (n + 2))) 2 (by rw [bl_length]; simp only [ByteArray.size_extract]; omega)
  simpa using this

set_option maxHeartbeats 400000 in
theorem Reader_U16.yes (R : Nat) (s : ByteArray) (n : Nat) (w : World) (h : Rd w R s n) (hm : n + 2 ≤ s.size) :
    Calls Tryd.prog 66 #[.pointer (some ⟨R, 0, none⟩)] w fun e w' => e = .returned (.int .i64 (be (bl (s.extract n (n + 2))) : Nat)) ∧ Went w w' R s (n + 2) := by
  have hw : wrap64 ((be (bl (s.extract n (n + 2))) : Nat) : Int) = ((be (bl (s.extract n (n + 2))) : Nat) : Int) := by have := be_small_U16 s n; unfold wrap64; omega
  go_enter Tryd.func66, Tryd.ntmps66
  go_wp2_with fail
  refine (Reader_number.yes R s n 2 _ h hm (by decide)).mono ?_
  rintro e w1 ⟨rfl, hw1⟩
  have HW := Aside0.mk hw1
  clear hw1
  go_wp2
  go_ret
  exact ⟨by first | rfl | exact congrArg (fun z => Ending.returned (.int .i64 z)) hw, HW.out⟩
set_option maxHeartbeats 400000 in
theorem Reader_U16.no (R : Nat) (s : ByteArray) (n : Nat) (w : World) (h : Rd w R s n) (hm : s.size < n + 2) :
    Calls Tryd.prog 66 #[.pointer (some ⟨R, 0, none⟩)] w fun e w' => e = stopped 2 ∧ ∃ k, w' = w.drewN k := by
  go_enter Tryd.func66, Tryd.ntmps66
  go_wp2_with fail
  refine (Reader_number.no R s n 2 _ h hm).mono ?_
  rintro e w1 ⟨rfl, k1, rfl⟩
  exact ⟨rfl, rfl, _, rfl⟩

theorem be_small_U32 (s : ByteArray) (n : Nat) : be (bl (s.extract n (n + 4))) < 4294967296 := by
  have := be_lt_of (bl (s.extract n (n + 4))) 4 (by rw [bl_length]; simp only [ByteArray.size_extract]; omega)
  simpa using this

set_option maxHeartbeats 400000 in
theorem Reader_U32.yes (R : Nat) (s : ByteArray) (n : Nat) (w : World) (h : Rd w R s n) (hm : n + 4 ≤ s.size) :
    Calls Tryd.prog 68 #[.pointer (some ⟨R, 0, none⟩)] w fun e w' => e = .returned (.int .u32 (be (bl (s.extract n (n + 4))) : Nat)) ∧ Went w w' R s (n + 4) := by
  have hw : IntKind.u32.wrap ((be (bl (s.extract n (n + 4))) : Nat) : Int) = ((be (bl (s.extract n (n + 4))) : Nat) : Int) := by have := be_small_U32 s n; exact wraps_u32 _ (by omega) (by omega)
  go_enter Tryd.func68, Tryd.ntmps68
  go_wp2_with fail
  refine (Reader_number.yes R s n 4 _ h hm (by decide)).mono ?_
  rintro e w1 ⟨rfl, hw1⟩
  have HW := Aside0.mk hw1
  clear hw1
  go_wp2
  go_ret
  exact ⟨by first | rfl | exact congrArg (fun z => Ending.returned (.int .i64 z)) hw, HW.out⟩
set_option maxHeartbeats 400000 in
theorem Reader_U32.no (R : Nat) (s : ByteArray) (n : Nat) (w : World) (h : Rd w R s n) (hm : s.size < n + 4) :
    Calls Tryd.prog 68 #[.pointer (some ⟨R, 0, none⟩)] w fun e w' => e = stopped 2 ∧ ∃ k, w' = w.drewN k := by
  go_enter Tryd.func68, Tryd.ntmps68
  go_wp2_with fail
  refine (Reader_number.no R s n 4 _ h hm).mono ?_
  rintro e w1 ⟨rfl, k1, rfl⟩
  exact ⟨rfl, rfl, _, rfl⟩

theorem be_small_U64 (s : ByteArray) (n : Nat) : be (bl (s.extract n (n + 8))) < 18446744073709551616 := by
  have := be_lt_of (bl (s.extract n (n + 8))) 8 (by rw [bl_length]; simp only [ByteArray.size_extract]; omega)
  simpa using this


end Go.Proofs.YtcmalglippmocaaDoor.G
end

section
/- By hand: wire.Read: whatever closure reads, its end is the error that is told: OK where it comes back, the number where a Need stopped it. -/
namespace Go.Proofs.YtcmalglippmocaaDoor.G
open Go.RowKit Go.Proofs.YtcmalglippmocaaDoorW.PrintWords Go.Proofs.YtcmalglippmocaaDoorW.PrintLast Go.Proofs.YtcmalglippmocaaDoorW.PrintMore Go.Proofs.YtcmalglippmocaaDoor.Pal
set_option linter.unusedVariables false
set_option linter.unusedSimpArgs false

/-- How a reading's closure ends: it comes back (0), or is stopped with an error. -/
def did (e : Int) : Ending := if e = 0 then .returned (.tuple #[]) else stopped e

theorem stop_is (v : Value) (W : World) : (Instr.typeAssert (.iface 175 v) 20 175 true).run Tryd.prog W = .ok (.tuple #[v, .bool true]) W := by kernel_rfl

set_option maxHeartbeats 400000 in
theorem Read1_caught (p : Nat) (x e : Int) (w : World) (hc : w.cell? ⟨p, 0, none⟩ = some (.int .i64 x)) (hz : w.frozen? ⟨p, 0, none⟩ = false) (hp : p < w.heap.size) :
    CallsD Tryd.prog 104 #[.pointer (some ⟨p, 0, none⟩)] (.panicking [{ v := stopV e, recovered := false }]) w fun e1 u' w' =>
      e1 = .returned (.tuple #[]) ∧ u' = .panicking [{ v := stopV e, recovered := true }] ∧ w' = (w.setCell ⟨p, 0, none⟩ (.int .i64 e)).alloc (.cells #[.int .i64 e] 175) := by
  have hta : ∀ (v : Value) (W : World), (Instr.typeAssert (.iface 175 v) 20 175 true).run Tryd.prog W = .ok (.tuple #[v, .bool true]) W := stop_is
  refine callsD_of_wpS Tryd.func104 rfl fun c₀ cs hu => ?_
  simp only [Tryd.ntmps104, List.size_toArray, List.length_cons, List.length_nil, Nat.reduceAdd, Nat.reduceSub, Array.replicate_succ,
     Array.replicate_zero, List.push_toArray, List.append_toArray, List.nil_append, List.cons_append]
  apply wpS_seq
  apply wpS_region
  simp [wpOpsS, go_sem, recoverD, hu, Exit.thenS, stopV]
  apply wpS_of_wp
  go_wp2
  exact ⟨rfl, _, rfl, _, results_none rfl _ _ _, rfl, rfl, rfl⟩

set_option maxHeartbeats 400000 in
theorem Read1_idle (p : Nat) (w : World) :
    CallsD Tryd.prog 104 #[.pointer (some ⟨p, 0, none⟩)] .returning w fun e1 u' w' => e1 = .returned (.tuple #[]) ∧ u' = .returning ∧ w' = w := by
  refine callsD_of_wpS Tryd.func104 rfl fun c₀ cs hu => ?_
  simp only [Tryd.ntmps104, List.size_toArray, List.length_cons, List.length_nil, Nat.reduceAdd, Nat.reduceSub, Array.replicate_succ,
     Array.replicate_zero, List.push_toArray, List.append_toArray, List.nil_append, List.cons_append]
  apply wpS_seq
  apply wpS_region
  simp [wpOpsS, go_sem, recoverD, hu, Exit.thenS]
  apply wpS_of_wp
  go_wp2
  refine ⟨rfl, .returning, ?_, _, results_none rfl _ _ _, rfl, rfl, rfl⟩
  cases c₀
  simp_all

/-- The world in which the closure begins: the result's variable, then the reader. -/
def readW (w : World) (s : ByteArray) : World := (w.alloc (.cells #[.int .i64 0] 24)).alloc (.cells #[.string s, .int .i64 0] 177)
theorem readW_rd (w : World) (s : ByteArray) (hs : s.size ≤ 140737488351232) : Rd (readW w s) (w.heap.size + 1) s 0 := by
  have h := Blk.new (w.alloc (.cells #[.int .i64 0] 24)) 177 #[.string s, .int .i64 0]
  rw [World.size_alloc] at h
  exact ⟨h, by omega, hs⟩
theorem readW_res (w : World) (s : ByteArray) : Blk (readW w s) w.heap.size 24 #[.int .i64 0] := (Blk.new w _ _).alloc _
theorem readW_below (w : World) (s : ByteArray) : Below w.heap.size w (readW w s) := ((Below.refl _ _).alloc (Nat.le_refl _) _).alloc (by simp) _
theorem readW_size (w : World) (s : ByteArray) : (readW w s).heap.size = w.heap.size + 2 := by simp [readW]

set_option maxHeartbeats 800000 in
theorem Read_calls (g : FuncId) (cap : Array Value) (s : ByteArray) (er : Int) (w : World) (Q : World → Prop)
    (hg : ∀ args w, (callFunc g args).run Tryd.prog w = .ok (.enter g args) w)
    (hdo : Calls Tryd.prog g (#[.pointer (some ⟨w.heap.size + 1, 0, none⟩)] ++ cap) (readW w s) fun e w2 => e = did er ∧ Blk w2 w.heap.size 24 #[.int .i64 0] ∧ Q w2) :
    Calls Tryd.prog 63 #[.string s, .func (.func g) #[] cap] w fun e w' => e = .returned (.int .i64 er) ∧ ∃ w2, Q w2 ∧ w2.grownBy w' (some w.heap.size) := by
  have hmf : ∀ (fn : Fn) (first cap : Array Value) (w : World), (Instr.makeFunc fn first cap).run Tryd.prog w = .ok (.func fn first cap) w := fun _ _ _ _ => rfl
  have HD := Lib.hid hdo
  clear hdo
  go_enter_defers Tryd.func63, Tryd.ntmps63
  go_wp2_with fail
  refine HD.out.mono ?_
  rintro e w2 ⟨rfl, hb, hq⟩
  have HQ := Lib.hid hq
  clear hq HD
  have c0 := hb.cell 0 _ rfl
  have c1 := hb.free 0
  have HB := Aside0.mk hb
  clear hb
  by_cases h0 : er = 0
  · subst h0
    rw [show did 0 = .returned (.tuple #[]) from rfl]
    go_wp2
    refine leaves_cons (f := 104) (args := #[.pointer (some ⟨w.heap.size, 0, none⟩)]) (by simp) (by simp [go_sem]) ?_
    refine (Read1_idle w.heap.size _).mono ?_
    rintro e u' w'' ⟨rfl, rfl, rfl⟩
    have c2 := (HB.out.set 0 (.int .i64 0)).cell 0 _ rfl
    refine ⟨.int .i64 0, ?_, rfl, w2, HQ.out, grown_setCell _ _ _ _⟩
    simp [results, Tryd.results63, go_sem]
    rw [c2]
    rfl
  · rw [show did er = stopped er from if_neg h0]
    refine leaves_cons (f := 104) (args := #[.pointer (some ⟨w.heap.size, 0, none⟩)]) (by simp) (by simp [go_sem]) ?_
    refine (Read1_caught w.heap.size 0 er w2 c0 c1 HB.out.lt).mono ?_
    rintro e u' w'' ⟨rfl, rfl, rfl⟩
    have c2 := (((HB.out.set 0 (.int .i64 er))).alloc (.cells #[.int .i64 er] 175)).cell 0 _ rfl
    refine ⟨.int .i64 er, ?_, rfl, w2, HQ.out, grown_alloc (grown_setCell _ _ _ _) _⟩
    simp [results, Tryd.results63, go_sem]
    rw [c2]
    rfl
end Go.Proofs.YtcmalglippmocaaDoor.G
end

section
/- By hand: udp.Check, udp.Put, udp.Get. -/
namespace Go.Proofs.YtcmalglippmocaaDoor.G
open Go.RowKit Go.Proofs.YtcmalglippmocaaDoorW.PrintWords Go.Proofs.YtcmalglippmocaaDoorW.PrintLast Go.Proofs.YtcmalglippmocaaDoorW.PrintMore Go.Proofs.YtcmalglippmocaaDoor.Pal
set_option linter.unusedVariables false
set_option linter.unusedSimpArgs false

def in16 (x : Int) : Prop := 0 ≤ x ∧ x ≤ 65535
instance (x : Int) : Decidable (in16 x) := by unfold in16; infer_instance
def udpCheck (a b : Int) (n : Nat) : Int := if in16 a ∧ in16 b then (if n ≤ 65527 then 0 else 4) else 1
def udp_Check.f (a0_0 a0_1 : Int) (a0_2 : ByteArray) : Option Int := some (udpCheck a0_0 a0_1 a0_2.size)

set_option maxHeartbeats 1000000 in
set_option maxRecDepth 100000 in
theorem udp_Check.calls (a0_0 a0_1 : Int) (a0_2 : ByteArray) (r : Int) (w : World) (h : udp_Check.f a0_0 a0_1 a0_2 = some r) :
    Calls Tryd.prog 107 #[.agg #[.int .i64 a0_0, .int .i64 a0_1, .string a0_2]] w fun e w' => e = .returned (.int .i64 r) ∧ Below w.heap.size w w' := by
  obtain rfl := Option.some.inj h
  clear h
  have hu := Tryd.underlying81
  have i0 : ∀ w, (Instr.index 134 (.agg #[.int .i64 a0_0, .int .i64 a0_1]) (.int .i64 0)).run Tryd.prog w = .ok (.int .i64 a0_0) w := fun _ => by kernel_rfl
  have i1 : ∀ w, (Instr.index 134 (.agg #[.int .i64 a0_0, .int .i64 a0_1]) (.int .i64 1)).run Tryd.prog w = .ok (.int .i64 a0_1) w := fun _ => by kernel_rfl
  go_enter Tryd.func107, Tryd.ntmps107
  go_wp2
  have HB := Aside0.mk ((Below.refl w.heap.size w).alloc (Nat.le_refl _) (.cells #[.int .i64 a0_0, .int .i64 a0_1, .string a0_2] 81))
  have hc := (Blk.new w 81 #[.int .i64 a0_0, .int .i64 a0_1, .string a0_2]).cells
  generalize w.alloc (.cells #[.int .i64 a0_0, .int .i64 a0_1, .string a0_2] 81) = w1 at HB hc ⊢
  go_loopg [10] 2 (fun kq v10 wr => ∃ i : Nat, v10 = .int .i64 (i : Int) ∧ Aside0 (i + kq = 2) ∧ Aside0 (1 ≤ i → in16 a0_0) ∧ Aside0 (2 ≤ i → in16 a0_1) ∧ Aside0 (wr = w1))
  case atStart => exact ⟨0, rfl, ⟨rfl⟩, ⟨by omega⟩, ⟨by omega⟩, ⟨rfl⟩⟩
  case round =>
    obtain ⟨i, rfl, HK, H0, H1, HE⟩ := hrel
    obtain rfl := HE.out
    match i, HK, H0, H1 with
    | 0, HK, H0, H1 =>
      clear i1
      by_cases c1 : a0_0 < 0
      · have d1 : decide (a0_0 < 0) = true := decide_eq_true c1
        go_wp2
        go_ret
        exact ⟨by rw [udpCheck, if_neg (by unfold in16; omega)]; rfl, HB.out⟩
      · have d1 : decide (a0_0 < 0) = false := decide_eq_false c1
        by_cases c2 : 65535 < a0_0
        · have d2 : decide (65535 < a0_0) = true := decide_eq_true c2
          go_wp2
          go_ret
          exact ⟨by rw [udpCheck, if_neg (by unfold in16; omega)]; rfl, HB.out⟩
        · have d2 : decide (65535 < a0_0) = false := decide_eq_false c2
          go_wp2
          go_roundg 1
          case measure => have := HK.out; omega
          case rel => exact ⟨1, rfl, ⟨rfl⟩, ⟨fun _ => by unfold in16; omega⟩, ⟨by omega⟩, ⟨rfl⟩⟩
    | 1, HK, H0, H1 =>
      clear i0
      by_cases c1 : a0_1 < 0
      · have d1 : decide (a0_1 < 0) = true := decide_eq_true c1
        go_wp2
        go_ret
        exact ⟨by rw [udpCheck, if_neg (by unfold in16; omega)]; rfl, HB.out⟩
      · have d1 : decide (a0_1 < 0) = false := decide_eq_false c1
        by_cases c2 : 65535 < a0_1
        · have d2 : decide (65535 < a0_1) = true := decide_eq_true c2
          go_wp2
          go_ret
          exact ⟨by rw [udpCheck, if_neg (by unfold in16; omega)]; rfl, HB.out⟩
        · have d2 : decide (65535 < a0_1) = false := decide_eq_false c2
          go_wp2
          go_roundg 0
          case measure => have := HK.out; omega
          case rel => exact ⟨2, rfl, ⟨rfl⟩, ⟨fun _ => H0.out (by omega)⟩, ⟨fun _ => by unfold in16; omega⟩, ⟨rfl⟩⟩
    | 2, HK, H0, H1 =>
      clear i0 i1
      have h0 := H0.out (by omega)
      have h1 := H1.out (by omega)
      have HC : Aside0 (udpCheck a0_0 a0_1 a0_2.size = if a0_2.size ≤ 65527 then 0 else 4) := ⟨by rw [udpCheck, if_pos ⟨h0, h1⟩]⟩
      clear h0 h1
      by_cases c1 : 65527 < a0_2.size
      · have d1 : decide (65527 < a0_2.size) = true := decide_eq_true c1
        have d2 : decide ((65527 : Int) < (a0_2.size : Int)) = true := decide_eq_true (by omega)
        go_wp2
        go_ret
        exact ⟨by rw [HC.out, if_neg (by omega)]; rfl, HB.out⟩
      · have d1 : decide (65527 < a0_2.size) = false := decide_eq_false c1
        have d2 : decide ((65527 : Int) < (a0_2.size : Int)) = false := decide_eq_false (by omega)
        go_wp2
        go_ret
        exact ⟨by rw [HC.out, if_pos (by omega)]; rfl, HB.out⟩
    | i + 3, HK, H0, H1 => exact absurd HK.out (by omega)

/-- A datagram's bytes. -/
def udpBytes (a b : Int) (p : ByteArray) (sum : Int) : List UInt8 := nb 2 (u64n a) ++ nb 2 (u64n b) ++ nb 2 (u64n (8 + (p.size : Int))) ++ nb 2 (u64n sum) ++ bl p
def empty : ByteArray := ⟨#[]⟩
def udp_Put.f (a0_0 a0_1 : Int) (a0_2 : ByteArray) (a1 : Int) : Option (ByteArray × Int) :=
  if udpCheck a0_0 a0_1 a0_2.size ≠ 0 then some (empty, udpCheck a0_0 a0_1 a0_2.size) else if in16 a1 then some (⟨(udpBytes a0_0 a0_1 a0_2 a1).toArray⟩, 0) else some (empty, 1)

set_option maxHeartbeats 1000000 in
set_option maxRecDepth 100000 in
theorem udp_Put.calls (a0_0 a0_1 : Int) (a0_2 : ByteArray) (a1 : Int) (r1 : ByteArray) (r2 : Int) (w : World) (h : udp_Put.f a0_0 a0_1 a0_2 a1 = some (r1, r2)) :
    Calls Tryd.prog 73 #[.agg #[.int .i64 a0_0, .int .i64 a0_1, .string a0_2], .int .i64 a1] w fun e w' => e = .returned (.tuple #[.string r1, .int .i64 r2]) ∧ Below w.heap.size w w' := by
  unfold udp_Put.f at h
  have hu := Tryd.underlying81
  have HB := Aside0.mk ((Below.refl w.heap.size w).alloc (Nat.le_refl _) (.cells #[.int .i64 a0_0, .int .i64 a0_1, .string a0_2] 81))
  have HK := Aside0.mk (Blk.new w 81 #[.int .i64 a0_0, .int .i64 a0_1, .string a0_2])
  by_cases hck : udpCheck a0_0 a0_1 a0_2.size ≠ 0
  · rw [if_pos hck] at h
    obtain ⟨rfl, rfl⟩ := Prod.mk.inj (Option.some.inj h)
    have d1 : (udpCheck a0_0 a0_1 a0_2.size != 0) = true := bne_iff_ne.mpr hck
    clear hck h
    go_enter Tryd.func73, Tryd.ntmps73
    go_wp2_with fail
    refine (udp_Check.calls a0_0 a0_1 a0_2 _ _ rfl).mono ?_
    rintro e w2 ⟨rfl, g1⟩
    replace HB := Aside0.mk (HB.out.trans (g1.mono HB.out.size))
    clear g1
    go_wp2
    go_ret2
    exact ⟨rfl, HB.out⟩
  · rw [if_neg hck] at h
    have h0 : udpCheck a0_0 a0_1 a0_2.size = 0 := by omega
    have hlen : a0_2.size ≤ 65527 := by
      unfold udpCheck at h0
      split at h0
      · split at h0 <;> omega
      · omega
    have HC := Aside0.mk h0
    clear hck h0
    by_cases hs : in16 a1
    · rw [if_pos hs] at h
      obtain ⟨rfl, rfl⟩ := Prod.mk.inj (Option.some.inj h)
      have d1 : decide (a1 < 0) = false := decide_eq_false (by unfold in16 at hs; omega)
      have d2 : decide (65535 < a1) = false := decide_eq_false (by unfold in16 at hs; omega)
      have j0 : ∀ w, (Instr.index 156 (.agg #[.int .i64 a0_0, .int .i64 a0_1, .int .i64 (8 + (a0_2.size : Int)), .int .i64 a1]) (.int .i64 0)).run Tryd.prog w = .ok (.int .i64 a0_0) w := fun _ => by kernel_rfl
      have j1 : ∀ w, (Instr.index 156 (.agg #[.int .i64 a0_0, .int .i64 a0_1, .int .i64 (8 + (a0_2.size : Int)), .int .i64 a1]) (.int .i64 1)).run Tryd.prog w = .ok (.int .i64 a0_1) w := fun _ => by kernel_rfl
      have j2 : ∀ w, (Instr.index 156 (.agg #[.int .i64 a0_0, .int .i64 a0_1, .int .i64 (8 + (a0_2.size : Int)), .int .i64 a1]) (.int .i64 2)).run Tryd.prog w = .ok (.int .i64 (8 + (a0_2.size : Int))) w := fun _ => by kernel_rfl
      have j3 : ∀ w, (Instr.index 156 (.agg #[.int .i64 a0_0, .int .i64 a0_1, .int .i64 (8 + (a0_2.size : Int)), .int .i64 a1]) (.int .i64 3)).run Tryd.prog w = .ok (.int .i64 a1) w := fun _ => by kernel_rfl
      clear h hs
      go_enter Tryd.func73, Tryd.ntmps73
      go_wp2_with fail
      refine (udp_Check.calls a0_0 a0_1 a0_2 _ _ rfl).mono ?_
      rintro e w2 ⟨rfl, g1⟩
      rw [HC.out]
      replace HB := Aside0.mk (HB.out.trans (g1.mono HB.out.size))
      replace HK := Aside0.mk (HK.out.below g1 (by simp))
      clear g1
      have HS := Aside0.mk (WS.startAt HK.out HB.out HB.out.size)
      have hc := HS.out.1.2.1.cells
      go_wp2
      go_loopg [31] 4 (fun kq v31 wr => ∃ i : Nat, v31 = .int .i64 (i : Int) ∧ Aside0 (i + kq = 4) ∧ Aside0 (WS w.heap.size w.heap.size w2.heap.size w wr 81 #[.int .i64 a0_0, .int .i64 a0_1, .string a0_2] (if i = 0 then [] else if i = 1 then nb 2 (u64n a0_0) else if i = 2 then nb 2 (u64n a0_0) ++ nb 2 (u64n a0_1) else if i = 3 then nb 2 (u64n a0_0) ++ nb 2 (u64n a0_1) ++ nb 2 (u64n (8 + (a0_2.size : Int))) else nb 2 (u64n a0_0) ++ nb 2 (u64n a0_1) ++ nb 2 (u64n (8 + (a0_2.size : Int))) ++ nb 2 (u64n a1))))
      case atStart => exact ⟨0, rfl, ⟨rfl⟩, HS⟩
      case round =>
        clear HS hc
        obtain ⟨i, rfl, HK, HS⟩ := hrel
        match i, HK, HS with
        | 0, HK, HS =>
          replace HS := Aside0.mk HS.out
          rw [if_pos rfl] at HS
          go_wp2_with fail
          refine (Writer_U16.calls _ _ _ _ HS.out.1.1 (by simp)).mono ?_
          rintro e w3 ⟨rfl, g1, g2⟩
          replace HS := Aside0.mk (HS.out.next g1 g2)
          clear g1 g2
          go_wp2
          go_roundg 3
          case measure => have := HK.out; omega
          case rel => exact ⟨1, rfl, ⟨rfl⟩, HS⟩
        | 1, HK, HS =>
          replace HS := Aside0.mk HS.out
          rw [if_neg (by decide), if_pos rfl] at HS
          go_wp2_with fail
          refine (Writer_U16.calls _ _ _ _ HS.out.1.1 (by simp [nb_length])).mono ?_
          rintro e w3 ⟨rfl, g1, g2⟩
          replace HS := Aside0.mk (HS.out.next g1 g2)
          clear g1 g2
          go_wp2
          go_roundg 2
          case measure => have := HK.out; omega
          case rel => exact ⟨2, rfl, ⟨rfl⟩, HS⟩
        | 2, HK, HS =>
          replace HS := Aside0.mk HS.out
          rw [if_neg (by decide), if_neg (by decide), if_pos rfl] at HS
          go_wp2_with fail
          refine (Writer_U16.calls _ _ _ _ HS.out.1.1 (by simp [nb_length])).mono ?_
          rintro e w3 ⟨rfl, g1, g2⟩
          replace HS := Aside0.mk (HS.out.next g1 g2)
          clear g1 g2
          go_wp2
          go_roundg 1
          case measure => have := HK.out; omega
          case rel => exact ⟨3, rfl, ⟨rfl⟩, HS⟩
        | 3, HK, HS =>
          replace HS := Aside0.mk HS.out
          rw [if_neg (by decide), if_neg (by decide), if_neg (by decide), if_pos rfl] at HS
          go_wp2_with fail
          refine (Writer_U16.calls _ _ _ _ HS.out.1.1 (by simp [nb_length])).mono ?_
          rintro e w3 ⟨rfl, g1, g2⟩
          replace HS := Aside0.mk (HS.out.next g1 g2)
          clear g1 g2
          go_wp2
          go_roundg 0
          case measure => have := HK.out; omega
          case rel => exact ⟨4, rfl, ⟨rfl⟩, HS⟩
        | 4, HK, HS =>
          replace HS := Aside0.mk HS.out
          rw [if_neg (by decide), if_neg (by decide), if_neg (by decide), if_neg (by decide)] at HS
          clear j0 j1 j2 j3
          have hc := HS.out.1.2.1.cells
          go_wp2_with fail
          refine (Writer_Text.calls _ _ _ _ HS.out.1.1 (by simp only [List.length_append, List.length_nil, nb_length, bl_length]; omega)).mono ?_
          rintro e w3 ⟨rfl, g1, g2⟩
          replace HS := Aside0.mk (HS.out.next g1 g2)
          clear g1 g2 hc
          go_wp2_with fail
          refine (Writer_String.calls _ _ _ HS.out.1.1).mono ?_
          rintro e w3 ⟨rfl, g1, g2⟩
          replace HS := Aside0.mk (HS.out.next g1 g2)
          clear g1 g2
          go_wp2
          go_ret2
          exact ⟨by simp [udpBytes], HS.out.1.2.2⟩
        | i + 5, HK, HS => exact absurd HK.out (by omega)
    · rw [if_neg hs] at h
      obtain ⟨rfl, rfl⟩ := Prod.mk.inj (Option.some.inj h)
      by_cases c1 : a1 < 0
      · have d1 : decide (a1 < 0) = true := decide_eq_true c1
        clear h hs c1
        go_enter Tryd.func73, Tryd.ntmps73
        go_wp2_with fail
        refine (udp_Check.calls a0_0 a0_1 a0_2 _ _ rfl).mono ?_
        rintro e w2 ⟨rfl, g1⟩
        rw [HC.out]
        replace HB := Aside0.mk (HB.out.trans (g1.mono HB.out.size))
        clear g1
        go_wp2
        go_ret2
        exact ⟨rfl, HB.out⟩
      · have d1 : decide (a1 < 0) = false := decide_eq_false c1
        have d2 : decide (65535 < a1) = true := decide_eq_true (by unfold in16 at hs; omega)
        clear h hs c1
        go_enter Tryd.func73, Tryd.ntmps73
        go_wp2_with fail
        refine (udp_Check.calls a0_0 a0_1 a0_2 _ _ rfl).mono ?_
        rintro e w2 ⟨rfl, g1⟩
        rw [HC.out]
        replace HB := Aside0.mk (HB.out.trans (g1.mono HB.out.size))
        clear g1
        go_wp2
        go_ret2
        exact ⟨rfl, HB.out⟩

/-- What udp.Get's closure works on: the text, the named result, the datagram, the sum, Read's result; then the reader. -/
def UG (k : Nat) (s : ByteArray) (w w1 : World) (n : Nat) (cs : Array Value) (x : Int) : Prop :=
  Rd w1 (k + 5) s n ∧ Hp w1 [(k, 9, #[.string s]), (k + 1, 81, #[.int .i64 0, .int .i64 0, .string ⟨#[]⟩]), (k + 2, 81, cs), (k + 3, 3, #[.int .i64 x]), (k + 4, 24, #[.int .i64 0])] ∧ Below k w w1
theorem UG.went {k : Nat} {s : ByteArray} {w w1 w2 : World} {n m : Nat} {cs : Array Value} {x : Int} (h : UG k s w w1 n cs x) (hw : Went w1 w2 (k + 5) s m) : UG k s w w2 m cs x :=
  ⟨hw.2, h.2.1.grown hw.1 (by simp), h.2.2.trans (below_of_grown hw.1 (by have := h.1.1.lt; omega) (by omega))⟩
theorem UG.put {k : Nat} {s : ByteArray} {w w1 : World} {n : Nat} {cs : Array Value} {x : Int} (h : UG k s w w1 n cs x) (j : Nat) (v : Value) : UG k s w (w1.setCell ⟨k + 2, j, none⟩ v) n (cs.setIfInBounds j v) x :=
  ⟨⟨h.1.1.other _ (by simp) _, h.1.2⟩, h.2.1.set (l1 := [_, _]) (l2 := [_, _]) j v (by simp) (by simp), h.2.2.setCell (by simp) _⟩
theorem UG.drew {k : Nat} {s : ByteArray} {w w1 : World} {n : Nat} {cs : Array Value} {x : Int} (h : UG k s w w1 n cs x) : UG k s w w1.drew n cs x := ⟨h.1, h.2.1, h.2.2.drew⟩
theorem UG.facts {k : Nat} {s : ByteArray} {w w1 : World} {n : Nat} {cs : Array Value} {x : Int} (h : UG k s w w1 n cs x) :
    w1.cell? ⟨k, 0, none⟩ = some (.string s) ∧ (∀ j, w1.frozen? ⟨k + 2, j, none⟩ = false) ∧ (∀ j, w1.cell? ⟨k + 2, j, none⟩ = cs[j]?) :=
  ⟨h.2.1.head.cell 0 _ rfl, h.2.1.tail.tail.head.frees, h.2.1.tail.tail.head.cells⟩

/-- A region's walk that ends in a panic: told as a walk with nothing left. -/
theorem panicOut {P : Program} {fn : Func} {R : Ending → World → Prop} {ch : List PanicEntry} {a : Act} {w : World} (h : wpAny P .any #[] (fun _ a w => bodyPost P fn R (.panic ch) a w) 0 #[] a w) : bodyPost P fn R (.panic ch) a w := h.2
def udpErr (s : ByteArray) : Int := if s.size < 8 then 2 else if be (bl (s.extract 4 6)) = s.size then 0 else 4

set_option maxHeartbeats 1000000 in
set_option maxRecDepth 100000 in
theorem udp_Get1.len (k : Nat) (s : ByteArray) (w w1 : World) (h : UG k s w w1 0 #[.int .i64 0, .int .i64 0, .string ⟨#[]⟩] 0) (h8 : 8 ≤ s.size) (hne : ¬ be (bl (s.extract 4 6)) = s.size) :
    Calls Tryd.prog 109 #[.pointer (some ⟨k + 5, 0, none⟩), .pointer (some ⟨k, 0, none⟩), .pointer (some ⟨k + 2, 0, none⟩), .pointer (some ⟨k + 3, 0, none⟩)] w1 fun e w2 => e = stopped 4 ∧ ∃ n cs x, UG k s w w2 n cs x := by
  have HG := Aside0.mk h
  obtain ⟨c0, c1, c2⟩ := h.facts
  have d1 : decide ((8 : Int) ≤ (s.size : Int)) = true := decide_eq_true (by omega)
  clear h
  go_enter Tryd.func109, Tryd.ntmps109
  go_wp2_with fail
  refine (Reader_Need.yes _ _ _).mono ?_
  rintro e w2 ⟨rfl, rfl⟩
  go_wp2_with fail
  refine (Reader_U16.yes _ _ _ _ HG.out.1 (by omega)).mono ?_
  rintro e w2 ⟨rfl, g1⟩
  replace HG := Aside0.mk (HG.out.went g1)
  clear g1 c0 c1 c2
  go_wp2_with fail
  refine (Reader_U16.yes _ _ _ _ HG.out.1 (by omega)).mono ?_
  rintro e w2 ⟨rfl, g1⟩
  replace HG := Aside0.mk (HG.out.went g1)
  clear g1
  obtain ⟨c0, c1, c2⟩ := HG.out.facts
  go_wp2_with fail
  replace HG := Aside0.mk ((HG.out.put 0 (.int .i64 (be (bl (s.extract 0 2)) : Nat))).put 1 (.int .i64 (be (bl (s.extract 2 4)) : Nat)))
  clear c0 c1 c2
  generalize (w2.setCell ⟨k + 2, 0, none⟩ (.int .i64 (be (bl (s.extract 0 2)) : Nat))).setCell ⟨k + 2, 1, none⟩ (.int .i64 (be (bl (s.extract 2 4)) : Nat)) = wa at HG ⊢
  obtain ⟨c0, c1, c2⟩ := HG.out.facts
  clear c1 c2
  have d2 : (((be (bl (s.extract 4 6)) : Nat) : Int) == (s.size : Int)) = false := by rw [beq_eq_false_iff_ne]; omega
  have d3 : ((be (bl (s.extract 4 6))) == s.size) = false := by rw [beq_eq_false_iff_ne]; exact hne
  clear hne
  go_region_with ((first
      | (go_at_call 66; refine (Reader_U16.yes _ _ 4 _ HG.out.drew.1 ?_).mono ?_; omega; rintro e w3 ⟨rfl, g1⟩; have HG3 := Aside0.mk (HG.out.drew.went g1); have c3 := HG3.out.facts.1; clear g1)
      | (go_at_call 65; refine (Reader_Need.no _ _ _).mono ?_; rintro e w4 ⟨rfl, rfl⟩; refine panicOut ?_)))
  all_goals exact ⟨rfl, rfl, _, _, _, HG3.out⟩

theorem UG.putSum {k : Nat} {s : ByteArray} {w w1 : World} {n : Nat} {cs : Array Value} {x : Int} (h : UG k s w w1 n cs x) (y : Int) : UG k s w (w1.setCell ⟨k + 3, 0, none⟩ (.int .i64 y)) n cs y :=
  ⟨⟨h.1.1.other _ (by simp) _, h.1.2⟩, h.2.1.set (l1 := [_, _, _]) (l2 := [_]) 0 (.int .i64 y) (by simp) (by simp), h.2.2.setCell (by simp) _⟩
theorem UG.sumFree {k : Nat} {s : ByteArray} {w w1 : World} {n : Nat} {cs : Array Value} {x : Int} (h : UG k s w w1 n cs x) :
    w1.cell? ⟨k + 3, 0, none⟩ = some (.int .i64 x) ∧ w1.frozen? ⟨k + 3, 0, none⟩ = false :=
  ⟨h.2.1.tail.tail.tail.head.cell 0 _ rfl, h.2.1.tail.tail.tail.head.free 0⟩

set_option maxHeartbeats 1000000 in
set_option maxRecDepth 100000 in
theorem udp_Get1.short (k : Nat) (s : ByteArray) (w w1 : World) (h : UG k s w w1 0 #[.int .i64 0, .int .i64 0, .string ⟨#[]⟩] 0) (h8 : s.size < 8) :
    Calls Tryd.prog 109 #[.pointer (some ⟨k + 5, 0, none⟩), .pointer (some ⟨k, 0, none⟩), .pointer (some ⟨k + 2, 0, none⟩), .pointer (some ⟨k + 3, 0, none⟩)] w1 fun e w2 => e = stopped 2 ∧ ∃ n cs x, UG k s w w2 n cs x := by
  have HG := Aside0.mk h
  obtain ⟨c0, c1, c2⟩ := h.facts
  have d1 : decide ((8 : Int) ≤ (s.size : Int)) = false := decide_eq_false (by omega)
  clear h
  go_enter Tryd.func109, Tryd.ntmps109
  go_wp2_with fail
  refine (Reader_Need.no _ _ _).mono ?_
  rintro e w2 ⟨rfl, rfl⟩
  exact ⟨rfl, rfl, _, _, _, HG.out⟩

set_option maxHeartbeats 1000000 in
set_option maxRecDepth 100000 in
theorem udp_Get1.ok (k : Nat) (s : ByteArray) (w w1 : World) (h : UG k s w w1 0 #[.int .i64 0, .int .i64 0, .string ⟨#[]⟩] 0) (h8 : 8 ≤ s.size) (heq : be (bl (s.extract 4 6)) = s.size) :
    Calls Tryd.prog 109 #[.pointer (some ⟨k + 5, 0, none⟩), .pointer (some ⟨k, 0, none⟩), .pointer (some ⟨k + 2, 0, none⟩), .pointer (some ⟨k + 3, 0, none⟩)] w1 fun e w2 => e = .returned (.tuple #[]) ∧
      UG k s w w2 s.size #[.int .i64 (be (bl (s.extract 0 2)) : Nat), .int .i64 (be (bl (s.extract 2 4)) : Nat), .string (s.extract 8 s.size)] (be (bl (s.extract 6 8)) : Nat) := by
  have HG := Aside0.mk h
  obtain ⟨c0, c1, c2⟩ := h.facts
  have d1 : decide ((8 : Int) ≤ (s.size : Int)) = true := decide_eq_true (by omega)
  clear h
  go_enter Tryd.func109, Tryd.ntmps109
  go_wp2_with fail
  refine (Reader_Need.yes _ _ _).mono ?_
  rintro e w2 ⟨rfl, rfl⟩
  go_wp2_with fail
  refine (Reader_U16.yes _ _ _ _ HG.out.1 (by omega)).mono ?_
  rintro e w2 ⟨rfl, g1⟩
  replace HG := Aside0.mk (HG.out.went g1)
  clear g1 c0 c1 c2
  go_wp2_with fail
  refine (Reader_U16.yes _ _ _ _ HG.out.1 (by omega)).mono ?_
  rintro e w2 ⟨rfl, g1⟩
  replace HG := Aside0.mk (HG.out.went g1)
  clear g1
  obtain ⟨c0, c1, c2⟩ := HG.out.facts
  go_wp2_with fail
  replace HG := Aside0.mk ((HG.out.put 0 (.int .i64 (be (bl (s.extract 0 2)) : Nat))).put 1 (.int .i64 (be (bl (s.extract 2 4)) : Nat)))
  clear c0 c1 c2
  generalize (w2.setCell ⟨k + 2, 0, none⟩ (.int .i64 (be (bl (s.extract 0 2)) : Nat))).setCell ⟨k + 2, 1, none⟩ (.int .i64 (be (bl (s.extract 2 4)) : Nat)) = wa at HG ⊢
  obtain ⟨c0, c1, c2⟩ := HG.out.facts
  clear c1 c2
  have d2 : (((be (bl (s.extract 4 6)) : Nat) : Int) == (s.size : Int)) = true := by rw [heq]; exact beq_self_eq_true _
  have d3 : ((be (bl (s.extract 4 6))) == s.size) = true := by rw [heq]; exact beq_self_eq_true _
  clear heq
  go_region_with ((first
      | (go_at_call 66; refine (Reader_U16.yes _ _ 4 _ HG.out.drew.1 ?_).mono ?_; omega; rintro e w3 ⟨rfl, g1⟩; have HG3 := Aside0.mk (HG.out.drew.went g1); have c3 := HG3.out.facts.1; clear g1)
      | (go_at_call 65; refine (Reader_Need.yes _ _ _).mono ?_; rintro e w4 ⟨rfl, rfl⟩)))
  all_goals
    clear c3 c0
    go_wp2_with fail
    refine (Reader_U16.yes _ _ _ _ HG3.out.1 (by omega)).mono ?_
    rintro e w5 ⟨rfl, g1⟩
    replace HG := Aside0.mk (HG3.out.went g1)
    clear g1 HG3
    go_wp2_with fail
    refine (Reader_Rest.calls _ _ _ _ HG.out.1).mono ?_
    rintro e w6 ⟨rfl, g1⟩
    replace HG := Aside0.mk (HG.out.went g1)
    clear g1
    obtain ⟨c0, c1, c2⟩ := HG.out.facts
    obtain ⟨c3, c4⟩ := HG.out.sumFree
    go_wp2
    go_end0
    exact ⟨rfl, (HG.out.putSum _).put 2 _⟩

def udp_Get.f (s : ByteArray) : Option (Int × Int × ByteArray × Int × Int) :=
  if s.size ≤ 140737488351232 then some (if udpErr s = 0 then ((be (bl (s.extract 0 2)) : Nat), (be (bl (s.extract 2 4)) : Nat), s.extract 8 s.size, (be (bl (s.extract 6 8)) : Nat), 0) else (0, 0, empty, 0, udpErr s)) else none

/-- What Get's closure leaves, and Read's end behind it. -/
def UR (k : Nat) (s : ByteArray) (w w1 : World) : Prop :=
  ∃ cs x, Hp w1 [(k, 9, #[.string s]), (k + 1, 81, #[.int .i64 0, .int .i64 0, .string ⟨#[]⟩]), (k + 2, 81, cs), (k + 3, 3, #[.int .i64 x])] ∧ Below k w w1 ∧
    (udpErr s = 0 → cs = #[.int .i64 (be (bl (s.extract 0 2)) : Nat), .int .i64 (be (bl (s.extract 2 4)) : Nat), .string (s.extract 8 s.size)] ∧ x = (be (bl (s.extract 6 8)) : Nat))
theorem UG.done {k : Nat} {s : ByteArray} {w w1 w2 : World} {n : Nat} {cs : Array Value} {x : Int} (h : UG k s w w1 n cs x) (hw : w1.grownBy w2 (some (k + 4)))
    (hx : udpErr s = 0 → cs = #[.int .i64 (be (bl (s.extract 0 2)) : Nat), .int .i64 (be (bl (s.extract 2 4)) : Nat), .string (s.extract 8 s.size)] ∧ x = (be (bl (s.extract 6 8)) : Nat)) : UR k s w w2 :=
  ⟨cs, x, Hp.grown (R := k + 4) (fun y hy => h.2.1 y (by simp at hy ⊢; rcases hy with rfl | rfl | rfl | rfl <;> simp)) hw (by simp), h.2.2.trans (below_of_grown hw (by have := h.1.1.lt; omega) (by omega)), hx⟩

set_option maxRecDepth 100000 in
theorem udp_Get.reads (s : ByteArray) (hs : s.size ≤ 140737488351232) (w : World) :
    Calls Tryd.prog 63 #[.string s, .func (.func 109) #[] #[.pointer (some ⟨w.heap.size, 0, none⟩), .pointer (some ⟨w.heap.size + 1 + 1, 0, none⟩), .pointer (some ⟨w.heap.size + 1 + 1 + 1, 0, none⟩)]]
      ((((w.alloc (.cells #[.string s] 9)).alloc (.cells #[.int .i64 0, .int .i64 0, .string ⟨#[]⟩] 81)).alloc (.cells #[.int .i64 0, .int .i64 0, .string ⟨#[]⟩] 81)).alloc (.cells #[.int .i64 0] 3))
      fun e w' => e = .returned (.int .i64 (udpErr s)) ∧ UR w.heap.size s w w' := by
  obtain ⟨W, hW⟩ : ∃ W, W = ((((w.alloc (.cells #[.string s] 9)).alloc (.cells #[.int .i64 0, .int .i64 0, .string ⟨#[]⟩] 81)).alloc (.cells #[.int .i64 0, .int .i64 0, .string ⟨#[]⟩] 81)).alloc (.cells #[.int .i64 0] 3)) := ⟨_, rfl⟩
  have hk : W.heap.size = w.heap.size + 4 := by rw [hW]; simp
  have b0 : Blk W w.heap.size 9 #[.string s] := by rw [hW]; exact (((Blk.new w _ _).alloc _).alloc _).alloc _
  have b1 : Blk W (w.heap.size + 1) 81 #[.int .i64 0, .int .i64 0, .string ⟨#[]⟩] := by
    rw [hW]
    have := Blk.new (w.alloc (.cells #[.string s] 9)) 81 #[.int .i64 0, .int .i64 0, .string ⟨#[]⟩]
    rw [World.size_alloc] at this
    exact (this.alloc _).alloc _
  have b2 : Blk W (w.heap.size + 2) 81 #[.int .i64 0, .int .i64 0, .string ⟨#[]⟩] := by
    rw [hW]
    have := Blk.new ((w.alloc (.cells #[.string s] 9)).alloc (.cells #[.int .i64 0, .int .i64 0, .string ⟨#[]⟩] 81)) 81 #[.int .i64 0, .int .i64 0, .string ⟨#[]⟩]
    rw [World.size_alloc, World.size_alloc] at this
    exact this.alloc _
  have b3 : Blk W (w.heap.size + 3) 3 #[.int .i64 0] := by
    rw [hW]
    have := Blk.new (((w.alloc (.cells #[.string s] 9)).alloc (.cells #[.int .i64 0, .int .i64 0, .string ⟨#[]⟩] 81)).alloc (.cells #[.int .i64 0, .int .i64 0, .string ⟨#[]⟩] 81)) 3 #[.int .i64 0]
    rw [World.size_alloc, World.size_alloc, World.size_alloc] at this
    exact this
  have hb : Below w.heap.size w W := by
    rw [hW]
    exact ((((Below.refl _ _).alloc (Nat.le_refl _) _).alloc (by simp) _).alloc (by simp; omega) _).alloc (by simp; omega) _
  rw [← hW]
  clear hW
  have hrd := readW_rd W s hs
  have hres := readW_res W s
  have hbl := readW_below W s
  rw [hk] at hrd hres hbl
  have hG : UG w.heap.size s w (readW W s) 0 #[.int .i64 0, .int .i64 0, .string ⟨#[]⟩] 0 :=
    ⟨hrd, .cons (b0.below hbl (by omega)) (.cons (b1.below hbl (by omega)) (.cons (b2.below hbl (by omega)) (.cons (b3.below hbl (by omega)) (.cons hres (.nil _))))), hb.trans (hbl.mono (by omega))⟩
  have hrd' : ∀ Q : World → Prop, Calls Tryd.prog 109 (#[.pointer (some ⟨W.heap.size + 1, 0, none⟩)] ++ #[.pointer (some ⟨w.heap.size, 0, none⟩), .pointer (some ⟨w.heap.size + 1 + 1, 0, none⟩), .pointer (some ⟨w.heap.size + 1 + 1 + 1, 0, none⟩)]) (readW W s) (fun e w2 => e = did (udpErr s) ∧ Blk w2 W.heap.size 24 #[.int .i64 0] ∧ Q w2) →
      Calls Tryd.prog 63 #[.string s, .func (.func 109) #[] #[.pointer (some ⟨w.heap.size, 0, none⟩), .pointer (some ⟨w.heap.size + 1 + 1, 0, none⟩), .pointer (some ⟨w.heap.size + 1 + 1 + 1, 0, none⟩)]] W
        fun e w' => e = .returned (.int .i64 (udpErr s)) ∧ ∃ w2, Q w2 ∧ w2.grownBy w' (some W.heap.size) :=
    fun Q h => Read_calls 109 _ s (udpErr s) W Q (fun _ _ => rfl) h
  rw [hk] at hrd'
  clear hrd hres hbl b0 b1 b2 b3 hb
  by_cases h8 : s.size < 8
  · have he : udpErr s = 2 := if_pos h8
    rw [he] at hrd' ⊢
    refine (hrd' (fun w2 => ∃ n cs x, UG w.heap.size s w w2 n cs x) ?_).mono ?_
    · refine (udp_Get1.short w.heap.size s w (readW W s) hG h8).mono ?_
      rintro e w2 ⟨rfl, n, cs, x, hu⟩
      exact ⟨rfl, hu.2.1.tail.tail.tail.tail.head, n, cs, x, hu⟩
    · rintro e w' ⟨rfl, w2, ⟨n, cs, x, hu⟩, hg⟩
      exact ⟨rfl, hu.done hg (fun h0 => absurd (he.symm.trans h0) (by decide))⟩
  · by_cases heq : be (bl (s.extract 4 6)) = s.size
    · have he : udpErr s = 0 := by unfold udpErr; rw [if_neg h8, if_pos heq]
      rw [he] at hrd' ⊢
      refine (hrd' (fun w2 => UG w.heap.size s w w2 s.size #[.int .i64 (be (bl (s.extract 0 2)) : Nat), .int .i64 (be (bl (s.extract 2 4)) : Nat), .string (s.extract 8 s.size)] (be (bl (s.extract 6 8)) : Nat)) ?_).mono ?_
      · refine (udp_Get1.ok w.heap.size s w (readW W s) hG (by omega) heq).mono ?_
        rintro e w2 ⟨rfl, hu⟩
        exact ⟨rfl, hu.2.1.tail.tail.tail.tail.head, hu⟩
      · rintro e w' ⟨rfl, w2, hu, hg⟩
        exact ⟨rfl, hu.done hg (fun _ => ⟨rfl, rfl⟩)⟩
    · have he : udpErr s = 4 := by unfold udpErr; rw [if_neg h8, if_neg heq]
      rw [he] at hrd' ⊢
      refine (hrd' (fun w2 => ∃ n cs x, UG w.heap.size s w w2 n cs x) ?_).mono ?_
      · refine (udp_Get1.len w.heap.size s w (readW W s) hG (by omega) heq).mono ?_
        rintro e w2 ⟨rfl, n, cs, x, hu⟩
        exact ⟨rfl, hu.2.1.tail.tail.tail.tail.head, n, cs, x, hu⟩
      · rintro e w' ⟨rfl, w2, ⟨n, cs, x, hu⟩, hg⟩
        exact ⟨rfl, hu.done hg (fun h0 => absurd (he.symm.trans h0) (by decide))⟩

set_option maxHeartbeats 1000000 in
set_option maxRecDepth 100000 in
theorem udp_Get.calls (s : ByteArray) (r1 r2 : Int) (r3 : ByteArray) (r4 r5 : Int) (w : World) (h : udp_Get.f s = some (r1, r2, r3, r4, r5)) :
    Calls Tryd.prog 75 #[.string s] w fun e w' => e = .returned (.tuple #[.agg #[.int .i64 r1, .int .i64 r2, .string r3], .int .i64 r4, .int .i64 r5]) ∧ Below w.heap.size w w' := by
  unfold udp_Get.f at h
  by_cases hs : s.size ≤ 140737488351232
  case neg => rw [if_neg hs] at h; exact absurd h (by simp)
  rw [if_pos hs] at h
  have hmf : ∀ (fn : Fn) (first cap : Array Value) (w : World), (Instr.makeFunc fn first cap).run Tryd.prog w = .ok (.func fn first cap) w := fun _ _ _ _ => rfl
  have hu := Tryd.underlying81
  have HS := Aside0.mk hs
  clear hs
  by_cases h0 : udpErr s = 0
  · rw [if_pos h0] at h
    obtain ⟨rfl, rfl, rfl, rfl, rfl⟩ : (be (bl (s.extract 0 2)) : Nat) = r1 ∧ (be (bl (s.extract 2 4)) : Nat) = r2 ∧ s.extract 8 s.size = r3 ∧ (be (bl (s.extract 6 8)) : Nat) = r4 ∧ 0 = r5 := by
      have h := Option.some.inj h; simp only [Prod.mk.injEq] at h; exact h
    have d1 : (udpErr s != 0) = false := bne_eq_false_iff_eq.mpr h0
    replace h := Aside0.mk h0
    clear h0
    go_enter Tryd.func75, Tryd.ntmps75
    go_wp2_with fail
    refine (udp_Get.reads s HS.out w).mono ?_
    rintro e w2 ⟨rfl, cs, x, hp, hb, hx⟩
    obtain ⟨rfl, rfl⟩ := hx h.out
    have HB := Aside0.mk hb
    have c1 := hp.tail.head.cells
    have c2 := hp.tail.head.frees
    have c3 := hp.tail.tail.head.cells
    have c4 := hp.tail.tail.tail.head.cell 0 _ rfl
    have HK := Aside0.mk hp.tail.head
    clear hp hb hx
    go_wp2_with fail
    go_region
    all_goals
      have c5 := (((HK.out.set 0 (.int .i64 (be (bl (s.extract 0 2)) : Nat))).set 1 (.int .i64 (be (bl (s.extract 2 4)) : Nat))).set 2 (.string (s.extract 8 s.size))).drew.cells
      simp only [List.setIfInBounds_toArray, List.set_cons_zero, List.set_cons_succ] at c5
      clear c1 c2 c3 c4
      go_wp2
      refine ⟨rfl, _, ?_, rfl, ?_⟩
      rotate_left
      · exact (((HB.out.setCell (by simp) _).setCell (by simp) _).setCell (by simp) _).drew
      simp [results, Tryd.results75, go_sem, hu, c5]
  · rw [if_neg h0] at h
    obtain ⟨rfl, rfl, rfl, rfl, rfl⟩ : 0 = r1 ∧ 0 = r2 ∧ empty = r3 ∧ 0 = r4 ∧ udpErr s = r5 := by
      have h := Option.some.inj h; simp only [Prod.mk.injEq] at h; exact h
    have d1 : (udpErr s != 0) = true := bne_iff_ne.mpr h0
    clear h h0
    go_enter Tryd.func75, Tryd.ntmps75
    go_wp2_with fail
    refine (udp_Get.reads s HS.out w).mono ?_
    rintro e w2 ⟨rfl, cs, x, hp, hb, hx⟩
    have HB := Aside0.mk hb
    have c1 := hp.tail.head.cells
    have c2 := hp.tail.head.frees
    have HK := Aside0.mk hp.tail.head
    clear hp hb hx
    go_wp2
    have c5 := (((HK.out.set 0 (.int .i64 0)).set 1 (.int .i64 0)).set 2 (.string ⟨#[]⟩)).cells
    simp only [List.setIfInBounds_toArray, List.set_cons_zero, List.set_cons_succ] at c5
    clear c1 c2
    refine ⟨rfl, _, ?_, rfl, ?_⟩
    rotate_left
    · exact ((HB.out.setCell (by simp) _).setCell (by simp) _).setCell (by simp) _
    simp [results, Tryd.results75, go_sem, hu, c5]
    rfl
end Go.Proofs.YtcmalglippmocaaDoor.G
end

section
/- By hand: ipip.of and ipip.Get, which read the package-level table of versions. -/
namespace Go.Proofs.YtcmalglippmocaaDoor.G
open Go.RowKit Go.Proofs.YtcmalglippmocaaDoorW.PrintWords Go.Proofs.YtcmalglippmocaaDoorW.PrintLast Go.Proofs.YtcmalglippmocaaDoorW.PrintMore Go.Proofs.YtcmalglippmocaaDoor.Pal
set_option linter.unusedVariables false
set_option linter.unusedSimpArgs false
/-- What a packet is told to be: its version's row, and an error. -/
def verOf (s : ByteArray) : Int × Int × Int × Int := if s.size = 0 then (0, 0, 0, 2) else if bt s 0 / 16 = 4 then (4, 4, 2048, 0) else if bt s 0 / 16 = 6 then (6, 41, 34525, 0) else (0, 0, 0, 3)
theorem ver_ix0 (wx : World) : (Instr.index 110 (.agg #[.int .i64 4, .int .i64 4, .int .i64 2048, .int .i64 6, .int .i64 41, .int .i64 34525]) (.int .i64 0)).run Tryd.prog wx = .ok (.agg #[.int .i64 4, .int .i64 4, .int .i64 2048]) wx := by kernel_rfl
theorem ver_ix1 (wx : World) : (Instr.index 110 (.agg #[.int .i64 4, .int .i64 4, .int .i64 2048, .int .i64 6, .int .i64 41, .int .i64 34525]) (.int .i64 1)).run Tryd.prog wx = .ok (.agg #[.int .i64 6, .int .i64 41, .int .i64 34525]) wx := by kernel_rfl
def ipip_of.f (a0 : ByteArray) : Option (Int × Int × Int × Int) := some (verOf a0)
set_option maxHeartbeats 2000000 in
set_option maxRecDepth 100000 in
theorem ipip_of.calls (a0 : ByteArray) (r1 r2 r3 r4 : Int) (w : World) (h : ipip_of.f a0 = some (r1, r2, r3, r4)) (hG : GV w) :
    Calls Tryd.prog 58 #[.string a0] w fun e w' => e = .returned (.tuple #[.agg #[.int .i64 r1, .int .i64 r2, .int .i64 r3], .int .i64 r4]) ∧ Below w.heap.size w w' := by
  have hv := Option.some.inj h
  have HV := Aside0.mk hv
  have HG := Aside0.mk hG
  clear h hv hG
  go_enter Tryd.func58, Tryd.ntmps58
  go_upto_region 1 with (fail)
  have HK := Aside0.mk (Blk.new w 107 #[.int .i64 0, .int .i64 0, .int .i64 0])
  have HB := Aside0.mk ((Below.refl w.heap.size w).alloc (Nat.le_refl _) (.cells #[.int .i64 0, .int .i64 0, .int .i64 0] 107))
  replace HG := Aside0.mk (HG.out.below HB.out)
  generalize hk : w.heap.size = k at HK HB ⊢
  generalize w.alloc (.cells #[.int .i64 0, .int .i64 0, .int .i64 0] 107) = W at HK HB HG ⊢
  have HKK := Aside0.mk hk
  clear hk
  by_cases h0 : a0.size = 0
  · have e0 : a0.toList.isEmpty = true := isEmpty_of h0
    have hv : (r1, r2, r3, r4) = (0, 0, 0, 2) := by rw [← HV.out, verOf, if_pos h0]
    simp only [Prod.mk.injEq] at hv
    obtain ⟨rfl, rfl, rfl, rfl⟩ := hv
    clear h0 HV
    have f0 := HK.out.free 0
    have f1 := HK.out.free 1
    have f2 := HK.out.free 2
    have c0 := HK.out.cell 0 _ rfl
    have c1 := HK.out.cell 1 _ rfl
    have c2 := HK.out.cell 2 _ rfl
    go_wp2
    have HK1 := Aside0.mk (((HK.out.set 0 (.int .i64 0)).set 1 (.int .i64 0)).set 2 (.int .i64 0))
    refine bodyPost_ret (results_cell_tmp rfl _ _ k _ _ rfl HK1.out Tryd.underlying107 rfl (by kernel_rfl)) rfl ?_
    exact ⟨rfl, by rw [HKK.out]; exact ((HB.out.setCell (p := ⟨k, 0, none⟩) (Nat.le_refl _) _).setCell (p := ⟨k, 1, none⟩) (Nat.le_refl _) _).setCell (p := ⟨k, 2, none⟩) (Nat.le_refl _) _⟩
  obtain ⟨g0, g1, g2, g3, g4, g5⟩ := HG.out.cells
  have HZ := Aside0.mk h0
  have e0 : a0.toList.isEmpty = false := isEmpty_not h0
  clear h0
  go_wp2
  clear g0 g1 g2 g3 g4 g5 e0
  go_loopg [10] 2 (fun kq v10 wr => ∃ i : Nat, v10 = .int .i64 (i : Int) ∧ Aside0 (i + kq = 2) ∧ Aside0 (1 ≤ i → ¬ bt a0 0 / 16 = 4) ∧ Aside0 (2 ≤ i → ¬ bt a0 0 / 16 = 6) ∧ Aside0 (Blk wr k 107 #[.int .i64 0, .int .i64 0, .int .i64 0]) ∧ Aside0 (Below k w wr))
  case atStart => exact ⟨0, rfl, ⟨by omega⟩, ⟨by omega⟩, ⟨by omega⟩, HK, HB⟩
  case round =>
    clear HK HB
    obtain ⟨i, rfl, HI, H4, H6, HK, HB⟩ := hrel
    have h012 : i = 0 ∨ i = 1 ∨ i = 2 := by have := HI.out; omega
    rcases h012 with rfl | rfl | rfl
    · have ix := ver_ix0
      have hx : ∀ h : 0 < a0.size, ((a0[0]'h).toNat : Int) = bt a0 0 := bt_at a0 0
      have q4 : (0 < a0.size) = True := eq_true (by have := HZ.out; omega)
      have hw : wrap64 (bt a0 0 / 16) = bt a0 0 / 16 := by have := bt_range a0 0; unfold wrap64; omega
      by_cases hv : bt a0 0 / 16 = 4
      · have hd : (bt a0 0 / 16 == 4) = true := beq_iff_eq.mpr hv
        have hr : (r1, r2, r3, r4) = (4, 4, 2048, 0) := by rw [← HV.out, verOf, if_neg HZ.out, if_pos hv]
        simp only [Prod.mk.injEq] at hr
        obtain ⟨rfl, rfl, rfl, rfl⟩ := hr
        clear hv
        go_upto_region 6 with (fail)
        go_quiet (fail)
        replace HK := Aside0.mk ((HK.out.alloc (.cells #[.int .i64 4, .int .i64 4, .int .i64 2048] 107)).drewN nq)
        have HN := Aside0.mk ((Blk.new wr 107 #[.int .i64 4, .int .i64 4, .int .i64 2048]).drewN nq)
        replace HB := Aside0.mk (pw_below_drewN (HB.out.alloc (by have := HB.out.size; have := HKK.out; omega) (.cells #[.int .i64 4, .int .i64 4, .int .i64 2048] 107)) nq)
        generalize wr.heap.size = g at HN ⊢
        generalize (wr.alloc (.cells #[.int .i64 4, .int .i64 4, .int .i64 2048] 107)).drewN nq = w2 at HK HN HB ⊢
        clear hx q4 hw hd ix
        have f0 := HK.out.free 0
        have f1 := HK.out.free 1
        have f2 := HK.out.free 2
        have c0 := HK.out.cell 0 _ rfl
        have c1 := HK.out.cell 1 _ rfl
        have c2 := HK.out.cell 2 _ rfl
        have n0 := HN.out.cell 0 _ rfl
        have n1 := HN.out.cell 1 _ rfl
        have n2 := HN.out.cell 2 _ rfl
        go_wp2
        have HK1 := Aside0.mk (((HK.out.set 0 (.int .i64 4)).set 1 (.int .i64 4)).set 2 (.int .i64 2048))
        refine bodyPost_ret (results_cell_tmp rfl _ _ k _ _ rfl HK1.out Tryd.underlying107 rfl (by kernel_rfl)) rfl ?_
        exact ⟨rfl, by rw [HKK.out]; exact ((HB.out.setCell (p := ⟨k, 0, none⟩) (Nat.le_refl _) _).setCell (p := ⟨k, 1, none⟩) (Nat.le_refl _) _).setCell (p := ⟨k, 2, none⟩) (Nat.le_refl _) _⟩
      · have hd : (bt a0 0 / 16 == 4) = false := beq_eq_false_iff_ne.mpr hv
        have HX := Aside0.mk hv
        clear hv
        go_upto_region 6 with (fail)
        go_quiet (fail)
        replace HK := Aside0.mk ((HK.out.alloc (.cells #[.int .i64 4, .int .i64 4, .int .i64 2048] 107)).drewN nq)
        replace HB := Aside0.mk (pw_below_drewN (HB.out.alloc (by have := HB.out.size; have := HKK.out; omega) (.cells #[.int .i64 4, .int .i64 4, .int .i64 2048] 107)) nq)
        generalize (wr.alloc (.cells #[.int .i64 4, .int .i64 4, .int .i64 2048] 107)).drewN nq = w2 at HK HB ⊢
        clear hx q4 hw ix
        go_wp2
        go_roundg 1
        case measure => have := HI.out; omega
        case rel => exact ⟨1, by first | rfl | (simp; done) | (unfold wrap64; simp; done), ⟨by omega⟩, ⟨fun _ => HX.out⟩, ⟨fun h => by omega⟩, HK, HB⟩
    · have ix := ver_ix1
      have hx : ∀ h : 0 < a0.size, ((a0[0]'h).toNat : Int) = bt a0 0 := bt_at a0 0
      have q4 : (0 < a0.size) = True := eq_true (by have := HZ.out; omega)
      have hw : wrap64 (bt a0 0 / 16) = bt a0 0 / 16 := by have := bt_range a0 0; unfold wrap64; omega
      by_cases hv : bt a0 0 / 16 = 6
      · have hd : (bt a0 0 / 16 == 6) = true := beq_iff_eq.mpr hv
        have hr : (r1, r2, r3, r4) = (6, 41, 34525, 0) := by rw [← HV.out, verOf, if_neg HZ.out, if_neg (H4.out (by omega)), if_pos hv]
        simp only [Prod.mk.injEq] at hr
        obtain ⟨rfl, rfl, rfl, rfl⟩ := hr
        clear hv
        go_upto_region 6 with (fail)
        go_quiet (fail)
        replace HK := Aside0.mk ((HK.out.alloc (.cells #[.int .i64 6, .int .i64 41, .int .i64 34525] 107)).drewN nq)
        have HN := Aside0.mk ((Blk.new wr 107 #[.int .i64 6, .int .i64 41, .int .i64 34525]).drewN nq)
        replace HB := Aside0.mk (pw_below_drewN (HB.out.alloc (by have := HB.out.size; have := HKK.out; omega) (.cells #[.int .i64 6, .int .i64 41, .int .i64 34525] 107)) nq)
        generalize wr.heap.size = g at HN ⊢
        generalize (wr.alloc (.cells #[.int .i64 6, .int .i64 41, .int .i64 34525] 107)).drewN nq = w2 at HK HN HB ⊢
        clear hx q4 hw hd ix
        have f0 := HK.out.free 0
        have f1 := HK.out.free 1
        have f2 := HK.out.free 2
        have c0 := HK.out.cell 0 _ rfl
        have c1 := HK.out.cell 1 _ rfl
        have c2 := HK.out.cell 2 _ rfl
        have n0 := HN.out.cell 0 _ rfl
        have n1 := HN.out.cell 1 _ rfl
        have n2 := HN.out.cell 2 _ rfl
        go_wp2
        have HK1 := Aside0.mk (((HK.out.set 0 (.int .i64 6)).set 1 (.int .i64 41)).set 2 (.int .i64 34525))
        refine bodyPost_ret (results_cell_tmp rfl _ _ k _ _ rfl HK1.out Tryd.underlying107 rfl (by kernel_rfl)) rfl ?_
        exact ⟨rfl, by rw [HKK.out]; exact ((HB.out.setCell (p := ⟨k, 0, none⟩) (Nat.le_refl _) _).setCell (p := ⟨k, 1, none⟩) (Nat.le_refl _) _).setCell (p := ⟨k, 2, none⟩) (Nat.le_refl _) _⟩
      · have hd : (bt a0 0 / 16 == 6) = false := beq_eq_false_iff_ne.mpr hv
        have HX := Aside0.mk hv
        clear hv
        go_upto_region 6 with (fail)
        go_quiet (fail)
        replace HK := Aside0.mk ((HK.out.alloc (.cells #[.int .i64 6, .int .i64 41, .int .i64 34525] 107)).drewN nq)
        replace HB := Aside0.mk (pw_below_drewN (HB.out.alloc (by have := HB.out.size; have := HKK.out; omega) (.cells #[.int .i64 6, .int .i64 41, .int .i64 34525] 107)) nq)
        generalize (wr.alloc (.cells #[.int .i64 6, .int .i64 41, .int .i64 34525] 107)).drewN nq = w2 at HK HB ⊢
        clear hx q4 hw ix
        go_wp2
        go_roundg 0
        case measure => have := HI.out; omega
        case rel => exact ⟨2, by first | rfl | (simp; done) | (unfold wrap64; simp; done), ⟨by omega⟩, ⟨fun _ => H4.out (by omega)⟩, ⟨fun _ => HX.out⟩, HK, HB⟩
    · have hv : (r1, r2, r3, r4) = (0, 0, 0, 3) := by rw [← HV.out, verOf, if_neg HZ.out, if_neg (H4.out (by omega)), if_neg (H6.out (by omega))]
      simp only [Prod.mk.injEq] at hv
      obtain ⟨rfl, rfl, rfl, rfl⟩ := hv
      have f0 := HK.out.free 0
      have f1 := HK.out.free 1
      have f2 := HK.out.free 2
      have c0 := HK.out.cell 0 _ rfl
      have c1 := HK.out.cell 1 _ rfl
      have c2 := HK.out.cell 2 _ rfl
      go_wp2
      have HK1 := Aside0.mk (((HK.out.set 0 (.int .i64 0)).set 1 (.int .i64 0)).set 2 (.int .i64 0))
      refine bodyPost_ret (results_cell_tmp rfl _ _ k _ _ rfl HK1.out Tryd.underlying107 rfl (by kernel_rfl)) rfl ?_
      exact ⟨rfl, by rw [HKK.out]; exact ((HB.out.setCell (p := ⟨k, 0, none⟩) (Nat.le_refl _) _).setCell (p := ⟨k, 1, none⟩) (Nat.le_refl _) _).setCell (p := ⟨k, 2, none⟩) (Nat.le_refl _) _⟩
end Go.Proofs.YtcmalglippmocaaDoor.G
end
