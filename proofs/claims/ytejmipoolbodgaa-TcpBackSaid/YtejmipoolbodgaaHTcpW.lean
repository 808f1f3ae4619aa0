/- By hand: tcp.walk (an iterator over options), tcp.Right and tcp.MSS (ranges over it). The walks are turned from the kit's worked texts on ranges over a function. -/
import Derived.Test.YtejmipoolbodgaaPTcpI
import Derived.Test.YtejmipoolbodgaaPHeap
import Derived.RangeFuncNested
import Derived.RangeFuncBound
import Derived.RangeFuncCalls
import Derived.RangeFuncLeaves
import Derived.RangeFuncFrom
import Derived.Shelf.Abstract
import Derived.Shelf.RegionOpen
import Derived.WalkKit
import Derived.OwnWalkIn
import Derived.TacticsInMore
import Derived.LoopNIn
import Derived.LoopIn
import Derived.Laws.Strings2
import Derived.Laws.Strings
namespace Go.Proofs.Ytejmipoolbodgaa.G
open Go.RowKit Go.Shelf Go.Proofs.YtejmipoolbodgaaW.PrintWords Go.Proofs.YtejmipoolbodgaaW.PrintLast Go.Proofs.YtejmipoolbodgaaW.PrintMore Go.Proofs.Ytejmipoolbodgaa.Pal
attribute [local go_sem] Oper.semAt_some
set_option linter.unusedVariables false
set_option linter.unusedSimpArgs false

set_option maxRecDepth 100000 in
set_option maxHeartbeats 2000000 in
theorem walk_in (F : Fence) (n : Nat) (hf : F.fn 133) (hro : F.round = none) (s : ByteArray) (w : World) :
    CallsIn F n Try.prog 133 #[.string s] w fun e w' => e = .returned (.func (.func 159) #[] #[.pointer (some ⟨w.heap.size, 0, none⟩)]) ∧ w' = w.alloc (.cells #[.string s] 9) := by
  have hmf : ∀ (fn : Fn) (first cap : Array Value) (w : World), (Instr.makeFunc fn first cap).run Try.prog w = .ok (.func fn first cap) w := fun _ _ _ _ => rfl
  refine callsIn_of_wp Try.func133 rfl hf ?_ hro
  simp only [Try.ntmps133, List.size_toArray, List.length_cons, List.length_nil, Nat.reduceAdd, Nat.reduceSub, Array.replicate_succ, Array.replicate_zero, List.push_toArray, List.append_toArray, List.nil_append, List.cons_append]
  gi_wp2
  go_ret
  exact ⟨rfl, rfl⟩

theorem wr_one (m : Nat) (h : m < 256) : wrap64 (m : Int) = (m : Int) ∧ IntKind.i64.wrap (m : Int) = (m : Int) := by
  refine ⟨by unfold wrap64; omega, by rw [IntKind.wrap_i64]; omega⟩
theorem lt_two {a i m : Nat} (h : a < i + m) : (a : Int) < (i : Int) + (m : Int) := by omega
theorem not_lt_two {a i m : Nat} (h : ¬ a < i + m) : ¬ (a : Int) < (i : Int) + (m : Int) := by omega
theorem le_two (i m : Nat) : (i : Int) ≤ (i : Int) + (m : Int) := by omega
theorem le_two' {a i m : Nat} (h : i + m ≤ a) : (i : Int) + (m : Int) ≤ (a : Int) := by omega
theorem toNat_two (i m : Nat) : ((i : Int) + (m : Int)).toNat = i + m := by omega
theorem less_two {s i m : Nat} (h : 2 ≤ m) (h2 : i < s) : s - ((i : Int) + (m : Int)).toNat < s - (i : Int).toNat := by omega
theorem wr_two (i m : Nat) (h : i + m ≤ 140737488351232 + 256) : wrap64 ((i : Int) + (m : Int)) = (i : Int) + (m : Int) ∧ IntKind.i64.wrap ((i : Int) + (m : Int)) = (i : Int) + (m : Int) := by
  refine ⟨by unfold wrap64; omega, by rw [IntKind.wrap_i64]; omega⟩
set_option maxRecDepth 100000 in
set_option maxHeartbeats 4000000 in
theorem walk1_in (n : Nat) (hn : 1 ≤ n) (l Bn n₀ : Nat) (s : ByteArray) (hs : s.size ≤ 140737488351232) (J Jx : List (Int × ByteArray) → World → Prop)
    (hA : ∀ p W k, J p W → J p (W.drewN k))
    (hY : ∀ pre (x : Int × ByteArray) W, J pre W → pre.length < (items s 0).length → pre ++ [x] <+: items s 0 → YieldAt Fence.wide (n - 1) Try.prog l #[.int .i64 x.1, .string x.2] W fun e W' =>
      (e = .returned (.bool true) ∧ J (pre ++ [x]) W' ∧ Below n₀ W W') ∨ (e = .returned (.bool false) ∧ Jx (pre ++ [x]) W'))
    (W : World) (hB : Bn < n₀) (hBn : W.cell? ⟨Bn, 0, none⟩ = some (.string s)) (h0 : J [] W) :
    CallsIn Fence.wide n Try.prog 159 #[.func (.yield l) #[] #[], .pointer (some ⟨Bn, 0, none⟩)] W fun e W' => (∃ v, e = .returned v) ∧
      ((∃ ys, ys = items s 0 ∧ J ys W') ∨ (∃ pre, pre <+: items s 0 ∧ Jx pre W')) := by
  refine callsIn_of_wp Try.func159 rfl trivial ?_ rfl
  simp only [Try.ntmps159, List.size_toArray, List.length_cons, List.length_nil, Nat.reduceAdd, Nat.reduceSub, Array.replicate_succ, Array.replicate_zero, List.push_toArray, List.append_toArray, List.nil_append, List.cons_append]
  have HS := Aside0.mk hs
  clear hs
  gi_wp2
  gi_loopw [3] (fun p wr => ∃ (i : Nat) (pre : List (Int × ByteArray)), p = .int .i64 (i : Int) ∧ Aside0 (i ≤ s.size) ∧ Aside0 (items s 0 = pre ++ items s i) ∧ J pre wr ∧ wr.cell? ⟨Bn, 0, none⟩ = some (.string s))
    (fun p wr => s.size - (intOf p).toNat)
  case atStart => exact ⟨0, [], rfl, ⟨Nat.zero_le _⟩, ⟨rfl⟩, h0, hBn⟩
  case round =>
    obtain ⟨i, pre, rfl, HI, HT, hJ, hc⟩ := hrel
    by_cases hlt : i < s.size
    case neg =>
      have q1 : decide ((i : Int) < (s.size : Int)) = false := decide_eq_false (by omega)
      have q2 : decide (i < s.size) = false := decide_eq_false hlt
      have he : items s i = [] := items_end (by rw [bl_length]; exact fun h => hlt h.1)
      rw [he, List.append_nil] at HT
      gi_wp2
      go_end0
      exact ⟨⟨_, rfl⟩, .inl ⟨pre, HT.out.symm, hJ⟩⟩
    have q1 : decide ((i : Int) < (s.size : Int)) = true := decide_eq_true (by omega)
    have q2 : decide (i < s.size) = true := decide_eq_true hlt
    have hx : (bl s).getD i 0 = s[i] := by simp [List.getD_eq_getElem?_getD, List.getElem?_eq_getElem (show i < (bl s).length by rw [bl_length]; exact hlt)]; rfl
    by_cases h0 : s[i] = 0
    · have e1 : ((s[i].toNat : Int) != 0) = false := by rw [h0]; rfl
      have e2 : (s[i].toNat != 0) = false := by rw [h0]; rfl
      have he : items s i = [] := items_end (by rw [hx, h0]; exact fun h => h.2 rfl)
      rw [he, List.append_nil] at HT
      gi_wp2
      go_end0
      exact ⟨⟨_, rfl⟩, .inl ⟨pre, HT.out.symm, hJ⟩⟩
    have e1 : ((s[i].toNat : Int) != 0) = true := by rw [bne_iff_ne]; intro h; exact h0 (UInt8.toNat_inj.1 (by show s[i].toNat = 0; omega))
    have e2 : (s[i].toNat != 0) = true := by rw [bne_iff_ne]; intro h; exact h0 (UInt8.toNat_inj.1 h)
    by_cases h1 : s[i] = 1
    · have f1 : ((s[i].toNat : Int) != 1) = false := by rw [h1]; rfl
      have f2 : (s[i].toNat != 1) = false := by rw [h1]; rfl
      have ho : optLen (bl s) i = some 1 := by unfold optLen; rw [hx, if_pos h1]
      have hc' : i < (bl s).length ∧ (bl s).getD i 0 ≠ 0 := ⟨by rw [bl_length]; exact hlt, by rw [hx]; exact h0⟩
      have HE := Aside0.mk (items_step hc' ho)
      have HL := Aside0.mk hlt
      rw [HE.out] at HT
      obtain ⟨fn, tmps, assign, body, hy, hR⟩ := hY pre ((i : Int), s.extract i (i + 1)) wr hJ (by rw [HT.out]; simp) (by rw [HT.out]; simp)
      have HY := Aside0.mk hY
      have w1_ : wrap64 ((i : Int) + 1) = ((i + 1 : Nat) : Int) := by have := HS.out; unfold wrap64; omega
      have w2_ : IntKind.i64.wrap ((i : Int) + 1) = ((i + 1 : Nat) : Int) := by have := HS.out; rw [IntKind.wrap_i64]; omega
      have q3 : ((i : Int) + 1 ≤ (s.size : Int)) = True := eq_true (by omega)
      have q4 : (i + 1 ≤ s.size) = True := eq_true (by omega)
      clear h0 h1 hY hx ho hc' HE
      dsimp only at hy
      have hsl : ∀ wx : World, (Instr.slice 9 (.string s) (some (.int .i64 (i : Int))) (some (.int .i64 ((i : Int) + 1))) none).run Try.prog wx = .ok (.string (s.extract i (i + 1))) wx := fun wx => by
        have := run_slice_string (P := Try.prog) wx 9 s .i64 .i64 (i : Int) ((i : Int) + 1) Try.underlying9 (by omega) (by omega) (by have := HL.out; omega)
        rwa [Int.toNat_natCast, show ((i : Int) + 1).toNat = i + 1 by omega] at this
      gi_wp2
      clear hsl
      refine hR.mono ?_
      rintro e W3 (⟨rfl, hJ3, hk3⟩ | ⟨rfl, hJx3⟩)
      · have hc3 := (hk3.cell (p := ⟨Bn, 0, none⟩) hB).trans hc
        gi_wp2
        go_roundw
        case rel => exact ⟨i + 1, pre ++ [((i : Int), s.extract i (i + 1))], rfl, ⟨by have := HL.out; omega⟩, ⟨by rw [HT.out]; simp⟩, hJ3, hc3⟩
        case measure => have := HL.out; simp [intOf]; omega
      · gi_wp2
        refine bodyPost_ret (results_none rfl _ _ _) rfl ?_
        exact ⟨⟨_, rfl⟩, .inr ⟨pre ++ [((i : Int), s.extract i (i + 1))], ⟨items s (i + 1), by rw [HT.out]; simp⟩, hJx3⟩⟩
    have f1 : ((s[i].toNat : Int) != 1) = true := by rw [bne_iff_ne]; intro h; exact h1 (UInt8.toNat_inj.1 (by show s[i].toNat = 1; omega))
    have f2 : (s[i].toNat != 1) = true := by rw [bne_iff_ne]; intro h; exact h1 (UInt8.toNat_inj.1 h)
    have hmx : Try.prog.follows .mixedOrders = true := by kernel_rfl
    have hc' : i < (bl s).length ∧ (bl s).getD i 0 ≠ 0 := ⟨by rw [bl_length]; exact hlt, by rw [hx]; exact h0⟩
    have w1_ : wrap64 ((i : Int) + 1) = (i : Int) + 1 := by have := HS.out; unfold wrap64; omega
    have w2_ : IntKind.i64.wrap ((i : Int) + 1) = (i : Int) + 1 := by have := HS.out; rw [IntKind.wrap_i64]; omega
    have HL := Aside0.mk hlt
    by_cases hend : i + 1 = s.size
    · have g1 : (((i : Int) + 1) == (s.size : Int)) = true := by rw [beq_iff_eq]; omega
      have g2 : ((i + 1) == s.size) = true := by rw [beq_iff_eq]; exact hend
      have ho : optLen (bl s) i = none := by unfold optLen; rw [hx, if_neg h1, if_pos (.inl (by rw [bl_length]; exact hend))]
      have HE := Aside0.mk (items_bad hc' ho)
      rw [HE.out] at HT
      obtain ⟨fn, tmps, assign, body, hy, hR⟩ := hY pre ((-1 : Int), (⟨#[]⟩ : ByteArray)) wr.drew (hA _ _ 1 hJ) (by rw [HT.out]; simp) (by rw [HT.out]; simp)
      dsimp only at hy
      clear h0 h1 hY hx ho hc' HE hend
      gi_wp2
      refine wpIn_wide.2 ?_
      go_region
      gi_wp2
      refine hR.mono ?_
      rintro e W3 (⟨rfl, hJ3, hk3⟩ | ⟨rfl, hJx3⟩)
      · gi_wp2
        refine bodyPost_ret (results_none rfl _ _ _) rfl ?_
        exact ⟨⟨_, rfl⟩, .inl ⟨pre ++ [(-1, ⟨#[]⟩)], by rw [HT.out], hJ3⟩⟩
      · gi_wp2
        refine bodyPost_ret (results_none rfl _ _ _) rfl ?_
        exact ⟨⟨_, rfl⟩, .inr ⟨pre ++ [(-1, ⟨#[]⟩)], by rw [HT.out]; exact List.prefix_refl _, hJx3⟩⟩
    have hl2 : i + 1 < s.size := by omega
    have g1 : (((i : Int) + 1) == (s.size : Int)) = false := by rw [beq_eq_false_iff_ne]; omega
    have g2 : ((i + 1) == s.size) = false := by rw [beq_eq_false_iff_ne]; exact hend
    obtain ⟨m, hm⟩ : ∃ m : Nat, m = s[i + 1].toNat := ⟨_, rfl⟩
    have hx1 : ((bl s).getD (i + 1) 0).toNat = m := by
      rw [hm]; simp [List.getD_eq_getElem?_getD, List.getElem?_eq_getElem (show i + 1 < (bl s).length by rw [bl_length]; exact hl2)]; rfl
    have HM := Aside0.mk (show m < 256 by rw [hm]; exact s[i + 1].toNat_lt)
    have hix : ∀ wx : World, (Instr.index 9 (.string s) (.int .i64 ((i : Int) + 1))).run Try.prog wx = .ok (.int .u8 (m : Int)) wx := fun wx => by
      rw [run_index_string (P := Try.prog) (w := wx) 9 s .i64 ((i : Int) + 1) Try.underlying9, dif_pos ⟨by omega, by omega⟩, hm]
      congr 1
    have HEND := Aside0.mk hend
    clear hm hend
    by_cases hm2 : m < 2
    · have g3 : decide ((m : Int) < 2) = true := decide_eq_true (by omega)
      have g4 : decide (m < 2) = true := decide_eq_true hm2
      have ho : optLen (bl s) i = none := by unfold optLen; rw [hx, if_neg h1, if_pos (.inr (.inl (by rw [hx1]; exact hm2)))]
      have HE := Aside0.mk (items_bad hc' ho)
      rw [HE.out] at HT
      obtain ⟨fn, tmps, assign, body, hy, hR⟩ := hY pre ((-1 : Int), (⟨#[]⟩ : ByteArray)) wr.drew (hA _ _ 1 hJ) (by rw [HT.out]; simp) (by rw [HT.out]; simp)
      dsimp only at hy
      clear h0 h1 hY hx ho hc' HE hm2 hx1
      gi_wp2
      refine wpIn_wide.2 ?_
      go_region
      gi_wp2
      refine hR.mono ?_
      rintro e W3 (⟨rfl, hJ3, hk3⟩ | ⟨rfl, hJx3⟩)
      · gi_wp2
        refine bodyPost_ret (results_none rfl _ _ _) rfl ?_
        exact ⟨⟨_, rfl⟩, .inl ⟨pre ++ [(-1, ⟨#[]⟩)], by rw [HT.out], hJ3⟩⟩
      · gi_wp2
        refine bodyPost_ret (results_none rfl _ _ _) rfl ?_
        exact ⟨⟨_, rfl⟩, .inr ⟨pre ++ [(-1, ⟨#[]⟩)], by rw [HT.out]; exact List.prefix_refl _, hJx3⟩⟩
    have g3 : decide ((m : Int) < 2) = false := decide_eq_false (by omega)
    have g4 : decide (m < 2) = false := decide_eq_false hm2
    have HQ : i + m ≤ 140737488351232 + 256 := Nat.add_le_add (Nat.le_trans (Nat.le_of_lt HL.out) HS.out) (Nat.le_of_lt HM.out)
    have w5_ := (wr_one m HM.out).1
    have w6_ := (wr_one m HM.out).2
    have w3_ := (wr_two i m HQ).1
    have w4_ := (wr_two i m HQ).2
    by_cases hms : s.size < i + m
    · have g5 : decide ((s.size : Int) < (i : Int) + (m : Int)) = true := decide_eq_true (lt_two hms)
      have g6 : decide (s.size < i + m) = true := decide_eq_true hms
      have ho : optLen (bl s) i = none := by unfold optLen; rw [hx, if_neg h1, if_pos (.inr (.inr (by rw [hx1, bl_length]; exact hms)))]
      have HE := Aside0.mk (items_bad hc' ho)
      rw [HE.out] at HT
      obtain ⟨fn, tmps, assign, body, hy, hR⟩ := hY pre ((-1 : Int), (⟨#[]⟩ : ByteArray)) wr.drew (hA _ _ 1 hJ) (by rw [HT.out]; simp) (by rw [HT.out]; simp)
      dsimp only at hy
      clear h0 h1 hY hx ho hc' HE hm2 hx1 hms
      gi_wp2
      refine wpIn_wide.2 ?_
      go_region
      gi_wp2
      refine hR.mono ?_
      rintro e W3 (⟨rfl, hJ3, hk3⟩ | ⟨rfl, hJx3⟩)
      · gi_wp2
        refine bodyPost_ret (results_none rfl _ _ _) rfl ?_
        exact ⟨⟨_, rfl⟩, .inl ⟨pre ++ [(-1, ⟨#[]⟩)], by rw [HT.out], hJ3⟩⟩
      · gi_wp2
        refine bodyPost_ret (results_none rfl _ _ _) rfl ?_
        exact ⟨⟨_, rfl⟩, .inr ⟨pre ++ [(-1, ⟨#[]⟩)], by rw [HT.out]; exact List.prefix_refl _, hJx3⟩⟩
    have g5 : decide ((s.size : Int) < (i : Int) + (m : Int)) = false := decide_eq_false (not_lt_two hms)
    have g6 : decide (s.size < i + m) = false := decide_eq_false hms
    have ho : optLen (bl s) i = some m := by unfold optLen; rw [hx, if_neg h1, hx1, if_neg (by rw [bl_length]; exact fun h => h.elim HEND.out (fun h => h.elim hm2 hms))]
    have HE := Aside0.mk (items_step hc' ho)
    rw [HE.out] at HT
    obtain ⟨fn, tmps, assign, body, hy, hR⟩ := hY pre ((i : Int), s.extract i (i + m)) wr.drew (hA _ _ 1 hJ) (by rw [HT.out]; simp) (by rw [HT.out]; simp)
    dsimp only at hy
    have HN := Aside0.mk (show 2 ≤ m ∧ i + m ≤ s.size from ⟨Nat.le_of_not_lt hm2, Nat.le_of_not_lt hms⟩)
    have hsl : ∀ wx : World, (Instr.slice 9 (.string s) (some (.int .i64 (i : Int))) (some (.int .i64 ((i : Int) + (m : Int)))) none).run Try.prog wx = .ok (.string (s.extract i (i + m))) wx := fun wx => by
      have := run_slice_string (P := Try.prog) wx 9 s .i64 .i64 (i : Int) ((i : Int) + (m : Int)) Try.underlying9 (Int.natCast_nonneg _) (le_two i m) (le_two' HN.out.2)
      rwa [Int.toNat_natCast, show ((i : Int) + (m : Int)).toNat = i + m from toNat_two i m] at this
    clear h0 h1 hY hx ho hc' HE hm2 hx1 hms
    gi_wp2
    refine wpIn_wide.2 ?_
    go_region
    have hc2 : wr.drew.cell? ⟨Bn, 0, none⟩ = some (.string s) := hc
    gi_wp2
    clear hsl hix
    refine hR.mono ?_
    rintro e W3 (⟨rfl, hJ3, hk3⟩ | ⟨rfl, hJx3⟩)
    · have hc3 := (hk3.cell (p := ⟨Bn, 0, none⟩) hB).trans hc2
      gi_wp2
      go_roundw
      case rel => exact ⟨i + m, pre ++ [((i : Int), s.extract i (i + m))], by simp, ⟨HN.out.2⟩, ⟨by rw [HT.out]; simp⟩, hJ3, hc3⟩
      case measure => simp only [intOf]; exact less_two HN.out.1 HL.out
    · gi_wp2
      refine bodyPost_ret (results_none rfl _ _ _) rfl ?_
      exact ⟨⟨_, rfl⟩, .inr ⟨pre ++ [((i : Int), s.extract i (i + m))], ⟨items s (i + m), by rw [HT.out]; simp⟩, hJx3⟩⟩
/-- What is yielded of options that are right has a byte at least. -/
abbrev ItemR := { x : Int × ByteArray // 0 < x.2.size }
abbrev encR (x : ItemR) : Array Value := #[.int .i64 x.1.1, .string x.1.2]
abbrev encI (x : Int × ByteArray) : Array Value := #[.int .i64 x.1, .string x.2]
theorem walk_stops (n : Nat) (hn : 1 ≤ n) (Bn n₀ : Nat) (s : ByteArray) (hs : s.size ≤ 140737488351232) (w : World) (hB : Bn < n₀) (hn₀ : n₀ ≤ w.heap.size) (hc : w.cell? ⟨Bn, 0, none⟩ = some (.string s)) :
    SeqStopsK Fence.wide n Try.prog 159 #[.pointer (some ⟨Bn, 0, none⟩)] encI (Below n₀) (fun ys => ys = items s 0) (fun pre => pre <+: items s 0) (items s 0).length w := fun l J Jx W hW hJ _ hY h0 =>
  walk1_in n hn l Bn n₀ s hs J Jx (fun p W k h => hJ p W (W.drewN k) none h (grown_drewN (grown_refl W none) k) (fun r e => by cases e)) (fun pre x W h1 h2 _ => hY pre x W h1 h2) W hB ((hW.cell (p := ⟨Bn, 0, none⟩) (Nat.lt_of_lt_of_le hB hn₀)).trans hc) h0
theorem walk_stopsR (n : Nat) (hn : 1 ≤ n) (Bn n₀ : Nat) (s : ByteArray) (hs : s.size ≤ 140737488351232) (hr : ∀ x ∈ items s 0, 0 < x.2.size) (w : World) (hB : Bn < n₀) (hn₀ : n₀ ≤ w.heap.size) (hc : w.cell? ⟨Bn, 0, none⟩ = some (.string s)) :
    SeqStopsK Fence.wide n Try.prog 159 #[.pointer (some ⟨Bn, 0, none⟩)] encR (Below n₀) (fun ys => ys.map (·.1) = items s 0) (fun pre => pre.map (·.1) <+: items s 0) (items s 0).length w := fun l J Jx W hW hJ _ hY h0 => by
  refine (walk1_in n hn l Bn n₀ s hs (fun pre W => ∃ q : List ItemR, q.map (·.1) = pre ∧ J q W) (fun pre W => ∃ q : List ItemR, q.map (·.1) = pre ∧ Jx q W)
    (fun p W k h => by obtain ⟨q, rfl, h⟩ := h; exact ⟨q, rfl, hJ q W (W.drewN k) none h (grown_drewN (grown_refl W none) k) (fun r e => by cases e)⟩)
    (fun pre x W h1 h2 h3 => ?_) W hB ((hW.cell (p := ⟨Bn, 0, none⟩) (Nat.lt_of_lt_of_le hB hn₀)).trans hc) ⟨[], rfl, h0⟩).mono ?_
  · obtain ⟨q, rfl, h1⟩ := h1
    obtain ⟨fn, tmps, assign, body, hy, hR⟩ := hY q ⟨x, hr x (h3.subset (by simp))⟩ W h1 (by simpa using h2)
    refine ⟨fn, tmps, assign, body, hy, hR.mono ?_⟩
    rintro e W3 (⟨rfl, hJ3, hk3⟩ | ⟨rfl, hJx3⟩)
    · exact .inl ⟨rfl, ⟨_, by simp, hJ3⟩, hk3⟩
    · exact .inr ⟨rfl, _, by simp, hJx3⟩
  · rintro e W' ⟨he, ⟨ys, h1, q, rfl, h2⟩ | ⟨pre, h1, q, rfl, h2⟩⟩
    · exact ⟨he, .inl ⟨q, h1, h2⟩⟩
    · exact ⟨he, .inr ⟨q, h1, h2⟩⟩
end Go.Proofs.Ytejmipoolbodgaa.G
