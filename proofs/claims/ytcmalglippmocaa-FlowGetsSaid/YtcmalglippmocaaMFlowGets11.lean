/- Texts of this session, joined: each is a section. -/
import Derived.Test.YtcmalglippmocaaMFlowGets10
import Derived.Test.YtcmalglippmocaaMFlowGets6
import Derived.Test.YtcmalglippmocaaMFlowGets9
import Derived.Test.YtcmalglippmocaaMFlowGets1
import Derived.Test.YtcmalglippmocaaMFlowGets4
import Derived.Test.YtcmalglippmocaaMFlowGets7
import Derived.Test.YtcmalglippmocaaMFlowGets3
import Derived.Test.YtcmalglippmocaaMFlowGets8
set_option linter.unusedVariables false
set_option linter.unusedSimpArgs false
section
/- Plain facts for Ip6Cuts: what ip6.Get tells of a packet with a byte less or more, of another version, with another payload. -/
namespace Go.Proofs.Ytcmalglippmocaa.Pure
open Go.RowKit Go.Proofs.YtcmalglippmocaaW.PrintWords Go.Proofs.YtcmalglippmocaaW.PrintLast Go.Proofs.Ytcmalglippmocaa.G Go.Proofs.Ytcmalglippmocaa.Pal
set_option linter.unusedVariables false
end Go.Proofs.Ytcmalglippmocaa.Pure
end

section
/- Plain facts of flow.Get: what is got of a packet. -/
namespace Go.Proofs.Ytcmalglippmocaa.Pure
open Go.RowKit Go.Proofs.YtcmalglippmocaaW.PrintWords Go.Proofs.YtcmalglippmocaaW.PrintLast Go.Proofs.Ytcmalglippmocaa.G Go.Proofs.Ytcmalglippmocaa.Pal
set_option linter.unusedVariables false
namespace FG
theorem bt_one (s : ByteArray) (i : Nat) (h : i < s.size) : bt s (i : Int) = ((be (bl (s.extract i (i + 1))) : Nat) : Int) := by
  have e : ((bl s).take (i + 1)).drop i = [(bl s)[i]'(by rw [bl_length]; exact h)] := by
    rw [List.drop_take, show i + 1 - i = 1 by omega, List.drop_eq_getElem_cons (by rw [bl_length]; exact h)]; rfl
  rw [bt_bl s i h, cut_bl, e]
  simp [be]
def okR (proto p3 : Int) (src dst pay : ByteArray) (bare : Bool) : Bool := if proto = 17 ∧ p3 = 0 then bare else decide (csum (bl (psB src dst proto (pay.size : Int)) ++ bl pay) = 0)
theorem fin_some {proto p1 p2 p3 : Int} {src dst pay : ByteArray} (bare : Bool) (hp : proto = 6 ∨ proto = 17) (hports : flow_ports.f proto pay = some (p1, p2, p3, 0)) (hs : src.size ≤ 300) (hd : dst.size ≤ 300) (hz : pay.size ≤ 1000000000) :
    flow_fin proto src dst pay false bare = some (if okR proto p3 src dst pay bare = true then (proto, src, dst, p1, p2, 0) else flow_bad 5) := by
  have hz1 := psB_size src dst proto pay.size
  have hz2 := (psT_size (src.size == 16) proto pay.size).2
  unfold flow_fin okR
  rw [if_neg (by decide), if_neg (by rcases hp with rfl | rfl <;> decide), hports, Option.bind_some]
  dsimp +instances only
  rw [if_neg (fun h => h rfl), pseudo_some src dst hs hd, Option.bind_some, right2 _ _ (by omega), Option.bind_some]
  split <;> split <;> rfl
theorem fin_err {proto p1 p2 p3 p4 : Int} {src dst pay : ByteArray} (bare : Bool) (hp : proto = 6 ∨ proto = 17) (hports : flow_ports.f proto pay = some (p1, p2, p3, p4)) (h4 : p4 ≠ 0) : flow_fin proto src dst pay false bare = some (flow_bad p4) := by
  unfold flow_fin
  rw [if_neg (by decide), if_neg (by rcases hp with rfl | rfl <;> decide), hports, Option.bind_some]
  dsimp +instances only
  rw [if_pos h4]
theorem fin_other {proto : Int} {src dst pay : ByteArray} (bare : Bool) (hp : proto ≠ 6 ∧ proto ≠ 17) : flow_fin proto src dst pay false bare = some (flow_bad 6) := by
  unfold flow_fin
  rw [if_neg (by decide), if_pos hp]
theorem fin_piece {proto : Int} {src dst pay : ByteArray} (bare : Bool) : flow_fin proto src dst pay true bare = some (flow_bad 14) := by
  unfold flow_fin; rw [if_pos rfl]
theorem ports_ex (proto : Int) {pay : ByteArray} (hz : pay.size ≤ 1000000) : ∃ p1 p2 p3 p4, flow_ports.f proto pay = some (p1, p2, p3, p4) := by
  unfold flow_ports.f
  by_cases h6 : proto = 6
  · obtain ⟨⟨d1, d2, d3, d4, d5, d6, d7, d8, d9, d10, d11⟩, hd'⟩ : ∃ d, tcp_Get.f pay = some d := ⟨_, getT_is (by omega)⟩
    rw [if_pos h6, hd', Option.bind_some]; exact ⟨_, _, _, _, rfl⟩
  · obtain ⟨⟨d1, d2, d3, d4, d5⟩, hd'⟩ : ∃ d, udp_Get.f pay = some d := ⟨_, get_is (by omega)⟩
    rw [if_neg h6, hd', Option.bind_some]; exact ⟨_, _, _, _, rfl⟩
theorem fin_ex (proto : Int) {src dst pay : ByteArray} (piece bare : Bool) (hs : src.size ≤ 300) (hd : dst.size ≤ 300) (hz : pay.size ≤ 1000000) : ∃ r, flow_fin proto src dst pay piece bare = some r := by
  cases piece with
  | true => exact ⟨_, fin_piece bare⟩
  | false =>
    by_cases hp : proto ≠ 6 ∧ proto ≠ 17
    · exact ⟨_, fin_other bare hp⟩
    · have hp' : proto = 6 ∨ proto = 17 := by omega
      obtain ⟨p1, p2, p3, p4, h⟩ := ports_ex proto hz
      by_cases h4 : p4 = 0
      · subst h4; exact ⟨_, fin_some bare hp' h hs hd (by omega)⟩
      · exact ⟨_, fin_err bare hp' h h4⟩
theorem flow_some (s : ByteArray) (hs : s.size ≤ 1000000) : ∃ r, flow_Get.f s = some r := by
  unfold flow_Get.f
  split
  · exact ⟨_, rfl⟩
  split
  · unfold ip4_Get.f
    rw [if_pos (by omega)]
    by_cases he : ip4Err s = 0
    · have hE := (err4_zero he).1
      rw [if_pos he, Option.bind_some]
      dsimp +instances only
      rw [if_neg (fun h => h rfl)]
      exact fin_ex _ _ _ (by rw [ByteArray.size_extract]; omega) (by rw [ByteArray.size_extract]; omega) (by rw [ByteArray.size_extract]; omega)
    · rw [if_neg he, Option.bind_some]
      dsimp +instances only
      rw [if_pos he]
      exact ⟨_, rfl⟩
  split
  · unfold ip6_Get.f
    rw [if_pos (by omega)]
    by_cases he : ip6Err s = 0
    · rw [if_pos he, Option.bind_some]
      dsimp +instances only
      rw [if_neg (fun h => h rfl)]
      exact fin_ex _ _ _ (by rw [ByteArray.size_extract]; omega) (by rw [ByteArray.size_extract]; omega) (by rw [ByteArray.size_extract]; omega)
    · rw [if_neg he, Option.bind_some]
      dsimp +instances only
      rw [if_pos he]
      exact ⟨_, rfl⟩
  · exact ⟨_, rfl⟩
end FG
end Go.Proofs.Ytcmalglippmocaa.Pure
end

section
/- Plain facts of palanquinref02: its sum is the checksum. -/
namespace Go.Proofs.Ytcmalglippmocaa.Pure
open Go.RowKit Go.Proofs.YtcmalglippmocaaW.PrintWords Go.Proofs.YtcmalglippmocaaW.PrintLast Go.Proofs.Ytcmalglippmocaa.G Go.Proofs.Ytcmalglippmocaa.Pal
namespace R2
/-- fewer rounds: each takes at least 65535 away -/
theorem down_fast : ∀ (k n : Nat), n ≤ 4294967296 → 2 < k → palanquinref02_down.f k (n : Int) = some ((fold16 n : Nat) : Int) := by
  intro k n hn hk
  obtain ⟨k, rfl⟩ : ∃ j, k = j + 3 := ⟨k - 3, by omega⟩
  have step : ∀ m : Nat, m ≤ 4294967296 → (m : Int) ≥ 65536 → wrap64 (Int.tmod (m : Int) 65536 + wrap64 (Int.tdiv (m : Int) 65536)) = ((m % 65536 + m / 65536 : Nat) : Int) := fun m hm h => by
    rw [Int.tmod_eq_emod_of_nonneg (by omega), Int.tdiv_eq_ediv_of_nonneg (by omega)]; unfold wrap64; omega
  unfold palanquinref02_down.f
  rw [palanquinref02_down.l0]
  by_cases h : (n : Int) ≥ 65536
  · rw [if_pos h, step n hn h, palanquinref02_down.l0]
    by_cases h2 : ((n % 65536 + n / 65536 : Nat) : Int) ≥ 65536
    · rw [if_pos h2, step _ (by omega) h2, palanquinref02_down.l0, if_neg (by omega)]
      congr 2
      rw [← fold16_step n, ← fold16_step (n % 65536 + n / 65536), fold16_id _ (by omega)]
    · rw [if_neg h2]
      congr 2
      rw [← fold16_step n, fold16_id _ (by omega)]
  · rw [if_neg h, fold16_id n (by omega)]
theorem tot_two (l : List UInt8) (i : Nat) (h : i + 1 < l.length) : tot false (l.take (i + 2)) = tot false (l.take i) + tot (odd (l.take i)) [l[i], l[i + 1]] := by
  have e : l.take (i + 2) = l.take i ++ [l[i], l[i + 1]] := by
    rw [List.take_succ_eq_append_getElem (by omega), List.take_succ_eq_append_getElem (by omega), List.append_assoc]; rfl
  rw [e, tot_append]
  cases odd (l.take i) <;> rfl
theorem sum_end (s : ByteArray) (hs : s.size ≤ 6000) (k : Nat) (hk : 3 < k) : palanquinref02_Sum.l0 k s ((tot false (bl s) : Nat) : Int) (s.size : Int) = some ((65535 - fold16 (tot false (bl s)) : Nat) : Int) := by
  obtain ⟨k, rfl⟩ : ∃ j, k = j + 1 := ⟨k - 1, by omega⟩
  have hb := tot_le (bl s) false
  rw [bl_length] at hb
  rw [palanquinref02_Sum.l0, if_neg (by omega), down_fast k _ (by omega) (by omega), Option.bind_some]
  have := fold16_le (tot false (bl s))
  congr 1; unfold wrap64; omega
theorem sum_num (z x y : Nat) (hz : z ≤ 391680000) (hx : x < 2 ^ 8) (hy : y < 2 ^ 8) : wrap64 (wrap64 ((z : Int) + wrap64 (wrap64 (x : Int) * 256)) + wrap64 (y : Int)) = ((z + (x * 256 + y) : Nat) : Int) := by
  have e1 : wrap64 (x : Int) = x := by unfold wrap64; omega
  have e2 : wrap64 (y : Int) = y := by unfold wrap64; omega
  have e3 : wrap64 ((x : Int) * 256) = (x : Int) * 256 := by unfold wrap64; omega
  have e4 : wrap64 ((z : Int) + (x : Int) * 256) = (z : Int) + (x : Int) * 256 := by unfold wrap64; omega
  rw [e1, e2, e3, e4]
  unfold wrap64; omega
theorem sum_step (s : ByteArray) (hs : s.size ≤ 6000) (i k : Nat) (hi : i % 2 = 0) (h1 : i + 1 < s.size) :
    palanquinref02_Sum.l0 (k + 1) s ((tot false ((bl s).take i) : Nat) : Int) (i : Int) = palanquinref02_Sum.l0 k s ((tot false ((bl s).take (i + 2)) : Nat) : Int) ((i + 2 : Nat) : Int) := by
  have h0 : i < s.size := by omega
  have hl1 : i + 1 < (bl s).length := by rw [bl_length]; exact h1
  have hb := tot_le ((bl s).take i) false
  have hl : ((bl s).take i).length ≤ 6000 := by rw [List.length_take, bl_length]; omega
  have ho : odd ((bl s).take i) = false := by
    unfold odd; rw [List.length_take, bl_length, Nat.min_eq_left (by omega), hi]; rfl
  have ht := tot_two (bl s) i hl1
  rw [ho] at ht
  simp only [tot, Nat.add_zero] at ht
  have b0 := (bl s)[i].toNat_lt
  have b1 := (bl s)[i + 1].toNat_lt
  have w1 : wrap64 ((i : Int) + 1) = ((i + 1 : Nat) : Int) := by unfold wrap64; omega
  have w2 : wrap64 ((i : Int) + 2) = ((i + 2 : Nat) : Int) := by unfold wrap64; omega
  have g0 : bt s (i : Int) = (((bl s)[i].toNat : Nat) : Int) := bt_bl s i h0
  have g1 : bt s ((i + 1 : Nat) : Int) = (((bl s)[i + 1].toNat : Nat) : Int) := bt_bl s (i + 1) h1
  rw [ht]
  generalize (bl s)[i].toNat = x at b0 g0 ⊢
  generalize (bl s)[i + 1].toNat = y at b1 g1 ⊢
  have hz : tot false ((bl s).take i) ≤ 391680000 := by omega
  generalize tot false ((bl s).take i) = z at hz ⊢
  clear hb hl ho ht hl1 hs
  rw [palanquinref02_Sum.l0, if_pos (by omega), if_pos (by omega), w1, w2, if_pos (by omega), if_pos (by omega), g0, g1]
  rw [sum_num z x y hz b0 b1]
theorem sum_loop (s : ByteArray) (hs : s.size ≤ 6000) (he : s.size % 2 = 0) (n : Nat) : ∀ (i k : Nat), i + 2 * n = s.size → n + 3 < k →
    palanquinref02_Sum.l0 k s ((tot false ((bl s).take i) : Nat) : Int) (i : Int) = some ((65535 - fold16 (tot false (bl s)) : Nat) : Int) := by
  induction n with
  | zero =>
    intro i k hi hk
    have e := sum_end s hs k (by omega)
    rw [List.take_of_length_le (by rw [bl_length]; omega), show i = s.size by omega]
    exact e
  | succ n ih =>
    intro i k hi hk
    obtain ⟨k, rfl⟩ : ∃ j, k = j + 1 := ⟨k - 1, by omega⟩
    rw [sum_step s hs i k (by omega) (by omega)]
    exact ih (i + 2) k (by omega) (by omega)
theorem zero_is : strOfNums [0] = ⟨#[0]⟩ := by simp [strOfNums]
theorem ref_sum (s : ByteArray) (hs : s.size ≤ 5000) (k : Nat) (hk : 5000 < k) : palanquinref02_Sum.f k s = some ((csum (bl s) : Nat) : Int) := by
  unfold palanquinref02_Sum.f
  obtain ⟨k, rfl⟩ : ∃ j, k = j + 1 := ⟨k - 1, by omega⟩
  by_cases h : (s.size : Int) % 2 = 1
  · have h1 : (⟨#[0]⟩ : ByteArray).size = 1 := rfl
    rw [if_pos h, Option.bind_some, zero_is, if_pos (by rw [h1]; omega), palanquinref02_Sum.j0]
    have e := sum_loop (s ++ ⟨#[0]⟩) (by rw [ByteArray.size_append, h1]; omega) (by rw [ByteArray.size_append, h1]; omega) ((s.size + 1) / 2) 0 k (by rw [ByteArray.size_append, h1]; omega) (by omega)
    refine Eq.trans e ?_
    rw [bl_append, tot_append]
    unfold csum
    have : ∀ o, tot o (bl (⟨#[0]⟩ : ByteArray)) = 0 := fun o => by cases o <;> rfl
    rw [this]; rfl
  · rw [if_neg h, palanquinref02_Sum.j0]
    exact sum_loop s (by omega) (by omega) (s.size / 2) 0 k (by omega) (by omega)
end R2
end Go.Proofs.Ytcmalglippmocaa.Pure
end

section
/- Plain facts of palanquinref02: its sum is the checksum, for texts up to 80000 bytes. -/
namespace Go.Proofs.Ytcmalglippmocaa.Pure
open Go.RowKit Go.Proofs.YtcmalglippmocaaW.PrintWords Go.Proofs.YtcmalglippmocaaW.PrintLast Go.Proofs.Ytcmalglippmocaa.G Go.Proofs.Ytcmalglippmocaa.Pal
namespace R2
theorem down_fastL : ∀ (k n : Nat), n ≤ 1099511627776 → 3 < k → palanquinref02_down.f k (n : Int) = some ((fold16 n : Nat) : Int) := by
  intro k n hn hk
  by_cases hs : n ≤ 4294967296
  · exact down_fast k n hs (by omega)
  obtain ⟨k, rfl⟩ : ∃ j, k = j + 1 := ⟨k - 1, by omega⟩
  have step : wrap64 (Int.tmod (n : Int) 65536 + wrap64 (Int.tdiv (n : Int) 65536)) = ((n % 65536 + n / 65536 : Nat) : Int) := by
    rw [Int.tmod_eq_emod_of_nonneg (by omega), Int.tdiv_eq_ediv_of_nonneg (by omega)]; unfold wrap64; omega
  have e := down_fast k (n % 65536 + n / 65536) (by omega) (by omega)
  unfold palanquinref02_down.f at e ⊢
  rw [palanquinref02_down.l0, if_pos (by omega), step, e, fold16_step]
theorem sum_endL (s : ByteArray) (hs : s.size ≤ 80000) (k : Nat) (hk : 4 < k) : palanquinref02_Sum.l0 k s ((tot false (bl s) : Nat) : Int) (s.size : Int) = some ((65535 - fold16 (tot false (bl s)) : Nat) : Int) := by
  obtain ⟨k, rfl⟩ : ∃ j, k = j + 1 := ⟨k - 1, by omega⟩
  have hb := tot_le (bl s) false
  rw [bl_length] at hb
  rw [palanquinref02_Sum.l0, if_neg (by omega), down_fastL k _ (by omega) (by omega), Option.bind_some]
  have := fold16_le (tot false (bl s))
  congr 1; unfold wrap64; omega
theorem sum_numL (z x y : Nat) (hz : z ≤ 5222400000) (hx : x < 2 ^ 8) (hy : y < 2 ^ 8) : wrap64 (wrap64 ((z : Int) + wrap64 (wrap64 (x : Int) * 256)) + wrap64 (y : Int)) = ((z + (x * 256 + y) : Nat) : Int) := by
  have e1 : wrap64 (x : Int) = x := by unfold wrap64; omega
  have e2 : wrap64 (y : Int) = y := by unfold wrap64; omega
  have e3 : wrap64 ((x : Int) * 256) = (x : Int) * 256 := by unfold wrap64; omega
  have e4 : wrap64 ((z : Int) + (x : Int) * 256) = (z : Int) + (x : Int) * 256 := by unfold wrap64; omega
  rw [e1, e2, e3, e4]
  unfold wrap64; omega
theorem sum_stepL (s : ByteArray) (hs : s.size ≤ 80000) (i k : Nat) (hi : i % 2 = 0) (h1 : i + 1 < s.size) :
    palanquinref02_Sum.l0 (k + 1) s ((tot false ((bl s).take i) : Nat) : Int) (i : Int) = palanquinref02_Sum.l0 k s ((tot false ((bl s).take (i + 2)) : Nat) : Int) ((i + 2 : Nat) : Int) := by
  have h0 : i < s.size := by omega
  have hl1 : i + 1 < (bl s).length := by rw [bl_length]; exact h1
  have hb := tot_le ((bl s).take i) false
  have hl : ((bl s).take i).length ≤ 80000 := by rw [List.length_take, bl_length]; omega
  have ho : odd ((bl s).take i) = false := by
    unfold odd; rw [List.length_take, bl_length, Nat.min_eq_left (by omega), hi]; rfl
  have ht := tot_two (bl s) i hl1
  rw [ho] at ht
  simp only [tot, Nat.add_zero] at ht
  have b0 := (bl s)[i].toNat_lt
  have b1 := (bl s)[i + 1].toNat_lt
  have w1 : wrap64 ((i : Int) + 1) = ((i + 1 : Nat) : Int) := by unfold wrap64; omega
  have w2 : wrap64 ((i : Int) + 2) = ((i + 2 : Nat) : Int) := by unfold wrap64; omega
  have g0 : bt s (i : Int) = (((bl s)[i].toNat : Nat) : Int) := bt_bl s i h0
  have g1 : bt s ((i + 1 : Nat) : Int) = (((bl s)[i + 1].toNat : Nat) : Int) := bt_bl s (i + 1) h1
  rw [ht]
  generalize (bl s)[i].toNat = x at b0 g0 ⊢
  generalize (bl s)[i + 1].toNat = y at b1 g1 ⊢
  have hz : tot false ((bl s).take i) ≤ 5222400000 := by omega
  generalize tot false ((bl s).take i) = z at hz ⊢
  clear hb hl ho ht hl1 hs
  rw [palanquinref02_Sum.l0, if_pos (by omega), if_pos (by omega), w1, w2, if_pos (by omega), if_pos (by omega), g0, g1]
  rw [sum_numL z x y hz b0 b1]
theorem sum_loopL (s : ByteArray) (hs : s.size ≤ 80000) (he : s.size % 2 = 0) (n : Nat) : ∀ (i k : Nat), i + 2 * n = s.size → n + 4 < k →
    palanquinref02_Sum.l0 k s ((tot false ((bl s).take i) : Nat) : Int) (i : Int) = some ((65535 - fold16 (tot false (bl s)) : Nat) : Int) := by
  induction n with
  | zero =>
    intro i k hi hk
    have e := sum_endL s hs k (by omega)
    rw [List.take_of_length_le (by rw [bl_length]; omega), show i = s.size by omega]
    exact e
  | succ n ih =>
    intro i k hi hk
    obtain ⟨k, rfl⟩ : ∃ j, k = j + 1 := ⟨k - 1, by omega⟩
    rw [sum_stepL s hs i k (by omega) (by omega)]
    exact ih (i + 2) k (by omega) (by omega)
theorem ref_sumL (s : ByteArray) (hs : s.size ≤ 79000) (k : Nat) (hk : s.size + 10 < k) : palanquinref02_Sum.f k s = some ((csum (bl s) : Nat) : Int) := by
  unfold palanquinref02_Sum.f
  obtain ⟨k, rfl⟩ : ∃ j, k = j + 1 := ⟨k - 1, by omega⟩
  by_cases h : (s.size : Int) % 2 = 1
  · have h1 : (⟨#[0]⟩ : ByteArray).size = 1 := rfl
    rw [if_pos h, Option.bind_some, zero_is, if_pos (by rw [h1]; omega), palanquinref02_Sum.j0]
    have e := sum_loopL (s ++ ⟨#[0]⟩) (by rw [ByteArray.size_append, h1]; omega) (by rw [ByteArray.size_append, h1]; omega) ((s.size + 1) / 2) 0 k (by rw [ByteArray.size_append, h1]; omega) (by omega)
    refine Eq.trans e ?_
    rw [bl_append, tot_append]
    unfold csum
    have : ∀ o, tot o (bl (⟨#[0]⟩ : ByteArray)) = 0 := fun o => by cases o <;> rfl
    rw [this]; rfl
  · rw [if_neg h, palanquinref02_Sum.j0]
    exact sum_loopL s (by omega) (by omega) (s.size / 2) 0 k (by omega) (by omega)
theorem bl_inj' {a b : ByteArray} (h : bl a = bl b) : a = b := ByteArray.ext (Array.toList_inj.mp h)
theorem mask8 (x : Int) : Go.bits .and .i64 x 255 = x % 256 := by
  have e : Go.bits .and .i64 x 255 = IntKind.i64.wrap (((x % 18446744073709551616).toNat &&& 255 : Nat) : Int) := by
    show IntKind.i64.wrap (((BitVec.ofInt 64 x &&& BitVec.ofInt 64 255).toNat : Nat) : Int) = _
    rw [BitVec.toNat_and, BitVec.toNat_ofInt, show (BitVec.ofInt 64 255).toNat = 255 from rfl]
    rfl
  rw [e, Nat.and_two_pow_sub_one_eq_mod _ 8, IntKind.wrap_i64]; omega
/-- The sum, brought up to date. -/
theorem nums4 (v : Int) : [UInt8.ofNat (v / 16777216 % 256).toNat, UInt8.ofNat (v / 65536 % 256).toNat, UInt8.ofNat (v / 256 % 256).toNat, UInt8.ofNat (v % 256).toNat] = nb 4 (v % 18446744073709551616).toNat := by
  have e : ∀ (m n : Nat), m % 256 = n % 256 → UInt8.ofNat m = UInt8.ofNat n := fun m n h => by apply UInt8.toNat.inj; simp [h]
  simp only [nb, List.nil_append, List.cons_append]
  refine congr (congrArg List.cons (e _ _ (by omega))) (congr (congrArg List.cons (e _ _ (by omega))) (congr (congrArg List.cons (e _ _ (by omega))) (congr (congrArg List.cons (e _ _ (by omega))) rfl)))
theorem nums2 (v : Int) : [UInt8.ofNat (v / 256 % 256).toNat, UInt8.ofNat (v % 256).toNat] = nb 2 (v % 18446744073709551616).toNat := by
  have e : ∀ (m n : Nat), m % 256 = n % 256 → UInt8.ofNat m = UInt8.ofNat n := fun m n h => by apply UInt8.toNat.inj; simp [h]
  simp only [nb, List.nil_append, List.cons_append]
  refine congr (congrArg List.cons (e _ _ (by omega))) (congr (congrArg List.cons (e _ _ (by omega))) rfl)
theorem bytes_any (n : Nat) (hn : n ≤ 8) (v : Int) (k : Nat) (hk : n < k) : ∃ r, palanquinref01_Bytes.f k (IntKind.u64.wrap v) (n : Int) = some r ∧ bl r = nb n (v % 18446744073709551616).toNat := by
  have e : IntKind.u64.wrap v = (((v % 18446744073709551616).toNat : Nat) : Int) := by rw [IntKind.wrap_u64]; omega
  rw [e]
  exact bytes_is n hn _ (by omega) k hk
theorem ref_pseudo (s d : ByteArray) (hs : s.size ≤ 300) (hd : d.size ≤ 300) (a b : Int) (k : Nat) (hk : 4 < k) : ∃ r, sum_Pseudo.f s d a b = some r ∧ palanquinref02_Pseudo.f k s d a b = some r := by
  unfold sum_Pseudo.f palanquinref02_Pseudo.f
  have bl_nums : ∀ xs : List Int, bl (strOfNums xs) = xs.map fun n => UInt8.ofNat n.toNat := fun xs => by simp [bl, strOfNums]
  have sz_nums : ∀ xs : List Int, (strOfNums xs).size = xs.length := fun xs => by rw [← bl_length, bl_nums, List.length_map]
  by_cases h : (s.size : Int) = 16
  · rw [if_pos h, if_pos h, if_pos (by omega), if_pos (by omega), Option.bind_some, if_pos (by rw [sz_nums, ByteArray.size_append]; simp; omega)]
    obtain ⟨r1, e1, b1⟩ := bytes_any 4 (by decide) b k hk
    obtain ⟨r2, e2, b2⟩ := bytes_any 4 (by decide) (a % 256) k hk
    have s1 : r1.size = 4 := by rw [← bl_length, b1, nb_length]
    have s2 : r2.size = 4 := by rw [← bl_length, b2, nb_length]
    refine ⟨_, rfl, ?_⟩
    rw [mask8]
    rw [show (4 : Int) = ((4 : Nat) : Int) from rfl, e1, Option.bind_some, if_pos (by rw [ByteArray.size_append]; omega), e2, Option.bind_some, if_pos (by rw [ByteArray.size_append, ByteArray.size_append]; omega)]
    have key : s ++ d ++ r1 ++ r2 = s ++ d ++ strOfNums [b / 16777216 % 256, b / 65536 % 256, b / 256 % 256, b % 256, 0, 0, 0, a % 256] := by
      apply bl_inj'
      rw [bl_append, bl_append, bl_append (s ++ d), b1, b2, bl_nums, ← nums4 b, ← nums4 (a % 256)]
      simp only [List.map_cons, List.map_nil, List.append_assoc, List.cons_append, List.nil_append]
      congr 5
      have e : ∀ (m n : Nat), m % 256 = n % 256 → UInt8.ofNat m = UInt8.ofNat n := fun m n h => by apply UInt8.toNat.inj; simp [h]
      refine congr (congrArg List.cons (e _ _ (by omega))) (congr (congrArg List.cons (e _ _ (by omega))) (congr (congrArg List.cons (e _ _ (by omega))) (congr (congrArg List.cons (e _ _ (by omega))) rfl)))
    rw [key]
  · rw [if_neg h, if_neg h, if_pos (by omega), if_pos (by omega), Option.bind_some, if_pos (by rw [sz_nums, ByteArray.size_append]; simp; omega)]
    obtain ⟨r1, e1, b1⟩ := bytes_any 2 (by decide) (a % 256) k (by omega)
    obtain ⟨r2, e2, b2⟩ := bytes_any 2 (by decide) b k (by omega)
    have s1 : r1.size = 2 := by rw [← bl_length, b1, nb_length]
    have s2 : r2.size = 2 := by rw [← bl_length, b2, nb_length]
    refine ⟨_, rfl, ?_⟩
    rw [mask8]
    rw [show (2 : Int) = ((2 : Nat) : Int) from rfl, e1, Option.bind_some, if_pos (by rw [ByteArray.size_append]; omega), e2, Option.bind_some, if_pos (by rw [ByteArray.size_append, ByteArray.size_append]; omega)]
    have key : s ++ d ++ r1 ++ r2 = s ++ d ++ strOfNums [0, a % 256, b / 256 % 256, b % 256] := by
      apply bl_inj'
      rw [bl_append, bl_append, bl_append (s ++ d), b1, b2, bl_nums, ← nums2 b, ← nums2 (a % 256)]
      simp only [List.map_cons, List.map_nil, List.append_assoc, List.cons_append, List.nil_append]
      rw [show a % 256 / 256 % 256 = 0 by omega, show a % 256 % 256 = a % 256 by omega]
    rw [key]
end R2
end Go.Proofs.Ytcmalglippmocaa.Pure
end

section
/- Plain facts of palanquinref09.Seal: it is flow.Seal. -/
namespace Go.Proofs.Ytcmalglippmocaa.Pure
open Go.RowKit Go.Proofs.YtcmalglippmocaaW.PrintWords Go.Proofs.YtcmalglippmocaaW.PrintLast Go.Proofs.Ytcmalglippmocaa.G Go.Proofs.Ytcmalglippmocaa.Pal
set_option linter.unusedVariables false
theorem ref_pseudo_is (s d : ByteArray) (hs : s.size ≤ 300) (hd : d.size ≤ 300) (a b : Int) (k : Nat) (hk : 4 < k) : palanquinref02_Pseudo.f k s d a b = some (psB s d a b) := by
  obtain ⟨r, h1, h2⟩ := R2.ref_pseudo s d hs hd a b k hk
  rw [pseudo_some s d hs hd] at h1
  rw [h2, ← Option.some.inj h1]
end Go.Proofs.Ytcmalglippmocaa.Pure
end

section
/- Plain theory: the document's Get of an IPv4 packet is the program's. -/
namespace Go.Proofs.Ytcmalglippmocaa.Pure
open Go.RowKit Go.Proofs.YtcmalglippmocaaW.PrintWords Go.Proofs.YtcmalglippmocaaW.PrintLast Go.Proofs.Ytcmalglippmocaa.G Go.Proofs.Ytcmalglippmocaa.Pal
theorem bt4_one (s : ByteArray) (i : Nat) (h : i < s.size) : bt s (i : Int) = ((be (bl (s.extract i (i + 1))) : Nat) : Int) := by
  have e : ((bl s).take (i + 1)).drop i = [(bl s)[i]'(by rw [bl_length]; exact h)] := by
    rw [List.drop_take, show i + 1 - i = 1 by omega, List.drop_eq_getElem_cons (by rw [bl_length]; exact h)]; rfl
  rw [bt_bl s i h, cut4, e]
  simp [be]
theorem r4a (B : Nat) (h : B < 256) : Int.tdiv (B : Int) 16 % 256 = ((B / 16 : Nat) : Int) := by rw [Int.tdiv_eq_ediv_of_nonneg (by omega)]; omega
theorem r4b (B : Nat) (h : B < 256) : wrap64 (wrap64 (Int.tmod (B : Int) 16) * 4) = ((4 * (B % 16) : Nat) : Int) := by
  have e : wrap64 (Int.tmod (B : Int) 16) = ((B % 16 : Nat) : Int) := by rw [Int.tmod_eq_emod_of_nonneg (by omega)]; unfold wrap64; omega
  rw [e]
  have : B % 16 < 16 := Nat.mod_lt _ (by decide)
  generalize B % 16 = m at this ⊢
  unfold wrap64; omega
theorem r4c (F : Nat) (h : F < 32768) : Int.tmod (F : Int) 8192 = ((F % 8192 : Nat) : Int) := by rw [Int.tmod_eq_emod_of_nonneg (by omega)]; omega
theorem r4d (F : Nat) (h : F < 32768) : (wrap64 (Int.tdiv (F : Int) 16384) == 1) = (F / 16384 % 2 == 1) := by
  have e : wrap64 (Int.tdiv (F : Int) 16384) = ((F / 16384 : Nat) : Int) := by rw [Int.tdiv_eq_ediv_of_nonneg (by omega)]; unfold wrap64; omega
  rw [e, Bool.eq_iff_iff, beq_iff_eq, beq_iff_eq]; omega
theorem r4e (F : Nat) (h : F < 32768) : (Int.tmod (wrap64 (Int.tdiv (F : Int) 8192)) 2 == 1) = (F / 8192 % 2 == 1) := by
  have e : wrap64 (Int.tdiv (F : Int) 8192) = ((F / 8192 : Nat) : Int) := by rw [Int.tdiv_eq_ediv_of_nonneg (by omega)]; unfold wrap64; omega
  rw [e, Int.tmod_eq_emod_of_nonneg (by omega), Bool.eq_iff_iff, beq_iff_eq, beq_iff_eq]; omega
theorem w4_small (x : Nat) (h : x < 65536) : wrap64 (x : Int) = (x : Int) := by unfold wrap64; omega
theorem at4 (s : ByteArray) (i : Nat) (hi : i ≤ 100) (h : i + 2 ≤ s.size) (k : Nat) (hk : 2 < k) : palanquinref05_at.f k s (i : Int) 2 = some ((be (bl (s.extract i (i + 2))) : Nat) : Int) := by
  unfold palanquinref05_at.f
  have hw : wrap64 ((i : Int) + 2) = ((i + 2 : Nat) : Int) := by unfold wrap64; omega
  have hz : (s.extract i (i + 2)).size = 2 := by simp only [ByteArray.size_extract]; omega
  have hb : be (bl (s.extract i (i + 2))) < 65536 := be_lt_of _ 2 (by rw [bl_length, hz]; exact Nat.le_refl _)
  rw [hw, if_pos (by omega), if_pos (by omega), if_pos (by omega), Int.toNat_natCast, Int.toNat_natCast, value_is _ (by rw [hz]; decide) k (by rw [hz]; exact hk), Option.bind_some, w4_small _ hb]
theorem ref_get4 (s : ByteArray) (hs : s.size ≤ 140737488351232) (k : Nat) (hk : 6000 < k) : palanquinref05_Get.f (k + 1) s = ip4_Get.f s := by
  unfold palanquinref05_Get.f ip4_Get.f
  rw [if_pos hs]
  by_cases h20 : s.size < 20
  · have he : ip4Err s = 2 := if_pos h20
    rw [if_pos (by omega), he, if_neg (by decide)]
  have z : ∀ i j, (bl (s.extract i j)).length = min j s.size - i := fun i j => by rw [bl_length]; simp only [ByteArray.size_extract]
  have b0 : be (bl (s.extract 0 1)) < 256 := be_lt_of _ 1 (by rw [z]; omega)
  have b1 : be (bl (s.extract 1 2)) < 256 := be_lt_of _ 1 (by rw [z]; omega)
  have b8 : be (bl (s.extract 8 9)) < 256 := be_lt_of _ 1 (by rw [z]; omega)
  have b9 : be (bl (s.extract 9 10)) < 256 := be_lt_of _ 1 (by rw [z]; omega)
  have e0 : bt s 0 = ((be (bl (s.extract 0 1)) : Nat) : Int) := bt4_one s 0 (by omega)
  have e1 : bt s 1 = ((be (bl (s.extract 1 2)) : Nat) : Int) := bt4_one s 1 (by omega)
  have e8 : bt s 8 = ((be (bl (s.extract 8 9)) : Nat) : Int) := bt4_one s 8 (by omega)
  have e9 : bt s 9 = ((be (bl (s.extract 9 10)) : Nat) : Int) := bt4_one s 9 (by omega)
  rw [if_neg (by omega), if_pos (by omega), e0, r4a _ b0, r4b _ b0]
  by_cases hv : be (bl (s.extract 0 1)) / 16 = 4
  case neg =>
    have he : ip4Err s = 3 := by unfold ip4Err; rw [if_neg h20, if_neg hv]
    rw [if_neg (by omega), he, if_neg (by decide)]
  rw [if_pos (by omega), show 4 * (be (bl (s.extract 0 1)) % 16) = hl4 s from rfl]
  have hmax : hl4 s ≤ 60 := by unfold hl4; omega
  have bad : ip4Err s = 4 → palanquinref05_Get.j0 (k + 1) s ((hl4 s : Nat) : Int) true 0 0 0 0 0 false false (⟨#[]⟩ : ByteArray) (⟨#[]⟩ : ByteArray) (⟨#[]⟩ : ByteArray) = some (if ip4Err s = 0 then (((be (bl (s.extract 1 2)) : Nat) : Int), ((be (bl (s.extract 4 6)) : Nat) : Int), ((be (bl (s.extract 6 8)) % 8192 : Nat) : Int), ((be (bl (s.extract 8 9)) : Nat) : Int), ((be (bl (s.extract 9 10)) : Nat) : Int), (be (bl (s.extract 6 8)) / 16384 % 2 == 1), (be (bl (s.extract 6 8)) / 8192 % 2 == 1), s.extract 12 16, s.extract 16 20, s.extract 20 (hl4 s), s.extract (hl4 s) s.size, 0) else (0, 0, 0, 0, 0, false, false, ⟨#[]⟩, ⟨#[]⟩, ⟨#[]⟩, ⟨#[]⟩, ip4Err s)) := fun he => by
    rw [palanquinref05_Get.j0, if_pos rfl, he, if_neg (by decide)]
  by_cases hl : 20 ≤ hl4 s
  case neg => rw [if_pos (by omega)]; exact bad (by unfold ip4Err; rw [if_neg h20, if_pos hv, if_neg (fun h => hl h.1)])
  rw [if_neg (by omega)]
  by_cases hm : hl4 s ≤ s.size
  case neg => rw [if_pos (by omega)]; exact bad (by unfold ip4Err; rw [if_neg h20, if_pos hv, if_neg (fun h => hm h.2.1)])
  have a2 := at4 s 2 (by decide) (by omega) (k + 1) (by omega)
  rw [show ((2 : Nat) : Int) = 2 from rfl] at a2
  rw [if_neg (by omega), a2, Option.bind_some]
  by_cases hT : be (bl (s.extract 2 4)) = s.size
  case neg =>
    have hT' : ((((be (bl (s.extract 2 (2 + 2))) : Nat) : Int)) != (s.size : Int)) = true := bne_iff_ne.mpr (fun h => hT (by exact_mod_cast h))
    rw [hT']; exact bad (by unfold ip4Err; rw [if_neg h20, if_pos hv, if_neg (fun h => hT h.2.2)])
  have hT' : ((((be (bl (s.extract 2 (2 + 2))) : Nat) : Int)) != (s.size : Int)) = false := bne_eq_false_iff_eq.mpr (by exact_mod_cast hT)
  rw [hT', palanquinref05_Get.j0, if_neg (by decide), if_pos (by omega), if_pos (by omega), Int.toNat_natCast, R2.ref_sum _ (by simp only [ByteArray.size_extract]; omega) k (by omega), Option.bind_some]
  by_cases hc : csum (bl (s.extract 0 (hl4 s))) = 0
  case neg =>
    have he : ip4Err s = 5 := by unfold ip4Err; rw [if_neg h20, if_pos hv, if_pos ⟨hl, hm, hT⟩, if_neg hc]
    rw [if_neg (by omega), he, if_neg (by decide)]
  have a6 := at4 s 6 (by decide) (by omega) k (by omega)
  have a4 := at4 s 4 (by decide) (by omega) k (by omega)
  rw [show ((6 : Nat) : Int) = 6 from rfl, show 6 + 2 = 8 from rfl] at a6
  rw [show ((4 : Nat) : Int) = 4 from rfl, show 4 + 2 = 6 from rfl] at a4
  rw [if_pos (by omega), a6, Option.bind_some]
  by_cases hf : be (bl (s.extract 6 8)) / 32768 = 0
  case neg =>
    have he : ip4Err s = 9 := by unfold ip4Err; rw [if_neg h20, if_pos hv, if_pos ⟨hl, hm, hT⟩, if_pos hc, if_neg hf]
    rw [if_pos (by omega), he, if_neg (by decide)]
  have he : ip4Err s = 0 := by unfold ip4Err; rw [if_neg h20, if_pos hv, if_pos ⟨hl, hm, hT⟩, if_pos hc, if_pos hf]
  have hF : be (bl (s.extract 6 8)) < 32768 := by omega
  rw [if_neg (by omega), if_pos (by omega), a4, Option.bind_some, if_pos (by omega), if_pos (by omega), if_pos (by decide), if_pos (by omega), if_pos (by decide), if_pos (by omega), if_pos (by omega), he, if_pos rfl, e1, e8, e9, w4_small _ (by omega), w4_small _ (by omega), w4_small _ (by omega), r4c _ hF, r4d _ hF, r4e _ hF]
end Go.Proofs.Ytcmalglippmocaa.Pure
end

section
/- Plain facts of palanquinref06: its functions are ip6's. -/
namespace Go.Proofs.Ytcmalglippmocaa.Pure
namespace R6
open Go.RowKit Go.Proofs.YtcmalglippmocaaW.PrintWords Go.Proofs.YtcmalglippmocaaW.PrintLast Go.Proofs.Ytcmalglippmocaa.G Go.Proofs.Ytcmalglippmocaa.Pal
theorem bt_one (s : ByteArray) (i : Nat) (h : i < s.size) : bt s (i : Int) = ((be (bl (s.extract i (i + 1))) : Nat) : Int) := by
  have e : ((bl s).take (i + 1)).drop i = [(bl s)[i]'(by rw [bl_length]; exact h)] := by
    rw [List.drop_take, show i + 1 - i = 1 by omega, List.drop_eq_getElem_cons (by rw [bl_length]; exact h)]; rfl
  rw [bt_bl s i h, bl_extract, e]
  simp [be]
theorem get6_is {s : ByteArray} (hs : s.size ≤ 140737488351232) : ip6_Get.f s = some (if ip6Err s = 0 then (((be (bl (s.extract 0 4)) : Nat) : Int) / 1048576 % 256, ((be (bl (s.extract 0 4)) : Nat) : Int) % 1048576, ((be (bl (s.extract 6 7)) : Nat) : Int), ((be (bl (s.extract 7 8)) : Nat) : Int), s.extract 8 24, s.extract 24 40, s.extract 40 s.size, 0) else (0, 0, 0, 0, empty, empty, empty, ip6Err s)) := by
  unfold ip6_Get.f
  rw [if_pos hs, low8, low20]
theorem ref_get6 (s : ByteArray) (hs : s.size ≤ 140737488351232) (k : Nat) (hk : 4 < k) : palanquinref06_Get.f k s = ip6_Get.f s := by
  unfold palanquinref06_Get.f
  rw [get6_is hs]
  by_cases h40 : s.size < 40
  · have he : ip6Err s = 2 := if_pos h40
    rw [if_pos (by omega), he, if_neg (by decide)]; rfl
  have hsz : ∀ i j, j ≤ 40 → (s.extract i j).size = j - i := fun i j hj => by simp only [ByteArray.size_extract]; omega
  have b4 : be (bl (s.extract 0 4)) < 4294967296 := be_lt_of _ 4 (by rw [bl_length, hsz 0 4 (by decide)]; decide)
  have b2 : be (bl (s.extract 4 6)) < 65536 := be_lt_of _ 2 (by rw [bl_length, hsz 4 6 (by decide)]; decide)
  have b6 : be (bl (s.extract 6 7)) < 256 := be_lt_of _ 1 (by rw [bl_length, hsz 6 7 (by decide)]; decide)
  have b7 : be (bl (s.extract 7 8)) < 256 := be_lt_of _ 1 (by rw [bl_length, hsz 7 8 (by decide)]; decide)
  have wd : ∀ x : Nat, x ≤ 4294967295 → wrap64 (x : Int) = (x : Int) := fun x hx => by unfold wrap64; omega
  rw [if_neg (by omega), if_pos (by decide), if_pos (by omega), value_is _ (by rw [hsz 0 4 (by decide)]; decide) k (by rw [hsz 0 4 (by decide)]; exact hk), Option.bind_some, wd _ (by omega)]
  have q : wrap64 (Int.tdiv (wrap64 (Int.tdiv ((be (bl (s.extract 0 4)) : Nat) : Int) 1048576)) 256) = ((be (bl (s.extract 0 4)) / 268435456 : Nat) : Int) := by
    have t1 : Int.tdiv ((be (bl (s.extract 0 4)) : Nat) : Int) 1048576 = ((be (bl (s.extract 0 4)) / 1048576 : Nat) : Int) := by rw [Int.tdiv_eq_ediv_of_nonneg (by omega)]; omega
    have t2 : Int.tdiv ((be (bl (s.extract 0 4)) / 1048576 : Nat) : Int) 256 = ((be (bl (s.extract 0 4)) / 268435456 : Nat) : Int) := by rw [Int.tdiv_eq_ediv_of_nonneg (by omega)]; omega
    rw [t1, wd _ (by omega), t2, wd _ (by omega)]
  rw [q]
  by_cases hv : be (bl (s.extract 0 4)) / 268435456 = 6
  case neg =>
    have he : ip6Err s = 3 := by unfold ip6Err; rw [if_neg h40, if_neg hv]
    rw [if_neg (by omega), he, if_neg (by decide)]; rfl
  rw [if_pos (by omega), if_pos (by decide), if_pos (by omega), value_is _ (by rw [hsz 4 6 (by decide)]; decide) k (by rw [hsz 4 6 (by decide)]; omega), Option.bind_some, wd _ (by omega)]
  rw [show wrap64 (((be (bl (s.extract 4 6)) : Nat) : Int) + 40) = ((be (bl (s.extract 4 6)) : Nat) : Int) + 40 by unfold wrap64; omega]
  by_cases hl : ((be (bl (s.extract 4 6)) : Nat) : Int) = (s.size : Int) - 40
  case neg =>
    have he : ip6Err s = 4 := by unfold ip6Err; rw [if_neg h40, if_pos hv, if_neg hl]
    rw [if_neg (by omega), he, if_neg (by decide)]; rfl
  have he : ip6Err s = 0 := by unfold ip6Err; rw [if_neg h40, if_pos hv, if_pos hl]
  rw [if_pos (by omega), if_pos (by omega), if_pos (by omega), if_pos (by decide), if_pos (by omega), if_pos (by decide), if_pos (by omega), he, if_pos rfl]
  rw [show (6 : Int) = ((6 : Nat) : Int) from rfl, show (7 : Int) = ((7 : Nat) : Int) from rfl, bt_one s 6 (by omega), bt_one s 7 (by omega), wd (be (bl (s.extract 6 (6 + 1)))) (by have := b6; exact Nat.le_of_lt (Nat.lt_trans b6 (by decide))), wd (be (bl (s.extract 7 (7 + 1)))) (Nat.le_of_lt (Nat.lt_trans b7 (by decide))), Int.tdiv_eq_ediv_of_nonneg (by omega),
    show wrap64 (((be (bl (s.extract 0 4)) : Nat) : Int) / 1048576) = ((be (bl (s.extract 0 4)) : Nat) : Int) / 1048576 by unfold wrap64; omega, Int.tmod_eq_emod_of_nonneg (by omega), Int.tmod_eq_emod_of_nonneg (by omega)]
end R6
end Go.Proofs.Ytcmalglippmocaa.Pure
end

section
/- Plain facts of palanquinref08: its functions are udp's. -/
namespace Go.Proofs.Ytcmalglippmocaa.Pure
namespace R8
open Go.RowKit Go.Proofs.YtcmalglippmocaaW.PrintWords Go.Proofs.YtcmalglippmocaaW.PrintLast Go.Proofs.Ytcmalglippmocaa.G Go.Proofs.Ytcmalglippmocaa.Pal
theorem ref_get (s : ByteArray) (hs : s.size ≤ 140737488351232) (k : Nat) (hk : 2 < k) : palanquinref08_Get.f k s = udp_Get.f s := by
  unfold palanquinref08_Get.f
  rw [get_is hs]
  by_cases h8 : (s.size : Int) < 8
  · rw [if_pos h8]
    have he : udpErr s = 2 := by unfold udpErr; rw [if_pos (by omega)]
    rw [if_neg (by omega), he]; rfl
  · rw [if_neg h8, if_pos (by decide), if_pos (by omega)]
    have two : ∀ i, i + 2 ≤ s.size → palanquinref01_Value.f k (s.extract i (i + 2)) = some ((be (bl (s.extract i (i + 2))) : Nat) : Int) ∧ wrap64 ((be (bl (s.extract i (i + 2))) : Nat) : Int) = ((be (bl (s.extract i (i + 2))) : Nat) : Int) := fun i hi => by
      have hsz : (s.extract i (i + 2)).size = 2 := by simp only [ByteArray.size_extract]; omega
      have hlt := be_lt_of (bl (s.extract i (i + 2))) 2 (by rw [bl_length]; omega)
      exact ⟨value_is _ (by omega) k (by omega), by unfold wrap64; omega⟩
    rw [(two 4 (by omega)).1, Option.bind_some, (two 4 (by omega)).2]
    by_cases he : be (bl (s.extract 4 6)) = s.size
    · rw [if_pos (show ((be (bl (s.extract 4 (4 + 2))) : Nat) : Int) = (s.size : Int) by rw [show be (bl (s.extract 4 (4 + 2))) = s.size from he]), if_pos (by decide), if_pos (by omega), (two 0 (by omega)).1, Option.bind_some, (two 0 (by omega)).2, if_pos (by decide), if_pos (by omega), (two 2 (by omega)).1, Option.bind_some, (two 2 (by omega)).2,
        if_pos (by omega), if_pos (by decide), (two 6 (by omega)).1, Option.bind_some, (two 6 (by omega)).2]
      have h0 : udpErr s = 0 := by unfold udpErr; rw [if_neg (by omega), if_pos he]
      rw [if_pos h0]
    · rw [if_neg (show ¬ ((be (bl (s.extract 4 (4 + 2))) : Nat) : Int) = (s.size : Int) from fun h => he (by exact_mod_cast h))]
      have h0 : udpErr s = 4 := by unfold udpErr; rw [if_neg (by omega), if_neg he]
      rw [if_neg (by omega), h0]; rfl
end R8
end Go.Proofs.Ytcmalglippmocaa.Pure
end

section
/- Plain facts of palanquinref09.Get: it is flow.Get. -/
namespace Go.Proofs.Ytcmalglippmocaa.Pure
open Go.RowKit Go.Proofs.YtcmalglippmocaaW.PrintWords Go.Proofs.YtcmalglippmocaaW.PrintLast Go.Proofs.Ytcmalglippmocaa.G Go.Proofs.Ytcmalglippmocaa.Pal
open FG F2
set_option linter.unusedVariables false
namespace R9
theorem listNil (s : ByteArray) : s.toList = ([] : List UInt8) ↔ s.size = 0 := by
  constructor
  · intro h
    by_cases h0 : s.size = 0
    · exact h0
    · have := isEmpty_not h0; rw [h] at this; exact absurd this (by decide)
  · intro h
    have := isEmpty_of h
    exact List.isEmpty_iff.1 this
theorem nib (s : ByteArray) (h : 0 < s.size) : (Int.tdiv (bt s 0) 16) % 256 = bt s 0 / 16 := by
  have h1 := bt_one s 0 h
  have h2 := be_lt_of (bl (s.extract 0 (0 + 1))) 1 (by rw [bl_length, ByteArray.size_extract]; omega)
  rw [show (0 : Int) = ((0 : Nat) : Int) from rfl, h1]
  generalize be (bl (s.extract 0 (0 + 1))) = y at h2 ⊢
  rw [Int.tdiv_eq_ediv_of_nonneg (by omega)]
  omega
theorem ref_j0 {proto p1 p2 p3 : Int} {src dst pay : ByteArray} (x7 : Bool) (hx : x7 = decide (proto = 17 ∧ p3 = 0)) (hp : proto = 6 ∨ proto = 17) (hports : flow_ports.f proto pay = some (p1, p2, p3, 0)) (hs : src.size ≤ 300) (hd : dst.size ≤ 300) (hz : pay.size ≤ 70000) (k : Nat) (hk : 79000 < k) :
    palanquinref09_Get.j0 (k + 1) pay x7 proto src dst p1 p2 = flow_fin proto src dst pay false (decide (src.size = 4)) := by
  have hz1 := psB_size src dst proto pay.size
  have hz2 := (psT_size (src.size == 16) proto pay.size).2
  rw [palanquinref09_Get.j0, ref_pseudo_is src dst hs hd proto pay.size k (by omega), Option.bind_some, if_pos (by omega), R2.ref_sumL _ (by rw [ByteArray.size_append]; omega) k (by rw [ByteArray.size_append]; omega), Option.bind_some, fin_some _ hp hports hs hd (by omega), bl_append]
  unfold okR
  subst hx
  by_cases h17 : proto = 17 ∧ p3 = 0
  · rw [decide_eq_true h17, if_pos rfl, if_pos h17]
    by_cases h4 : src.size = 4
    · rw [if_pos (by omega), if_pos (decide_eq_true h4)]
    · rw [if_neg (by omega), if_neg (by simpa using h4)]; rfl
  · rw [decide_eq_false h17, if_neg (by decide), if_neg h17]
    by_cases hc : csum (bl (psB src dst proto (pay.size : Int)) ++ bl pay) = 0
    · rw [if_pos (by omega), if_pos (decide_eq_true hc)]
    · rw [if_neg (by omega), if_neg (by simpa using hc)]; rfl
/-- What the document does behind the header is what flow.Get does. -/
theorem ref_tail {proto : Int} {src dst pay : ByteArray} (hs : src.size ≤ 300) (hd : dst.size ≤ 300) (hz : pay.size ≤ 70000) (k : Nat) (hk : 79000 < k) :
    (if proto = 6 then ((palanquinref07_Get.f pay).bind fun bt238 => (if bt238.2.2.2.2.2.2.2.2.2.2 = 0 then (palanquinref09_Get.j0 (k + 1) pay false proto src dst bt238.1 bt238.2.1) else (some (0, (⟨#[]⟩ : ByteArray), (⟨#[]⟩ : ByteArray), 0, 0, bt238.2.2.2.2.2.2.2.2.2.2)))) else (if proto = 17 then ((palanquinref08_Get.f (k + 1) pay).bind fun bt250 => (if bt250.2.2.2.2 = 0 then (palanquinref09_Get.j0 (k + 1) pay (bt250.2.2.2.1 == 0) proto src dst bt250.1 bt250.2.1) else (some (0, (⟨#[]⟩ : ByteArray), (⟨#[]⟩ : ByteArray), 0, 0, bt250.2.2.2.2)))) else (some (0, (⟨#[]⟩ : ByteArray), (⟨#[]⟩ : ByteArray), 0, 0, 6))))
      = flow_fin proto src dst pay false (decide (src.size = 4)) := by
  by_cases h6 : proto = 6
  · subst h6
    rw [if_pos rfl]
    unfold palanquinref07_Get.f
    rw [if_pos (by omega)]
    obtain ⟨⟨d1, d2, d3, d4, d5, d6, d7, d8, d9, d10, d11⟩, hd'⟩ : ∃ d, tcp_Get.f pay = some d := ⟨_, getT_is (by omega)⟩
    have hports : flow_ports.f 6 pay = some (d1, d2, d10, d11) := by unfold flow_ports.f; rw [if_pos rfl, hd', Option.bind_some]
    rw [hd', Option.bind_some]
    dsimp +instances only
    by_cases h0 : d11 = 0
    · subst h0
      rw [if_pos rfl]
      exact ref_j0 false (by simp) (.inl rfl) hports hs hd hz k hk
    · rw [if_neg h0, fin_err _ (.inl rfl) hports h0]; rfl
  · rw [if_neg h6]
    by_cases h17 : proto = 17
    · subst h17
      rw [if_pos rfl, R8.ref_get pay (by omega) (k + 1) (by omega)]
      obtain ⟨⟨d1, d2, d3, d4, d5⟩, hd'⟩ : ∃ d, udp_Get.f pay = some d := ⟨_, get_is (by omega)⟩
      have hports : flow_ports.f 17 pay = some (d1, d2, d4, d5) := by unfold flow_ports.f; rw [if_neg (by decide), hd', Option.bind_some]
      rw [hd', Option.bind_some]
      dsimp +instances only
      by_cases h0 : d5 = 0
      · subst h0
        rw [if_pos rfl]
        refine ref_j0 _ ?_ (.inr rfl) hports hs hd hz k hk
        by_cases h4 : d4 = 0
        · rw [h4]; simp
        · rw [decide_eq_false (fun h => h4 h.2)]; exact beq_eq_false_iff_ne.mpr h4
      · rw [if_neg h0, fin_err _ (.inr rfl) hports h0]; rfl
    · rw [if_neg h17, fin_other _ ⟨h6, h17⟩]; rfl
theorem ref_flow (s : ByteArray) (hs : s.size ≤ 70000) (k : Nat) (hk : 79010 < k) : palanquinref09_Get.f k s = flow_Get.f s := by
  obtain ⟨k, rfl⟩ : ∃ j, k = j + 1 := ⟨k - 1, by omega⟩
  unfold palanquinref09_Get.f palanquinref09_open.f flow_Get.f
  by_cases h0 : s.size = 0
  · rw [if_pos ((listNil s).2 h0), if_pos h0, Option.bind_some]
    rfl
  rw [if_neg (fun h => h0 ((listNil s).1 h)), if_neg h0, if_pos (by omega), nib s (by omega)]
  by_cases h4 : bt s 0 / 16 = 4
  · rw [if_pos h4, if_pos h4, ref_get4 s (by omega) k (by omega)]
    unfold ip4_Get.f
    rw [if_pos (by omega)]
    by_cases he : ip4Err s = 0
    · have hE := (err4_zero he).1
      have z1 : (s.extract 12 16).size = 4 := by rw [ByteArray.size_extract]; omega
      have z2 : (s.extract 16 20).size = 4 := by rw [ByteArray.size_extract]; omega
      have z3 : (s.extract (hl4 s) s.size).size ≤ 70000 := by rw [ByteArray.size_extract]; omega
      rw [if_pos he, Option.bind_some, Option.bind_some]
      dsimp +instances only
      rw [if_pos rfl, if_neg (show ¬ ((0 : Int) ≠ 0) from fun h => h rfl)]
      generalize be (bl (s.extract 6 8)) % 8192 = off
      generalize (be (bl (s.extract 6 8)) / 8192 % 2 == 1) = mf
      by_cases ho : off = 0
      · subst ho
        rw [if_neg (by decide)]
        cases mf with
        | true => rw [if_pos rfl, Option.bind_some, show ((((0 : Nat) : Int) != 0) || true) = true from rfl, fin_piece]; rfl
        | false =>
          rw [if_neg (by decide), Option.bind_some, show ((((0 : Nat) : Int) != 0) || false) = false from rfl]
          dsimp +instances only
          rw [if_pos rfl]
          have := ref_tail (proto := ((be (bl (s.extract 9 10)) : Nat) : Int)) (src := s.extract 12 16) (dst := s.extract 16 20) (pay := s.extract (hl4 s) s.size) (by omega) (by omega) z3 k (by omega)
          rw [decide_eq_true z1] at this
          exact this
      · rw [if_pos (by omega), Option.bind_some, show (((off : Nat) : Int) != 0) = true from bne_iff_ne.mpr (by omega), Bool.true_or, fin_piece]; rfl
    · rw [if_neg he, Option.bind_some, Option.bind_some]
      dsimp +instances only
      rw [if_neg he, if_pos he, Option.bind_some]
      dsimp +instances only
      rw [if_neg he]; rfl
  rw [if_neg h4, if_neg h4]
  by_cases h6 : bt s 0 / 16 = 6
  · rw [if_pos h6, if_pos h6, R6.ref_get6 s (by omega) (k + 1) (by omega)]
    unfold ip6_Get.f
    rw [if_pos (by omega)]
    by_cases he : ip6Err s = 0
    · have hE : 40 ≤ s.size := by
        unfold ip6Err at he
        split at he
        · exact absurd he (by decide)
        · omega
      have z1 : (s.extract 8 24).size = 16 := by rw [ByteArray.size_extract]; omega
      have z2 : (s.extract 24 40).size = 16 := by rw [ByteArray.size_extract]; omega
      have z3 : (s.extract 40 s.size).size ≤ 70000 := by rw [ByteArray.size_extract]; omega
      rw [if_pos he, Option.bind_some, Option.bind_some]
      dsimp +instances only
      rw [if_pos rfl, if_neg (show ¬ ((0 : Int) ≠ 0) from fun h => h rfl), Option.bind_some]
      dsimp +instances only
      rw [if_pos rfl]
      have := ref_tail (proto := ((be (bl (s.extract 6 7)) : Nat) : Int)) (src := s.extract 8 24) (dst := s.extract 24 40) (pay := s.extract 40 s.size) (by omega) (by omega) z3 k (by omega)
      rw [decide_eq_false (by omega)] at this
      exact this
    · rw [if_neg he, Option.bind_some, Option.bind_some]
      dsimp +instances only
      rw [if_neg he, if_pos he, Option.bind_some]
      dsimp +instances only
      rw [if_neg he]; rfl
  · rw [if_neg h6, if_neg h6, Option.bind_some]
    rfl
end R9
end Go.Proofs.Ytcmalglippmocaa.Pure
end

section
/- The plain law of FlowGets: any bytes' flow, or the first fault, is just the document's. -/
namespace Go.Proofs.Ytcmalglippmocaa.Pure
open Go.RowKit Go.Proofs.YtcmalglippmocaaW.PrintWords Go.Proofs.YtcmalglippmocaaW.PrintLast Go.Proofs.Ytcmalglippmocaa.G Go.Proofs.Ytcmalglippmocaa.Pal
set_option linter.unusedVariables false
theorem awake09g : palanquinlaw09_awake.f 80000 = some true := by decide +kernel
theorem FlowGets (a0 : ByteArray) (_ : a0.size ≤ 140737488351232) : ∃ k, palanquinlaw09_FlowGets.f k a0 = some true := by
  refine ⟨80000, ?_⟩
  unfold palanquinlaw09_FlowGets.f
  rw [awake09g, Option.bind_some, if_pos rfl]
  by_cases h : (a0.size : Int) > 70000
  · rw [if_pos h]
  rw [if_neg h]
  obtain ⟨f, hf⟩ : ∃ f, flow_Get.f a0 = some f := FG.flow_some a0 (by omega)
  rw [R9.ref_flow a0 (by omega) 80000 (by decide), hf, Option.bind_some, Option.bind_some, if_pos (by simp), beq_self_eq_true]
end Go.Proofs.Ytcmalglippmocaa.Pure
end
