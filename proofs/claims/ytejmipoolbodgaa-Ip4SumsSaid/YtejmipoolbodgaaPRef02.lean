/- Plain facts of palanquinref02: its sum is the checksum. -/
import Derived.Test.YtejmipoolbodgaaGref02
import Derived.Test.YtejmipoolbodgaaHSum
import Derived.Test.YtejmipoolbodgaaPRef01
namespace Go.Proofs.Ytejmipoolbodgaa.Pure
open Go.RowKit Go.Proofs.YtejmipoolbodgaaW.PrintWords Go.Proofs.YtejmipoolbodgaaW.PrintLast Go.Proofs.Ytejmipoolbodgaa.G Go.Proofs.Ytejmipoolbodgaa.Pal
namespace R2
theorem down_is : ∀ (k n : Nat), n < k → n ≤ 1099511627776 → palanquinref02_down.f k (n : Int) = some ((fold16 n : Nat) : Int)
  | k + 1, n, hk, hn => by
    unfold palanquinref02_down.f
    rw [palanquinref02_down.l0]
    by_cases h : (n : Int) ≥ 65536
    · rw [if_pos h, show wrap64 (Int.tmod (n : Int) 65536 + wrap64 (Int.tdiv (n : Int) 65536)) = ((n % 65536 + n / 65536 : Nat) : Int) by
        rw [Int.tmod_eq_emod_of_nonneg (by omega), Int.tdiv_eq_ediv_of_nonneg (by omega)]; unfold wrap64; omega]
      have := down_is k (n % 65536 + n / 65536) (by omega) (by omega)
      unfold palanquinref02_down.f at this
      rw [this, fold16_step]
    · rw [if_neg h, fold16_id n (by omega)]
/-- fewer rounds: each takes at least 65535 away -/
theorem down_fast : ∀ (k n : Nat), n ≤ 4294967296 → 2 < k → palanquinref02_down.f k (n : Int) = some ((fold16 n : Nat) : Int) := by
  intro k n hn hk
  obtain ⟨k, rfl⟩ : ∃ j, k = j + 3 := ⟨k - 3, by omega⟩
  have step : ∀ m : Nat, m ≤ 4294967296 → (m : Int) ≥ 65536 → wrap64 (Int.tmod (m : Int) 65536 + wrap64 (Int.tdiv (m : Int) 65536)) = ((m % 65536 + m / 65536 : Nat) : Int) := fun m hm h => by
    rw [Int.tmod_eq_emod_of_nonneg (by omega), Int.tdiv_eq_ediv_of_nonneg (by omega)]; unfold wrap64; omega
  unfold palanquinref02_down.f
  rw [palanquinref02_down.l0]
  by_cases h : (n : Int) ≥ 65536
  · rw [if_pos h, step n hn h, palanquinref02_down.l0]
    by_cases h2 : ((n % 65536 + n / 65536 : Nat) : Int) ≥ 65536
    · rw [if_pos h2, step _ (by omega) h2, palanquinref02_down.l0, if_neg (by omega)]
      congr 2
      rw [← fold16_step n, ← fold16_step (n % 65536 + n / 65536), fold16_id _ (by omega)]
    · rw [if_neg h2]
      congr 2
      rw [← fold16_step n, fold16_id _ (by omega)]
  · rw [if_neg h, fold16_id n (by omega)]
theorem tot_two (l : List UInt8) (i : Nat) (h : i + 1 < l.length) : tot false (l.take (i + 2)) = tot false (l.take i) + tot (odd (l.take i)) [l[i], l[i + 1]] := by
  have e : l.take (i + 2) = l.take i ++ [l[i], l[i + 1]] := by
    rw [List.take_succ_eq_append_getElem (by omega), List.take_succ_eq_append_getElem (by omega), List.append_assoc]; rfl
  rw [e, tot_append]
  cases odd (l.take i) <;> rfl
theorem sum_end (s : ByteArray) (hs : s.size ≤ 6000) (k : Nat) (hk : 3 < k) : palanquinref02_Sum.l0 k s ((tot false (bl s) : Nat) : Int) (s.size : Int) = some ((65535 - fold16 (tot false (bl s)) : Nat) : Int) := by
  obtain ⟨k, rfl⟩ : ∃ j, k = j + 1 := ⟨k - 1, by omega⟩
  have hb := tot_le (bl s) false
  rw [bl_length] at hb
  rw [palanquinref02_Sum.l0, if_neg (by omega), down_fast k _ (by omega) (by omega), Option.bind_some]
  have := fold16_le (tot false (bl s))
  congr 1; unfold wrap64; omega
theorem sum_num (z x y : Nat) (hz : z ≤ 391680000) (hx : x < 2 ^ 8) (hy : y < 2 ^ 8) : wrap64 (wrap64 ((z : Int) + wrap64 (wrap64 (x : Int) * 256)) + wrap64 (y : Int)) = ((z + (x * 256 + y) : Nat) : Int) := by
  have e1 : wrap64 (x : Int) = x := by unfold wrap64; omega
  have e2 : wrap64 (y : Int) = y := by unfold wrap64; omega
  have e3 : wrap64 ((x : Int) * 256) = (x : Int) * 256 := by unfold wrap64; omega
  have e4 : wrap64 ((z : Int) + (x : Int) * 256) = (z : Int) + (x : Int) * 256 := by unfold wrap64; omega
  rw [e1, e2, e3, e4]
  unfold wrap64; omega
theorem sum_step (s : ByteArray) (hs : s.size ≤ 6000) (i k : Nat) (hi : i % 2 = 0) (h1 : i + 1 < s.size) :
    palanquinref02_Sum.l0 (k + 1) s ((tot false ((bl s).take i) : Nat) : Int) (i : Int) = palanquinref02_Sum.l0 k s ((tot false ((bl s).take (i + 2)) : Nat) : Int) ((i + 2 : Nat) : Int) := by
  have h0 : i < s.size := by omega
  have hl1 : i + 1 < (bl s).length := by rw [bl_length]; exact h1
  have hb := tot_le ((bl s).take i) false
  have hl : ((bl s).take i).length ≤ 6000 := by rw [List.length_take, bl_length]; omega
  have ho : odd ((bl s).take i) = false := by
    unfold odd; rw [List.length_take, bl_length, Nat.min_eq_left (by omega), hi]; rfl
  have ht := tot_two (bl s) i hl1
  rw [ho] at ht
  simp only [tot, Nat.add_zero] at ht
  have b0 := (bl s)[i].toNat_lt
  have b1 := (bl s)[i + 1].toNat_lt
  have w1 : wrap64 ((i : Int) + 1) = ((i + 1 : Nat) : Int) := by unfold wrap64; omega
  have w2 : wrap64 ((i : Int) + 2) = ((i + 2 : Nat) : Int) := by unfold wrap64; omega
  have g0 : bt s (i : Int) = (((bl s)[i].toNat : Nat) : Int) := bt_bl s i h0
  have g1 : bt s ((i + 1 : Nat) : Int) = (((bl s)[i + 1].toNat : Nat) : Int) := bt_bl s (i + 1) h1
  rw [ht]
  generalize (bl s)[i].toNat = x at b0 g0 ⊢
  generalize (bl s)[i + 1].toNat = y at b1 g1 ⊢
  have hz : tot false ((bl s).take i) ≤ 391680000 := by omega
  generalize tot false ((bl s).take i) = z at hz ⊢
  clear hb hl ho ht hl1 hs
  rw [palanquinref02_Sum.l0, if_pos (by omega), if_pos (by omega), w1, w2, if_pos (by omega), if_pos (by omega), g0, g1]
  rw [sum_num z x y hz b0 b1]
theorem sum_loop (s : ByteArray) (hs : s.size ≤ 6000) (he : s.size % 2 = 0) (n : Nat) : ∀ (i k : Nat), i + 2 * n = s.size → n + 3 < k →
    palanquinref02_Sum.l0 k s ((tot false ((bl s).take i) : Nat) : Int) (i : Int) = some ((65535 - fold16 (tot false (bl s)) : Nat) : Int) := by
  induction n with
  | zero =>
    intro i k hi hk
    have e := sum_end s hs k (by omega)
    rw [List.take_of_length_le (by rw [bl_length]; omega), show i = s.size by omega]
    exact e
  | succ n ih =>
    intro i k hi hk
    obtain ⟨k, rfl⟩ : ∃ j, k = j + 1 := ⟨k - 1, by omega⟩
    rw [sum_step s hs i k (by omega) (by omega)]
    exact ih (i + 2) k (by omega) (by omega)
theorem zero_is : strOfNums [0] = ⟨#[0]⟩ := by simp [strOfNums]
theorem ref_sum (s : ByteArray) (hs : s.size ≤ 5000) (k : Nat) (hk : 5000 < k) : palanquinref02_Sum.f k s = some ((csum (bl s) : Nat) : Int) := by
  unfold palanquinref02_Sum.f
  obtain ⟨k, rfl⟩ : ∃ j, k = j + 1 := ⟨k - 1, by omega⟩
  by_cases h : (s.size : Int) % 2 = 1
  · have h1 : (⟨#[0]⟩ : ByteArray).size = 1 := rfl
    rw [if_pos h, Option.bind_some, zero_is, if_pos (by rw [h1]; omega), palanquinref02_Sum.j0]
    have e := sum_loop (s ++ ⟨#[0]⟩) (by rw [ByteArray.size_append, h1]; omega) (by rw [ByteArray.size_append, h1]; omega) ((s.size + 1) / 2) 0 k (by rw [ByteArray.size_append, h1]; omega) (by omega)
    refine Eq.trans e ?_
    rw [bl_append, tot_append]
    unfold csum
    have : ∀ o, tot o (bl (⟨#[0]⟩ : ByteArray)) = 0 := fun o => by cases o <;> rfl
    rw [this]; rfl
  · rw [if_neg h, palanquinref02_Sum.j0]
    exact sum_loop s (by omega) (by omega) (s.size / 2) 0 k (by omega) (by omega)
end R2
end Go.Proofs.Ytejmipoolbodgaa.Pure
