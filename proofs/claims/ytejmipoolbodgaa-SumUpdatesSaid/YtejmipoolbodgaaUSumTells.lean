/- Plain law of SumTells: any text's sum, in whatever parts, any update and what stands ahead of a segment are just the document's. -/
import Derived.Test.YtejmipoolbodgaaGSumTells
import Derived.Test.YtejmipoolbodgaaUSumOrder
import Derived.Test.YtejmipoolbodgaaPRef01
namespace Go.Proofs.Ytejmipoolbodgaa.Pure
open Go.RowKit Go.Proofs.YtejmipoolbodgaaW.PrintWords Go.Proofs.YtejmipoolbodgaaW.PrintLast Go.Proofs.Ytejmipoolbodgaa.G Go.Proofs.Ytejmipoolbodgaa.Pal
theorem bl_inj' {a b : ByteArray} (h : bl a = bl b) : a = b := ByteArray.ext (Array.toList_inj.mp h)
theorem down_is : ∀ (k n : Nat), n < k → n ≤ 1099511627776 → palanquinref02_down.f k (n : Int) = some ((fold16 n : Nat) : Int)
  | k + 1, n, hk, hn => by
    unfold palanquinref02_down.f
    rw [palanquinref02_down.l0]
    by_cases h : (n : Int) ≥ 65536
    · rw [if_pos h, show wrap64 (Int.tmod (n : Int) 65536 + wrap64 (Int.tdiv (n : Int) 65536)) = ((n % 65536 + n / 65536 : Nat) : Int) by
        rw [Int.tmod_eq_emod_of_nonneg (by omega), Int.tdiv_eq_ediv_of_nonneg (by omega)]; unfold wrap64; omega]
      have := down_is k (n % 65536 + n / 65536) (by omega) (by omega)
      unfold palanquinref02_down.f at this
      rw [this, fold16_step]
    · rw [if_neg h, fold16_id n (by omega)]
/-- fewer rounds: each takes at least 65535 away -/
theorem down_fast : ∀ (k n : Nat), n ≤ 4294967296 → 2 < k → palanquinref02_down.f k (n : Int) = some ((fold16 n : Nat) : Int) := by
  intro k n hn hk
  obtain ⟨k, rfl⟩ : ∃ j, k = j + 3 := ⟨k - 3, by omega⟩
  have step : ∀ m : Nat, m ≤ 4294967296 → (m : Int) ≥ 65536 → wrap64 (Int.tmod (m : Int) 65536 + wrap64 (Int.tdiv (m : Int) 65536)) = ((m % 65536 + m / 65536 : Nat) : Int) := fun m hm h => by
    rw [Int.tmod_eq_emod_of_nonneg (by omega), Int.tdiv_eq_ediv_of_nonneg (by omega)]; unfold wrap64; omega
  unfold palanquinref02_down.f
  rw [palanquinref02_down.l0]
  by_cases h : (n : Int) ≥ 65536
  · rw [if_pos h, step n hn h, palanquinref02_down.l0]
    by_cases h2 : ((n % 65536 + n / 65536 : Nat) : Int) ≥ 65536
    · rw [if_pos h2, step _ (by omega) h2, palanquinref02_down.l0, if_neg (by omega)]
      congr 2
      rw [← fold16_step n, ← fold16_step (n % 65536 + n / 65536), fold16_id _ (by omega)]
    · rw [if_neg h2]
      congr 2
      rw [← fold16_step n, fold16_id _ (by omega)]
  · rw [if_neg h, fold16_id n (by omega)]
theorem tot_two (l : List UInt8) (i : Nat) (h : i + 1 < l.length) : tot false (l.take (i + 2)) = tot false (l.take i) + tot (odd (l.take i)) [l[i], l[i + 1]] := by
  have e : l.take (i + 2) = l.take i ++ [l[i], l[i + 1]] := by
    rw [List.take_succ_eq_append_getElem (by omega), List.take_succ_eq_append_getElem (by omega), List.append_assoc]; rfl
  rw [e, tot_append]
  cases odd (l.take i) <;> rfl
theorem sum_end (s : ByteArray) (hs : s.size ≤ 6000) (k : Nat) (hk : 3 < k) : palanquinref02_Sum.l0 k s ((tot false (bl s) : Nat) : Int) (s.size : Int) = some ((65535 - fold16 (tot false (bl s)) : Nat) : Int) := by
  obtain ⟨k, rfl⟩ : ∃ j, k = j + 1 := ⟨k - 1, by omega⟩
  have hb := tot_le (bl s) false
  rw [bl_length] at hb
  rw [palanquinref02_Sum.l0, if_neg (by omega), down_fast k _ (by omega) (by omega), Option.bind_some]
  have := fold16_le (tot false (bl s))
  congr 1; unfold wrap64; omega
theorem sum_num (z x y : Nat) (hz : z ≤ 391680000) (hx : x < 2 ^ 8) (hy : y < 2 ^ 8) : wrap64 (wrap64 ((z : Int) + wrap64 (wrap64 (x : Int) * 256)) + wrap64 (y : Int)) = ((z + (x * 256 + y) : Nat) : Int) := by
  have e1 : wrap64 (x : Int) = x := by unfold wrap64; omega
  have e2 : wrap64 (y : Int) = y := by unfold wrap64; omega
  have e3 : wrap64 ((x : Int) * 256) = (x : Int) * 256 := by unfold wrap64; omega
  have e4 : wrap64 ((z : Int) + (x : Int) * 256) = (z : Int) + (x : Int) * 256 := by unfold wrap64; omega
  rw [e1, e2, e3, e4]
  unfold wrap64; omega
theorem sum_step (s : ByteArray) (hs : s.size ≤ 6000) (i k : Nat) (hi : i % 2 = 0) (h1 : i + 1 < s.size) :
    palanquinref02_Sum.l0 (k + 1) s ((tot false ((bl s).take i) : Nat) : Int) (i : Int) = palanquinref02_Sum.l0 k s ((tot false ((bl s).take (i + 2)) : Nat) : Int) ((i + 2 : Nat) : Int) := by
  have h0 : i < s.size := by omega
  have hl1 : i + 1 < (bl s).length := by rw [bl_length]; exact h1
  have hb := tot_le ((bl s).take i) false
  have hl : ((bl s).take i).length ≤ 6000 := by rw [List.length_take, bl_length]; omega
  have ho : odd ((bl s).take i) = false := by
    unfold odd; rw [List.length_take, bl_length, Nat.min_eq_left (by omega), hi]; rfl
  have ht := tot_two (bl s) i hl1
  rw [ho] at ht
  simp only [tot, Nat.add_zero] at ht
  have b0 := (bl s)[i].toNat_lt
  have b1 := (bl s)[i + 1].toNat_lt
  have w1 : wrap64 ((i : Int) + 1) = ((i + 1 : Nat) : Int) := by unfold wrap64; omega
  have w2 : wrap64 ((i : Int) + 2) = ((i + 2 : Nat) : Int) := by unfold wrap64; omega
  have g0 : bt s (i : Int) = (((bl s)[i].toNat : Nat) : Int) := bt_bl s i h0
  have g1 : bt s ((i + 1 : Nat) : Int) = (((bl s)[i + 1].toNat : Nat) : Int) := bt_bl s (i + 1) h1
  rw [ht]
  generalize (bl s)[i].toNat = x at b0 g0 ⊢
  generalize (bl s)[i + 1].toNat = y at b1 g1 ⊢
  have hz : tot false ((bl s).take i) ≤ 391680000 := by omega
  generalize tot false ((bl s).take i) = z at hz ⊢
  clear hb hl ho ht hl1 hs
  rw [palanquinref02_Sum.l0, if_pos (by omega), if_pos (by omega), w1, w2, if_pos (by omega), if_pos (by omega), g0, g1]
  rw [sum_num z x y hz b0 b1]
theorem sum_loop (s : ByteArray) (hs : s.size ≤ 6000) (he : s.size % 2 = 0) (n : Nat) : ∀ (i k : Nat), i + 2 * n = s.size → n + 3 < k →
    palanquinref02_Sum.l0 k s ((tot false ((bl s).take i) : Nat) : Int) (i : Int) = some ((65535 - fold16 (tot false (bl s)) : Nat) : Int) := by
  induction n with
  | zero =>
    intro i k hi hk
    have e := sum_end s hs k (by omega)
    rw [List.take_of_length_le (by rw [bl_length]; omega), show i = s.size by omega]
    exact e
  | succ n ih =>
    intro i k hi hk
    obtain ⟨k, rfl⟩ : ∃ j, k = j + 1 := ⟨k - 1, by omega⟩
    rw [sum_step s hs i k (by omega) (by omega)]
    exact ih (i + 2) k (by omega) (by omega)
theorem zero_is : strOfNums [0] = ⟨#[0]⟩ := by simp [strOfNums]
theorem ref_sum (s : ByteArray) (hs : s.size ≤ 5000) (k : Nat) (hk : 5000 < k) : palanquinref02_Sum.f k s = some ((csum (bl s) : Nat) : Int) := by
  unfold palanquinref02_Sum.f
  obtain ⟨k, rfl⟩ : ∃ j, k = j + 1 := ⟨k - 1, by omega⟩
  by_cases h : (s.size : Int) % 2 = 1
  · have h1 : (⟨#[0]⟩ : ByteArray).size = 1 := rfl
    rw [if_pos h, Option.bind_some, zero_is, if_pos (by rw [h1]; omega), palanquinref02_Sum.j0]
    have e := sum_loop (s ++ ⟨#[0]⟩) (by rw [ByteArray.size_append, h1]; omega) (by rw [ByteArray.size_append, h1]; omega) ((s.size + 1) / 2) 0 k (by rw [ByteArray.size_append, h1]; omega) (by omega)
    refine Eq.trans e ?_
    rw [bl_append, tot_append]
    unfold csum
    have : ∀ o, tot o (bl (⟨#[0]⟩ : ByteArray)) = 0 := fun o => by cases o <;> rfl
    rw [this]; rfl
  · rw [if_neg h, palanquinref02_Sum.j0]
    exact sum_loop s (by omega) (by omega) (s.size / 2) 0 k (by omega) (by omega)
theorem mask16 (x : Int) : Go.bits .and .i64 x 65535 = x % 65536 := by
  have e : Go.bits .and .i64 x 65535 = IntKind.i64.wrap (((x % 18446744073709551616).toNat &&& 65535 : Nat) : Int) := by
    show IntKind.i64.wrap (((BitVec.ofInt 64 x &&& BitVec.ofInt 64 65535).toNat : Nat) : Int) = _
    rw [BitVec.toNat_and, BitVec.toNat_ofInt, show (BitVec.ofInt 64 65535).toNat = 65535 from rfl]
    rfl
  rw [e, Nat.and_two_pow_sub_one_eq_mod _ 16, IntKind.wrap_i64]; omega
theorem mask8 (x : Int) : Go.bits .and .i64 x 255 = x % 256 := by
  have e : Go.bits .and .i64 x 255 = IntKind.i64.wrap (((x % 18446744073709551616).toNat &&& 255 : Nat) : Int) := by
    show IntKind.i64.wrap (((BitVec.ofInt 64 x &&& BitVec.ofInt 64 255).toNat : Nat) : Int) = _
    rw [BitVec.toNat_and, BitVec.toNat_ofInt, show (BitVec.ofInt 64 255).toNat = 255 from rfl]
    rfl
  rw [e, Nat.and_two_pow_sub_one_eq_mod _ 8, IntKind.wrap_i64]; omega
/-- The sum, brought up to date. -/
def upd (a b c : Int) : Nat := 65535 - fold16 ((65535 - (a % 65536).toNat) + (65535 - (b % 65536).toNat) + (c % 65536).toNat)
theorem sum_upd (a b c : Int) : sum_Update.f a b c = some ((upd a b c : Nat) : Int) := by
  unfold sum_Update.f
  rw [mask16, mask16, mask16]
  have ha : a % 65536 = (((a % 65536).toNat : Nat) : Int) := by omega
  have hb : b % 65536 = (((b % 65536).toNat : Nat) : Int) := by omega
  have hc : c % 65536 = (((c % 65536).toNat : Nat) : Int) := by omega
  unfold upd
  generalize (a % 65536).toNat = x at ha
  generalize (b % 65536).toNat = y at hb
  generalize (c % 65536).toNat = z at hc
  have hx : x < 65536 := by omega
  have hy : y < 65536 := by omega
  rw [ha, hb, hc, i64_xor_ones x hx, i64_xor_ones y hy]
  have e : IntKind.u64.wrap (IntKind.u64.wrap (IntKind.u64.wrap ((65535 - x : Nat) : Int) + IntKind.u64.wrap ((65535 - y : Nat) : Int)) + IntKind.u64.wrap (z : Int)) = (((65535 - x) + (65535 - y) + z : Nat) : Int) := by
    simp only [IntKind.wrap_u64]; omega
  rw [e]
  unfold sum_fold.f
  rw [if_pos (by omega), Option.bind_some, Int.toNat_natCast]
  have hf := fold16_le (65535 - x + (65535 - y) + z)
  rw [i64_xor_ones _ (by omega)]
theorem ref_upd (a b c : Int) (k : Nat) (hk : 2 < k) : palanquinref02_Update.f k a b c = some ((upd a b c : Nat) : Int) := by
  unfold palanquinref02_Update.f palanquinref02_low.f
  rw [Option.bind_some, Option.bind_some, Option.bind_some, mask16, mask16, mask16]
  have ha : a % 65536 = (((a % 65536).toNat : Nat) : Int) := by omega
  have hb : b % 65536 = (((b % 65536).toNat : Nat) : Int) := by omega
  have hc : c % 65536 = (((c % 65536).toNat : Nat) : Int) := by omega
  unfold upd
  generalize (a % 65536).toNat = x at ha
  generalize (b % 65536).toNat = y at hb
  generalize (c % 65536).toNat = z at hc
  rw [ha, hb, hc, show wrap64 (wrap64 (wrap64 (wrap64 (65535 - (x : Int)) + 65535) - (y : Int)) + (z : Int)) = (((65535 - x) + (65535 - y) + z : Nat) : Int) by unfold wrap64; omega]
  rw [down_fast k _ (by omega) hk, Option.bind_some]
  have hf := fold16_le (65535 - x + (65535 - y) + z)
  congr 1; unfold wrap64; omega
theorem nums4 (v : Int) : [UInt8.ofNat (v / 16777216 % 256).toNat, UInt8.ofNat (v / 65536 % 256).toNat, UInt8.ofNat (v / 256 % 256).toNat, UInt8.ofNat (v % 256).toNat] = nb 4 (v % 18446744073709551616).toNat := by
  have e : ∀ (m n : Nat), m % 256 = n % 256 → UInt8.ofNat m = UInt8.ofNat n := fun m n h => by apply UInt8.toNat.inj; simp [h]
  simp only [nb, List.nil_append, List.cons_append]
  refine congr (congrArg List.cons (e _ _ (by omega))) (congr (congrArg List.cons (e _ _ (by omega))) (congr (congrArg List.cons (e _ _ (by omega))) (congr (congrArg List.cons (e _ _ (by omega))) rfl)))
theorem nums2 (v : Int) : [UInt8.ofNat (v / 256 % 256).toNat, UInt8.ofNat (v % 256).toNat] = nb 2 (v % 18446744073709551616).toNat := by
  have e : ∀ (m n : Nat), m % 256 = n % 256 → UInt8.ofNat m = UInt8.ofNat n := fun m n h => by apply UInt8.toNat.inj; simp [h]
  simp only [nb, List.nil_append, List.cons_append]
  refine congr (congrArg List.cons (e _ _ (by omega))) (congr (congrArg List.cons (e _ _ (by omega))) rfl)
theorem bytes_any (n : Nat) (hn : n ≤ 8) (v : Int) (k : Nat) (hk : n < k) : ∃ r, palanquinref01_Bytes.f k (IntKind.u64.wrap v) (n : Int) = some r ∧ bl r = nb n (v % 18446744073709551616).toNat := by
  have e : IntKind.u64.wrap v = (((v % 18446744073709551616).toNat : Nat) : Int) := by rw [IntKind.wrap_u64]; omega
  rw [e]
  exact bytes_is n hn _ (by omega) k hk
theorem ref_pseudo (s d : ByteArray) (hs : s.size ≤ 300) (hd : d.size ≤ 300) (a b : Int) (k : Nat) (hk : 4 < k) : ∃ r, sum_Pseudo.f s d a b = some r ∧ palanquinref02_Pseudo.f k s d a b = some r := by
  unfold sum_Pseudo.f palanquinref02_Pseudo.f
  have bl_nums : ∀ xs : List Int, bl (strOfNums xs) = xs.map fun n => UInt8.ofNat n.toNat := fun xs => by simp [bl, strOfNums]
  have sz_nums : ∀ xs : List Int, (strOfNums xs).size = xs.length := fun xs => by rw [← bl_length, bl_nums, List.length_map]
  by_cases h : (s.size : Int) = 16
  · rw [if_pos h, if_pos h, if_pos (by omega), if_pos (by omega), Option.bind_some, if_pos (by rw [sz_nums, ByteArray.size_append]; simp; omega)]
    obtain ⟨r1, e1, b1⟩ := bytes_any 4 (by decide) b k hk
    obtain ⟨r2, e2, b2⟩ := bytes_any 4 (by decide) (a % 256) k hk
    have s1 : r1.size = 4 := by rw [← bl_length, b1, nb_length]
    have s2 : r2.size = 4 := by rw [← bl_length, b2, nb_length]
    refine ⟨_, rfl, ?_⟩
    rw [mask8]
    rw [show (4 : Int) = ((4 : Nat) : Int) from rfl, e1, Option.bind_some, if_pos (by rw [ByteArray.size_append]; omega), e2, Option.bind_some, if_pos (by rw [ByteArray.size_append, ByteArray.size_append]; omega)]
    have key : s ++ d ++ r1 ++ r2 = s ++ d ++ strOfNums [b / 16777216 % 256, b / 65536 % 256, b / 256 % 256, b % 256, 0, 0, 0, a % 256] := by
      apply bl_inj'
      rw [bl_append, bl_append, bl_append (s ++ d), b1, b2, bl_nums, ← nums4 b, ← nums4 (a % 256)]
      simp only [List.map_cons, List.map_nil, List.append_assoc, List.cons_append, List.nil_append]
      congr 5
      have e : ∀ (m n : Nat), m % 256 = n % 256 → UInt8.ofNat m = UInt8.ofNat n := fun m n h => by apply UInt8.toNat.inj; simp [h]
      refine congr (congrArg List.cons (e _ _ (by omega))) (congr (congrArg List.cons (e _ _ (by omega))) (congr (congrArg List.cons (e _ _ (by omega))) (congr (congrArg List.cons (e _ _ (by omega))) rfl)))
    rw [key]
  · rw [if_neg h, if_neg h, if_pos (by omega), if_pos (by omega), Option.bind_some, if_pos (by rw [sz_nums, ByteArray.size_append]; simp; omega)]
    obtain ⟨r1, e1, b1⟩ := bytes_any 2 (by decide) (a % 256) k (by omega)
    obtain ⟨r2, e2, b2⟩ := bytes_any 2 (by decide) b k (by omega)
    have s1 : r1.size = 2 := by rw [← bl_length, b1, nb_length]
    have s2 : r2.size = 2 := by rw [← bl_length, b2, nb_length]
    refine ⟨_, rfl, ?_⟩
    rw [mask8]
    rw [show (2 : Int) = ((2 : Nat) : Int) from rfl, e1, Option.bind_some, if_pos (by rw [ByteArray.size_append]; omega), e2, Option.bind_some, if_pos (by rw [ByteArray.size_append, ByteArray.size_append]; omega)]
    have key : s ++ d ++ r1 ++ r2 = s ++ d ++ strOfNums [0, a % 256, b / 256 % 256, b % 256] := by
      apply bl_inj'
      rw [bl_append, bl_append, bl_append (s ++ d), b1, b2, bl_nums, ← nums2 b, ← nums2 (a % 256)]
      simp only [List.map_cons, List.map_nil, List.append_assoc, List.cons_append, List.nil_append]
      rw [show a % 256 / 256 % 256 = 0 by omega, show a % 256 % 256 = a % 256 by omega]
    rw [key]
theorem join_loop (l : List ByteArray) (hl : ∀ s ∈ l, s.size ≤ 140737488351232) : ∀ (m i k : Nat) (t : ByteArray), i + m = 102 → 0 < m → m < k → i ≤ l.length → t.size ≤ 5000 → bl t = cat (l.take i) →
    ∃ s ok, palanquinlaw02_join.l0 k l t (i : Int) = some (s, ok) ∧ (ok = true → s.size ≤ 5000 ∧ bl s = cat l)
  | 0, _, _, _, _, h, _, _, _, _ => absurd h (by omega)
  | m + 1, i, k + 1, t, hi, _, hk, hil, ht, hb => by
    rw [palanquinlaw02_join.l0]
    by_cases hlt : (i : Int) < (l.length : Int)
    · have hlt' : i < l.length := by omega
      have hg : rdOf ByteArray.empty l (i : Int) = l[i] := by unfold rdOf; rw [Int.toNat_natCast, List.getD_eq_getElem?_getD, List.getElem?_eq_getElem hlt']; rfl
      have hsz := hl l[i] (List.getElem_mem hlt')
      rw [if_pos hlt, if_pos (by omega), hg, if_pos (by omega)]
      by_cases hbig : ((t ++ l[i]).size : Int) > 5000
      · rw [if_pos hbig]
        exact ⟨_, _, rfl, fun h => by simp at h⟩
      · rw [if_neg hbig]
        by_cases hi2 : (i : Int) > 100
        · rw [if_pos hi2]
          exact ⟨_, _, rfl, fun h => by simp at h⟩
        · rw [if_neg hi2, show wrap64 ((i : Int) + 1) = ((i + 1 : Nat) : Int) by unfold wrap64; omega]
          refine join_loop l hl m (i + 1) k (t ++ l[i]) (by omega) (by omega) (by omega) (by omega) (by omega) ?_
          rw [bl_append, hb, List.take_succ_eq_append_getElem hlt']
          unfold cat
          rw [List.map_append, List.flatten_append]
          simp
    · rw [if_neg hlt]
      refine ⟨_, _, rfl, fun _ => ⟨ht, ?_⟩⟩
      rw [hb, List.take_of_length_le (by omega)]
theorem SumTells (l : List ByteArray) (a b c : Int) (s d : ByteArray) (hl : ∀ s ∈ l, s.size ≤ 140737488351232) (_ : (Lit.int .i64 a).wf = true) (_ : (Lit.int .i64 b).wf = true) (_ : (Lit.int .i64 c).wf = true) (_ : s.size ≤ 140737488351232) (_ : d.size ≤ 140737488351232) :
    ∃ k, palanquinlaw02_SumTells.f k l a b c s d = some true := by
  refine ⟨5001 + 1, ?_⟩
  unfold palanquinlaw02_SumTells.f
  rw [awake02, Option.bind_some, if_pos rfl]
  obtain ⟨t, ok, hj, hok⟩ := join_loop l hl 102 0 (5001 + 1) ⟨#[]⟩ (by omega) (by omega) (by omega) (by omega) (by decide) rfl
  rw [show palanquinlaw02_join.f (5001 + 1) l = some (t, ok) from hj, Option.bind_some]
  dsimp only
  cases ok
  · rw [if_neg (by decide), palanquinlaw02_SumTells.j0, if_pos rfl]
  rw [if_pos rfl]
  obtain ⟨hts, htb⟩ := hok rfl
  by_cases h1 : (s.size : Int) > 300
  · rw [if_pos h1, palanquinlaw02_SumTells.j0, if_pos rfl]
  rw [if_neg h1]
  by_cases h2 : (d.size : Int) > 300
  · rw [decide_eq_true h2, palanquinlaw02_SumTells.j0, if_pos rfl]
  rw [decide_eq_false h2, palanquinlaw02_SumTells.j0, if_neg (by decide)]
  have hc : (cat l).length ≤ 1099511627776 := by rw [← htb, bl_length]; omega
  obtain ⟨r, p1, p2⟩ := ref_pseudo s d (by omega) (by omega) a b 5001 (by decide)
  rw [sum_some l hc, Option.bind_some, ref_sum t hts 5001 (by decide), Option.bind_some, if_pos (by rw [htb]), right_some l hc, Option.bind_some, Option.bind_some]
  rw [if_pos (by
    rw [htb]
    by_cases h0 : csum (cat l) = 0
    · rw [h0]; rfl
    · rw [show (csum (cat l) == 0) = false from beq_eq_false_iff_ne.mpr h0, show (((csum (cat l) : Nat) : Int) == 0) = false from beq_eq_false_iff_ne.mpr (by omega)]; rfl)]
  rw [sum_upd, Option.bind_some, ref_upd a b c 5001 (by decide), Option.bind_some, if_pos rfl, p1, Option.bind_some, p2, Option.bind_some]
  simp
end Go.Proofs.Ytejmipoolbodgaa.Pure
