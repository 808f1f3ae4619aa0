/- Texts of this session, joined: each is a section. -/
import Derived.Test.YtejmipoolbodgaaMFrag4
import Derived.Test.YtejmipoolbodgaaMFrag1
import Derived.Test.YtejmipoolbodgaaMFrag5
import Derived.Test.YtejmipoolbodgaaMFrag2
import Derived.Test.YtejmipoolbodgaaMFrag6
import Derived.Test.YtejmipoolbodgaaMFrag3
section
/- Plain facts of palanquinref01: Value reads a big-endian number, Bytes writes one. -/
namespace Go.Proofs.Ytejmipoolbodgaa.Pure
open Go.RowKit Go.Proofs.YtejmipoolbodgaaW.PrintWords Go.Proofs.YtejmipoolbodgaaW.PrintLast Go.Proofs.Ytejmipoolbodgaa.G Go.Proofs.Ytejmipoolbodgaa.Pal
theorem bt_bl (s : ByteArray) (i : Nat) (h : i < s.size) : bt s (i : Int) = (((bl s)[i]'(by rw [bl_length]; exact h)).toNat : Int) := by
  unfold bt
  rw [dif_pos (by simpa using h)]
  rfl
theorem value_loop (s : ByteArray) (hs : s.size ≤ 8) : ∀ (n i k : Nat), i + n = s.size → n < k → palanquinref01_Value.l0 k s ((be ((bl s).take i) : Nat) : Int) (i : Int) = some ((be (bl s) : Nat) : Int)
  | 0, i, k + 1, hi, _ => by
    rw [palanquinref01_Value.l0, if_neg (by omega), List.take_of_length_le (by rw [bl_length]; omega)]
  | n + 1, i, k + 1, hi, hk => by
    have hlt : i < s.size := by omega
    have hlen : i < (bl s).length := by rw [bl_length]; exact hlt
    rw [palanquinref01_Value.l0, if_pos (by omega), if_pos (by omega)]
    have hb : (bl s)[i].toNat < 256 := (bl s)[i].toNat_lt
    have h1 : be ((bl s).take (i + 1)) = be ((bl s).take i) * 256 + (bl s)[i].toNat := by
      rw [List.take_succ_eq_append_getElem hlen, be_snoc]
    have h2 : be ((bl s).take (i + 1)) < 256 ^ 8 := be_lt_of _ 8 (by rw [List.length_take]; omega)
    have h3 : (256 : Nat) ^ 8 = 18446744073709551616 := by decide
    rw [bt_bl s i hlt, show wrap64 ((i : Int) + 1) = ((i + 1 : Nat) : Int) by unfold wrap64; omega,
      show IntKind.u64.wrap ((IntKind.u64.wrap (((be ((bl s).take i) : Nat) : Int) * 256)) + (IntKind.u64.wrap ((bl s)[i].toNat : Int))) = ((be ((bl s).take (i + 1)) : Nat) : Int) by rw [IntKind.wrap_u64, IntKind.wrap_u64, IntKind.wrap_u64]; omega]
    exact value_loop s hs n (i + 1) k (by omega) (by omega)
theorem value_is (s : ByteArray) (hs : s.size ≤ 8) (k : Nat) (hk : s.size < k) : palanquinref01_Value.f k s = some ((be (bl s) : Nat) : Int) := by
  have := value_loop s hs s.size 0 k (by omega) hk
  exact this
theorem byte_is (x : Int) (h0 : 0 ≤ x) : strOfNums [Int.tmod x 256 % 256] = ⟨#[UInt8.ofNat x.toNat]⟩ := by
  obtain ⟨n, rfl⟩ := Int.eq_ofNat_of_zero_le h0
  have e : Int.tmod (n : Int) 256 % 256 = ((n % 256 : Nat) : Int) := by rw [Int.tmod_eq_emod_of_nonneg (by omega)]; omega
  rw [e]
  simp [strOfNums]
  apply UInt8.toNat.inj
  simp
  omega
theorem bytes_loop (n : Nat) (hn : n ≤ 8) : ∀ (m i k x : Nat) (t : ByteArray), i + m = n → m < k → x ≤ 18446744073709551615 → t.size = i →
    ∃ r, palanquinref01_Bytes.l0 k (x : Int) (n : Int) t (i : Int) = some r ∧ bl r = nb m x ++ bl t
  | 0, i, k + 1, x, t, hi, _, _, _ => by
    refine ⟨t, ?_, by simp [nb]⟩
    rw [palanquinref01_Bytes.l0, if_neg (by omega)]
  | m + 1, i, k + 1, x, t, hi, hk, hx, ht => by
    have hd : IntKind.u64.wrap (Int.tdiv (x : Int) 256) = ((x / 256 : Nat) : Int) := by rw [IntKind.wrap_u64, Int.tdiv_eq_ediv_of_nonneg (by omega)]; omega
    have hb := byte_is (x : Int) (by omega)
    rw [Int.toNat_natCast] at hb
    have h1 : (⟨#[UInt8.ofNat x]⟩ : ByteArray).size = 1 := rfl
    obtain ⟨r, hr, hr2⟩ := bytes_loop n hn m (i + 1) k (x / 256) (⟨#[UInt8.ofNat x]⟩ ++ t) (by omega) (by omega) (by omega) (by rw [ByteArray.size_append, h1]; omega)
    refine ⟨r, ?_, ?_⟩
    · rw [palanquinref01_Bytes.l0, if_pos (by omega), Option.bind_some, hb, if_pos (by rw [h1]; omega), hd, show wrap64 ((i : Int) + 1) = ((i + 1 : Nat) : Int) by unfold wrap64; omega]
      exact hr
    · rw [hr2, bl_append, nb, List.append_assoc]
      rfl
theorem bytes_is (n : Nat) (hn : n ≤ 8) (x : Nat) (hx : x ≤ 18446744073709551615) (k : Nat) (hk : n < k) : ∃ r, palanquinref01_Bytes.f k (x : Int) (n : Int) = some r ∧ bl r = nb n x := by
  obtain ⟨r, h1, h2⟩ := bytes_loop n hn n 0 k x ⟨#[]⟩ (by omega) hk hx rfl
  refine ⟨r, h1, ?_⟩
  rw [h2]
  simp [bl]
theorem bytes_u (n : Nat) (hn : n ≤ 8) (v : Int) (k : Nat) (hk : n < k) : ∃ r, palanquinref01_Bytes.f k (IntKind.u64.wrap v) (n : Int) = some r ∧ bl r = nb n (IntKind.u64.wrap v).toNat := by
  have h0 : 0 ≤ IntKind.u64.wrap v ∧ IntKind.u64.wrap v ≤ 18446744073709551615 := by rw [IntKind.wrap_u64]; omega
  generalize IntKind.u64.wrap v = x at h0 ⊢
  obtain ⟨x, rfl⟩ := Int.eq_ofNat_of_zero_le h0.1
  obtain ⟨r, h1, h2⟩ := bytes_is n hn x (by omega) k hk
  exact ⟨r, h1, by rw [h2, Int.toNat_natCast]⟩
theorem bytes_sized {n : Nat} {r : ByteArray} {x : Nat} (h : bl r = nb n x) : r.size = n := by rw [← bl_length, h, nb_length]
end Go.Proofs.Ytejmipoolbodgaa.Pure
end

section
/- Plain facts of palanquinref02: its sum is the checksum. -/
namespace Go.Proofs.Ytejmipoolbodgaa.Pure
open Go.RowKit Go.Proofs.YtejmipoolbodgaaW.PrintWords Go.Proofs.YtejmipoolbodgaaW.PrintLast Go.Proofs.Ytejmipoolbodgaa.G Go.Proofs.Ytejmipoolbodgaa.Pal
namespace R2
theorem down_is : ∀ (k n : Nat), n < k → n ≤ 1099511627776 → palanquinref02_down.f k (n : Int) = some ((fold16 n : Nat) : Int)
  | k + 1, n, hk, hn => by
    unfold palanquinref02_down.f
    rw [palanquinref02_down.l0]
    by_cases h : (n : Int) ≥ 65536
    · rw [if_pos h, show wrap64 (Int.tmod (n : Int) 65536 + wrap64 (Int.tdiv (n : Int) 65536)) = ((n % 65536 + n / 65536 : Nat) : Int) by
        rw [Int.tmod_eq_emod_of_nonneg (by omega), Int.tdiv_eq_ediv_of_nonneg (by omega)]; unfold wrap64; omega]
      have := down_is k (n % 65536 + n / 65536) (by omega) (by omega)
      unfold palanquinref02_down.f at this
      rw [this, fold16_step]
    · rw [if_neg h, fold16_id n (by omega)]
/-- fewer rounds: each takes at least 65535 away -/
theorem down_fast : ∀ (k n : Nat), n ≤ 4294967296 → 2 < k → palanquinref02_down.f k (n : Int) = some ((fold16 n : Nat) : Int) := by
  intro k n hn hk
  obtain ⟨k, rfl⟩ : ∃ j, k = j + 3 := ⟨k - 3, by omega⟩
  have step : ∀ m : Nat, m ≤ 4294967296 → (m : Int) ≥ 65536 → wrap64 (Int.tmod (m : Int) 65536 + wrap64 (Int.tdiv (m : Int) 65536)) = ((m % 65536 + m / 65536 : Nat) : Int) := fun m hm h => by
    rw [Int.tmod_eq_emod_of_nonneg (by omega), Int.tdiv_eq_ediv_of_nonneg (by omega)]; unfold wrap64; omega
  unfold palanquinref02_down.f
  rw [palanquinref02_down.l0]
  by_cases h : (n : Int) ≥ 65536
  · rw [if_pos h, step n hn h, palanquinref02_down.l0]
    by_cases h2 : ((n % 65536 + n / 65536 : Nat) : Int) ≥ 65536
    · rw [if_pos h2, step _ (by omega) h2, palanquinref02_down.l0, if_neg (by omega)]
      congr 2
      rw [← fold16_step n, ← fold16_step (n % 65536 + n / 65536), fold16_id _ (by omega)]
    · rw [if_neg h2]
      congr 2
      rw [← fold16_step n, fold16_id _ (by omega)]
  · rw [if_neg h, fold16_id n (by omega)]
theorem tot_two (l : List UInt8) (i : Nat) (h : i + 1 < l.length) : tot false (l.take (i + 2)) = tot false (l.take i) + tot (odd (l.take i)) [l[i], l[i + 1]] := by
  have e : l.take (i + 2) = l.take i ++ [l[i], l[i + 1]] := by
    rw [List.take_succ_eq_append_getElem (by omega), List.take_succ_eq_append_getElem (by omega), List.append_assoc]; rfl
  rw [e, tot_append]
  cases odd (l.take i) <;> rfl
theorem sum_end (s : ByteArray) (hs : s.size ≤ 6000) (k : Nat) (hk : 3 < k) : palanquinref02_Sum.l0 k s ((tot false (bl s) : Nat) : Int) (s.size : Int) = some ((65535 - fold16 (tot false (bl s)) : Nat) : Int) := by
  obtain ⟨k, rfl⟩ : ∃ j, k = j + 1 := ⟨k - 1, by omega⟩
  have hb := tot_le (bl s) false
  rw [bl_length] at hb
  rw [palanquinref02_Sum.l0, if_neg (by omega), down_fast k _ (by omega) (by omega), Option.bind_some]
  have := fold16_le (tot false (bl s))
  congr 1; unfold wrap64; omega
theorem sum_num (z x y : Nat) (hz : z ≤ 391680000) (hx : x < 2 ^ 8) (hy : y < 2 ^ 8) : wrap64 (wrap64 ((z : Int) + wrap64 (wrap64 (x : Int) * 256)) + wrap64 (y : Int)) = ((z + (x * 256 + y) : Nat) : Int) := by
  have e1 : wrap64 (x : Int) = x := by unfold wrap64; omega
  have e2 : wrap64 (y : Int) = y := by unfold wrap64; omega
  have e3 : wrap64 ((x : Int) * 256) = (x : Int) * 256 := by unfold wrap64; omega
  have e4 : wrap64 ((z : Int) + (x : Int) * 256) = (z : Int) + (x : Int) * 256 := by unfold wrap64; omega
  rw [e1, e2, e3, e4]
  unfold wrap64; omega
theorem sum_step (s : ByteArray) (hs : s.size ≤ 6000) (i k : Nat) (hi : i % 2 = 0) (h1 : i + 1 < s.size) :
    palanquinref02_Sum.l0 (k + 1) s ((tot false ((bl s).take i) : Nat) : Int) (i : Int) = palanquinref02_Sum.l0 k s ((tot false ((bl s).take (i + 2)) : Nat) : Int) ((i + 2 : Nat) : Int) := by
  have h0 : i < s.size := by omega
  have hl1 : i + 1 < (bl s).length := by rw [bl_length]; exact h1
  have hb := tot_le ((bl s).take i) false
  have hl : ((bl s).take i).length ≤ 6000 := by rw [List.length_take, bl_length]; omega
  have ho : odd ((bl s).take i) = false := by
    unfold odd; rw [List.length_take, bl_length, Nat.min_eq_left (by omega), hi]; rfl
  have ht := tot_two (bl s) i hl1
  rw [ho] at ht
  simp only [tot, Nat.add_zero] at ht
  have b0 := (bl s)[i].toNat_lt
  have b1 := (bl s)[i + 1].toNat_lt
  have w1 : wrap64 ((i : Int) + 1) = ((i + 1 : Nat) : Int) := by unfold wrap64; omega
  have w2 : wrap64 ((i : Int) + 2) = ((i + 2 : Nat) : Int) := by unfold wrap64; omega
  have g0 : bt s (i : Int) = (((bl s)[i].toNat : Nat) : Int) := bt_bl s i h0
  have g1 : bt s ((i + 1 : Nat) : Int) = (((bl s)[i + 1].toNat : Nat) : Int) := bt_bl s (i + 1) h1
  rw [ht]
  generalize (bl s)[i].toNat = x at b0 g0 ⊢
  generalize (bl s)[i + 1].toNat = y at b1 g1 ⊢
  have hz : tot false ((bl s).take i) ≤ 391680000 := by omega
  generalize tot false ((bl s).take i) = z at hz ⊢
  clear hb hl ho ht hl1 hs
  rw [palanquinref02_Sum.l0, if_pos (by omega), if_pos (by omega), w1, w2, if_pos (by omega), if_pos (by omega), g0, g1]
  rw [sum_num z x y hz b0 b1]
theorem sum_loop (s : ByteArray) (hs : s.size ≤ 6000) (he : s.size % 2 = 0) (n : Nat) : ∀ (i k : Nat), i + 2 * n = s.size → n + 3 < k →
    palanquinref02_Sum.l0 k s ((tot false ((bl s).take i) : Nat) : Int) (i : Int) = some ((65535 - fold16 (tot false (bl s)) : Nat) : Int) := by
  induction n with
  | zero =>
    intro i k hi hk
    have e := sum_end s hs k (by omega)
    rw [List.take_of_length_le (by rw [bl_length]; omega), show i = s.size by omega]
    exact e
  | succ n ih =>
    intro i k hi hk
    obtain ⟨k, rfl⟩ : ∃ j, k = j + 1 := ⟨k - 1, by omega⟩
    rw [sum_step s hs i k (by omega) (by omega)]
    exact ih (i + 2) k (by omega) (by omega)
theorem zero_is : strOfNums [0] = ⟨#[0]⟩ := by simp [strOfNums]
theorem ref_sum (s : ByteArray) (hs : s.size ≤ 5000) (k : Nat) (hk : 5000 < k) : palanquinref02_Sum.f k s = some ((csum (bl s) : Nat) : Int) := by
  unfold palanquinref02_Sum.f
  obtain ⟨k, rfl⟩ : ∃ j, k = j + 1 := ⟨k - 1, by omega⟩
  by_cases h : (s.size : Int) % 2 = 1
  · have h1 : (⟨#[0]⟩ : ByteArray).size = 1 := rfl
    rw [if_pos h, Option.bind_some, zero_is, if_pos (by rw [h1]; omega), palanquinref02_Sum.j0]
    have e := sum_loop (s ++ ⟨#[0]⟩) (by rw [ByteArray.size_append, h1]; omega) (by rw [ByteArray.size_append, h1]; omega) ((s.size + 1) / 2) 0 k (by rw [ByteArray.size_append, h1]; omega) (by omega)
    refine Eq.trans e ?_
    rw [bl_append, tot_append]
    unfold csum
    have : ∀ o, tot o (bl (⟨#[0]⟩ : ByteArray)) = 0 := fun o => by cases o <;> rfl
    rw [this]; rfl
  · rw [if_neg h, palanquinref02_Sum.j0]
    exact sum_loop s (by omega) (by omega) (s.size / 2) 0 k (by omega) (by omega)
end R2
end Go.Proofs.Ytejmipoolbodgaa.Pure
end

section
/- Plain facts of palanquinref05's Right and Put: they are ip4.Check's and ip4.Put's. -/
namespace Go.Proofs.Ytejmipoolbodgaa.Pure
open Go.RowKit Go.Proofs.YtejmipoolbodgaaW.PrintWords Go.Proofs.YtejmipoolbodgaaW.PrintLast Go.Proofs.Ytejmipoolbodgaa.G Go.Proofs.Ytejmipoolbodgaa.Pal
theorem ref_in4 (a x y : Int) : palanquinref05_in.f a x y = some (decide (x ≤ a ∧ a ≤ y)) := by
  unfold palanquinref05_in.f
  by_cases h : a ≥ x
  · rw [if_pos h]; congr 1; apply decide_eq_decide.mpr; exact ⟨fun h2 => ⟨h, h2⟩, fun h2 => h2.2⟩
  · rw [if_neg h, decide_eq_false (fun h2 => h h2.1)]
theorem ref_right4 (tos id off ttl proto : Int) (df mf : Bool) (src dst opt : ByteArray) : palanquinref05_Right.f tos id off ttl proto df mf src dst opt = some (decide (ok4 tos id off ttl proto src dst opt)) := by
  unfold palanquinref05_Right.f
  rw [ref_in4, Option.bind_some]
  by_cases h1 : 0 ≤ tos ∧ tos ≤ 255
  case neg => rw [if_neg (by simpa using h1), decide_eq_false (fun h => h1 h.1)]
  rw [if_pos (decide_eq_true h1), ref_in4, Option.bind_some]
  by_cases h2 : 0 ≤ ttl ∧ ttl ≤ 255
  case neg => rw [if_neg (by simpa using h2), decide_eq_false (fun h => h2 h.2.2.2.1)]
  rw [if_pos (decide_eq_true h2), ref_in4, Option.bind_some]
  by_cases h3 : 0 ≤ proto ∧ proto ≤ 255
  case neg => rw [if_neg (by simpa using h3), decide_eq_false (fun h => h3 h.2.2.2.2.1)]
  rw [if_pos (decide_eq_true h3), ref_in4, Option.bind_some]
  by_cases h4 : 0 ≤ id ∧ id ≤ 65535
  case neg => rw [if_neg (by simpa using h4), decide_eq_false (fun h => h4 h.2.1)]
  rw [if_pos (decide_eq_true h4), ref_in4, Option.bind_some]
  by_cases h5 : 0 ≤ off ∧ off ≤ 8191
  case neg => rw [if_neg (by simpa using h5), decide_eq_false (fun h => h5 h.2.2.1)]
  rw [if_pos (decide_eq_true h5)]
  by_cases h6 : (src.size : Int) = 4
  case neg => rw [if_neg h6, decide_eq_false (fun h => h6 (by have := h.2.2.2.2.2.1; omega))]
  rw [if_pos h6]
  by_cases h7 : (dst.size : Int) = 4
  case neg => rw [if_neg h7, decide_eq_false (fun h => h7 (by have := h.2.2.2.2.2.2.1; omega))]
  rw [if_pos h7]
  by_cases h8 : (opt.size : Int) ≤ 40
  case neg => rw [if_neg h8, decide_eq_false (fun h => h8 (by have := h.2.2.2.2.2.2.2.1; omega))]
  rw [if_pos h8]
  congr 1
  rw [Bool.eq_iff_iff, beq_iff_eq, decide_eq_true_iff]
  exact ⟨fun h => ⟨h1, h4, h5, h2, h3, by omega, by omega, by omega, by omega⟩, fun h => by have := h.2.2.2.2.2.2.2.2; omega⟩
theorem num4 (x n : Nat) (hn : n ≤ 8) (hx : x ≤ 18446744073709551615) (k : Nat) (hk : n < k) : ∃ r, palanquinref05_num.f k (x : Int) (n : Int) = some r ∧ bl r = nb n x ∧ r.size = n := by
  obtain ⟨r, h1, h2⟩ := bytes_is n hn x hx k hk
  refine ⟨r, ?_, h2, bytes_sized h2⟩
  unfold palanquinref05_num.f
  rw [show IntKind.u64.wrap (x : Int) = (x : Int) by rw [IntKind.wrap_u64]; omega, h1, Option.bind_some]
theorem w69 (n : Nat) (h : n ≤ 40) : wrap64 (69 + wrap64 ((n : Int) / 4)) = ((64 + (20 + n) / 4 : Nat) : Int) := by
  have e : wrap64 ((n : Int) / 4) = ((n / 4 : Nat) : Int) := by unfold wrap64; omega
  rw [e, show 64 + (20 + n) / 4 = 69 + n / 4 by omega]
  have hb : n / 4 ≤ 10 := by omega
  clear e
  generalize n / 4 = m at hb ⊢
  unfold wrap64
  omega
theorem ref_put4_j1 (tos id off ttl proto : Nat) (df mf : Bool) (src dst opt p : ByteArray) (h : ok4 tos id off ttl proto src dst opt) (hp : 20 + opt.size + p.size ≤ 65535) (k : Nat) (hk : 6000 < k) :
    palanquinref05_Put.j1 (k + 1) p ((20 + opt.size + p.size : Nat) : Int) ((fl df mf off : Nat) : Int) tos id off ttl proto df mf src dst opt = some (⟨(put4 tos id off ttl proto df mf src dst opt p).toArray⟩, 0) := by
  obtain ⟨h1, h2, h3, h4, h5, h6, h7, h8, h9⟩ := h
  have hfl := fl_lt (df := df) (mf := mf) (show off < 8192 by omega)
  unfold put4 head4
  generalize fl df mf off = F at hfl ⊢
  have hT : 20 + opt.size + p.size ≤ 65535 := hp
  generalize 20 + opt.size + p.size = T at hT ⊢
  rw [palanquinref05_Put.j1, w69 _ h8]
  have hF : 64 + (20 + opt.size) / 4 ≤ 79 := by omega
  generalize 64 + (20 + opt.size) / 4 = B at hF ⊢
  obtain ⟨r1, e1, b1, s1⟩ := num4 B 1 (by decide) (by omega) k (by omega)
  obtain ⟨r2, e2, b2, s2⟩ := num4 tos 1 (by decide) (by omega) k (by omega)
  obtain ⟨r3, e3, b3, s3⟩ := num4 T 2 (by decide) (by omega) k (by omega)
  obtain ⟨r4, e4, b4, s4⟩ := num4 id 2 (by decide) (by omega) k (by omega)
  obtain ⟨r5, e5, b5, s5⟩ := num4 F 2 (by decide) (by omega) k (by omega)
  obtain ⟨r6, e6, b6, s6⟩ := num4 ttl 1 (by decide) (by omega) k (by omega)
  obtain ⟨r7, e7, b7, s7⟩ := num4 proto 1 (by decide) (by omega) k (by omega)
  have z0 : (⟨#[0, 0]⟩ : ByteArray).size = 2 := rfl
  have z1 : bl (⟨#[0, 0]⟩ : ByteArray) = nb 2 0 := rfl
  have t2 : (r1 ++ r2).size = 2 := by rw [ByteArray.size_append]; omega
  have t3 : (r1 ++ r2 ++ r3).size = 4 := by rw [ByteArray.size_append]; omega
  have t4 : (r1 ++ r2 ++ r3 ++ r4).size = 6 := by rw [ByteArray.size_append]; omega
  have t5 : (r1 ++ r2 ++ r3 ++ r4 ++ r5).size = 8 := by rw [ByteArray.size_append]; omega
  have t6 : (r1 ++ r2 ++ r3 ++ r4 ++ r5 ++ r6).size = 9 := by rw [ByteArray.size_append]; omega
  have t7 : (r1 ++ r2 ++ r3 ++ r4 ++ r5 ++ r6 ++ r7).size = 10 := by rw [ByteArray.size_append]; omega
  have u1 : (src ++ dst).size = 8 := by rw [ByteArray.size_append]; omega
  have u2 : (src ++ dst ++ opt).size = 8 + opt.size := by rw [ByteArray.size_append]; omega
  have v1 : (r1 ++ r2 ++ r3 ++ r4 ++ r5 ++ r6 ++ r7 ++ (⟨#[0, 0]⟩ : ByteArray)).size = 12 := by rw [ByteArray.size_append]; omega
  have v2 : (r1 ++ r2 ++ r3 ++ r4 ++ r5 ++ r6 ++ r7 ++ (⟨#[0, 0]⟩ : ByteArray) ++ (src ++ dst ++ opt)).size = 20 + opt.size := by rw [ByteArray.size_append]; omega
  have hsum := R2.ref_sum (r1 ++ r2 ++ r3 ++ r4 ++ r5 ++ r6 ++ r7 ++ (⟨#[0, 0]⟩ : ByteArray) ++ (src ++ dst ++ opt)) (by omega) k (by omega)
  have hbl : bl (r1 ++ r2 ++ r3 ++ r4 ++ r5 ++ r6 ++ r7 ++ (⟨#[0, 0]⟩ : ByteArray) ++ (src ++ dst ++ opt)) = nb 1 B ++ nb 1 tos ++ nb 2 T ++ nb 2 id ++ nb 2 F ++ nb 1 ttl ++ nb 1 proto ++ nb 2 0 ++ (bl src ++ bl dst ++ bl opt) := by
    simp only [bl_append, b1, b2, b3, b4, b5, b6, b7, z1]
  rw [hbl] at hsum
  have hc := csum4_le (nb 1 B ++ nb 1 tos ++ nb 2 T ++ nb 2 id ++ nb 2 F ++ nb 1 ttl ++ nb 1 proto ++ nb 2 0 ++ (bl src ++ bl dst ++ bl opt))
  generalize csum (nb 1 B ++ nb 1 tos ++ nb 2 T ++ nb 2 id ++ nb 2 F ++ nb 1 ttl ++ nb 1 proto ++ nb 2 0 ++ (bl src ++ bl dst ++ bl opt)) = C at hsum hc ⊢
  obtain ⟨r8, e8, b8, s8⟩ := num4 C 2 (by decide) (by omega) k (by omega)
  have t8 : (r1 ++ r2 ++ r3 ++ r4 ++ r5 ++ r6 ++ r7 ++ r8).size = 12 := by rw [ByteArray.size_append]; omega
  have t9 : (r1 ++ r2 ++ r3 ++ r4 ++ r5 ++ r6 ++ r7 ++ r8 ++ (src ++ dst ++ opt)).size = 20 + opt.size := by rw [ByteArray.size_append]; omega
  have hps : p.size ≤ 140737488351232 := by omega
  rw [show (1 : Int) = ((1 : Nat) : Int) from rfl, show (2 : Int) = ((2 : Nat) : Int) from rfl, e1, Option.bind_some, e2, Option.bind_some, if_pos (by omega), e3, Option.bind_some, if_pos (by omega), e4, Option.bind_some, if_pos (by omega), e5, Option.bind_some, if_pos (by omega), e6, Option.bind_some, if_pos (by omega), e7, Option.bind_some, if_pos (by omega),
    if_pos (by omega), if_pos (by omega), if_pos (by omega), if_pos (by omega), hsum, Option.bind_some, e8, Option.bind_some, if_pos (by omega), if_pos (by omega), if_pos (by omega)]
  refine congrArg some (Prod.ext (bl4_inj ?_) rfl)
  dsimp only
  refine Eq.trans ?_ (bl4_mk _).symm
  simp only [bl_append, b1, b2, b3, b4, b5, b6, b7, b8]
theorem ref_put4 (tos id off ttl proto : Int) (df mf : Bool) (src dst opt p : ByteArray) (h1 : src.size ≤ 281474976710656) (h2 : dst.size ≤ 281474976710656) (h3 : opt.size ≤ 281474976710656) (hp : p.size ≤ 140737488351232) (k : Nat) (hk : 6002 < k) :
    palanquinref05_Put.f k tos id off ttl proto df mf src dst opt p = ip4_Put.f tos id off ttl proto df mf src dst opt p := by
  unfold palanquinref05_Put.f
  rw [ref_right4, Option.bind_some]
  by_cases o : ok4 tos id off ttl proto src dst opt
  case neg => rw [if_neg (by simpa using o), put4_no o h1 h2 h3]
  rw [if_pos (decide_eq_true o)]
  obtain ⟨a, b, c, d, e, rfl, rfl, rfl, rfl, rfl⟩ := ok4_nat o
  have hs := o.2.2.2.2.2
  rw [show wrap64 (wrap64 (20 + (opt.size : Int)) + (p.size : Int)) = ((20 + opt.size + p.size : Nat) : Int) by unfold wrap64; omega]
  by_cases hb : 20 + opt.size + p.size ≤ 65535
  case neg => rw [if_pos (by omega), put4_big o hb hp]
  rw [if_neg (by omega), put4_ok o hb]
  obtain ⟨k, rfl⟩ : ∃ j, k = j + 1 + 1 := ⟨k - 2, by omega⟩
  have hc : c ≤ 8191 := by have := o.2.2.1; omega
  have key := ref_put4_j1 a b c d e df mf src dst opt p o hb k (by omega)
  cases df
  · rw [if_neg (by decide), palanquinref05_Put.j0]
    cases mf
    · rw [if_neg (by decide), show (c : Int) = ((fl false false c : Nat) : Int) by simp [fl]]; exact key
    · rw [if_pos rfl, show wrap64 ((c : Int) + 8192) = ((fl false true c : Nat) : Int) by simp only [fl]; unfold wrap64; simp; omega]; exact key
  · rw [if_pos rfl, palanquinref05_Put.j0]
    cases mf
    · rw [if_neg (by decide), show wrap64 ((c : Int) + 16384) = ((fl true false c : Nat) : Int) by simp only [fl]; unfold wrap64; simp; omega]; exact key
    · rw [if_pos rfl, show wrap64 (wrap64 ((c : Int) + 16384) + 8192) = ((fl true true c : Nat) : Int) by simp only [fl]; unfold wrap64; simp; omega]; exact key
theorem put4_some (tos id off ttl proto : Int) (df mf : Bool) (src dst opt p : ByteArray) (h1 : src.size ≤ 281474976710656) (h2 : dst.size ≤ 281474976710656) (h3 : opt.size ≤ 281474976710656) (hp : p.size ≤ 140737488351232) : ∃ x, ip4_Put.f tos id off ttl proto df mf src dst opt p = some x := by
  by_cases o : ok4 tos id off ttl proto src dst opt
  · obtain ⟨a, b, c, d, e, rfl, rfl, rfl, rfl, rfl⟩ := ok4_nat o
    by_cases hb : 20 + opt.size + p.size ≤ 65535
    · exact ⟨_, put4_ok o hb⟩
    · exact ⟨_, put4_big o hb hp⟩
  · exact ⟨_, put4_no o h1 h2 h3⟩
end Go.Proofs.Ytejmipoolbodgaa.Pure
end

section
namespace Go.Proofs.Ytejmipoolbodgaa.G
open Go.RowKit Go.Proofs.YtejmipoolbodgaaW.PrintWords Go.Proofs.YtejmipoolbodgaaW.PrintLast Go.Proofs.YtejmipoolbodgaaW.PrintMore
attribute [local go_sem] max2_int min2_int max_two min_two max_three min_three max_four min_four   -- for this text's walks alone
set_option linter.unusedVariables false
set_option linter.unusedSimpArgs false

/-! ### palanquinlaw15_awake: function 113 -/
def palanquinlaw15_awake.f (k : Nat)  : Option (Bool) := if 100 ≤ 281474976710656 then ((palanquinref05_Put.f k 0 0 0 0 0 false false (⟨#[97, 98, 99, 100]⟩ : ByteArray) (⟨#[101, 102, 103, 104]⟩ : ByteArray) (⟨#[]⟩ : ByteArray) (strOfNums (List.replicate 100 0))).bind fun bt841 => ((frag_Cut.f bt841.1 60).bind fun bt843 => (if bt843.2 = 0 then (if (bt843.1.length : Int) = 3 then (if 0 < (bt843.1.length : Int) then (if ((rdOf ByteArray.empty bt843.1 0).size : Int) = 60 then (if 1 < (bt843.1.length : Int) then (if ((rdOf ByteArray.empty bt843.1 1).size : Int) = 60 then (if 2 < (bt843.1.length : Int) then (if ((rdOf ByteArray.empty bt843.1 2).size : Int) = 40 then ((frag_Part.f 20 67).bind fun t850 => (some (t850 == 40))) else (some false)) else (none)) else (some false)) else (none)) else (some false)) else (none)) else (some false)) else (some false)))) else (none)
theorem palanquinlaw15_awake.mono : ∀ k, LeO (palanquinlaw15_awake.f k ) (palanquinlaw15_awake.f (k + 1) ) := by
  intro  k
  unfold palanquinlaw15_awake.f
  repeat' first
      | (with_reducible exact palanquinref05_Put.mono _ _ _ _ _ _ _ _ _ _ _ _)
      | (with_reducible exact LeO.refl _)
      | (with_reducible exact LeO.none _)
      | (with_reducible refine LeO.ite ?_ ?_)
      | (with_reducible refine LeO.bind ?_ (fun _ => ?_))
      | exact palanquinref05_Put.mono _ _ _ _ _ _ _ _ _ _ _ _
      | exact LeO.none _
      | refine LeO.ite ?_ ?_
      | refine LeO.bind ?_ (fun _ => ?_)
set_option maxHeartbeats 8000000 in
set_option maxRecDepth 100000 in
theorem palanquinlaw15_awake.calls (k : Nat)  (r : Bool) (w : World) (h : palanquinlaw15_awake.f k  = some r) :
    Calls Try.prog 113 #[] w fun e w' => e = .returned (.bool r) ∧ Below w.heap.size w w' := by
  have hu93 := Try.underlying93
  have HB := Aside0.mk (Below.refl w.heap.size w)
  have H : (if 100 ≤ 281474976710656 then ((palanquinref05_Put.f k 0 0 0 0 0 false false (⟨#[97, 98, 99, 100]⟩ : ByteArray) (⟨#[101, 102, 103, 104]⟩ : ByteArray) (⟨#[]⟩ : ByteArray) (strOfNums (List.replicate 100 0))).bind fun bt841 => ((frag_Cut.f bt841.1 60).bind fun bt843 => (if bt843.2 = 0 then (if (bt843.1.length : Int) = 3 then (if 0 < (bt843.1.length : Int) then (if ((rdOf ByteArray.empty bt843.1 0).size : Int) = 60 then (if 1 < (bt843.1.length : Int) then (if ((rdOf ByteArray.empty bt843.1 1).size : Int) = 60 then (if 2 < (bt843.1.length : Int) then (if ((rdOf ByteArray.empty bt843.1 2).size : Int) = 40 then ((frag_Part.f 20 67).bind fun t850 => (some (t850 == 40))) else (some false)) else (none)) else (some false)) else (none)) else (some false)) else (none)) else (some false)) else (some false)))) else (none)) = some r := h
  clear h
  by_cases c1 : 100 ≤ 281474976710656
  · rw [if_pos c1] at H
    have c1b0 := eq_true c1
    have c1b1 : decide (100 ≤ 281474976710656) = true := decide_eq_true c1
    clear c1
    obtain ⟨y838, hy838⟩ : ∃ y_ : List Int, y_ = (List.replicate 100 0) := ⟨_, rfl⟩
    replace H : ((palanquinref05_Put.f k 0 0 0 0 0 false false (⟨#[97, 98, 99, 100]⟩ : ByteArray) (⟨#[101, 102, 103, 104]⟩ : ByteArray) (⟨#[]⟩ : ByteArray) (strOfNums y838)).bind fun bt841 => ((frag_Cut.f bt841.1 60).bind fun bt843 => (if bt843.2 = 0 then (if (bt843.1.length : Int) = 3 then (if 0 < (bt843.1.length : Int) then (if ((rdOf ByteArray.empty bt843.1 0).size : Int) = 60 then (if 1 < (bt843.1.length : Int) then (if ((rdOf ByteArray.empty bt843.1 1).size : Int) = 60 then (if 2 < (bt843.1.length : Int) then (if ((rdOf ByteArray.empty bt843.1 2).size : Int) = 40 then ((frag_Part.f 20 67).bind fun t850 => (some (t850 == 40))) else (some false)) else (none)) else (some false)) else (none)) else (some false)) else (none)) else (some false)) else (some false)))) = some r := by first | (rw [hy838]; with_reducible exact H) | (have H2_ := (Option.bind_some _ _).symm.trans H; rw [hy838]; with_reducible exact H2_) | (have H2_ := (Option.bind_some _ _).symm.trans H; with_reducible exact H2_) | with_reducible exact H | (rw [hy838]; exact H) | exact H
    have Ny838 := Aside0.mk hy838
    clear hy838
    replace H := Option.bind_eq_some_iff.mp H
    obtain ⟨⟨t841, t842⟩, A20, H⟩ := H
    replace H : ((frag_Cut.f t841 60).bind fun bt843 => (if bt843.2 = 0 then (if (bt843.1.length : Int) = 3 then (if 0 < (bt843.1.length : Int) then (if ((rdOf ByteArray.empty bt843.1 0).size : Int) = 60 then (if 1 < (bt843.1.length : Int) then (if ((rdOf ByteArray.empty bt843.1 1).size : Int) = 60 then (if 2 < (bt843.1.length : Int) then (if ((rdOf ByteArray.empty bt843.1 2).size : Int) = 40 then ((frag_Part.f 20 67).bind fun t850 => (some (t850 == 40))) else (some false)) else (none)) else (some false)) else (none)) else (some false)) else (none)) else (some false)) else (some false))) = some r := H
    have A2 := Aside0.mk A20
    clear A20
    replace H := Option.bind_eq_some_iff.mp H
    obtain ⟨⟨t843, t844⟩, A30, H⟩ := H
    replace H : (if t844 = 0 then (if (t843.length : Int) = 3 then (if 0 < (t843.length : Int) then (if ((rdOf ByteArray.empty t843 0).size : Int) = 60 then (if 1 < (t843.length : Int) then (if ((rdOf ByteArray.empty t843 1).size : Int) = 60 then (if 2 < (t843.length : Int) then (if ((rdOf ByteArray.empty t843 2).size : Int) = 40 then ((frag_Part.f 20 67).bind fun t850 => (some (t850 == 40))) else (some false)) else (none)) else (some false)) else (none)) else (some false)) else (none)) else (some false)) else (some false)) = some r := H
    have A3 := Aside0.mk A30
    clear A30
    by_cases c4 : t844 = 0
    · rw [if_pos c4] at H
      have c4b0 : (t844 == 0) = true := beq_iff_eq.mpr c4
      have c4b1 : (t844 != 0) = false := bne_eq_false_iff_eq.mpr c4
      clear c4
      by_cases c5 : (t843.length : Int) = 3
      · rw [if_pos c5] at H
        have c5b0 : ((t843.length : Int) == 3) = true := beq_iff_eq.mpr c5
        have c5b1 : ((t843.length : Int) != 3) = false := bne_eq_false_iff_eq.mpr c5
        clear c5
        by_cases c6 : 0 < (t843.length : Int)
        · rw [if_pos c6] at H
          have c6b0 : decide (0 < (t843.length : Int)) = true := decide_eq_true c6
          have c6b1 : decide (0 < t843.length) = true := decide_eq_true (by omega)
          clear c6
          by_cases c7 : ((rdOf ByteArray.empty t843 0).size : Int) = 60
          · rw [if_pos c7] at H
            have c7b0 : (((rdOf ByteArray.empty t843 0).size : Int) == 60) = true := beq_iff_eq.mpr c7
            have c7b1 : (((rdOf ByteArray.empty t843 0).size : Int) != 60) = false := bne_eq_false_iff_eq.mpr c7
            clear c7
            by_cases c8 : 1 < (t843.length : Int)
            · rw [if_pos c8] at H
              have c8b0 : decide (1 < (t843.length : Int)) = true := decide_eq_true c8
              have c8b1 : decide (1 < t843.length) = true := decide_eq_true (by omega)
              clear c8
              by_cases c9 : ((rdOf ByteArray.empty t843 1).size : Int) = 60
              · rw [if_pos c9] at H
                have c9b0 : (((rdOf ByteArray.empty t843 1).size : Int) == 60) = true := beq_iff_eq.mpr c9
                have c9b1 : (((rdOf ByteArray.empty t843 1).size : Int) != 60) = false := bne_eq_false_iff_eq.mpr c9
                clear c9
                by_cases c10 : 2 < (t843.length : Int)
                · rw [if_pos c10] at H
                  have c10b0 : decide (2 < (t843.length : Int)) = true := decide_eq_true c10
                  have c10b1 : decide (2 < t843.length) = true := decide_eq_true (by omega)
                  clear c10
                  by_cases c11 : ((rdOf ByteArray.empty t843 2).size : Int) = 40
                  · rw [if_pos c11] at H
                    have c11b0 : (((rdOf ByteArray.empty t843 2).size : Int) == 40) = true := beq_iff_eq.mpr c11
                    have c11b1 : (((rdOf ByteArray.empty t843 2).size : Int) != 40) = false := bne_eq_false_iff_eq.mpr c11
                    clear c11
                    replace H := Option.bind_eq_some_iff.mp H
                    obtain ⟨t850, A120, H⟩ := H
                    replace H : (some (t850 == 40)) = some r := H
                    have A12 := Aside0.mk A120
                    clear A120
                    obtain rfl := Option.some.inj H
                    go_enter Try.func113, Try.ntmps113
                    go_wp2_with (first | ((with_reducible refine gate_dst (N := 7) rfl ?_); (try (refine gate_guard (by rfl) ?_; dsimp only)); refine Kd.R_make (Kd.int .u8) _ 5 rfl (N := 7) rfl 25 _ _ rfl 100 rfl rfl Try.underlying25 (.int .u8 0) 1 info5 rfl (by decide) (by omega) 0 (ok := fun _ => True) (okp := fun _ => True) rfl (fun _ hk => hk) trivial (by omega) (by omega) (Below.refl _ _) (Nat.le_refl _) ?_; intro v839 w13 ho14 hb hg_ hnew_; clear hg_ hnew_; (first | rw [← Ny838.out] at ho14 | (simp only [Int.reduceToNat] at ho14; rw [← Ny838.out] at ho14)); have n0_ := Aside0.mk (Kd.R_lower ho14 (below_size (by repeat (first | (with_reducible first | exact HB.out | apply below_alloc | apply pw_below_drewN | apply below_drew1) | exact HB.out)))); have n1_ := Aside0.mk (below_step (by repeat (first | (with_reducible first | exact HB.out | apply below_alloc | apply pw_below_drewN | apply below_drew1) | exact HB.out)) hb); clear HB; have HO840 := n0_; have HB := n1_; clear n0_ n1_; clear hb ho14; have hcv15 := own_string (P := Try.prog) Try.underlying25 Try.underlying5 Try.underlying9 (Kd.own_of_R HO840.out)) | ((with_reducible refine gate_callee (f := 86) rfl ?_); refine goesL_ (some 9) rfl rfl Try.func86 (by kernel_rfl) rfl #[.agg #[.int .i64 0, .int .i64 0, .int .i64 0, .int .i64 0, .int .i64 0, .bool false, .bool false, .string (⟨#[97, 98, 99, 100]⟩ : ByteArray), .string (⟨#[101, 102, 103, 104]⟩ : ByteArray), .string (⟨#[]⟩ : ByteArray)], .string (strOfNums y838)] rfl (by (try simp only [List.map_toArray, List.map_cons, List.map_nil]); first | done | rfl | (simp only [List.length_drop, List.length_take]; rfl)) ?_; (with_reducible refine (palanquinref05_Put.calls k 0 0 0 0 0 false false (⟨#[97, 98, 99, 100]⟩ : ByteArray) (⟨#[101, 102, 103, 104]⟩ : ByteArray) (⟨#[]⟩ : ByteArray) (strOfNums y838) t841 t842 _ A2.out).mono ?_); rintro e w16 ⟨rfl, hb⟩; refine ⟨_, rfl, ?_⟩; have n0_ := Aside0.mk (Kd.R_below (by (with_reducible repeat (first | apply Kd.R_alloc | apply Kd.R_drewN | apply Kd.R_drew)); exact HO840.out) hb); have n1_ := Aside0.mk (below_step (by repeat (first | (with_reducible first | exact HB.out | apply below_alloc | apply pw_below_drewN | apply below_drew1) | exact HB.out)) hb); clear HO840; clear HB; have HO840 := n0_; have HB := n1_; clear n0_ n1_; (try clear hb); (try clear hb2); (try clear hk); (try clear hi)) | ((with_reducible refine gate_callee (f := 114) rfl ?_); refine goesL_ (some 14) rfl rfl Try.func114 (by kernel_rfl) rfl #[.string t841, .int .i64 60] rfl (by (try simp only [List.map_toArray, List.map_cons, List.map_nil]); first | done | rfl | (simp only [List.length_drop, List.length_take]; rfl)) ?_; (with_reducible refine (frag_Cut.calls t841 60 t843 t844 _ A3.out).mono ?_); rintro e w17 ⟨v845, rfl, ho0, hb⟩; refine ⟨_, rfl, ?_⟩; have n0_ := Aside0.mk (Kd.R_below (by (with_reducible repeat (first | apply Kd.R_alloc | apply Kd.R_drewN | apply Kd.R_drew)); exact HO840.out) hb); have n1_ := Aside0.mk (Kd.R_lower ho0 (below_size (by repeat (first | (with_reducible first | exact HB.out | apply below_alloc | apply pw_below_drewN | apply below_drew1) | exact HB.out)))); have n2_ := Aside0.mk (below_step (by repeat (first | (with_reducible first | exact HB.out | apply below_alloc | apply pw_below_drewN | apply below_drew1) | exact HB.out)) hb); clear HO840; clear HB; have HO840 := n0_; have HO846 := n1_; have HB := n2_; clear n0_ n1_ n2_; (try clear hb); (try clear hb2); (try clear hk); (try clear hi); (try clear ho0); obtain ⟨Ao18, co18, eo18⟩ := Kd.R_slice HO846.out; subst eo18; have p847 : 0 ≤ (0 : Int) := (by omega); have q847 : 0 < (t843.length : Int) := of_decide_eq_true (by first | (with_reducible assumption) | assumption); obtain ⟨ad847, e847, hx847_0⟩ := Kd.at_string (Kd.R_reads' HO846.out).2.2 0 p847 q847; cases e847; have qi847 : (0 < t843.length) = True := eq_true (by omega); (try rw [show ((0 : Int)).toNat = 0 from rfl] at hx847_0); (try rw [Addr.add_zero'] at hx847_0); replace p847 := eq_true p847; replace q847 := eq_true q847; have p848 : 0 ≤ (1 : Int) := (by omega); have q848 : 1 < (t843.length : Int) := of_decide_eq_true (by first | (with_reducible assumption) | assumption); obtain ⟨ad848, e848, hx848_0⟩ := Kd.at_string (Kd.R_reads' HO846.out).2.2 1 p848 q848; obtain rfl : ad847 = ad848 := (by injection e848); (try simp only [show (1 : Int).toNat = 1 from rfl, Nat.reduceMul, Nat.reduceEqDiff, Go.Addr.add, ↓reduceIte] at hx848_0); have qi848 : (1 < t843.length) = True := eq_true (by omega); (try rw [show ((1 : Int)).toNat = 1 from rfl] at hx848_0); replace p848 := eq_true p848; replace q848 := eq_true q848; have p849 : 0 ≤ (2 : Int) := (by omega); have q849 : 2 < (t843.length : Int) := of_decide_eq_true (by first | (with_reducible assumption) | assumption); obtain ⟨ad849, e849, hx849_0⟩ := Kd.at_string (Kd.R_reads' HO846.out).2.2 2 p849 q849; obtain rfl : ad847 = ad849 := (by injection e849); (try simp only [show (2 : Int).toNat = 2 from rfl, Nat.reduceMul, Nat.reduceEqDiff, Go.Addr.add, ↓reduceIte] at hx849_0); have qi849 : (2 < t843.length) = True := eq_true (by omega); (try rw [show ((2 : Int)).toNat = 2 from rfl] at hx849_0); replace p849 := eq_true p849; replace q849 := eq_true q849) | (go_at_call 115; (with_reducible refine (frag_Part.calls 20 67 t850 _ A12.out).mono ?_); rintro e w19 ⟨rfl, hb⟩; have n0_ := Aside0.mk (Kd.R_below (by (with_reducible repeat (first | apply Kd.R_alloc | apply Kd.R_drewN | apply Kd.R_drew)); exact HO840.out) hb); have n1_ := Aside0.mk (Kd.R_below (by (with_reducible repeat (first | apply Kd.R_alloc | apply Kd.R_drewN | apply Kd.R_drew)); exact HO846.out) hb); have n2_ := Aside0.mk (below_step (by repeat (first | (with_reducible first | exact HB.out | apply below_alloc | apply pw_below_drewN | apply below_drew1) | exact HB.out)) hb); clear HO840; clear HO846; clear HB; have HO840 := n0_; have HO846 := n1_; have HB := n2_; clear n0_ n1_ n2_; (try clear hb); (try clear hb2); (try clear hk); (try clear hi)))
                    go_ret
                    exact ⟨by first | rfl | (simp [errW_none, errW_some] <;> rfl) | (simp [*, errW_none, errW_some] <;> rfl), by repeat (first | (with_reducible first | exact HB.out | apply below_alloc | apply pw_below_drewN | apply below_drew1) | exact HB.out)⟩
                  · rw [if_neg c11] at H
                    have c11b0 : (((rdOf ByteArray.empty t843 2).size : Int) == 40) = false := beq_eq_false_iff_ne.mpr c11
                    have c11b1 : (((rdOf ByteArray.empty t843 2).size : Int) != 40) = true := bne_iff_ne.mpr c11
                    obtain rfl := Option.some.inj H
                    go_enter Try.func113, Try.ntmps113
                    go_wp2_with (first | ((with_reducible refine gate_dst (N := 7) rfl ?_); (try (refine gate_guard (by rfl) ?_; dsimp only)); refine Kd.R_make (Kd.int .u8) _ 5 rfl (N := 7) rfl 25 _ _ rfl 100 rfl rfl Try.underlying25 (.int .u8 0) 1 info5 rfl (by decide) (by omega) 0 (ok := fun _ => True) (okp := fun _ => True) rfl (fun _ hk => hk) trivial (by omega) (by omega) (Below.refl _ _) (Nat.le_refl _) ?_; intro v839 w20 ho21 hb hg_ hnew_; clear hg_ hnew_; (first | rw [← Ny838.out] at ho21 | (simp only [Int.reduceToNat] at ho21; rw [← Ny838.out] at ho21)); have n0_ := Aside0.mk (Kd.R_lower ho21 (below_size (by repeat (first | (with_reducible first | exact HB.out | apply below_alloc | apply pw_below_drewN | apply below_drew1) | exact HB.out)))); have n1_ := Aside0.mk (below_step (by repeat (first | (with_reducible first | exact HB.out | apply below_alloc | apply pw_below_drewN | apply below_drew1) | exact HB.out)) hb); clear HB; have HO840 := n0_; have HB := n1_; clear n0_ n1_; clear hb ho21; have hcv22 := own_string (P := Try.prog) Try.underlying25 Try.underlying5 Try.underlying9 (Kd.own_of_R HO840.out)) | ((with_reducible refine gate_callee (f := 86) rfl ?_); refine goesL_ (some 9) rfl rfl Try.func86 (by kernel_rfl) rfl #[.agg #[.int .i64 0, .int .i64 0, .int .i64 0, .int .i64 0, .int .i64 0, .bool false, .bool false, .string (⟨#[97, 98, 99, 100]⟩ : ByteArray), .string (⟨#[101, 102, 103, 104]⟩ : ByteArray), .string (⟨#[]⟩ : ByteArray)], .string (strOfNums y838)] rfl (by (try simp only [List.map_toArray, List.map_cons, List.map_nil]); first | done | rfl | (simp only [List.length_drop, List.length_take]; rfl)) ?_; (with_reducible refine (palanquinref05_Put.calls k 0 0 0 0 0 false false (⟨#[97, 98, 99, 100]⟩ : ByteArray) (⟨#[101, 102, 103, 104]⟩ : ByteArray) (⟨#[]⟩ : ByteArray) (strOfNums y838) t841 t842 _ A2.out).mono ?_); rintro e w23 ⟨rfl, hb⟩; refine ⟨_, rfl, ?_⟩; have n0_ := Aside0.mk (Kd.R_below (by (with_reducible repeat (first | apply Kd.R_alloc | apply Kd.R_drewN | apply Kd.R_drew)); exact HO840.out) hb); have n1_ := Aside0.mk (below_step (by repeat (first | (with_reducible first | exact HB.out | apply below_alloc | apply pw_below_drewN | apply below_drew1) | exact HB.out)) hb); clear HO840; clear HB; have HO840 := n0_; have HB := n1_; clear n0_ n1_; (try clear hb); (try clear hb2); (try clear hk); (try clear hi)) | ((with_reducible refine gate_callee (f := 114) rfl ?_); refine goesL_ (some 14) rfl rfl Try.func114 (by kernel_rfl) rfl #[.string t841, .int .i64 60] rfl (by (try simp only [List.map_toArray, List.map_cons, List.map_nil]); first | done | rfl | (simp only [List.length_drop, List.length_take]; rfl)) ?_; (with_reducible refine (frag_Cut.calls t841 60 t843 t844 _ A3.out).mono ?_); rintro e w24 ⟨v845, rfl, ho0, hb⟩; refine ⟨_, rfl, ?_⟩; have n0_ := Aside0.mk (Kd.R_below (by (with_reducible repeat (first | apply Kd.R_alloc | apply Kd.R_drewN | apply Kd.R_drew)); exact HO840.out) hb); have n1_ := Aside0.mk (Kd.R_lower ho0 (below_size (by repeat (first | (with_reducible first | exact HB.out | apply below_alloc | apply pw_below_drewN | apply below_drew1) | exact HB.out)))); have n2_ := Aside0.mk (below_step (by repeat (first | (with_reducible first | exact HB.out | apply below_alloc | apply pw_below_drewN | apply below_drew1) | exact HB.out)) hb); clear HO840; clear HB; have HO840 := n0_; have HO846 := n1_; have HB := n2_; clear n0_ n1_ n2_; (try clear hb); (try clear hb2); (try clear hk); (try clear hi); (try clear ho0); obtain ⟨Ao25, co25, eo25⟩ := Kd.R_slice HO846.out; subst eo25; have p847 : 0 ≤ (0 : Int) := (by omega); have q847 : 0 < (t843.length : Int) := of_decide_eq_true (by first | (with_reducible assumption) | assumption); obtain ⟨ad847, e847, hx847_0⟩ := Kd.at_string (Kd.R_reads' HO846.out).2.2 0 p847 q847; cases e847; have qi847 : (0 < t843.length) = True := eq_true (by omega); (try rw [show ((0 : Int)).toNat = 0 from rfl] at hx847_0); (try rw [Addr.add_zero'] at hx847_0); replace p847 := eq_true p847; replace q847 := eq_true q847; have p848 : 0 ≤ (1 : Int) := (by omega); have q848 : 1 < (t843.length : Int) := of_decide_eq_true (by first | (with_reducible assumption) | assumption); obtain ⟨ad848, e848, hx848_0⟩ := Kd.at_string (Kd.R_reads' HO846.out).2.2 1 p848 q848; obtain rfl : ad847 = ad848 := (by injection e848); (try simp only [show (1 : Int).toNat = 1 from rfl, Nat.reduceMul, Nat.reduceEqDiff, Go.Addr.add, ↓reduceIte] at hx848_0); have qi848 : (1 < t843.length) = True := eq_true (by omega); (try rw [show ((1 : Int)).toNat = 1 from rfl] at hx848_0); replace p848 := eq_true p848; replace q848 := eq_true q848; have p849 : 0 ≤ (2 : Int) := (by omega); have q849 : 2 < (t843.length : Int) := of_decide_eq_true (by first | (with_reducible assumption) | assumption); obtain ⟨ad849, e849, hx849_0⟩ := Kd.at_string (Kd.R_reads' HO846.out).2.2 2 p849 q849; obtain rfl : ad847 = ad849 := (by injection e849); (try simp only [show (2 : Int).toNat = 2 from rfl, Nat.reduceMul, Nat.reduceEqDiff, Go.Addr.add, ↓reduceIte] at hx849_0); have qi849 : (2 < t843.length) = True := eq_true (by omega); (try rw [show ((2 : Int)).toNat = 2 from rfl] at hx849_0); replace p849 := eq_true p849; replace q849 := eq_true q849))
                    go_ret
                    exact ⟨by first | rfl | (simp [errW_none, errW_some] <;> rfl) | (simp [*, errW_none, errW_some] <;> rfl), by repeat (first | (with_reducible first | exact HB.out | apply below_alloc | apply pw_below_drewN | apply below_drew1) | exact HB.out)⟩
                · rw [if_neg c10] at H
                  exact absurd H (by simp)
              · rw [if_neg c9] at H
                have c9b0 : (((rdOf ByteArray.empty t843 1).size : Int) == 60) = false := beq_eq_false_iff_ne.mpr c9
                have c9b1 : (((rdOf ByteArray.empty t843 1).size : Int) != 60) = true := bne_iff_ne.mpr c9
                obtain rfl := Option.some.inj H
                go_enter Try.func113, Try.ntmps113
                go_wp2_with (first | ((with_reducible refine gate_dst (N := 7) rfl ?_); (try (refine gate_guard (by rfl) ?_; dsimp only)); refine Kd.R_make (Kd.int .u8) _ 5 rfl (N := 7) rfl 25 _ _ rfl 100 rfl rfl Try.underlying25 (.int .u8 0) 1 info5 rfl (by decide) (by omega) 0 (ok := fun _ => True) (okp := fun _ => True) rfl (fun _ hk => hk) trivial (by omega) (by omega) (Below.refl _ _) (Nat.le_refl _) ?_; intro v839 w26 ho27 hb hg_ hnew_; clear hg_ hnew_; (first | rw [← Ny838.out] at ho27 | (simp only [Int.reduceToNat] at ho27; rw [← Ny838.out] at ho27)); have n0_ := Aside0.mk (Kd.R_lower ho27 (below_size (by repeat (first | (with_reducible first | exact HB.out | apply below_alloc | apply pw_below_drewN | apply below_drew1) | exact HB.out)))); have n1_ := Aside0.mk (below_step (by repeat (first | (with_reducible first | exact HB.out | apply below_alloc | apply pw_below_drewN | apply below_drew1) | exact HB.out)) hb); clear HB; have HO840 := n0_; have HB := n1_; clear n0_ n1_; clear hb ho27; have hcv28 := own_string (P := Try.prog) Try.underlying25 Try.underlying5 Try.underlying9 (Kd.own_of_R HO840.out)) | ((with_reducible refine gate_callee (f := 86) rfl ?_); refine goesL_ (some 9) rfl rfl Try.func86 (by kernel_rfl) rfl #[.agg #[.int .i64 0, .int .i64 0, .int .i64 0, .int .i64 0, .int .i64 0, .bool false, .bool false, .string (⟨#[97, 98, 99, 100]⟩ : ByteArray), .string (⟨#[101, 102, 103, 104]⟩ : ByteArray), .string (⟨#[]⟩ : ByteArray)], .string (strOfNums y838)] rfl (by (try simp only [List.map_toArray, List.map_cons, List.map_nil]); first | done | rfl | (simp only [List.length_drop, List.length_take]; rfl)) ?_; (with_reducible refine (palanquinref05_Put.calls k 0 0 0 0 0 false false (⟨#[97, 98, 99, 100]⟩ : ByteArray) (⟨#[101, 102, 103, 104]⟩ : ByteArray) (⟨#[]⟩ : ByteArray) (strOfNums y838) t841 t842 _ A2.out).mono ?_); rintro e w29 ⟨rfl, hb⟩; refine ⟨_, rfl, ?_⟩; have n0_ := Aside0.mk (Kd.R_below (by (with_reducible repeat (first | apply Kd.R_alloc | apply Kd.R_drewN | apply Kd.R_drew)); exact HO840.out) hb); have n1_ := Aside0.mk (below_step (by repeat (first | (with_reducible first | exact HB.out | apply below_alloc | apply pw_below_drewN | apply below_drew1) | exact HB.out)) hb); clear HO840; clear HB; have HO840 := n0_; have HB := n1_; clear n0_ n1_; (try clear hb); (try clear hb2); (try clear hk); (try clear hi)) | ((with_reducible refine gate_callee (f := 114) rfl ?_); refine goesL_ (some 14) rfl rfl Try.func114 (by kernel_rfl) rfl #[.string t841, .int .i64 60] rfl (by (try simp only [List.map_toArray, List.map_cons, List.map_nil]); first | done | rfl | (simp only [List.length_drop, List.length_take]; rfl)) ?_; (with_reducible refine (frag_Cut.calls t841 60 t843 t844 _ A3.out).mono ?_); rintro e w30 ⟨v845, rfl, ho0, hb⟩; refine ⟨_, rfl, ?_⟩; have n0_ := Aside0.mk (Kd.R_below (by (with_reducible repeat (first | apply Kd.R_alloc | apply Kd.R_drewN | apply Kd.R_drew)); exact HO840.out) hb); have n1_ := Aside0.mk (Kd.R_lower ho0 (below_size (by repeat (first | (with_reducible first | exact HB.out | apply below_alloc | apply pw_below_drewN | apply below_drew1) | exact HB.out)))); have n2_ := Aside0.mk (below_step (by repeat (first | (with_reducible first | exact HB.out | apply below_alloc | apply pw_below_drewN | apply below_drew1) | exact HB.out)) hb); clear HO840; clear HB; have HO840 := n0_; have HO846 := n1_; have HB := n2_; clear n0_ n1_ n2_; (try clear hb); (try clear hb2); (try clear hk); (try clear hi); (try clear ho0); obtain ⟨Ao31, co31, eo31⟩ := Kd.R_slice HO846.out; subst eo31; have p847 : 0 ≤ (0 : Int) := (by omega); have q847 : 0 < (t843.length : Int) := of_decide_eq_true (by first | (with_reducible assumption) | assumption); obtain ⟨ad847, e847, hx847_0⟩ := Kd.at_string (Kd.R_reads' HO846.out).2.2 0 p847 q847; cases e847; have qi847 : (0 < t843.length) = True := eq_true (by omega); (try rw [show ((0 : Int)).toNat = 0 from rfl] at hx847_0); (try rw [Addr.add_zero'] at hx847_0); replace p847 := eq_true p847; replace q847 := eq_true q847; have p848 : 0 ≤ (1 : Int) := (by omega); have q848 : 1 < (t843.length : Int) := of_decide_eq_true (by first | (with_reducible assumption) | assumption); obtain ⟨ad848, e848, hx848_0⟩ := Kd.at_string (Kd.R_reads' HO846.out).2.2 1 p848 q848; obtain rfl : ad847 = ad848 := (by injection e848); (try simp only [show (1 : Int).toNat = 1 from rfl, Nat.reduceMul, Nat.reduceEqDiff, Go.Addr.add, ↓reduceIte] at hx848_0); have qi848 : (1 < t843.length) = True := eq_true (by omega); (try rw [show ((1 : Int)).toNat = 1 from rfl] at hx848_0); replace p848 := eq_true p848; replace q848 := eq_true q848))
                go_ret
                exact ⟨by first | rfl | (simp [errW_none, errW_some] <;> rfl) | (simp [*, errW_none, errW_some] <;> rfl), by repeat (first | (with_reducible first | exact HB.out | apply below_alloc | apply pw_below_drewN | apply below_drew1) | exact HB.out)⟩
            · rw [if_neg c8] at H
              exact absurd H (by simp)
          · rw [if_neg c7] at H
            have c7b0 : (((rdOf ByteArray.empty t843 0).size : Int) == 60) = false := beq_eq_false_iff_ne.mpr c7
            have c7b1 : (((rdOf ByteArray.empty t843 0).size : Int) != 60) = true := bne_iff_ne.mpr c7
            obtain rfl := Option.some.inj H
            go_enter Try.func113, Try.ntmps113
            go_wp2_with (first | ((with_reducible refine gate_dst (N := 7) rfl ?_); (try (refine gate_guard (by rfl) ?_; dsimp only)); refine Kd.R_make (Kd.int .u8) _ 5 rfl (N := 7) rfl 25 _ _ rfl 100 rfl rfl Try.underlying25 (.int .u8 0) 1 info5 rfl (by decide) (by omega) 0 (ok := fun _ => True) (okp := fun _ => True) rfl (fun _ hk => hk) trivial (by omega) (by omega) (Below.refl _ _) (Nat.le_refl _) ?_; intro v839 w32 ho33 hb hg_ hnew_; clear hg_ hnew_; (first | rw [← Ny838.out] at ho33 | (simp only [Int.reduceToNat] at ho33; rw [← Ny838.out] at ho33)); have n0_ := Aside0.mk (Kd.R_lower ho33 (below_size (by repeat (first | (with_reducible first | exact HB.out | apply below_alloc | apply pw_below_drewN | apply below_drew1) | exact HB.out)))); have n1_ := Aside0.mk (below_step (by repeat (first | (with_reducible first | exact HB.out | apply below_alloc | apply pw_below_drewN | apply below_drew1) | exact HB.out)) hb); clear HB; have HO840 := n0_; have HB := n1_; clear n0_ n1_; clear hb ho33; have hcv34 := own_string (P := Try.prog) Try.underlying25 Try.underlying5 Try.underlying9 (Kd.own_of_R HO840.out)) | ((with_reducible refine gate_callee (f := 86) rfl ?_); refine goesL_ (some 9) rfl rfl Try.func86 (by kernel_rfl) rfl #[.agg #[.int .i64 0, .int .i64 0, .int .i64 0, .int .i64 0, .int .i64 0, .bool false, .bool false, .string (⟨#[97, 98, 99, 100]⟩ : ByteArray), .string (⟨#[101, 102, 103, 104]⟩ : ByteArray), .string (⟨#[]⟩ : ByteArray)], .string (strOfNums y838)] rfl (by (try simp only [List.map_toArray, List.map_cons, List.map_nil]); first | done | rfl | (simp only [List.length_drop, List.length_take]; rfl)) ?_; (with_reducible refine (palanquinref05_Put.calls k 0 0 0 0 0 false false (⟨#[97, 98, 99, 100]⟩ : ByteArray) (⟨#[101, 102, 103, 104]⟩ : ByteArray) (⟨#[]⟩ : ByteArray) (strOfNums y838) t841 t842 _ A2.out).mono ?_); rintro e w35 ⟨rfl, hb⟩; refine ⟨_, rfl, ?_⟩; have n0_ := Aside0.mk (Kd.R_below (by (with_reducible repeat (first | apply Kd.R_alloc | apply Kd.R_drewN | apply Kd.R_drew)); exact HO840.out) hb); have n1_ := Aside0.mk (below_step (by repeat (first | (with_reducible first | exact HB.out | apply below_alloc | apply pw_below_drewN | apply below_drew1) | exact HB.out)) hb); clear HO840; clear HB; have HO840 := n0_; have HB := n1_; clear n0_ n1_; (try clear hb); (try clear hb2); (try clear hk); (try clear hi)) | ((with_reducible refine gate_callee (f := 114) rfl ?_); refine goesL_ (some 14) rfl rfl Try.func114 (by kernel_rfl) rfl #[.string t841, .int .i64 60] rfl (by (try simp only [List.map_toArray, List.map_cons, List.map_nil]); first | done | rfl | (simp only [List.length_drop, List.length_take]; rfl)) ?_; (with_reducible refine (frag_Cut.calls t841 60 t843 t844 _ A3.out).mono ?_); rintro e w36 ⟨v845, rfl, ho0, hb⟩; refine ⟨_, rfl, ?_⟩; have n0_ := Aside0.mk (Kd.R_below (by (with_reducible repeat (first | apply Kd.R_alloc | apply Kd.R_drewN | apply Kd.R_drew)); exact HO840.out) hb); have n1_ := Aside0.mk (Kd.R_lower ho0 (below_size (by repeat (first | (with_reducible first | exact HB.out | apply below_alloc | apply pw_below_drewN | apply below_drew1) | exact HB.out)))); have n2_ := Aside0.mk (below_step (by repeat (first | (with_reducible first | exact HB.out | apply below_alloc | apply pw_below_drewN | apply below_drew1) | exact HB.out)) hb); clear HO840; clear HB; have HO840 := n0_; have HO846 := n1_; have HB := n2_; clear n0_ n1_ n2_; (try clear hb); (try clear hb2); (try clear hk); (try clear hi); (try clear ho0); obtain ⟨Ao37, co37, eo37⟩ := Kd.R_slice HO846.out; subst eo37; have p847 : 0 ≤ (0 : Int) := (by omega); have q847 : 0 < (t843.length : Int) := of_decide_eq_true (by first | (with_reducible assumption) | assumption); obtain ⟨ad847, e847, hx847_0⟩ := Kd.at_string (Kd.R_reads' HO846.out).2.2 0 p847 q847; cases e847; have qi847 : (0 < t843.length) = True := eq_true (by omega); (try rw [show ((0 : Int)).toNat = 0 from rfl] at hx847_0); (try rw [Addr.add_zero'] at hx847_0); replace p847 := eq_true p847; replace q847 := eq_true q847))
            go_ret
            exact ⟨by first | rfl | (simp [errW_none, errW_some] <;> rfl) | (simp [*, errW_none, errW_some] <;> rfl), by repeat (first | (with_reducible first | exact HB.out | apply below_alloc | apply pw_below_drewN | apply below_drew1) | exact HB.out)⟩
        · rw [if_neg c6] at H
          exact absurd H (by simp)
      · rw [if_neg c5] at H
        have c5b0 : ((t843.length : Int) == 3) = false := beq_eq_false_iff_ne.mpr c5
        have c5b1 : ((t843.length : Int) != 3) = true := bne_iff_ne.mpr c5
        obtain rfl := Option.some.inj H
        go_enter Try.func113, Try.ntmps113
        go_wp2_with (first | ((with_reducible refine gate_dst (N := 7) rfl ?_); (try (refine gate_guard (by rfl) ?_; dsimp only)); refine Kd.R_make (Kd.int .u8) _ 5 rfl (N := 7) rfl 25 _ _ rfl 100 rfl rfl Try.underlying25 (.int .u8 0) 1 info5 rfl (by decide) (by omega) 0 (ok := fun _ => True) (okp := fun _ => True) rfl (fun _ hk => hk) trivial (by omega) (by omega) (Below.refl _ _) (Nat.le_refl _) ?_; intro v839 w38 ho39 hb hg_ hnew_; clear hg_ hnew_; (first | rw [← Ny838.out] at ho39 | (simp only [Int.reduceToNat] at ho39; rw [← Ny838.out] at ho39)); have n0_ := Aside0.mk (Kd.R_lower ho39 (below_size (by repeat (first | (with_reducible first | exact HB.out | apply below_alloc | apply pw_below_drewN | apply below_drew1) | exact HB.out)))); have n1_ := Aside0.mk (below_step (by repeat (first | (with_reducible first | exact HB.out | apply below_alloc | apply pw_below_drewN | apply below_drew1) | exact HB.out)) hb); clear HB; have HO840 := n0_; have HB := n1_; clear n0_ n1_; clear hb ho39; have hcv40 := own_string (P := Try.prog) Try.underlying25 Try.underlying5 Try.underlying9 (Kd.own_of_R HO840.out)) | ((with_reducible refine gate_callee (f := 86) rfl ?_); refine goesL_ (some 9) rfl rfl Try.func86 (by kernel_rfl) rfl #[.agg #[.int .i64 0, .int .i64 0, .int .i64 0, .int .i64 0, .int .i64 0, .bool false, .bool false, .string (⟨#[97, 98, 99, 100]⟩ : ByteArray), .string (⟨#[101, 102, 103, 104]⟩ : ByteArray), .string (⟨#[]⟩ : ByteArray)], .string (strOfNums y838)] rfl (by (try simp only [List.map_toArray, List.map_cons, List.map_nil]); first | done | rfl | (simp only [List.length_drop, List.length_take]; rfl)) ?_; (with_reducible refine (palanquinref05_Put.calls k 0 0 0 0 0 false false (⟨#[97, 98, 99, 100]⟩ : ByteArray) (⟨#[101, 102, 103, 104]⟩ : ByteArray) (⟨#[]⟩ : ByteArray) (strOfNums y838) t841 t842 _ A2.out).mono ?_); rintro e w41 ⟨rfl, hb⟩; refine ⟨_, rfl, ?_⟩; have n0_ := Aside0.mk (Kd.R_below (by (with_reducible repeat (first | apply Kd.R_alloc | apply Kd.R_drewN | apply Kd.R_drew)); exact HO840.out) hb); have n1_ := Aside0.mk (below_step (by repeat (first | (with_reducible first | exact HB.out | apply below_alloc | apply pw_below_drewN | apply below_drew1) | exact HB.out)) hb); clear HO840; clear HB; have HO840 := n0_; have HB := n1_; clear n0_ n1_; (try clear hb); (try clear hb2); (try clear hk); (try clear hi)) | ((with_reducible refine gate_callee (f := 114) rfl ?_); refine goesL_ (some 14) rfl rfl Try.func114 (by kernel_rfl) rfl #[.string t841, .int .i64 60] rfl (by (try simp only [List.map_toArray, List.map_cons, List.map_nil]); first | done | rfl | (simp only [List.length_drop, List.length_take]; rfl)) ?_; (with_reducible refine (frag_Cut.calls t841 60 t843 t844 _ A3.out).mono ?_); rintro e w42 ⟨v845, rfl, ho0, hb⟩; refine ⟨_, rfl, ?_⟩; have n0_ := Aside0.mk (Kd.R_below (by (with_reducible repeat (first | apply Kd.R_alloc | apply Kd.R_drewN | apply Kd.R_drew)); exact HO840.out) hb); have n1_ := Aside0.mk (Kd.R_lower ho0 (below_size (by repeat (first | (with_reducible first | exact HB.out | apply below_alloc | apply pw_below_drewN | apply below_drew1) | exact HB.out)))); have n2_ := Aside0.mk (below_step (by repeat (first | (with_reducible first | exact HB.out | apply below_alloc | apply pw_below_drewN | apply below_drew1) | exact HB.out)) hb); clear HO840; clear HB; have HO840 := n0_; have HO846 := n1_; have HB := n2_; clear n0_ n1_ n2_; (try clear hb); (try clear hb2); (try clear hk); (try clear hi); (try clear ho0); obtain ⟨Ao43, co43, eo43⟩ := Kd.R_slice HO846.out; subst eo43))
        go_ret
        exact ⟨by first | rfl | (simp [errW_none, errW_some] <;> rfl) | (simp [*, errW_none, errW_some] <;> rfl), by repeat (first | (with_reducible first | exact HB.out | apply below_alloc | apply pw_below_drewN | apply below_drew1) | exact HB.out)⟩
    · rw [if_neg c4] at H
      have c4b0 : (t844 == 0) = false := beq_eq_false_iff_ne.mpr c4
      have c4b1 : (t844 != 0) = true := bne_iff_ne.mpr c4
      obtain rfl := Option.some.inj H
      go_enter Try.func113, Try.ntmps113
      go_wp2_with (first | ((with_reducible refine gate_dst (N := 7) rfl ?_); (try (refine gate_guard (by rfl) ?_; dsimp only)); refine Kd.R_make (Kd.int .u8) _ 5 rfl (N := 7) rfl 25 _ _ rfl 100 rfl rfl Try.underlying25 (.int .u8 0) 1 info5 rfl (by decide) (by omega) 0 (ok := fun _ => True) (okp := fun _ => True) rfl (fun _ hk => hk) trivial (by omega) (by omega) (Below.refl _ _) (Nat.le_refl _) ?_; intro v839 w44 ho45 hb hg_ hnew_; clear hg_ hnew_; (first | rw [← Ny838.out] at ho45 | (simp only [Int.reduceToNat] at ho45; rw [← Ny838.out] at ho45)); have n0_ := Aside0.mk (Kd.R_lower ho45 (below_size (by repeat (first | (with_reducible first | exact HB.out | apply below_alloc | apply pw_below_drewN | apply below_drew1) | exact HB.out)))); have n1_ := Aside0.mk (below_step (by repeat (first | (with_reducible first | exact HB.out | apply below_alloc | apply pw_below_drewN | apply below_drew1) | exact HB.out)) hb); clear HB; have HO840 := n0_; have HB := n1_; clear n0_ n1_; clear hb ho45; have hcv46 := own_string (P := Try.prog) Try.underlying25 Try.underlying5 Try.underlying9 (Kd.own_of_R HO840.out)) | ((with_reducible refine gate_callee (f := 86) rfl ?_); refine goesL_ (some 9) rfl rfl Try.func86 (by kernel_rfl) rfl #[.agg #[.int .i64 0, .int .i64 0, .int .i64 0, .int .i64 0, .int .i64 0, .bool false, .bool false, .string (⟨#[97, 98, 99, 100]⟩ : ByteArray), .string (⟨#[101, 102, 103, 104]⟩ : ByteArray), .string (⟨#[]⟩ : ByteArray)], .string (strOfNums y838)] rfl (by (try simp only [List.map_toArray, List.map_cons, List.map_nil]); first | done | rfl | (simp only [List.length_drop, List.length_take]; rfl)) ?_; (with_reducible refine (palanquinref05_Put.calls k 0 0 0 0 0 false false (⟨#[97, 98, 99, 100]⟩ : ByteArray) (⟨#[101, 102, 103, 104]⟩ : ByteArray) (⟨#[]⟩ : ByteArray) (strOfNums y838) t841 t842 _ A2.out).mono ?_); rintro e w47 ⟨rfl, hb⟩; refine ⟨_, rfl, ?_⟩; have n0_ := Aside0.mk (Kd.R_below (by (with_reducible repeat (first | apply Kd.R_alloc | apply Kd.R_drewN | apply Kd.R_drew)); exact HO840.out) hb); have n1_ := Aside0.mk (below_step (by repeat (first | (with_reducible first | exact HB.out | apply below_alloc | apply pw_below_drewN | apply below_drew1) | exact HB.out)) hb); clear HO840; clear HB; have HO840 := n0_; have HB := n1_; clear n0_ n1_; (try clear hb); (try clear hb2); (try clear hk); (try clear hi)) | ((with_reducible refine gate_callee (f := 114) rfl ?_); refine goesL_ (some 14) rfl rfl Try.func114 (by kernel_rfl) rfl #[.string t841, .int .i64 60] rfl (by (try simp only [List.map_toArray, List.map_cons, List.map_nil]); first | done | rfl | (simp only [List.length_drop, List.length_take]; rfl)) ?_; (with_reducible refine (frag_Cut.calls t841 60 t843 t844 _ A3.out).mono ?_); rintro e w48 ⟨v845, rfl, ho0, hb⟩; refine ⟨_, rfl, ?_⟩; have n0_ := Aside0.mk (Kd.R_below (by (with_reducible repeat (first | apply Kd.R_alloc | apply Kd.R_drewN | apply Kd.R_drew)); exact HO840.out) hb); have n1_ := Aside0.mk (Kd.R_lower ho0 (below_size (by repeat (first | (with_reducible first | exact HB.out | apply below_alloc | apply pw_below_drewN | apply below_drew1) | exact HB.out)))); have n2_ := Aside0.mk (below_step (by repeat (first | (with_reducible first | exact HB.out | apply below_alloc | apply pw_below_drewN | apply below_drew1) | exact HB.out)) hb); clear HO840; clear HB; have HO840 := n0_; have HO846 := n1_; have HB := n2_; clear n0_ n1_ n2_; (try clear hb); (try clear hb2); (try clear hk); (try clear hi); (try clear ho0)))
      go_ret
      exact ⟨by first | rfl | (simp [errW_none, errW_some] <;> rfl) | (simp [*, errW_none, errW_some] <;> rfl), by repeat (first | (with_reducible first | exact HB.out | apply below_alloc | apply pw_below_drewN | apply below_drew1) | exact HB.out)⟩
  · rw [if_neg c1] at H
    exact absurd H (by simp)

end Go.Proofs.Ytejmipoolbodgaa.G
end

section
/- Plain facts for the laws of chapter 15: the document's example; parts of parts. -/
namespace Go.Proofs.Ytejmipoolbodgaa.Pure
open Go.RowKit Go.Proofs.YtejmipoolbodgaaW.PrintWords Go.Proofs.YtejmipoolbodgaaW.PrintLast Go.Proofs.Ytejmipoolbodgaa.G Go.Proofs.Ytejmipoolbodgaa.Pal
set_option linter.unusedVariables false
theorem cut_f {s : ByteArray} (hs : s.size ≤ 140737488351232) (m : Int) : frag_Cut.f s m = some (cutL s m, cutErr s m) := by unfold frag_Cut.f; rw [if_pos hs]
theorem get4_err {z : ByteArray} (hs : z.size ≤ 140737488351232) (h : ip4Err z ≠ 0) : ip4_Get.f z = some (0, 0, 0, 0, 0, false, false, ⟨#[]⟩, ⟨#[]⟩, ⟨#[]⟩, ⟨#[]⟩, ip4Err z) := by
  unfold ip4_Get.f
  rw [if_pos hs, if_neg h]
theorem ext_ext (P : ByteArray) (a c i j : Nat) (hij : i ≤ j) (hj : a + j ≤ c) : (P.extract a c).extract i j = P.extract (a + i) (a + j) := by
  apply bl4_inj
  rw [cut4, cut4, cut4, List.take_drop, List.take_take, List.drop_drop, Nat.min_eq_left hj]
theorem part_2067 : frag_Part.f 20 67 = some 40 := by decide +kernel
theorem awake15 (k : Nat) (hk : 6002 < k) : palanquinlaw15_awake.f k = some true := by
  unfold palanquinlaw15_awake.f
  obtain ⟨d, hd⟩ : ∃ d : ByteArray, d = strOfNums (List.replicate 100 0) := ⟨_, rfl⟩
  have hz : d.size = 100 := by rw [hd]; decide +kernel
  rw [← hd]
  have s1 : (⟨#[97, 98, 99, 100]⟩ : ByteArray).size = 4 := rfl
  have s2 : (⟨#[101, 102, 103, 104]⟩ : ByteArray).size = 4 := rfl
  have s3 : (⟨#[]⟩ : ByteArray).size = 0 := rfl
  have h : ok4 ((0 : Nat) : Int) ((0 : Nat) : Int) ((0 : Nat) : Int) ((0 : Nat) : Int) ((0 : Nat) : Int) ⟨#[97, 98, 99, 100]⟩ ⟨#[101, 102, 103, 104]⟩ ⟨#[]⟩ := ⟨by omega, by omega, by omega, by omega, by omega, s1, s2, by rw [s3]; decide, by rw [s3]⟩
  have hp : 20 + (⟨#[]⟩ : ByteArray).size + d.size ≤ 65535 := by rw [s3, hz]; decide
  have e := put4_ok (df := false) (mf := false) (p := d) h hp
  obtain ⟨p, hpe⟩ : ∃ p : ByteArray, p = ⟨(put4 0 0 0 0 0 false false ⟨#[97, 98, 99, 100]⟩ ⟨#[101, 102, 103, 104]⟩ ⟨#[]⟩ d).toArray⟩ := ⟨_, rfl⟩
  rw [← hpe] at e
  have g := get4_parts (get_put4 (x := p) (df := false) (mf := false) h hp (by rw [hpe]; exact bl4_mk _))
  rw [show (((0 : Nat) : Int)) = 0 from rfl] at e
  obtain ⟨g0, g1, g2, g3, g4, g5, g6, g7, g8, g9, g10, g11⟩ := g
  have sz := sized4 g0
  rw [g10, g11, s3, hz] at sz
  have hl20 : hl4 p = 20 := by omega
  have hz40 : nF p 60 = 40 := by unfold nF; rw [hl20]
  have h28 : (28 : Int) ≤ 60 ∧ (60 : Int) ≤ 65535 := by decide
  have hnl : ¬ (p.size : Int) ≤ 60 := by omega
  have ce : cutErr p 60 = 0 := by
    rw [cutErr_in g0 h28, if_neg hnl, if_neg (by rw [g6]; decide), show (60 : Int).toNat = 60 from rfl, hz40, if_neg (by decide), if_neg (by rw [g3, g11, hz]; decide)]
  have cl : cutL p 60 = [pieceF p 40 0, pieceF p 40 1, pieceF p 40 2] := by
    unfold cutL
    rw [if_pos ce, if_neg hnl, show (60 : Int).toNat = 60 from rfl, hz40, g11]
    unfold cntP
    rw [hz]; rfl
  have pcs : ∀ i, i < 3 → (pieceF p 40 i).size = 20 + (partP d 40 i).size := fun i hi => by
    have f := piece_fits (s := p) g0 (z := 40) (by decide) (by rw [g3, g11, hz]; decide) (by rw [g11, hz]; decide) i (by rw [g11]; unfold cntP; rw [hz]; exact hi)
    have := (pieceF_is g0 (by decide) f.1 f.2.1).size g0
    rw [this.2, hl20, g11]
  have q0 := pcs 0 (by decide)
  have q1 := pcs 1 (by decide)
  have q2 := pcs 2 (by decide)
  rw [partP_size, hz] at q0 q1 q2
  rw [if_pos (by decide), ref_put4 _ _ _ _ _ _ _ _ _ _ _ (by rw [s1]; decide) (by rw [s2]; decide) (by rw [s3]; decide) (by rw [hz]; decide) k hk, e, Option.bind_some]
  dsimp only
  rw [cut_f (by omega), Option.bind_some, ce, cl, if_pos rfl, if_pos (by rfl), if_pos (by show (0 : Int) < ((3 : Nat) : Int); decide)]
  rw [if_pos (by show (((pieceF p 40 0).size : Nat) : Int) = 60; omega), if_pos (by show (1 : Int) < ((3 : Nat) : Int); decide), if_pos (by show (((pieceF p 40 1).size : Nat) : Int) = 60; omega), if_pos (by show (2 : Int) < ((3 : Nat) : Int); decide), if_pos (by show (((pieceF p 40 2).size : Nat) : Int) = 40; omega), part_2067]
  rfl
end Go.Proofs.Ytejmipoolbodgaa.Pure
end
