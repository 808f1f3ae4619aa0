/- Texts of this session, joined: each is a section. -/
import Derived.Test.YtcmalglippmocaaDoorMFlowValid2
import Derived.Test.YtcmalglippmocaaDoorMFlowValid3
import Derived.Test.YtcmalglippmocaaDoorMFlowValid5
import Derived.Test.YtcmalglippmocaaDoorMFlowValid8
import Derived.Test.YtcmalglippmocaaDoorMFlowValid4
import Derived.Test.YtcmalglippmocaaDoorMFlowValid9
import Derived.Test.YtcmalglippmocaaDoorMFlowValid10
import Derived.Test.YtcmalglippmocaaDoorMFlowValid11
import Derived.Test.YtcmalglippmocaaDoorMFlowValid1
import Derived.Deep.Fields
import Derived.Deep.Strs
import Derived.WideShapes
import Derived.ChangeArms
import Derived.Test.YtcmalglippmocaaDoorTie
import Derived.ProofKit
import Derived.LaidMore
import Derived.OpenShut
set_option linter.unusedVariables false
set_option linter.unusedSimpArgs false
section
namespace Go.Proofs.YtcmalglippmocaaDoor.Pal
theorem nb2_is (c : Nat) : nb 2 c = [UInt8.ofNat (c / 256), UInt8.ofNat c] := rfl
theorem nb2_tot (c : Nat) (h : c ≤ 65535) : tot false (nb 2 c) = c := by
  rw [nb2_is]
  simp only [tot, UInt8.toNat_ofNat']
  omega
theorem tot_mid (A B : List UInt8) (c : Nat) (hA : odd A = false) (hc : c ≤ 65535) : tot false (A ++ nb 2 c ++ B) = tot false (A ++ nb 2 0 ++ B) + c := by
  have e : ∀ d, odd (A ++ nb 2 d) = false := fun d => by
    unfold odd at hA ⊢
    rw [List.length_append, nb_length]
    simp only [beq_eq_false_iff_ne] at hA ⊢
    omega
  have t : ∀ d, tot false (A ++ nb 2 d ++ B) = tot false A + tot false (nb 2 d) + tot false B := fun d => by
    rw [tot_append, tot_append, e d, hA]
    rfl
  rw [t, t, nb2_tot c hc, nb2_tot 0 (by decide)]
  omega
theorem csum_bound (l : List UInt8) : csum l ≤ 65535 := by unfold csum; omega
theorem inSealed (A B : List UInt8) (hA : odd A = false) : csum (A ++ nb 2 (csum (A ++ nb 2 0 ++ B)) ++ B) = 0 := by
  unfold csum at *
  rw [tot_mid A B _ hA (by omega)]
  generalize tot false (A ++ nb 2 0 ++ B) = t
  unfold fold16
  split <;> split <;> omega
end Go.Proofs.YtcmalglippmocaaDoor.Pal
end

section
namespace Go.Proofs.YtcmalglippmocaaDoor.Pal
theorem cut_bl (s : ByteArray) (n m : Nat) : bl (s.extract n m) = ((bl s).take m).drop n := by simp [bl, ByteArray.data_extract, List.drop_take]
theorem take_bl (s : ByteArray) : (bl s).take s.size = bl s := List.take_of_length_le (by rw [bl_length]; exact Nat.le_refl _)
end Go.Proofs.YtcmalglippmocaaDoor.Pal
end

section
namespace Go.Proofs.YtcmalglippmocaaDoor.Pal
def seal17 (t : Nat) : Nat := if t = 0 then 65535 else t
theorem seal17_le {t : Nat} (h : t ≤ 65535) : 1 ≤ seal17 t ∧ seal17 t ≤ 65535 := by unfold seal17; split <;> omega
theorem seal17_fold (t : Nat) : 65535 - fold16 (t + seal17 (65535 - fold16 t)) = 0 := by
  unfold fold16 seal17
  by_cases h : t = 0
  · subst h; rfl
  · rw [if_neg h]
    have := Nat.mod_lt (t - 1) (show 0 < 65535 by decide)
    by_cases h2 : 65535 - ((t - 1) % 65535 + 1) = 0
    · rw [if_pos h2, if_neg (by omega)]; omega
    · rw [if_neg h2, if_neg (by omega)]; omega
theorem inSealed17 (A B : List UInt8) (hA : odd A = false) : csum (A ++ nb 2 (seal17 (csum (A ++ nb 2 0 ++ B))) ++ B) = 0 := by
  have e := tot_mid A B _ hA (seal17_le (csum_bound (A ++ nb 2 0 ++ B))).2
  unfold csum at *
  rw [e]
  exact seal17_fold _
end Go.Proofs.YtcmalglippmocaaDoor.Pal
end

section
namespace Go.Proofs.YtcmalglippmocaaDoor.Pure
open Go.RowKit Go.Proofs.YtcmalglippmocaaDoorW.PrintWords Go.Proofs.YtcmalglippmocaaDoorW.PrintLast Go.Proofs.YtcmalglippmocaaDoor.G Go.Proofs.YtcmalglippmocaaDoor.Pal
theorem bl_inj {a b : ByteArray} (h : bl a = bl b) : a = b := ByteArray.ext (Array.toList_inj.mp h)
theorem bl_mk (l : List UInt8) : bl ⟨l.toArray⟩ = l := by simp [bl]
theorem size_mk (l : List UInt8) : (⟨l.toArray⟩ : ByteArray).size = l.length := by simp [ByteArray.size]
theorem u64n_of {a : Int} (h0 : 0 ≤ a) (h1 : a ≤ 18446744073709551615) : u64n a = a.toNat := by
  unfold u64n; rw [IntKind.wrap_u64]; omega
theorem be_nb2 {a : Int} (h : in16 a) : ((be (nb 2 (u64n a)) : Nat) : Int) = a := by
  rw [be_nb, u64n_of h.1 (by have := h.2; omega)]; have := h.1; have := h.2; omega
theorem check_zero {a b : Int} {n : Nat} : udpCheck a b n = 0 ↔ in16 a ∧ in16 b ∧ n ≤ 65527 := by
  unfold udpCheck
  split
  · split <;> simp_all
  · rename_i h; constructor
    · intro h; omega
    · intro h2; exact absurd ⟨h2.1, h2.2.1⟩ h
theorem parts {x : ByteArray} {A B L S : List UInt8} {p : ByteArray} (hx : bl x = A ++ B ++ L ++ S ++ bl p) (hA : A.length = 2) (hB : B.length = 2) (hL : L.length = 2) (hS : S.length = 2) :
    x.size = 8 + p.size ∧ bl (x.extract 0 2) = A ∧ bl (x.extract 2 4) = B ∧ bl (x.extract 4 6) = L ∧ bl (x.extract 6 8) = S ∧ x.extract 8 x.size = p := by
  match A, hA, B, hB, L, hL, S, hS with
  | [a0, a1], _, [b0, b1], _, [l0, l1], _, [s0, s1], _ =>
    have hsz : x.size = 8 + p.size := by rw [← bl_length, hx, ← bl_length]; simp; omega
    refine ⟨hsz, ?_, ?_, ?_, ?_, bl_inj ?_⟩ <;> rw [bl_extract, hx]
    · simp
    · simp
    · simp
    · simp
    · rw [List.take_of_length_le (by simp [bl_length, hsz]; omega)]; simp
theorem put_ok {a b : Int} {p : ByteArray} {n : Int} (h0 : udpCheck a b p.size = 0) (hn : in16 n) : udp_Put.f a b p n = some (⟨(udpBytes a b p n).toArray⟩, 0) := by
  unfold udp_Put.f; rw [if_neg (by omega), if_pos hn]
theorem put_len {a b : Int} {p : ByteArray} {n : Int} (h0 : udpCheck a b p.size ≠ 0) : udp_Put.f a b p n = some (empty, udpCheck a b p.size) := by
  unfold udp_Put.f; rw [if_pos h0]
theorem put_sum {a b : Int} {p : ByteArray} {n : Int} (h0 : udpCheck a b p.size = 0) (hn : ¬ in16 n) : udp_Put.f a b p n = some (empty, 1) := by
  unfold udp_Put.f; rw [if_neg (by omega), if_neg hn]
theorem get_is {s : ByteArray} (hs : s.size ≤ 140737488351232) : udp_Get.f s = some (if udpErr s = 0 then (((be (bl (s.extract 0 2)) : Nat) : Int), ((be (bl (s.extract 2 4)) : Nat) : Int), s.extract 8 s.size, ((be (bl (s.extract 6 8)) : Nat) : Int), 0) else (0, 0, empty, 0, udpErr s)) := by
  unfold udp_Get.f; rw [if_pos hs]
theorem get_put {a b : Int} {p : ByteArray} {n : Int} {x : ByteArray} (ha : in16 a) (hb : in16 b) (hp : p.size ≤ 65527) (hn : in16 n) (hx : bl x = udpBytes a b p n) : udp_Get.f x = some (a, b, p, n, 0) := by
  obtain ⟨h0, h1, h2, h3, h4, h5⟩ := parts hx (nb_length _ _) (nb_length _ _) (nb_length _ _) (nb_length _ _)
  have he : udpErr x = 0 := by
    unfold udpErr
    rw [if_neg (by omega), if_pos (by
      rw [h3]
      have := be_nb2 (a := 8 + (p.size : Int)) (by unfold in16; omega)
      omega)]
  rw [get_is (by omega), if_pos he, h1, h2, h4, h5, be_nb2 ha, be_nb2 hb, be_nb2 hn]
theorem udpBytes_length (a b : Int) (p : ByteArray) (n : Int) : (udpBytes a b p n).length = 8 + p.size := by
  unfold udpBytes; simp only [List.length_append, nb_length, bl_length]
theorem empty_list : (empty : ByteArray).toList = [] := by decide +kernel
end Go.Proofs.YtcmalglippmocaaDoor.Pure
end

section
namespace Go.Proofs.YtcmalglippmocaaDoor.Pure
open Go.RowKit Go.Proofs.YtcmalglippmocaaDoorW.PrintWords Go.Proofs.YtcmalglippmocaaDoorW.PrintLast Go.Proofs.YtcmalglippmocaaDoor.G Go.Proofs.YtcmalglippmocaaDoor.Pal
theorem bt_bl (s : ByteArray) (i : Nat) (h : i < s.size) : bt s (i : Int) = (((bl s)[i]'(by rw [bl_length]; exact h)).toNat : Int) := by
  unfold bt
  rw [dif_pos (by simpa using h)]
  rfl
theorem byte_is (x : Int) (h0 : 0 ≤ x) : strOfNums [Int.tmod x 256 % 256] = ⟨#[UInt8.ofNat x.toNat]⟩ := by
  obtain ⟨n, rfl⟩ := Int.eq_ofNat_of_zero_le h0
  have e : Int.tmod (n : Int) 256 % 256 = ((n % 256 : Nat) : Int) := by rw [Int.tmod_eq_emod_of_nonneg (by omega)]; omega
  rw [e]
  simp [strOfNums]
  apply UInt8.toNat.inj
  simp
  omega
theorem bytes_loop (n : Nat) (hn : n ≤ 8) : ∀ (m i k x : Nat) (t : ByteArray), i + m = n → m < k → x ≤ 18446744073709551615 → t.size = i →
    ∃ r, palanquinref01_Bytes.l0 k (x : Int) (n : Int) t (i : Int) = some r ∧ bl r = nb m x ++ bl t
  | 0, i, k + 1, x, t, hi, _, _, _ => by
    refine ⟨t, ?_, by simp [nb]⟩
    rw [palanquinref01_Bytes.l0, if_neg (by omega)]
  | m + 1, i, k + 1, x, t, hi, hk, hx, ht => by
    have hd : IntKind.u64.wrap (Int.tdiv (x : Int) 256) = ((x / 256 : Nat) : Int) := by rw [IntKind.wrap_u64, Int.tdiv_eq_ediv_of_nonneg (by omega)]; omega
    have hb := byte_is (x : Int) (by omega)
    rw [Int.toNat_natCast] at hb
    have h1 : (⟨#[UInt8.ofNat x]⟩ : ByteArray).size = 1 := rfl
    obtain ⟨r, hr, hr2⟩ := bytes_loop n hn m (i + 1) k (x / 256) (⟨#[UInt8.ofNat x]⟩ ++ t) (by omega) (by omega) (by omega) (by rw [ByteArray.size_append, h1]; omega)
    refine ⟨r, ?_, ?_⟩
    · rw [palanquinref01_Bytes.l0, if_pos (by omega), Option.bind_some, hb, if_pos (by rw [h1]; omega), hd, show wrap64 ((i : Int) + 1) = ((i + 1 : Nat) : Int) by unfold wrap64; omega]
      exact hr
    · rw [hr2, bl_append, nb, List.append_assoc]
      rfl
theorem bytes_is (n : Nat) (hn : n ≤ 8) (x : Nat) (hx : x ≤ 18446744073709551615) (k : Nat) (hk : n < k) : ∃ r, palanquinref01_Bytes.f k (x : Int) (n : Int) = some r ∧ bl r = nb n x := by
  obtain ⟨r, h1, h2⟩ := bytes_loop n hn n 0 k x ⟨#[]⟩ (by omega) hk hx rfl
  refine ⟨r, h1, ?_⟩
  rw [h2]
  simp [bl]
theorem bytes_u (n : Nat) (hn : n ≤ 8) (v : Int) (k : Nat) (hk : n < k) : ∃ r, palanquinref01_Bytes.f k (IntKind.u64.wrap v) (n : Int) = some r ∧ bl r = nb n (IntKind.u64.wrap v).toNat := by
  have h0 : 0 ≤ IntKind.u64.wrap v ∧ IntKind.u64.wrap v ≤ 18446744073709551615 := by rw [IntKind.wrap_u64]; omega
  generalize IntKind.u64.wrap v = x at h0 ⊢
  obtain ⟨x, rfl⟩ := Int.eq_ofNat_of_zero_le h0.1
  obtain ⟨r, h1, h2⟩ := bytes_is n hn x (by omega) k hk
  exact ⟨r, h1, by rw [h2, Int.toNat_natCast]⟩
theorem bytes_sized {n : Nat} {r : ByteArray} {x : Nat} (h : bl r = nb n x) : r.size = n := by rw [← bl_length, h, nb_length]
end Go.Proofs.YtcmalglippmocaaDoor.Pure
end

section
namespace Go.Proofs.YtcmalglippmocaaDoor.Pure
open Go.RowKit Go.Proofs.YtcmalglippmocaaDoorW.PrintWords Go.Proofs.YtcmalglippmocaaDoorW.PrintLast Go.Proofs.YtcmalglippmocaaDoor.G Go.Proofs.YtcmalglippmocaaDoor.Pal
def psT (six : Bool) (a b : Int) : ByteArray := if six then strOfNums [b / 16777216 % 256, b / 65536 % 256, b / 256 % 256, b % 256, 0, 0, 0, a % 256] else strOfNums [0, a % 256, b / 256 % 256, b % 256]
theorem psT_size (six : Bool) (a b : Int) : (psT six a b).size % 2 = 0 ∧ (psT six a b).size ≤ 8 := by
  have sz_nums : ∀ xs : List Int, (strOfNums xs).size = xs.length := fun xs => by rw [← bl_length]; simp [bl, strOfNums]
  unfold psT; split <;> rw [sz_nums] <;> exact ⟨by simp, by simp⟩
def psB (s d : ByteArray) (a b : Int) : ByteArray := s ++ d ++ psT (s.size == 16) a b
theorem pseudo_some (s d : ByteArray) (hs : s.size ≤ 300) (hd : d.size ≤ 300) (a b : Int) : sum_Pseudo.f s d a b = some (psB s d a b) := by
  have sz_nums : ∀ xs : List Int, (strOfNums xs).size = xs.length := fun xs => by rw [← bl_length]; simp [bl, strOfNums]
  unfold sum_Pseudo.f psB psT
  by_cases h : (s.size : Int) = 16
  · have h' : (s.size == 16) = true := beq_iff_eq.mpr (by omega)
    rw [if_pos h, if_pos (by omega), Option.bind_some, if_pos (by rw [sz_nums, ByteArray.size_append]; simp; omega), if_pos h']
  · have h' : (s.size == 16) = false := beq_eq_false_iff_ne.mpr (by omega)
    rw [if_neg h, if_pos (by omega), Option.bind_some, if_pos (by rw [sz_nums, ByteArray.size_append]; simp; omega), if_neg (by rw [h']; decide)]
theorem psB_size (s d : ByteArray) (a b : Int) : (psB s d a b).size = s.size + d.size + (psT (s.size == 16) a b).size := by unfold psB; rw [ByteArray.size_append, ByteArray.size_append]
theorem psB_even (s d : ByteArray) (a b : Int) (h : (s.size + d.size) % 2 = 0) : odd (bl (psB s d a b)) = false := by
  have := (psT_size (s.size == 16) a b).1
  unfold odd; rw [bl_length, psB_size]; simp only [beq_eq_false_iff_ne]; omega
theorem sum_is (l : List ByteArray) (h : (cat l).length ≤ 1099511627776) : sum_Sum.f l = some ((csum (cat l) : Nat) : Int) := by unfold sum_Sum.f; rw [if_pos h]
theorem right2 (a b : ByteArray) (h : a.size + b.size ≤ 1099511627776) : sum_Right.f [a, b] = some (decide (csum (bl a ++ bl b) = 0)) := by
  unfold sum_Right.f
  rw [sum_is _ (by rw [cat_cons, cat_cons, cat_nil, List.append_nil, List.length_append, bl_length, bl_length]; exact h), Option.bind_some, cat_cons, cat_cons, cat_nil, List.append_nil]
  congr 1
  by_cases hc : csum (bl a ++ bl b) = 0
  · rw [hc]; rfl
  · rw [decide_eq_false hc]; exact beq_eq_false_iff_ne.mpr (by omega)
def sealC (p : Int) (t : Nat) : Nat := if t = 0 ∧ p = 17 then 65535 else t
theorem sealC_le {p : Int} {t : Nat} (h : t ≤ 65535) : sealC p t ≤ 65535 := by unfold sealC; split <;> omega
theorem sealNo_is (p : Int) (t : Nat) : sealNo p (t : Int) = ((sealC p t : Nat) : Int) := by
  unfold sealNo sealC
  by_cases h : t = 0 ∧ p = 17
  · rw [if_pos h, if_pos ⟨by omega, h.2⟩]; rfl
  · rw [if_neg h, if_neg (fun h' => h ⟨by omega, h'.2⟩)]
theorem sealC_17 (t : Nat) : sealC 17 t = seal17 t := by unfold sealC seal17; simp
def putAt (s : ByteArray) (q c : Nat) : ByteArray := ⟨((bl s).take q ++ nb 2 c ++ (bl s).drop (q + 2)).toArray⟩
theorem bl_putAt (s : ByteArray) (q c : Nat) : bl (putAt s q c) = (bl s).take q ++ nb 2 c ++ (bl s).drop (q + 2) := by unfold putAt; simp [bl]
theorem putAt_size (s : ByteArray) (q c : Nat) (h : q + 2 ≤ s.size) : (putAt s q c).size = s.size := by
  rw [← bl_length, bl_putAt]; simp only [List.length_append, List.length_take, List.length_drop, nb_length, bl_length]; omega
def sumAt (ps : ByteArray) (s : ByteArray) (q : Nat) : Nat := csum (bl ps ++ bl (putAt s q 0))
theorem sumAt_le (ps s : ByteArray) (q : Nat) : sumAt ps s q ≤ 65535 := csum_bound _
theorem ext_front (s : ByteArray) (q : Nat) : bl (s.extract 0 q) = (bl s).take q := by rw [cut_bl, List.drop_zero]
theorem ext_back (s : ByteArray) (q : Nat) : bl (s.extract q s.size) = (bl s).drop q := by rw [cut_bl, take_bl]
theorem seal_some {p : Int} {a b s : ByteArray} {q : Nat} (h : sealAt p s.size = q) (h0 : q ≠ 0) (hs : s.size ≤ 1000000000) (ha : a.size ≤ 300) (hb : b.size ≤ 300) :
    flow_Seal.f p a b s = some (putAt s q (sealC p (sumAt (psB a b p s.size) s q))) := by
  unfold flow_Seal.f
  rw [if_pos hs, h, if_neg h0]
  unfold seal_with
  rw [pseudo_some a b ha hb, Option.bind_some]
  have hz := psB_size a b p s.size
  have hz2 := (psT_size (a.size == 16) p s.size).2
  have hcat : cat [psB a b p s.size, s.extract 0 q, ⟨#[0, 0]⟩, s.extract (q + 2) s.size] = bl (psB a b p s.size) ++ bl (putAt s q 0) := by
    rw [bl_putAt, cat_cons, cat_cons, cat_cons, cat_cons, cat_nil, List.append_nil, ext_front, ext_back, show bl (⟨#[0, 0]⟩ : ByteArray) = nb 2 0 from rfl]
    simp only [List.append_assoc]
  rw [sum_is _ (by rw [hcat, bl_putAt]; simp only [List.length_append, List.length_take, List.length_drop, nb_length, bl_length]; omega), Option.bind_some, hcat, sealNo_is]
  unfold sealBytes
  rw [u64n_of (by omega) (by have := sealC_le (p := p) (csum_bound (bl (psB a b p s.size) ++ bl (putAt s q 0))); omega), Int.toNat_natCast, ext_front, ext_back]
  rfl
theorem sealed_right {ps s : ByteArray} {q : Nat} {p : Int} (hp : odd (bl ps) = false) (hq : q % 2 = 0) (hl : q + 2 ≤ s.size) : csum (bl ps ++ bl (putAt s q (sealC p (sumAt ps s q)))) = 0 := by
  have hA : odd (bl ps ++ (bl s).take q) = false := by
    have e : ((bl s).take q).length = q := by rw [List.length_take, bl_length]; omega
    unfold odd at hp ⊢
    simp only [beq_eq_false_iff_ne] at hp ⊢
    rw [List.length_append, e]; omega
  have e : ∀ c, bl ps ++ bl (putAt s q c) = (bl ps ++ (bl s).take q) ++ nb 2 c ++ (bl s).drop (q + 2) := fun c => by rw [bl_putAt]; simp only [List.append_assoc]
  unfold sumAt
  rw [e, e]
  unfold sealC
  split
  · rename_i h
    have := inSealed17 (bl ps ++ (bl s).take q) ((bl s).drop (q + 2)) hA
    unfold seal17 at this
    rw [if_pos h.1] at this
    exact this
  · exact inSealed _ _ hA
end Go.Proofs.YtcmalglippmocaaDoor.Pure
end

section
namespace Go.Proofs.YtcmalglippmocaaDoor.Pure
open Go.RowKit Go.Proofs.YtcmalglippmocaaDoorW.PrintWords Go.Proofs.YtcmalglippmocaaDoorW.PrintLast Go.Proofs.YtcmalglippmocaaDoor.G Go.Proofs.YtcmalglippmocaaDoor.Pal
namespace F2
end F2
end Go.Proofs.YtcmalglippmocaaDoor.Pure
end

section
namespace Go.Proofs.YtcmalglippmocaaDoor.Pure
open Go.RowKit Go.Proofs.YtcmalglippmocaaDoorW.PrintWords Go.Proofs.YtcmalglippmocaaDoorW.PrintLast Go.Proofs.YtcmalglippmocaaDoor.G Go.Proofs.YtcmalglippmocaaDoor.Pal
theorem bl4_inj {a b : ByteArray} (h : bl a = bl b) : a = b := ByteArray.ext (Array.toList_inj.mp h)
theorem bl4_mk (l : List UInt8) : bl ⟨l.toArray⟩ = l := by simp [bl]
theorem size4_mk (l : List UInt8) : (⟨l.toArray⟩ : ByteArray).size = l.length := by simp [ByteArray.size]
theorem or_add4 (i x y : Nat) (hy : y < 2 ^ i) : 2 ^ i * x ||| y = 2 ^ i * x + y := (Nat.two_pow_add_eq_or_of_lt hy x).symm
theorem u64n_nat (x : Nat) (h : x ≤ 18446744073709551615) : u64n (x : Int) = x := by unfold u64n; rw [IntKind.wrap_u64]; omega
def fl (df mf : Bool) (off : Nat) : Nat := (if df then 16384 else 0) + (if mf then 8192 else 0) + off
theorem fl_lt {df mf : Bool} {off : Nat} (h : off < 8192) : fl df mf off < 32768 := by unfold fl; split <;> split <;> omega
theorem flags_is (df mf : Bool) (off : Nat) (h : off < 8192) : flags4 (off : Int) df mf = ((fl df mf off : Nat) : Int) := by
  have hb : ∃ k, k ≤ 3 ∧ Go.bits .or .i64 (bit14 df) (bit13 mf) = ((8192 * k : Nat) : Int) ∧ fl df mf off = 8192 * k + off := by
    cases df <;> cases mf
    · exact ⟨0, by decide, by decide +kernel, by simp [fl]⟩
    · exact ⟨1, by decide, by decide +kernel, by simp [fl]⟩
    · exact ⟨2, by decide, by decide +kernel, by simp [fl]⟩
    · exact ⟨3, by decide, by decide +kernel, by simp [fl]⟩
  obtain ⟨k, hk, e1, e2⟩ := hb
  unfold flags4
  rw [e1, i64_or _ _ (by omega) (by omega), e2]
  have := or_add4 13 k off h
  rw [show (2 : Nat) ^ 13 = 8192 from rfl] at this
  rw [this]
theorem first_is (n : Nat) (h : n ≤ 40) : first4 n = ((64 + (20 + n) / 4 : Nat) : Int) := by
  unfold first4
  have e := i64_or 64 ((20 + n) / 4) (by decide) (by omega)
  have := or_add4 6 1 ((20 + n) / 4) (by omega)
  rw [show (2 : Nat) ^ 6 * 1 = 64 from rfl] at this
  rw [this] at e
  exact e
def head4 (tos id off ttl proto : Nat) (df mf : Bool) (src dst opt : ByteArray) (total check : Nat) : List UInt8 :=
  nb 1 (64 + (20 + opt.size) / 4) ++ nb 1 tos ++ nb 2 total ++ nb 2 id ++ nb 2 (fl df mf off) ++ nb 1 ttl ++ nb 1 proto ++ nb 2 check ++ (bl src ++ bl dst ++ bl opt)
theorem head4_length (tos id off ttl proto : Nat) (df mf : Bool) (src dst opt : ByteArray) (total check : Nat) : (head4 tos id off ttl proto df mf src dst opt total check).length = 12 + src.size + dst.size + opt.size := by
  unfold head4; simp only [List.length_append, nb_length, bl_length]; omega
theorem bytes4_is {tos id off ttl proto : Nat} {df mf : Bool} {src dst opt : ByteArray} {total check : Nat} (h : ok4 tos id off ttl proto src dst opt) (ht : total ≤ 65535) (hc : check ≤ 65535) :
    ip4Bytes tos id off ttl proto df mf src dst opt total check = head4 tos id off ttl proto df mf src dst opt total check := by
  obtain ⟨h1, h2, h3, h4, h5, h6, h7, h8, h9⟩ := h
  unfold ip4Bytes head4
  rw [first_is _ h8, flags_is _ _ _ (by omega), u64n_nat _ (by omega), u64n_nat _ (by omega), u64n_nat _ (by omega), u64n_nat _ (by omega), u64n_nat _ (by have := fl_lt (df := df) (mf := mf) (show off < 8192 by omega); omega), u64n_nat _ (by omega), u64n_nat _ (by omega), u64n_nat _ (by omega), bl_append, bl_append]
def put4 (tos id off ttl proto : Nat) (df mf : Bool) (src dst opt p : ByteArray) : List UInt8 :=
  head4 tos id off ttl proto df mf src dst opt (20 + opt.size + p.size) (csum (head4 tos id off ttl proto df mf src dst opt (20 + opt.size + p.size) 0)) ++ bl p
theorem csum4_le (l : List UInt8) : csum l ≤ 65535 := by unfold csum; omega
theorem sum4_one (t : ByteArray) (h : t.size ≤ 1099511627776) : sum_Sum.f [t] = some ((csum (bl t) : Nat) : Int) := by
  have e : cat [t] = bl t := by rw [cat_cons, cat_nil, List.append_nil]
  unfold sum_Sum.f; rw [if_pos (by rw [e, bl_length]; exact h), e]
theorem check4 {tos id off ttl proto : Int} {df mf : Bool} {src dst opt : ByteArray} (h1 : src.size ≤ 281474976710656) (h2 : dst.size ≤ 281474976710656) (h3 : opt.size ≤ 281474976710656) :
    ip4_Check.f tos id off ttl proto df mf src dst opt = some (if ok4 tos id off ttl proto src dst opt then 0 else 1) := by
  unfold ip4_Check.f; rw [if_pos ⟨by omega, by omega, by omega⟩]
theorem put4_ok {tos id off ttl proto : Nat} {df mf : Bool} {src dst opt p : ByteArray} (h : ok4 tos id off ttl proto src dst opt) (hp : 20 + opt.size + p.size ≤ 65535) :
    ip4_Put.f tos id off ttl proto df mf src dst opt p = some (⟨(put4 tos id off ttl proto df mf src dst opt p).toArray⟩, 0) := by
  have hs := h.2.2.2.2.2
  unfold ip4_Put.f
  rw [check4 (by omega) (by omega) (by omega), Option.bind_some, if_pos h, if_pos rfl, show wrap64 (wrap64 (20 + (opt.size : Int)) + (p.size : Int)) = ((20 + opt.size + p.size : Nat) : Int) by unfold wrap64; omega, if_neg (by omega)]
  unfold ip4_header.f
  rw [if_pos (by omega), Option.bind_some, show (0 : Int) = ((0 : Nat) : Int) from rfl, bytes4_is h hp (by decide)]
  have hl := head4_length tos id off ttl proto df mf src dst opt (20 + opt.size + p.size) 0
  rw [sum4_one _ (by rw [size4_mk, hl]; omega), Option.bind_some, bl4_mk, if_pos (by omega), Option.bind_some, bytes4_is h hp (csum4_le _), if_pos (by rw [size4_mk, head4_length]; omega)]
  refine congrArg some (Prod.ext (bl4_inj ?_) rfl)
  dsimp only
  rw [bl_append]
  refine Eq.trans ?_ (bl4_mk _).symm
  unfold put4
  congr 1
theorem put4_no {tos id off ttl proto : Int} {df mf : Bool} {src dst opt p : ByteArray} (h : ¬ ok4 tos id off ttl proto src dst opt) (h1 : src.size ≤ 281474976710656) (h2 : dst.size ≤ 281474976710656) (h3 : opt.size ≤ 281474976710656) :
    ip4_Put.f tos id off ttl proto df mf src dst opt p = some (⟨#[]⟩, 1) := by
  unfold ip4_Put.f
  rw [check4 h1 h2 h3, Option.bind_some, if_neg h, if_neg (by decide)]
theorem ok4_nat {tos id off ttl proto : Int} {src dst opt : ByteArray} (h : ok4 tos id off ttl proto src dst opt) : ∃ a b c d e : Nat, tos = a ∧ id = b ∧ off = c ∧ ttl = d ∧ proto = e := by
  obtain ⟨h1, h2, h3, h4, h5, _⟩ := h
  exact ⟨tos.toNat, id.toNat, off.toNat, ttl.toNat, proto.toNat, by omega, by omega, by omega, by omega, by omega⟩
end Go.Proofs.YtcmalglippmocaaDoor.Pure
end

section
namespace Go.Proofs.YtcmalglippmocaaDoor.Pure
open Go.RowKit Go.Proofs.YtcmalglippmocaaDoorW.PrintWords Go.Proofs.YtcmalglippmocaaDoorW.PrintLast Go.Proofs.YtcmalglippmocaaDoor.G Go.Proofs.YtcmalglippmocaaDoor.Pal
theorem cut4 (s : ByteArray) (n m : Nat) : bl (s.extract n m) = ((bl s).take m).drop n := by simp [bl, ByteArray.data_extract, List.drop_take]
theorem seg4 {x : ByteArray} (A B C : List UInt8) {i j : Nat} (hx : bl x = A ++ B ++ C) (hA : A.length = i) (hB : i + B.length = j) : bl (x.extract i j) = B := by
  rw [cut4, hx, List.take_left' (by rw [List.length_append]; omega), List.drop_left' hA]
theorem parts4 {x src dst opt p : ByteArray} {a b c d e f g h : List UInt8} (hx : bl x = a ++ b ++ c ++ d ++ e ++ f ++ g ++ h ++ (bl src ++ bl dst ++ bl opt) ++ bl p) (ha : a.length = 1) (hb : b.length = 1) (hc : c.length = 2) (hd : d.length = 2) (he : e.length = 2) (hf : f.length = 1) (hg : g.length = 1) (hh : h.length = 2) (hs : src.size = 4) (ht : dst.size = 4) :
    x.size = 20 + opt.size + p.size ∧ bl (x.extract 0 1) = a ∧ bl (x.extract 1 2) = b ∧ bl (x.extract 2 4) = c ∧ bl (x.extract 4 6) = d ∧ bl (x.extract 6 8) = e ∧ bl (x.extract 8 9) = f ∧ bl (x.extract 9 10) = g ∧ bl (x.extract 10 12) = h ∧ x.extract 12 16 = src ∧ x.extract 16 20 = dst ∧ x.extract 20 (20 + opt.size) = opt ∧ x.extract (20 + opt.size) x.size = p ∧ bl (x.extract 0 (20 + opt.size)) = a ++ b ++ c ++ d ++ e ++ f ++ g ++ h ++ (bl src ++ bl dst ++ bl opt) := by
  have ls := bl_length src
  have lt := bl_length dst
  have lo := bl_length opt
  have lp := bl_length p
  have hsz : x.size = 20 + opt.size + p.size := by rw [← bl_length, hx]; simp only [List.length_append]; omega
  refine ⟨hsz, seg4 [] a (b ++ c ++ d ++ e ++ f ++ g ++ h ++ (bl src ++ bl dst ++ bl opt) ++ bl p) (by rw [hx]; simp only [List.append_assoc, List.nil_append]) rfl (by omega),
    seg4 a b (c ++ d ++ e ++ f ++ g ++ h ++ (bl src ++ bl dst ++ bl opt) ++ bl p) (by rw [hx]; simp only [List.append_assoc]) ha (by omega),
    seg4 (a ++ b) c (d ++ e ++ f ++ g ++ h ++ (bl src ++ bl dst ++ bl opt) ++ bl p) (by rw [hx]; simp only [List.append_assoc]) (by simp only [List.length_append]; omega) (by omega),
    seg4 (a ++ b ++ c) d (e ++ f ++ g ++ h ++ (bl src ++ bl dst ++ bl opt) ++ bl p) (by rw [hx]; simp only [List.append_assoc]) (by simp only [List.length_append]; omega) (by omega),
    seg4 (a ++ b ++ c ++ d) e (f ++ g ++ h ++ (bl src ++ bl dst ++ bl opt) ++ bl p) (by rw [hx]; simp only [List.append_assoc]) (by simp only [List.length_append]; omega) (by omega),
    seg4 (a ++ b ++ c ++ d ++ e) f (g ++ h ++ (bl src ++ bl dst ++ bl opt) ++ bl p) (by rw [hx]; simp only [List.append_assoc]) (by simp only [List.length_append]; omega) (by omega),
    seg4 (a ++ b ++ c ++ d ++ e ++ f) g (h ++ (bl src ++ bl dst ++ bl opt) ++ bl p) (by rw [hx]; simp only [List.append_assoc]) (by simp only [List.length_append]; omega) (by omega),
    seg4 (a ++ b ++ c ++ d ++ e ++ f ++ g) h ((bl src ++ bl dst ++ bl opt) ++ bl p) (by rw [hx]; simp only [List.append_assoc]) (by simp only [List.length_append]; omega) (by omega),
    bl4_inj (seg4 (a ++ b ++ c ++ d ++ e ++ f ++ g ++ h) (bl src) (bl dst ++ bl opt ++ bl p) (by rw [hx]; simp only [List.append_assoc]) (by simp only [List.length_append]; omega) (by omega)),
    bl4_inj (seg4 (a ++ b ++ c ++ d ++ e ++ f ++ g ++ h ++ bl src) (bl dst) (bl opt ++ bl p) (by rw [hx]; simp only [List.append_assoc]) (by simp only [List.length_append]; omega) (by omega)),
    bl4_inj (seg4 (a ++ b ++ c ++ d ++ e ++ f ++ g ++ h ++ bl src ++ bl dst) (bl opt) (bl p) (by rw [hx]; simp only [List.append_assoc]) (by simp only [List.length_append]; omega) (by omega)),
    bl4_inj (seg4 (a ++ b ++ c ++ d ++ e ++ f ++ g ++ h ++ bl src ++ bl dst ++ bl opt) (bl p) [] (by rw [hx]; simp only [List.append_assoc, List.append_nil]) (by simp only [List.length_append]; omega) (by omega)),
    seg4 [] (a ++ b ++ c ++ d ++ e ++ f ++ g ++ h ++ (bl src ++ bl dst ++ bl opt)) (bl p) (by rw [hx]; simp only [List.nil_append]) rfl (by simp only [List.length_append]; omega)⟩
theorem one4 (v : Nat) (h : v < 256) : be (nb 1 v) = v := by rw [be_nb]; omega
theorem two4 (v : Nat) (h : v < 65536) : be (nb 2 v) = v := by rw [be_nb]; omega
theorem head4_mid (tos id off ttl proto : Nat) (df mf : Bool) (src dst opt : ByteArray) (T C : Nat) :
    head4 tos id off ttl proto df mf src dst opt T C = (nb 1 (64 + (20 + opt.size) / 4) ++ nb 1 tos ++ nb 2 T ++ nb 2 id ++ nb 2 (fl df mf off) ++ nb 1 ttl ++ nb 1 proto) ++ nb 2 C ++ (bl src ++ bl dst ++ bl opt) := rfl
theorem head4_seal (tos id off ttl proto : Nat) (df mf : Bool) (src dst opt : ByteArray) (T : Nat) : csum (head4 tos id off ttl proto df mf src dst opt T (csum (head4 tos id off ttl proto df mf src dst opt T 0))) = 0 := by
  rw [head4_mid, head4_mid]
  refine inSealed _ _ ?_
  unfold odd
  simp only [List.length_append, nb_length]
  rfl
theorem fl_parts (df mf : Bool) (off : Nat) (h : off < 8192) : fl df mf off % 8192 = off ∧ (fl df mf off / 16384 % 2 == 1) = df ∧ (fl df mf off / 8192 % 2 == 1) = mf ∧ fl df mf off / 32768 = 0 := by
  have b1 : ∀ x : Nat, x = 1 → (x == 1) = true := fun x hx => by rw [hx]; rfl
  have b0 : ∀ x : Nat, x = 0 → (x == 1) = false := fun x hx => by rw [hx]; rfl
  cases df <;> cases mf <;> simp only [fl, Bool.false_eq_true, if_false, if_true]
  · exact ⟨by omega, b0 _ (by omega), b0 _ (by omega), by omega⟩
  · exact ⟨by omega, b0 _ (by omega), b1 _ (by omega), by omega⟩
  · exact ⟨by omega, b1 _ (by omega), b0 _ (by omega), by omega⟩
  · exact ⟨by omega, b1 _ (by omega), b1 _ (by omega), by omega⟩
theorem get_put4 {tos id off ttl proto : Nat} {df mf : Bool} {src dst opt p x : ByteArray} (h : ok4 tos id off ttl proto src dst opt) (hp : 20 + opt.size + p.size ≤ 65535) (hx : bl x = put4 tos id off ttl proto df mf src dst opt p) :
    ip4_Get.f x = some ((tos : Int), (id : Int), (off : Int), (ttl : Int), (proto : Int), df, mf, src, dst, opt, p, 0) := by
  obtain ⟨h1, h2, h3, h4, h5, h6, h7, h8, h9⟩ := h
  have hseal := head4_seal tos id off ttl proto df mf src dst opt (20 + opt.size + p.size)
  have hC := csum_bound (head4 tos id off ttl proto df mf src dst opt (20 + opt.size + p.size) 0)
  unfold put4 at hx
  generalize csum (head4 tos id off ttl proto df mf src dst opt (20 + opt.size + p.size) 0) = C at hseal hC hx
  have hx' := hx
  unfold head4 at hx' hseal
  obtain ⟨z, q1, q2, q3, q4, q5, q6, q7, q8, q9, q10, q11, q12, q13⟩ := parts4 hx' (nb_length _ _) (nb_length _ _) (nb_length _ _) (nb_length _ _) (nb_length _ _) (nb_length _ _) (nb_length _ _) (nb_length _ _) h6 h7
  obtain ⟨f1, f2, f3, f4⟩ := fl_parts df mf off (by omega)
  have hb : be (bl (x.extract 0 1)) = 64 + (20 + opt.size) / 4 := by rw [q1]; exact one4 _ (by omega)
  have hh : hl4 x = 20 + opt.size := by unfold hl4; rw [hb]; omega
  have hF : be (bl (x.extract 6 8)) = fl df mf off := by rw [q5]; exact two4 _ (by have := fl_lt (df := df) (mf := mf) (show off < 8192 by omega); omega)
  have hT : be (bl (x.extract 2 4)) = x.size := by rw [q3, z]; exact two4 _ (by omega)
  have he : ip4Err x = 0 := by
    unfold ip4Err
    rw [if_neg (by omega), if_pos (by rw [hb]; omega), if_pos ⟨by omega, by omega, hT⟩, hh, q13, hseal, if_pos rfl, hF, if_pos f4]
  unfold ip4_Get.f
  rw [if_pos (by omega), if_pos he, hF, f1, f2, f3, hh, q9, q10, q11, q12, q2, q4, q6, q7, one4 tos (by omega), two4 id (by omega), one4 ttl (by omega), one4 proto (by omega)]
theorem err4_zero {s : ByteArray} (h : ip4Err s = 0) : 20 ≤ s.size ∧ be (bl (s.extract 0 1)) / 16 = 4 ∧ (20 ≤ hl4 s ∧ hl4 s ≤ s.size ∧ be (bl (s.extract 2 4)) = s.size) ∧ csum (bl (s.extract 0 (hl4 s))) = 0 ∧ be (bl (s.extract 6 8)) / 32768 = 0 := by
  unfold ip4Err at h
  by_cases h1 : s.size < 20
  · rw [if_pos h1] at h; exact absurd h (by decide)
  rw [if_neg h1] at h
  by_cases h2 : be (bl (s.extract 0 1)) / 16 = 4
  case neg => rw [if_neg h2] at h; exact absurd h (by decide)
  rw [if_pos h2] at h
  by_cases h3 : 20 ≤ hl4 s ∧ hl4 s ≤ s.size ∧ be (bl (s.extract 2 4)) = s.size
  case neg => rw [if_neg h3] at h; exact absurd h (by decide)
  rw [if_pos h3] at h
  by_cases h4 : csum (bl (s.extract 0 (hl4 s))) = 0
  case neg => rw [if_neg h4] at h; exact absurd h (by decide)
  rw [if_pos h4] at h
  by_cases h5 : be (bl (s.extract 6 8)) / 32768 = 0
  case neg => rw [if_neg h5] at h; exact absurd h (by decide)
  exact ⟨by omega, h2, h3, h4, h5⟩
end Go.Proofs.YtcmalglippmocaaDoor.Pure
end

section
namespace Go.Proofs.YtcmalglippmocaaDoor.Pure
open Go.RowKit Go.Proofs.YtcmalglippmocaaDoorW.PrintWords Go.Proofs.YtcmalglippmocaaDoorW.PrintLast Go.Proofs.YtcmalglippmocaaDoor.G Go.Proofs.YtcmalglippmocaaDoor.Pal
theorem or_add (i x y : Nat) (hy : y < 2 ^ i) : 2 ^ i * x ||| y = 2 ^ i * x + y := (Nat.two_pow_add_eq_or_of_lt hy x).symm
theorem word_is (c l : Nat) (hc : c < 256) (hl : l < 1048576) : ip6Word (c : Int) (l : Int) = ((1610612736 + c * 1048576 + l : Nat) : Int) := by
  unfold ip6Word
  rw [show wrap64 ((c : Int) * 1048576) = ((c * 1048576 : Nat) : Int) by unfold wrap64; omega]
  have e1 : (1610612736 ||| c * 1048576 : Nat) = 1610612736 + c * 1048576 := or_add 28 6 (c * 1048576) (by omega)
  have e2 : (1610612736 + c * 1048576) ||| l = 1610612736 + c * 1048576 + l := by
    have := or_add 20 (1536 + c) l (by omega)
    rw [show 2 ^ 20 * (1536 + c) = 1610612736 + c * 1048576 by omega] at this
    exact this
  have h1 := i64_or 1610612736 (c * 1048576) (by decide) (by omega)
  rw [e1] at h1
  rw [show Go.bits .or .i64 1610612736 ((c * 1048576 : Nat) : Int) = ((1610612736 + c * 1048576 : Nat) : Int) from h1]
  rw [i64_or _ _ (by omega) (by omega), e2]
  omega
theorem low8 (x : Int) : Go.bits .and .i64 x 255 = x % 256 := by
  have e : Go.bits .and .i64 x 255 = IntKind.i64.wrap (((x % 18446744073709551616).toNat &&& 255 : Nat) : Int) := by
    show IntKind.i64.wrap (((BitVec.ofInt 64 x &&& BitVec.ofInt 64 255).toNat : Nat) : Int) = _
    rw [BitVec.toNat_and, BitVec.toNat_ofInt, show (BitVec.ofInt 64 255).toNat = 255 from rfl]
    rfl
  rw [e, Nat.and_two_pow_sub_one_eq_mod _ 8, IntKind.wrap_i64]; omega
theorem low20 (x : Int) : Go.bits .and .i64 x 1048575 = x % 1048576 := by
  have e : Go.bits .and .i64 x 1048575 = IntKind.i64.wrap (((x % 18446744073709551616).toNat &&& 1048575 : Nat) : Int) := by
    show IntKind.i64.wrap (((BitVec.ofInt 64 x &&& BitVec.ofInt 64 1048575).toNat : Nat) : Int) = _
    rw [BitVec.toNat_and, BitVec.toNat_ofInt, show (BitVec.ofInt 64 1048575).toNat = 1048575 from rfl]
    rfl
  rw [e, Nat.and_two_pow_sub_one_eq_mod _ 20, IntKind.wrap_i64]; omega
def ok6 (c l n h : Int) (s d : ByteArray) : Prop := (0 ≤ c ∧ c < 256) ∧ (0 ≤ l ∧ l < 1048576) ∧ (0 ≤ n ∧ n < 256) ∧ (0 ≤ h ∧ h < 256) ∧ s.size = 16 ∧ d.size = 16
theorem check6_yes {c l n h : Int} {s d : ByteArray} (k : ok6 c l n h s d) : ip6_Check.f c l n h s d = some 0 := by
  obtain ⟨hc, hl, hn, hh, hs, hd⟩ := k
  unfold ip6_Check.f
  rw [low8, low20, low8, low8, show c % 256 = c by omega, show l % 1048576 = l by omega, show n % 256 = n by omega, show h % 256 = h by omega]
  rw [if_neg (by simp), if_pos (by omega), if_pos (by omega)]
theorem check6_no {c l n h : Int} {s d : ByteArray} (k : ¬ ok6 c l n h s d) : ip6_Check.f c l n h s d = some 1 := by
  unfold ip6_Check.f
  rw [low8, low20, low8, low8]
  split
  · rfl
  · rename_i h0
    simp at h0
    by_cases hs : (s.size : Int) = 16
    · rw [if_pos hs]
      by_cases hd : (d.size : Int) = 16
      · exact absurd ⟨by omega, by omega, by omega, by omega, by omega, by omega⟩ k
      · rw [if_neg hd]
    · rw [if_neg hs]
theorem seg (x : ByteArray) (A B C : List UInt8) (i j : Nat) (hx : bl x = A ++ B ++ C) (hA : A.length = i) (hB : A.length + B.length = j) : bl (x.extract i j) = B := by
  rw [bl_extract, hx, List.take_left' (by rw [List.length_append]; exact hB), List.drop_left' hA]
theorem parts6 {x s d p : ByteArray} {A B C D : List UInt8} (hx : bl x = A ++ B ++ C ++ D ++ bl (s ++ d ++ p)) (hA : A.length = 4) (hB : B.length = 2) (hC : C.length = 1) (hD : D.length = 1) (hs : s.size = 16) (hd : d.size = 16) :
    x.size = 40 + p.size ∧ bl (x.extract 0 4) = A ∧ bl (x.extract 4 6) = B ∧ bl (x.extract 6 7) = C ∧ bl (x.extract 7 8) = D ∧ x.extract 8 24 = s ∧ x.extract 24 40 = d ∧ x.extract 40 x.size = p := by
  rw [bl_append, bl_append] at hx
  have ls := bl_length s
  have ld := bl_length d
  have lp := bl_length p
  have hsz : x.size = 40 + p.size := by rw [← bl_length, hx]; simp only [List.length_append]; omega
  refine ⟨hsz, seg x [] A (B ++ C ++ D ++ (bl s ++ bl d ++ bl p)) 0 4 (by rw [hx]; simp [List.append_assoc]) rfl (by simp [hA]),
    seg x A B (C ++ D ++ (bl s ++ bl d ++ bl p)) 4 6 (by rw [hx]; simp [List.append_assoc]) hA (by omega),
    seg x (A ++ B) C (D ++ (bl s ++ bl d ++ bl p)) 6 7 (by rw [hx]; simp [List.append_assoc]) (by simp [hA, hB]) (by simp [hA, hB, hC]),
    seg x (A ++ B ++ C) D (bl s ++ bl d ++ bl p) 7 8 (by rw [hx]) (by simp [hA, hB, hC]) (by simp [hA, hB, hC, hD]),
    bl_inj (seg x (A ++ B ++ C ++ D) (bl s) (bl d ++ bl p) 8 24 (by rw [hx]; simp [List.append_assoc]) (by simp [hA, hB, hC, hD]) (by simp [hA, hB, hC, hD, ls, hs])),
    bl_inj (seg x (A ++ B ++ C ++ D ++ bl s) (bl d) (bl p) 24 40 (by rw [hx]; simp [List.append_assoc]) (by simp [hA, hB, hC, hD, ls, hs]) (by simp [hA, hB, hC, hD, ls, hs, ld, hd])),
    bl_inj (seg x (A ++ B ++ C ++ D ++ bl s ++ bl d) (bl p) [] 40 x.size (by rw [hx]; simp [List.append_assoc]) (by simp [hA, hB, hC, hD, ls, hs, ld, hd]) (by simp only [List.length_append]; omega))⟩
theorem put6_ok {c l n h : Int} {s d p : ByteArray} (k : ok6 c l n h s d) (hp : p.size ≤ 65535) : ip6_Put.f c l n h s d p = some (⟨(ip6Bytes c l n h s d p).toArray⟩, 0) := by
  unfold ip6_Put.f
  rw [check6_yes k, Option.bind_some, if_neg (by decide), if_pos ⟨k.2.2.2.2.1, k.2.2.2.2.2⟩, if_neg (by omega)]
theorem put6_no {c l n h : Int} {s d p : ByteArray} (k : ¬ ok6 c l n h s d) : ip6_Put.f c l n h s d p = some (empty, 1) := by
  unfold ip6_Put.f
  rw [check6_no k, Option.bind_some, if_pos (by decide)]
theorem get_put6 {c l n h : Int} {s d p x : ByteArray} (k : ok6 c l n h s d) (hp : p.size ≤ 65535) (hx : bl x = ip6Bytes c l n h s d p) : ip6_Get.f x = some (c, l, n, h, s, d, p, 0) := by
  obtain ⟨⟨c0, c1⟩, ⟨l0, l1⟩, ⟨n0, n1⟩, ⟨h0, h1⟩, hs, hd⟩ := k
  obtain ⟨c, rfl⟩ := Int.eq_ofNat_of_zero_le c0
  obtain ⟨l, rfl⟩ := Int.eq_ofNat_of_zero_le l0
  obtain ⟨z, q1, q2, q3, q4, q5, q6, q7⟩ := parts6 hx (nb_length _ _) (nb_length _ _) (nb_length _ _) (nb_length _ _) hs hd
  have w1 : be (bl (x.extract 0 4)) = 1610612736 + c * 1048576 + l := by
    rw [q1, be_nb, word_is c l (by omega) (by omega), u64n_of (by omega) (by omega), Int.toNat_natCast]
    exact Nat.mod_eq_of_lt (by omega)
  have w2 : ((be (bl (x.extract 4 6)) : Nat) : Int) = (p.size : Int) := by rw [q2]; exact be_nb2 (by unfold in16; omega)
  have one : ∀ v : Int, 0 ≤ v → v < 256 → ((be (nb 1 (u64n v)) : Nat) : Int) = v := fun v a b => by rw [be_nb, u64n_of a (by omega)]; omega
  have he : ip6Err x = 0 := by
    unfold ip6Err
    rw [if_neg (by omega), if_pos (by omega), if_pos (by omega)]
  unfold ip6_Get.f
  rw [if_pos (by omega), if_pos he, low8, low20, w1, q3, q4, q5, q6, q7, one n n0 n1, one h h0 h1]
  rw [show ((1610612736 + c * 1048576 + l : Nat) : Int) / 1048576 % 256 = (c : Int) by omega, show ((1610612736 + c * 1048576 + l : Nat) : Int) % 1048576 = (l : Int) by omega]
end Go.Proofs.YtcmalglippmocaaDoor.Pure
end

section
namespace Go.Proofs.YtcmalglippmocaaDoor.Pure
open Go.RowKit Go.Proofs.YtcmalglippmocaaDoorW.PrintWords Go.Proofs.YtcmalglippmocaaDoorW.PrintLast Go.Proofs.YtcmalglippmocaaDoor.G Go.Proofs.YtcmalglippmocaaDoor.Pal
end Go.Proofs.YtcmalglippmocaaDoor.Pure
end

section
namespace Go.Proofs.YtcmalglippmocaaDoor.Pure
open Go.RowKit Go.Proofs.YtcmalglippmocaaDoorW.PrintWords Go.Proofs.YtcmalglippmocaaDoorW.PrintLast Go.Proofs.YtcmalglippmocaaDoor.G Go.Proofs.YtcmalglippmocaaDoor.Pal
theorem blT_inj {a b : ByteArray} (h : bl a = bl b) : a = b := ByteArray.ext (Array.toList_inj.mp h)
theorem blT_mk (l : List UInt8) : bl ⟨l.toArray⟩ = l := by simp [bl]
theorem sizeT_mk (l : List UInt8) : (⟨l.toArray⟩ : ByteArray).size = l.length := by simp [ByteArray.size]
theorem u64n_T {a : Int} (h0 : 0 ≤ a) (h1 : a ≤ 18446744073709551615) : u64n a = a.toNat := by
  unfold u64n; rw [IntKind.wrap_u64]; omega
theorem beT1 {a : Int} (h0 : 0 ≤ a) (h1 : a < 256) : ((be (nb 1 (u64n a)) : Nat) : Int) = a := by rw [be_nb, u64n_T h0 (by omega)]; omega
theorem beT2 {a : Int} (h : in16 a) : ((be (nb 2 (u64n a)) : Nat) : Int) = a := by
  have := h.1; have := h.2
  rw [be_nb, u64n_T (by omega) (by omega)]; omega
theorem beT4 {a : Int} (h0 : 0 ≤ a) (h1 : a < 4294967296) : ((be (nb 4 (u64n a)) : Nat) : Int) = a := by rw [be_nb, u64n_T h0 (by omega)]; omega
theorem cutT (s : ByteArray) (n m : Nat) : bl (s.extract n m) = ((bl s).take m).drop n := by simp [bl, ByteArray.data_extract, List.drop_take]
theorem segT {x : ByteArray} (A B C : List UInt8) {i j : Nat} (hx : bl x = A ++ B ++ C) (hA : A.length = i) (hB : A.length + B.length = j) : bl (x.extract i j) = B := by
  rw [cutT, hx, List.take_left' (by rw [List.length_append]; exact hB), List.drop_left' hA]
theorem partsT {x : ByteArray} {a b c d e f g h i : List UInt8} {opt p : ByteArray} (hx : bl x = a ++ b ++ c ++ d ++ e ++ f ++ g ++ h ++ i ++ bl opt ++ bl p) (ha : a.length = 2) (hb : b.length = 2) (hc : c.length = 4) (hd : d.length = 4) (he : e.length = 1) (hf : f.length = 1) (hg : g.length = 2) (hh : h.length = 2) (hi : i.length = 2) :
    x.size = 20 + opt.size + p.size ∧ bl (x.extract 0 2) = a ∧ bl (x.extract 2 4) = b ∧ bl (x.extract 4 8) = c ∧ bl (x.extract 8 12) = d ∧ bl (x.extract 12 13) = e ∧ bl (x.extract 13 14) = f ∧ bl (x.extract 14 16) = g ∧ bl (x.extract 16 18) = h ∧ bl (x.extract 18 20) = i ∧ x.extract 20 (20 + opt.size) = opt ∧ x.extract (20 + opt.size) x.size = p := by
  have lo := bl_length opt
  have lp := bl_length p
  have hsz : x.size = 20 + opt.size + p.size := by rw [← bl_length, hx]; simp only [List.length_append]; omega
  refine ⟨hsz, segT [] a (b ++ c ++ d ++ e ++ f ++ g ++ h ++ i ++ bl opt ++ bl p) (by rw [hx]; simp only [List.append_assoc, List.nil_append]) rfl (by simp only [List.length_nil]; omega),
    segT a b (c ++ d ++ e ++ f ++ g ++ h ++ i ++ bl opt ++ bl p) (by rw [hx]; simp only [List.append_assoc]) ha (by omega),
    segT (a ++ b) c (d ++ e ++ f ++ g ++ h ++ i ++ bl opt ++ bl p) (by rw [hx]; simp only [List.append_assoc]) (by simp only [List.length_append]; omega) (by simp only [List.length_append]; omega),
    segT (a ++ b ++ c) d (e ++ f ++ g ++ h ++ i ++ bl opt ++ bl p) (by rw [hx]; simp only [List.append_assoc]) (by simp only [List.length_append]; omega) (by simp only [List.length_append]; omega),
    segT (a ++ b ++ c ++ d) e (f ++ g ++ h ++ i ++ bl opt ++ bl p) (by rw [hx]; simp only [List.append_assoc]) (by simp only [List.length_append]; omega) (by simp only [List.length_append]; omega),
    segT (a ++ b ++ c ++ d ++ e) f (g ++ h ++ i ++ bl opt ++ bl p) (by rw [hx]; simp only [List.append_assoc]) (by simp only [List.length_append]; omega) (by simp only [List.length_append]; omega),
    segT (a ++ b ++ c ++ d ++ e ++ f) g (h ++ i ++ bl opt ++ bl p) (by rw [hx]; simp only [List.append_assoc]) (by simp only [List.length_append]; omega) (by simp only [List.length_append]; omega),
    segT (a ++ b ++ c ++ d ++ e ++ f ++ g) h (i ++ bl opt ++ bl p) (by rw [hx]; simp only [List.append_assoc]) (by simp only [List.length_append]; omega) (by simp only [List.length_append]; omega),
    segT (a ++ b ++ c ++ d ++ e ++ f ++ g ++ h) i (bl opt ++ bl p) (by rw [hx]; simp only [List.append_assoc]) (by simp only [List.length_append]; omega) (by simp only [List.length_append]; omega),
    blT_inj (segT (a ++ b ++ c ++ d ++ e ++ f ++ g ++ h ++ i) (bl opt) (bl p) hx (by simp only [List.length_append]; omega) (by simp only [List.length_append]; omega)),
    blT_inj (segT (a ++ b ++ c ++ d ++ e ++ f ++ g ++ h ++ i ++ bl opt) (bl p) [] (by rw [hx, List.append_nil]) (by simp only [List.length_append]; omega) (by simp only [List.length_append]; omega))⟩
theorem putT_ok {src dst seq ack flags win urg sum : Int} {opt p : ByteArray} (hp : p.size ≤ 140737488351232) (hq : 0 ≤ seq ∧ seq < 4294967296) (ha : 0 ≤ ack ∧ ack < 4294967296) (ok : tcpOk src dst flags win urg opt) (hs : in16 sum) :
    tcp_Put.f src dst seq ack flags win urg opt p sum = some (⟨(tcpBytes src dst seq ack flags win urg opt p sum).toArray⟩, 0) := by
  unfold tcp_Put.f
  rw [if_pos ⟨hp, hq, ha⟩, if_pos ⟨by unfold tcpCheck; rw [if_pos ok], hs⟩]
theorem putT_no {src dst seq ack flags win urg sum : Int} {opt p : ByteArray} (hp : p.size ≤ 140737488351232) (hq : 0 ≤ seq ∧ seq < 4294967296) (ha : 0 ≤ ack ∧ ack < 4294967296) (h : ¬ (tcpOk src dst flags win urg opt ∧ in16 sum)) :
    tcp_Put.f src dst seq ack flags win urg opt p sum = some (⟨#[]⟩, 1) := by
  unfold tcp_Put.f
  rw [if_pos ⟨hp, hq, ha⟩, if_neg]
  rintro ⟨h1, h2⟩
  exact h ⟨tcpCheck_ok h1, h2⟩
theorem get_putT {src dst seq ack flags win urg sum : Int} {opt p x : ByteArray} (hp : p.size ≤ 140737488350000) (hq : 0 ≤ seq ∧ seq < 4294967296) (ha : 0 ≤ ack ∧ ack < 4294967296) (ok : tcpOk src dst flags win urg opt) (hs : in16 sum) (hx : bl x = tcpBytes src dst seq ack flags win urg opt p sum) :
    tcp_Get.f x = some (if rightO (bl opt) = true then (src, dst, seq, ack, flags, win, urg, opt, p, sum, 0) else (0, 0, 0, 0, 0, 0, 0, ⟨#[]⟩, ⟨#[]⟩, 0, 4)) := by
  obtain ⟨o1, o2, o3, o4, o5, o6, o7⟩ := ok
  obtain ⟨z, q1, q2, q3, q4, q5, q6, q7, q8, q9, q10, q11⟩ := partsT hx (nb_length _ _) (nb_length _ _) (nb_length _ _) (nb_length _ _) (nb_length _ _) (nb_length _ _) (nb_length _ _) (nb_length _ _) (nb_length _ _)
  have hB : be (bl (x.extract 12 13)) = (20 + opt.size) / 4 * 16 := by
    have := beT1 (a := (((20 + opt.size) / 4 * 16 : Nat) : Int)) (by omega) (by omega)
    rw [q5]; omega
  have hh : ht x = 20 + opt.size := by unfold ht; rw [hB]; omega
  have he : tcpErr x = if rightO (bl opt) = true then 0 else 4 := by
    unfold tcpErr
    rw [if_neg (by omega), hh, if_pos ⟨by omega, by omega⟩, if_pos (by rw [hB]; omega), q10]
  unfold tcp_Get.f
  rw [if_pos (by omega), he, hh, q10, q11, q1, q2, q3, q4, q6, q7, q8, q9, beT2 o1, beT2 o2, beT4 hq.1 hq.2, beT4 ha.1 ha.2, beT1 o5.1 (by omega), beT2 o3, beT2 hs, beT2 o4]
  by_cases hr : rightO (bl opt) = true
  · rw [if_pos hr, if_pos rfl, if_pos hr]
  · rw [if_neg hr, if_neg (by decide), if_neg hr]
end Go.Proofs.YtcmalglippmocaaDoor.Pure
end

section
namespace Go.Proofs.YtcmalglippmocaaDoor.Pure
open Go.RowKit Go.Proofs.YtcmalglippmocaaDoorW.PrintWords Go.Proofs.YtcmalglippmocaaDoorW.PrintLast Go.Proofs.YtcmalglippmocaaDoor.G Go.Proofs.YtcmalglippmocaaDoor.Pal
namespace FG
theorem bt_one (s : ByteArray) (i : Nat) (h : i < s.size) : bt s (i : Int) = ((be (bl (s.extract i (i + 1))) : Nat) : Int) := by
  have e : ((bl s).take (i + 1)).drop i = [(bl s)[i]'(by rw [bl_length]; exact h)] := by
    rw [List.drop_take, show i + 1 - i = 1 by omega, List.drop_eq_getElem_cons (by rw [bl_length]; exact h)]; rfl
  rw [bt_bl s i h, cut_bl, e]
  simp [be]
def okR (proto p3 : Int) (src dst pay : ByteArray) (bare : Bool) : Bool := if proto = 17 ∧ p3 = 0 then bare else decide (csum (bl (psB src dst proto (pay.size : Int)) ++ bl pay) = 0)
theorem fin_some {proto p1 p2 p3 : Int} {src dst pay : ByteArray} (bare : Bool) (hp : proto = 6 ∨ proto = 17) (hports : flow_ports.f proto pay = some (p1, p2, p3, 0)) (hs : src.size ≤ 300) (hd : dst.size ≤ 300) (hz : pay.size ≤ 1000000000) :
    flow_fin proto src dst pay false bare = some (if okR proto p3 src dst pay bare = true then (proto, src, dst, p1, p2, 0) else flow_bad 5) := by
  have hz1 := psB_size src dst proto pay.size
  have hz2 := (psT_size (src.size == 16) proto pay.size).2
  unfold flow_fin okR
  rw [if_neg (by decide), if_neg (by rcases hp with rfl | rfl <;> decide), hports, Option.bind_some]
  dsimp +instances only
  rw [if_neg (fun h => h rfl), pseudo_some src dst hs hd, Option.bind_some, right2 _ _ (by omega), Option.bind_some]
  split <;> split <;> rfl
theorem err4_of {x : ByteArray} {a b c d e : Int} {df mf : Bool} {src dst opt p : ByteArray} (h : ip4_Get.f x = some (a, b, c, d, e, df, mf, src, dst, opt, p, 0)) : ip4Err x = 0 := by
  unfold ip4_Get.f at h
  split at h
  · have := Option.some.inj h
    by_cases h0 : ip4Err x = 0
    · exact h0
    · rw [if_neg h0] at this
      simp only [Prod.mk.injEq] at this
      exact this.2.2.2.2.2.2.2.2.2.2.2
  · exact absurd h (by simp)
theorem err6_of {x : ByteArray} {a b c d : Int} {src dst p : ByteArray} (h : ip6_Get.f x = some (a, b, c, d, src, dst, p, 0)) : ip6Err x = 0 := by
  unfold ip6_Get.f at h
  split at h
  · have := Option.some.inj h
    by_cases h0 : ip6Err x = 0
    · exact h0
    · rw [if_neg h0] at this
      simp only [Prod.mk.injEq] at this
      exact this.2.2.2.2.2.2.2
  · exact absurd h (by simp)
theorem bt0_four {x : ByteArray} (h : ip4Err x = 0) : ¬ x.size = 0 ∧ bt x 0 / 16 = 4 := by
  obtain ⟨h1, h2, _⟩ := err4_zero h
  refine ⟨by omega, ?_⟩
  have := bt_one x 0 (by omega)
  rw [show (0 : Int) = ((0 : Nat) : Int) from rfl, this, show (0 + 1 : Nat) = 1 from rfl]
  generalize be (bl (x.extract 0 1)) = y at h2 ⊢
  omega
theorem first_four (x : ByteArray) (h : 4 ≤ x.size) : be (bl (x.extract 0 4)) / 268435456 = be (bl (x.extract 0 1)) / 16 := by
  have hl := bl_length x
  obtain ⟨a, b, c, d, r, hx⟩ : ∃ a b c d r, bl x = a :: b :: c :: d :: r := by
    match hb : bl x with
    | [] => rw [hb] at hl; simp at hl; omega
    | [_] => rw [hb] at hl; simp at hl; omega
    | [_, _] => rw [hb] at hl; simp at hl; omega
    | [_, _, _] => rw [hb] at hl; simp at hl; omega
    | a :: b :: c :: d :: r => exact ⟨a, b, c, d, r, rfl⟩
  rw [cut_bl, cut_bl, hx]
  have e1 : ((a :: b :: c :: d :: r).take 4).drop 0 = [a] ++ [b] ++ [c] ++ [d] := rfl
  have e2 : ((a :: b :: c :: d :: r).take 1).drop 0 = [a] := rfl
  rw [e1, e2, be_snoc, be_snoc, be_snoc]
  have hb := b.toNat_lt
  have hc := c.toNat_lt
  have hd := d.toNat_lt
  generalize be [a] = y
  omega
theorem bt0_six {x : ByteArray} (h : ip6Err x = 0) : ¬ x.size = 0 ∧ bt x 0 / 16 = 6 := by
  unfold ip6Err at h
  split at h
  · exact absurd h (by decide)
  rename_i h40
  split at h
  case isFalse => exact absurd h (by decide)
  rename_i h6
  refine ⟨by omega, ?_⟩
  rw [first_four x (by omega)] at h6
  have := bt_one x 0 (by omega)
  rw [show (0 : Int) = ((0 : Nat) : Int) from rfl, this, show (0 + 1 : Nat) = 1 from rfl]
  generalize be (bl (x.extract 0 1)) = y at h6 ⊢
  omega
theorem get_of4 {x : ByteArray} {a b c d e : Int} {df mf : Bool} {src dst opt p : ByteArray} (h : ip4_Get.f x = some (a, b, c, d, e, df, mf, src, dst, opt, p, 0)) : flow_Get.f x = flow_fin e src dst p (c != 0 || mf) true := by
  obtain ⟨h1, h2⟩ := bt0_four (err4_of h)
  unfold flow_Get.f
  rw [if_neg h1, if_pos h2, h, Option.bind_some]
  dsimp +instances only
  rw [if_neg (fun h => h rfl)]
theorem get_of6 {x : ByteArray} {a b c d : Int} {src dst p : ByteArray} (h : ip6_Get.f x = some (a, b, c, d, src, dst, p, 0)) : flow_Get.f x = flow_fin c src dst p false false := by
  obtain ⟨h1, h2⟩ := bt0_six (err6_of h)
  unfold flow_Get.f
  rw [if_neg h1, if_neg (by omega), if_pos h2, h, Option.bind_some]
  dsimp +instances only
  rw [if_neg (fun h => h rfl)]
end FG
end Go.Proofs.YtcmalglippmocaaDoor.Pure
end

section
namespace Go.Proofs.YtcmalglippmocaaDoor.Pure
open Go.RowKit Go.Proofs.YtcmalglippmocaaDoorW.PrintWords Go.Proofs.YtcmalglippmocaaDoorW.PrintLast Go.Proofs.YtcmalglippmocaaDoor.G Go.Proofs.YtcmalglippmocaaDoor.Pal
theorem btD (s : ByteArray) (i : Nat) (h : i < s.size) : bt s (i : Int) = (((bl s).getD i 0).toNat : Int) := by
  rw [bt_bl s i h]
  simp [List.getD_eq_getElem?_getD, List.getElem?_eq_getElem (show i < (bl s).length by rw [bl_length]; exact h)]
theorem byte_eq (b : UInt8) (n : Nat) (hn : n < 256) : ((b.toNat : Int) = (n : Int)) ↔ b = UInt8.ofNat n := by
  constructor
  · intro h; apply UInt8.toNat_inj.1; simp only [UInt8.toNat_ofNat']; omega
  · intro h; rw [h]; simp only [UInt8.toNat_ofNat']; omega
def posns (L : List (Nat × Nat)) : List Int := L.map fun p => (p.1 : Int)
theorem walk07 (s : ByteArray) (hs : s.size ≤ 10000000000) : ∀ (m i k : Nat) (out : List Int), s.size ≤ m + i → i ≤ s.size → 2 * m + 2 ≤ k → out.length ≤ i →
    palanquinref07_Walk.l0 k s out (i : Int) = some (match W (bl s) i with | some L => (out ++ posns L, true) | none => ([], false)) := by
  intro m
  induction m with
  | zero =>
    intro i k out h1 h2 h3 h4
    obtain ⟨k, rfl⟩ : ∃ k', k = k' + 2 := ⟨k - 2, by omega⟩
    rw [palanquinref07_Walk.l0, if_neg (by omega), palanquinref07_Walk.j1, if_neg (by decide), W_end (by rw [bl_length]; omega)]
    simp [posns]
  | succ m ih =>
    intro i k out h1 h2 h3 h4
    obtain ⟨k, rfl⟩ : ∃ k', k = k' + 2 := ⟨k - 2, by omega⟩
    by_cases hi : i < s.size
    case neg =>
      rw [palanquinref07_Walk.l0, if_neg (by omega), palanquinref07_Walk.j1, if_neg (by decide), W_end (by rw [bl_length]; omega)]
      simp [posns]
    rw [palanquinref07_Walk.l0, if_pos (by omega), if_pos (by omega), btD s i hi]
    by_cases h0 : (bl s).getD i 0 = 0
    · rw [h0, W_end (fun h => h.2 h0), palanquinref07_Walk.j1, if_neg (by decide)]
      simp [posns]
    have hne : (((((bl s).getD i 0).toNat : Int)) != 0) = true := by
      rw [bne_iff_ne]; intro h; exact h0 (by rw [show (0 : Int) = ((0 : Nat) : Int) from rfl] at h; exact (byte_eq _ 0 (by decide)).mp h)
    have hc : i < (bl s).length ∧ (bl s).getD i 0 ≠ 0 := ⟨by rw [bl_length]; exact hi, h0⟩
    rw [hne, palanquinref07_Walk.j1, if_pos rfl, if_pos (by omega), Option.bind_some, if_pos (by omega), if_pos (by omega), btD s i hi, W_step hc]
    by_cases h1' : (bl s).getD i 0 = 1
    · rw [h1', if_pos (by rfl), show wrap64 ((i : Int) + 1) = ((i + 1 : Nat) : Int) by unfold wrap64; omega,
        ih (i + 1) k (out ++ [(i : Int)]) (by omega) (by omega) (by omega) (by rw [List.length_append, List.length_singleton]; omega), show optLen (bl s) i = some 1 by unfold optLen; rw [if_pos h1'], Option.bind_some]
      cases W (bl s) (i + 1) <;> simp [posns]
    have hn1 : ¬ ((((bl s).getD i 0).toNat : Int)) = 1 := fun h => h1' ((byte_eq _ 1 (by decide)).mp h)
    rw [if_neg hn1, show wrap64 ((s.size : Int) - (i : Int)) = ((s.size - i : Nat) : Int) by unfold wrap64; omega]
    by_cases he : i + 1 = s.size
    · rw [if_pos (by omega), show optLen (bl s) i = none by unfold optLen; rw [if_neg h1', if_pos (.inl (by rw [bl_length]; exact he))], Option.bind_none]
    have hb := UInt8.toNat_lt ((bl s).getD (i + 1) 0)
    rw [if_neg (by omega), show wrap64 ((i : Int) + 1) = ((i + 1 : Nat) : Int) by unfold wrap64; omega, if_pos (by omega), if_pos (by omega), btD s (i + 1) (by omega), show wrap64 ((((bl s).getD (i + 1) 0).toNat : Int)) = ((((bl s).getD (i + 1) 0).toNat : Int)) by unfold wrap64; omega]
    by_cases h2' : ((bl s).getD (i + 1) 0).toNat < 2
    · rw [if_pos (by omega), show optLen (bl s) i = none by unfold optLen; rw [if_neg h1', if_pos (.inr (.inl h2'))], Option.bind_none]
    rw [if_neg (by omega)]
    by_cases h3' : (bl s).length < i + ((bl s).getD (i + 1) 0).toNat
    · rw [if_pos (by rw [bl_length] at h3'; omega), show optLen (bl s) i = none by unfold optLen; rw [if_neg h1', if_pos (.inr (.inr h3'))], Option.bind_none]
    have h3'' := h3'
    rw [bl_length] at h3''
    rw [if_neg (by omega), show wrap64 ((i : Int) + ((((bl s).getD (i + 1) 0).toNat : Int))) = ((i + ((bl s).getD (i + 1) 0).toNat : Nat) : Int) by unfold wrap64; omega,
      ih (i + ((bl s).getD (i + 1) 0).toNat) k (out ++ [(i : Int)]) (by omega) (by omega) (by omega) (by rw [List.length_append, List.length_singleton]; omega),
      show optLen (bl s) i = some ((bl s).getD (i + 1) 0).toNat by unfold optLen; rw [if_neg h1', if_neg (fun h => h.elim (fun h => he (by rw [bl_length] at h; exact h)) (fun h => h.elim h2' h3'))], Option.bind_some]
    cases W (bl s) (i + ((bl s).getD (i + 1) 0).toNat) <;> simp [posns]
def walkR (s : ByteArray) : List Int × Bool := match W (bl s) 0 with | some L => (posns L, true) | none => ([], false)
theorem walkR_snd (s : ByteArray) : (walkR s).2 = rightO (bl s) := by unfold walkR rightO; cases W (bl s) 0 <;> rfl
theorem walk07_is (s : ByteArray) (k : Nat) (hs : s.size ≤ 10000000000) (hk : 2 * s.size + 2 ≤ k) : palanquinref07_Walk.f k s = some (walkR s) := by
  have h := walk07 s hs s.size 0 k [] (by omega) (by omega) hk (by simp)
  unfold palanquinref07_Walk.f
  rw [show (0 : Int) = ((0 : Nat) : Int) from rfl, h]
  unfold walkR
  cases W (bl s) 0 <;> simp
end Go.Proofs.YtcmalglippmocaaDoor.Pure
end

section
namespace Go.Proofs.YtcmalglippmocaaDoor.Pure
open Go.RowKit Go.Proofs.YtcmalglippmocaaDoorW.PrintWords Go.Proofs.YtcmalglippmocaaDoorW.PrintLast Go.Proofs.YtcmalglippmocaaDoor.G Go.Proofs.YtcmalglippmocaaDoor.Pal
theorem in07 (a lo hi : Int) : palanquinref07_in.f a lo hi = some (decide (lo ≤ a ∧ a ≤ hi)) := by
  unfold palanquinref07_in.f
  by_cases h : a ≥ lo
  · rw [if_pos h]; congr 1
    by_cases h2 : a ≤ hi
    · rw [decide_eq_true h2, decide_eq_true (show lo ≤ a ∧ a ≤ hi from ⟨h, h2⟩)]
    · rw [decide_eq_false h2, decide_eq_false (show ¬ (lo ≤ a ∧ a ≤ hi) from fun h3 => h2 h3.2)]
  · rw [if_neg h, decide_eq_false (show ¬ (lo ≤ a ∧ a ≤ hi) from fun h3 => h h3.1)]
theorem may07 (src dst seq ack flags win urg : Int) (opt p : ByteArray) : palanquinref07_May.f src dst seq ack flags win urg opt p = some (decide (tcpOk src dst flags win urg opt)) := by
  unfold palanquinref07_May.f
  simp only [in07, Option.bind_some]
  by_cases h1 : 0 ≤ src ∧ src ≤ 65535
  case neg => rw [decide_eq_false h1, if_neg (by decide), decide_eq_false (fun h => h1 h.1)]
  rw [decide_eq_true h1, if_pos rfl]
  by_cases h2 : 0 ≤ dst ∧ dst ≤ 65535
  case neg => rw [decide_eq_false h2, if_neg (by decide), decide_eq_false (fun h => h2 h.2.1)]
  rw [decide_eq_true h2, if_pos rfl]
  by_cases h3 : 0 ≤ win ∧ win ≤ 65535
  case neg => rw [decide_eq_false h3, if_neg (by decide), decide_eq_false (fun h => h3 h.2.2.1)]
  rw [decide_eq_true h3, if_pos rfl]
  by_cases h4 : 0 ≤ urg ∧ urg ≤ 65535
  case neg => rw [decide_eq_false h4, if_neg (by decide), decide_eq_false (fun h => h4 h.2.2.2.1)]
  rw [decide_eq_true h4, if_pos rfl]
  by_cases h5 : 0 ≤ flags ∧ flags ≤ 255
  case neg => rw [decide_eq_false h5, if_neg (by decide), decide_eq_false (fun h => h5 h.2.2.2.2.1)]
  rw [decide_eq_true h5, if_pos rfl]
  by_cases h6 : (opt.size : Int) ≤ 40
  case neg => rw [if_neg h6, decide_eq_false (fun h => h6 (by have := h.2.2.2.2.2.1; omega))]
  rw [if_pos h6]
  congr 1
  by_cases h7 : opt.size % 4 = 0
  · rw [decide_eq_true (show tcpOk src dst flags win urg opt from ⟨h1, h2, h3, h4, h5, by omega, h7⟩), beq_iff_eq]; omega
  · rw [decide_eq_false (fun h => h7 h.2.2.2.2.2.2), beq_eq_false_iff_ne]; omega
theorem num07 (n : Nat) (hn : n ≤ 8) (v : Int) (k : Nat) (hk : n < k) : ∃ r, palanquinref07_num.f k v (n : Int) = some r ∧ bl r = nb n (u64n v) := by
  obtain ⟨r, h1, h2⟩ := bytes_u n hn v k hk
  exact ⟨r, by unfold palanquinref07_num.f; rw [h1, Option.bind_some], h2⟩
theorem off07 (n : Nat) (h : n ≤ 40) : wrap64 ((wrap64 (5 + (wrap64 ((n : Int) / 4)))) * 16) = (((20 + n) / 4 * 16 : Nat) : Int) := by
  have e1 : wrap64 ((n : Int) / 4) = ((n / 4 : Nat) : Int) := by unfold wrap64; omega
  have e2 : wrap64 (5 + ((n / 4 : Nat) : Int)) = ((5 + n / 4 : Nat) : Int) := by unfold wrap64; omega
  have e3 : (20 + n) / 4 = 5 + n / 4 := by omega
  rw [e1, e2, e3]
  unfold wrap64; omega
theorem put07 {src dst seq ack flags win urg sum : Int} {opt p : ByteArray} (hp : p.size ≤ 140737488351232) (hq : 0 ≤ seq ∧ seq < 4294967296) (ha : 0 ≤ ack ∧ ack < 4294967296) (k : Nat) (hk : 6 < k) :
    palanquinref07_Put.f k src dst seq ack flags win urg opt p sum = tcp_Put.f src dst seq ack flags win urg opt p sum := by
  obtain ⟨k, rfl⟩ : ∃ j, k = j + 1 := ⟨k - 1, by omega⟩
  unfold palanquinref07_Put.f
  rw [may07, Option.bind_some]
  by_cases o : tcpOk src dst flags win urg opt
  case neg => rw [decide_eq_false o, if_neg (by decide), palanquinref07_Put.j0, if_pos rfl, putT_no hp hq ha (fun h => o h.1)]
  rw [decide_eq_true o, if_pos rfl, in07, Option.bind_some]
  by_cases hs : in16 sum
  case neg => rw [decide_eq_false (show ¬ (0 ≤ sum ∧ sum ≤ 65535) from hs), palanquinref07_Put.j0, if_pos (by decide), putT_no hp hq ha (fun h => hs h.2)]
  rw [decide_eq_true (show 0 ≤ sum ∧ sum ≤ 65535 from hs), palanquinref07_Put.j0, if_neg (by decide), putT_ok hp hq ha o hs]
  obtain ⟨o1, o2, o3, o4, o5, o6, o7⟩ := o
  obtain ⟨r1, e1, b1⟩ := num07 2 (by decide) src k (by omega)
  obtain ⟨r2, e2, b2⟩ := num07 2 (by decide) dst k (by omega)
  obtain ⟨r3, e3, b3⟩ := num07 4 (by decide) seq k (by omega)
  obtain ⟨r4, e4, b4⟩ := num07 4 (by decide) ack k (by omega)
  obtain ⟨r5, e5, b5⟩ := num07 1 (by decide) (((20 + opt.size) / 4 * 16 : Nat) : Int) k (by omega)
  obtain ⟨r6, e6, b6⟩ := num07 1 (by decide) flags k (by omega)
  obtain ⟨r7, e7, b7⟩ := num07 2 (by decide) win k (by omega)
  obtain ⟨r8, e8, b8⟩ := num07 2 (by decide) sum k (by omega)
  obtain ⟨r9, e9, b9⟩ := num07 2 (by decide) urg k (by omega)
  have s1 := bytes_sized b1
  have s2 := bytes_sized b2
  have s3 := bytes_sized b3
  have s4 := bytes_sized b4
  have s5 := bytes_sized b5
  have s6 := bytes_sized b6
  have s7 := bytes_sized b7
  have s8 := bytes_sized b8
  have s9 := bytes_sized b9
  have w1 : wrap64 seq = seq := by unfold wrap64; omega
  have w2 : wrap64 ack = ack := by unfold wrap64; omega
  have w3 := off07 opt.size o6
  rw [w1, w2, w3]
  erw [e1, Option.bind_some, e2, Option.bind_some, if_pos (by omega), e3, Option.bind_some, if_pos (by simp only [ByteArray.size_append]; omega), e4, Option.bind_some, if_pos (by simp only [ByteArray.size_append]; omega), e5, Option.bind_some, if_pos (by simp only [ByteArray.size_append]; omega), e6, Option.bind_some, if_pos (by simp only [ByteArray.size_append]; omega), e7, Option.bind_some, if_pos (by simp only [ByteArray.size_append]; omega), e8, Option.bind_some, if_pos (by simp only [ByteArray.size_append]; omega), e9, Option.bind_some, if_pos (by simp only [ByteArray.size_append]; omega), if_pos (by simp only [ByteArray.size_append]; omega), if_pos (by simp only [ByteArray.size_append]; omega)]
  refine congrArg some (Prod.ext (blT_inj ?_) rfl)
  refine Eq.trans ?_ (blT_mk _).symm
  simp only [bl_append, b1, b2, b3, b4, b5, b6, b7, b8, b9]
  rfl
end Go.Proofs.YtcmalglippmocaaDoor.Pure
end

section
namespace Go.Proofs.YtcmalglippmocaaDoor.Pure
namespace R8
open Go.RowKit Go.Proofs.YtcmalglippmocaaDoorW.PrintWords Go.Proofs.YtcmalglippmocaaDoorW.PrintLast Go.Proofs.YtcmalglippmocaaDoor.G Go.Proofs.YtcmalglippmocaaDoor.Pal
theorem ref_in (a : Int) : palanquinref08_in.f a = some (decide (in16 a)) := by
  unfold palanquinref08_in.f
  by_cases h : a ≥ 0
  · rw [if_pos h]; congr 1
    by_cases h2 : a ≤ 65535
    · rw [decide_eq_true h2, decide_eq_true (show in16 a from ⟨h, h2⟩)]
    · rw [decide_eq_false h2, decide_eq_false (show ¬ in16 a from fun h3 => h2 h3.2)]
  · rw [if_neg h, decide_eq_false (show ¬ in16 a from fun h3 => h h3.1)]
theorem ref_check (a b : Int) (p : ByteArray) (k : Nat) : palanquinref08_Check.f (k + 1) a b p = some (udpCheck a b p.size) := by
  unfold palanquinref08_Check.f
  rw [ref_in, Option.bind_some]
  by_cases ha : in16 a
  · rw [decide_eq_true ha, if_pos rfl, ref_in, Option.bind_some]
    by_cases hb : in16 b
    · rw [decide_eq_true hb, palanquinref08_Check.j0, if_neg (by decide)]
      have e : udpCheck a b p.size = if p.size ≤ 65527 then 0 else 4 := by unfold udpCheck; rw [if_pos ⟨ha, hb⟩]
      rw [e]
      by_cases hp : (p.size : Int) > 65527
      · rw [if_pos hp, if_neg (by omega)]
      · rw [if_neg hp, if_pos (by omega)]
    · rw [decide_eq_false hb, palanquinref08_Check.j0, if_pos (by decide)]
      unfold udpCheck
      rw [if_neg (fun h => hb h.2)]
  · rw [decide_eq_false ha, if_neg (by decide), palanquinref08_Check.j0, if_pos rfl]
    unfold udpCheck
    rw [if_neg (fun h => ha h.1)]
theorem ref_two (a : Int) (h0 : 0 ≤ a) (h1 : a ≤ 18446744073709551615) (k : Nat) (hk : 2 < k) : ∃ r, palanquinref08_two.f k a = some r ∧ bl r = nb 2 (u64n a) := by
  obtain ⟨r, h2, h3⟩ := bytes_is 2 (by decide) a.toNat (by omega) k hk
  refine ⟨r, ?_, by rw [h3, u64n_of h0 h1]⟩
  unfold palanquinref08_two.f
  rw [show IntKind.u64.wrap a = ((a.toNat : Nat) : Int) by rw [IntKind.wrap_u64]; omega]
  rw [show (2 : Int) = ((2 : Nat) : Int) from rfl, h2, Option.bind_some]
theorem ref_put (a b : Int) (p : ByteArray) (n : Int) (k : Nat) (hk : 2 < k) : palanquinref08_Put.f k a b p n = udp_Put.f a b p n := by
  unfold palanquinref08_Put.f
  obtain ⟨k, rfl⟩ : ∃ j, k = j + 1 := ⟨k - 1, by omega⟩
  rw [ref_check, Option.bind_some]
  by_cases hc : udpCheck a b p.size = 0
  · rw [if_pos hc, ref_in, Option.bind_some]
    by_cases hn : in16 n
    · rw [decide_eq_true hn, if_pos rfl, put_ok hc hn]
      obtain ⟨ha, hb, hl⟩ := check_zero.mp hc
      obtain ⟨r1, e1, b1⟩ := ref_two a ha.1 (by have := ha.2; omega) (k + 1) hk
      obtain ⟨r2, e2, b2⟩ := ref_two b hb.1 (by have := hb.2; omega) (k + 1) hk
      obtain ⟨r3, e3, b3⟩ := ref_two (8 + (p.size : Int)) (by omega) (by omega) (k + 1) hk
      obtain ⟨r4, e4, b4⟩ := ref_two n hn.1 (by have := hn.2; omega) (k + 1) hk
      have s1 : r1.size = 2 := by rw [← bl_length, b1, nb_length]
      have s2 : r2.size = 2 := by rw [← bl_length, b2, nb_length]
      have s3 : r3.size = 2 := by rw [← bl_length, b3, nb_length]
      have s4 : r4.size = 2 := by rw [← bl_length, b4, nb_length]
      rw [e1, Option.bind_some, e2, Option.bind_some, if_pos (by omega), show wrap64 (8 + (p.size : Int)) = 8 + (p.size : Int) by unfold wrap64; omega, e3, Option.bind_some,
        if_pos (by rw [ByteArray.size_append]; omega), e4, Option.bind_some, if_pos (by rw [ByteArray.size_append, ByteArray.size_append]; omega), if_pos (by rw [ByteArray.size_append, ByteArray.size_append, ByteArray.size_append]; omega)]
      rw [show (r1 ++ r2 ++ r3 ++ r4 ++ p) = ⟨(udpBytes a b p n).toArray⟩ from ?_]
      show (r1 ++ r2 ++ r3 ++ r4 ++ p) = ⟨(udpBytes a b p n).toArray⟩
      apply bl_inj
      rw [bl_append, bl_append, bl_append, bl_append, b1, b2, b3, b4, bl_mk]
      rfl
    · rw [decide_eq_false hn, if_neg (by decide), put_sum hc hn]; rfl
  · rw [if_neg hc, put_len hc]; rfl
end R8
end Go.Proofs.YtcmalglippmocaaDoor.Pure
end

section
namespace Go.Proofs.YtcmalglippmocaaDoor.Pure
open Go.RowKit Go.Proofs.YtcmalglippmocaaDoorW.PrintWords Go.Proofs.YtcmalglippmocaaDoorW.PrintLast Go.Proofs.YtcmalglippmocaaDoor.G Go.Proofs.YtcmalglippmocaaDoor.Pal
open FG F2
theorem awake09v : palanquinlaw09_awake.f 80000 = some true := by decide +kernel
theorem few09v (a b c : ByteArray) : ∃ t, palanquinlaw09_few.f a b c = some t ∧ (t = true → a.size ≤ 300 ∧ b.size ≤ 300 ∧ c.size ≤ 300) := by
  unfold palanquinlaw09_few.f
  split
  · split
    · exact ⟨_, rfl, fun h => by have := of_decide_eq_true h; omega⟩
    · exact ⟨_, rfl, fun h => absurd h (by decide)⟩
  · exact ⟨_, rfl, fun h => absurd h (by decide)⟩
def okSeg (proto : Int) (b : ByteArray) (sp dp : Int) : Prop :=
  (proto = 6 ∨ proto = 17) ∧ b.size ≤ 4000 ∧ ∃ q, sealAt proto b.size = q ∧ q ≠ 0 ∧ q % 2 = 0 ∧ q + 2 ≤ b.size ∧ ∀ c, c ≤ 65535 → (proto = 17 → 1 ≤ c) → ∃ n, flow_ports.f proto (putAt b q c) = some (sp, dp, n, 0) ∧ (proto = 17 → n ≠ 0)
theorem valid_fin {proto sp dp : Int} {b src dst : ByteArray} (h : okSeg proto b sp dp) (hs : src.size ≤ 300) (hd : dst.size ≤ 300) (he : (src.size + dst.size) % 2 = 0) :
    ∃ t, flow_Seal.f proto src dst b = some t ∧ t.size = b.size ∧ ∀ bare, flow_fin proto src dst t false bare = some (proto, src, dst, sp, dp, 0) := by
  obtain ⟨hp, hb, q, h1, h2, h3, h4, h5⟩ := h
  have hsz := putAt_size b q (sealC proto (sumAt (psB src dst proto b.size) b q)) h4
  obtain ⟨n, hn, hn17⟩ := h5 (sealC proto (sumAt (psB src dst proto b.size) b q)) (sealC_le (sumAt_le _ _ _)) (fun h17 => by rw [h17, sealC_17]; exact (seal17_le (sumAt_le _ _ _)).1)
  refine ⟨_, seal_some h1 h2 (by omega) hs hd, hsz, fun bare => ?_⟩
  rw [fin_some bare hp hn hs hd (by omega)]
  have hr : okR proto n src dst (putAt b q (sealC proto (sumAt (psB src dst proto b.size) b q))) bare = true := by
    unfold okR
    rw [if_neg (fun h => hn17 h.1 h.2), hsz]
    exact decide_eq_true (sealed_right (psB_even src dst proto b.size he) h3 h4)
  rw [if_pos hr]
theorem tcp_list (src dst seq ack flags win urg : Int) (opt p : ByteArray) (c : Nat) (hc : c ≤ 65535) : bl (putAt ⟨(tcpBytes src dst seq ack flags win urg opt p 0).toArray⟩ 16 c) = tcpBytes src dst seq ack flags win urg opt p (c : Int) := by
  rw [bl_putAt, blT_mk]
  unfold tcpBytes
  rw [show u64n (c : Int) = c by rw [u64n_T (by omega) (by omega), Int.toNat_natCast]]
  generalize hA : nb 2 (u64n src) ++ nb 2 (u64n dst) ++ nb 4 (u64n seq) ++ nb 4 (u64n ack) ++ nb 1 (u64n (((20 + opt.size) / 4 * 16 : Nat) : Int)) ++ nb 1 (u64n flags) ++ nb 2 (u64n win) = A
  have h16 : A.length = 16 := by rw [← hA]; simp [nb_length]
  have e1 : (A ++ nb 2 (u64n 0) ++ nb 2 (u64n urg) ++ bl opt ++ bl p).take 16 = A := by simp only [List.append_assoc]; exact List.take_left' h16
  have e2 : (A ++ nb 2 (u64n 0) ++ nb 2 (u64n urg) ++ bl opt ++ bl p).drop (16 + 2) = nb 2 (u64n urg) ++ bl opt ++ bl p := by
    rw [show A ++ nb 2 (u64n 0) ++ nb 2 (u64n urg) ++ bl opt ++ bl p = (A ++ nb 2 (u64n 0)) ++ (nb 2 (u64n urg) ++ bl opt ++ bl p) by simp only [List.append_assoc]]
    exact List.drop_left' (by rw [List.length_append, nb_length, h16])
  rw [e1, e2]
  simp only [List.append_assoc]
theorem udp_list (a b : Int) (p : ByteArray) (c : Nat) (hc : c ≤ 65535) : bl (putAt ⟨(udpBytes a b p 0).toArray⟩ 6 c) = udpBytes a b p (c : Int) := by
  rw [bl_putAt, bl_mk]
  unfold udpBytes
  rw [show u64n (c : Int) = c by rw [u64n_of (by omega) (by omega), Int.toNat_natCast]]
  generalize hA : nb 2 (u64n a) ++ nb 2 (u64n b) ++ nb 2 (u64n (8 + (p.size : Int))) = A
  have h6 : A.length = 6 := by rw [← hA]; simp [nb_length]
  have e1 : (A ++ nb 2 (u64n 0) ++ bl p).take 6 = A := by rw [List.append_assoc]; exact List.take_left' h6
  have e2 : (A ++ nb 2 (u64n 0) ++ bl p).drop (6 + 2) = bl p := List.drop_left' (by rw [List.length_append, nb_length, h6])
  rw [e1, e2]
theorem tcpBytes_len (src dst seq ack flags win urg : Int) (opt p : ByteArray) (sum : Int) : (tcpBytes src dst seq ack flags win urg opt p sum).length = 20 + opt.size + p.size := by
  unfold tcpBytes; simp only [List.length_append, nb_length, bl_length]
theorem ok_tcp {src dst seq ack flags win urg : Int} {opt p : ByteArray} (hp : p.size ≤ 3000) (hq : 0 ≤ seq ∧ seq < 4294967296) (ha : 0 ≤ ack ∧ ack < 4294967296) (ok : tcpOk src dst flags win urg opt) (hr : rightO (bl opt) = true) :
    okSeg 6 ⟨(tcpBytes src dst seq ack flags win urg opt p 0).toArray⟩ src dst := by
  have ho : opt.size ≤ 40 := ok.2.2.2.2.2.1
  have hz : (⟨(tcpBytes src dst seq ack flags win urg opt p 0).toArray⟩ : ByteArray).size = 20 + opt.size + p.size := by rw [sizeT_mk, tcpBytes_len]
  refine ⟨.inl rfl, by omega, 16, ?_, by decide, rfl, by omega, fun c hc _ => ⟨(c : Int), ?_, fun h => absurd h (by decide)⟩⟩
  · rw [hz]; unfold sealAt; rw [if_pos ⟨rfl, by omega⟩]
  · have := get_putT (sum := (c : Int)) (x := putAt ⟨(tcpBytes src dst seq ack flags win urg opt p 0).toArray⟩ 16 c) (by omega) hq ha ok (by unfold in16; omega) (tcp_list _ _ _ _ _ _ _ _ _ _ hc)
    rw [if_pos hr] at this
    unfold flow_ports.f
    rw [if_pos rfl, this, Option.bind_some]
theorem ok_udp {a b : Int} {p : ByteArray} (hp : p.size ≤ 3000) (h1 : in16 a) (h2 : in16 b) : okSeg 17 ⟨(udpBytes a b p 0).toArray⟩ a b := by
  have hz : (⟨(udpBytes a b p 0).toArray⟩ : ByteArray).size = 8 + p.size := by rw [size_mk, udpBytes_length]
  refine ⟨.inr rfl, by omega, 6, ?_, by decide, rfl, by omega, fun c hc h1c => ⟨(c : Int), ?_, fun _ => by have := h1c rfl; omega⟩⟩
  · rw [hz]; unfold sealAt; rw [if_neg (fun h => absurd h.1 (by decide)), if_pos ⟨rfl, by omega⟩]
  · have := get_put (n := (c : Int)) (x := putAt ⟨(udpBytes a b p 0).toArray⟩ 6 c) h1 h2 (by omega) (by unfold in16; omega) (udp_list _ _ _ _ hc)
    unfold flow_ports.f
    rw [if_neg (by decide), this, Option.bind_some]
theorem valid_j3 {proto sp dp c l h : Int} {b s6 d6 : ByteArray} (ok : okSeg proto b sp dp) (k : Nat) (h1 : s6.size ≤ 300) (h2 : d6.size ≤ 300) : palanquinlaw09_FlowValid.j3 (k + 1) b sp dp c l proto h s6 d6 = some true := by
  rw [palanquinlaw09_FlowValid.j3]
  unfold flow_Build6.f
  obtain ⟨t0, ht0, hz0⟩ : ∃ t, flow_Seal.f proto s6 d6 b = some t ∧ t.size = b.size := by
    obtain ⟨hp, hb, q, h1', h2', h3, h4, h5⟩ := ok
    exact ⟨_, seal_some h1' h2' (by omega) h1 h2, putAt_size _ _ _ h4⟩
  have hb := ok.2.1
  by_cases o : ok6 c l proto h s6 d6
  case neg =>
    rw [ht0, Option.bind_some, put6_no o]
    simp only [Option.bind_some]
    rw [if_neg (by decide), show (empty : ByteArray).toList = [] from empty_list]; rfl
  have hs6 : s6.size = 16 ∧ d6.size = 16 := ⟨o.2.2.2.2.1, o.2.2.2.2.2⟩
  obtain ⟨t, ht, hz, hf⟩ := valid_fin ok h1 h2 (by omega)
  rw [ht, Option.bind_some, put6_ok o (by omega)]
  have hg := get_put6 o (p := t) (by omega) (x := ⟨(ip6Bytes c l proto h s6 d6 t).toArray⟩) (bl_mk _)
  have hG := get_of6 hg
  rw [hf false] at hG
  generalize (⟨(ip6Bytes c l proto h s6 d6 t).toArray⟩ : ByteArray) = x at hG ⊢
  rw [Option.bind_some, Option.bind_some]
  dsimp +instances only
  rw [if_pos rfl, hG, Option.bind_some]
  dsimp +instances only
  rw [if_pos rfl]
  simp
theorem valid_j2 {proto sp dp : Int} {b : ByteArray} (ok : okSeg proto b sp dp) (k : Nat) (tos id x2 ttl : Int) (df x6 : Bool) (src dst opt : ByteArray) (c l h : Int) (s6 d6 : ByteArray) (h1 : src.size ≤ 300) (h2 : dst.size ≤ 300) (h3 : opt.size ≤ 300) (h4 : s6.size ≤ 300) (h5 : d6.size ≤ 300) :
    palanquinlaw09_FlowValid.j2 (k + 2) b sp dp false tos id x2 ttl proto df x6 src dst opt c l proto h s6 d6 = some true := by
  have J3 := Aside0.mk (valid_j3 (c := c) (l := l) (h := h) ok k h4 h5)
  rw [palanquinlaw09_FlowValid.j2, if_neg (by decide)]
  unfold flow_Build4.f
  obtain ⟨t0, ht0, hz0⟩ : ∃ t, flow_Seal.f proto src dst b = some t ∧ t.size = b.size := by
    obtain ⟨hp, hb, q, h1', h2', h3, h4, h5⟩ := ok
    exact ⟨_, seal_some h1' h2' (by omega) h1 h2, putAt_size _ _ _ h4⟩
  have hb := ok.2.1
  by_cases o : ok4 tos id 0 ttl proto src dst opt
  case neg =>
    rw [ht0, Option.bind_some, put4_no o (by omega) (by omega) (by omega)]
    simp only [Option.bind_some]
    rw [if_neg (by decide)]; exact J3.out
  have hs4 : src.size = 4 ∧ dst.size = 4 ∧ opt.size ≤ 40 := ⟨o.2.2.2.2.2.1, o.2.2.2.2.2.2.1, o.2.2.2.2.2.2.2.1⟩
  obtain ⟨t, ht, hz, hf⟩ := valid_fin ok h1 h2 (by omega)
  obtain ⟨a1, a2, a3, a4, a5, e1, e2, e3, e4, e5⟩ := ok4_nat o
  rw [e1, e2, e3, e4, e5] at o
  have hg := get_put4 (df := df) (mf := false) o (p := t) (by omega) (x := ⟨(put4 a1 a2 a3 a4 a5 df false src dst opt t).toArray⟩) (by simp [bl])
  have hG := get_of4 hg
  have hput := put4_ok (df := df) (mf := false) (p := t) o (by omega)
  rw [← e1, ← e2, ← e3, ← e4, ← e5] at hput
  rw [← e5, ← e3, show ((0 : Int) != 0 || false) = false from rfl, hf true] at hG
  generalize (⟨(put4 a1 a2 a3 a4 a5 df false src dst opt t).toArray⟩ : ByteArray) = x at hG hput
  rw [ht, Option.bind_some, hput, Option.bind_some, Option.bind_some]
  dsimp +instances only
  rw [if_pos rfl, hG, Option.bind_some]
  dsimp +instances only
  rw [if_pos rfl, if_neg (by simp)]
  exact J3.out
theorem FlowValid (a0_0 a0_1 a0_2 a0_3 a0_4 : Int) (a0_5 a0_6 : Bool) (a0_7 a0_8 a0_9 : ByteArray) (a1_0 a1_1 a1_2 a1_3 : Int) (a1_4 a1_5 : ByteArray) (a2_0 a2_1 a2_2 a2_3 a2_4 a2_5 a2_6 : Int) (a2_7 a2_8 : ByteArray) (a3_0 a3_1 : Int) (a3_2 : ByteArray) (a4 : Bool)
    (_ : (Lit.int .i64 a0_0).wf = true) (_ : (Lit.int .i64 a0_1).wf = true) (_ : (Lit.int .i64 a0_2).wf = true) (_ : (Lit.int .i64 a0_3).wf = true) (_ : (Lit.int .i64 a0_4).wf = true) (_ : a0_7.size ≤ maxLen) (_ : a0_8.size ≤ maxLen) (_ : a0_9.size ≤ maxLen)
    (_ : (Lit.int .i64 a1_0).wf = true) (_ : (Lit.int .i64 a1_1).wf = true) (_ : (Lit.int .i64 a1_2).wf = true) (_ : (Lit.int .i64 a1_3).wf = true) (_ : a1_4.size ≤ maxLen) (_ : a1_5.size ≤ maxLen)
    (_ : (Lit.int .i64 a2_0).wf = true) (_ : (Lit.int .i64 a2_1).wf = true) (hseq : (Lit.int .u32 a2_2).wf = true) (hack : (Lit.int .u32 a2_3).wf = true) (_ : (Lit.int .i64 a2_4).wf = true) (_ : (Lit.int .i64 a2_5).wf = true) (_ : (Lit.int .i64 a2_6).wf = true) (_ : a2_7.size ≤ maxLen) (_ : a2_8.size ≤ maxLen)
    (_ : (Lit.int .i64 a3_0).wf = true) (_ : (Lit.int .i64 a3_1).wf = true) (_ : a3_2.size ≤ maxLen) :
    ∃ k, palanquinlaw09_FlowValid.f k a0_0 a0_1 a0_2 a0_3 a0_4 a0_5 a0_6 a0_7 a0_8 a0_9 a1_0 a1_1 a1_2 a1_3 a1_4 a1_5 a2_0 a2_1 a2_2 a2_3 a2_4 a2_5 a2_6 a2_7 a2_8 a3_0 a3_1 a3_2 a4 = some true := by
  have hq' : 0 ≤ a2_2 ∧ a2_2 ≤ 4294967295 := by simp [Lit.wf] at hseq; exact hseq
  have hq : 0 ≤ a2_2 ∧ a2_2 < 4294967296 := by omega
  have ha' : 0 ≤ a2_3 ∧ a2_3 ≤ 4294967295 := by simp [Lit.wf] at hack; exact hack
  have ha : 0 ≤ a2_3 ∧ a2_3 < 4294967296 := by omega
  refine ⟨80000, ?_⟩
  unfold palanquinlaw09_FlowValid.f
  rw [awake09v, Option.bind_some, if_pos rfl]
  have skip : palanquinlaw09_FlowValid.j0 (79999 + 1) a4 true a0_0 a0_1 a0_2 a0_3 a0_4 a0_5 a0_6 a0_7 a0_8 a0_9 a1_0 a1_1 a1_2 a1_3 a1_4 a1_5 a2_0 a2_1 a2_2 a2_3 a2_4 a2_5 a2_6 a2_7 a2_8 a3_0 a3_1 a3_2 = some true := by rw [palanquinlaw09_FlowValid.j0, if_pos rfl]
  obtain ⟨t, ht, hf⟩ := few09v a0_7 a0_8 a0_9
  rw [ht, Option.bind_some]
  cases t with
  | false => rw [if_neg (by decide)]; exact skip
  | true =>
  obtain ⟨h1, h2, h3⟩ := hf rfl
  obtain ⟨u, hu, hg⟩ := few09v a1_4 a1_5 a2_7
  rw [if_pos rfl, hu, Option.bind_some]
  cases u with
  | false => rw [if_neg (by decide)]; exact skip
  | true =>
  obtain ⟨h4, h5, h6⟩ := hg rfl
  rw [if_pos rfl]
  by_cases hz1 : (a2_8.size : Int) > 3000
  · rw [if_pos hz1]; exact skip
  rw [if_neg hz1]
  by_cases hz2 : (a3_2.size : Int) > 3000
  · rw [decide_eq_true hz2]; exact skip
  rw [decide_eq_false hz2, palanquinlaw09_FlowValid.j0, if_neg (by decide), put07 (by omega) hq ha 79999 (by decide)]
  have J2 : ∀ (b : ByteArray) (sp dp p : Int), palanquinlaw09_FlowValid.j2 (79997 + 1) b sp dp true a0_0 a0_1 a0_2 a0_3 p a0_5 a0_6 a0_7 a0_8 a0_9 a1_0 a1_1 p a1_3 a1_4 a1_5 = some true := fun b sp dp p => by rw [palanquinlaw09_FlowValid.j2, if_pos rfl]
  have hw := walk07_is a2_7 79998 (by omega) (by omega)
  have hws := walkR_snd a2_7
  by_cases ok : tcpOk a2_0 a2_1 a2_4 a2_5 a2_6 a2_7
  · rw [putT_ok (by omega) hq ha ok (by unfold in16; omega), Option.bind_some]
    cases a4 with
    | false =>
      rw [if_neg (by decide), palanquinlaw09_FlowValid.j1, hw, Option.bind_some, if_pos rfl, if_neg (by decide), hws]
      cases hr : rightO (bl a2_7) with
      | true => exact valid_j2 (ok_tcp (by omega) hq ha ok hr) 79996 _ _ _ _ _ _ _ _ _ _ _ _ _ _ h1 h2 h3 h4 h5
      | false => exact J2 _ _ _ _
    | true =>
      rw [if_pos rfl, R8.ref_put _ _ _ _ 79999 (by decide)]
      by_cases hc : udpCheck a3_0 a3_1 a3_2.size = 0
      · obtain ⟨i1, i2, i3⟩ := check_zero.mp hc
        rw [put_ok hc (by unfold in16; omega), Option.bind_some, palanquinlaw09_FlowValid.j1, hw, Option.bind_some, if_pos rfl, if_pos rfl]
        exact valid_j2 (ok_udp (by omega) i1 i2) 79996 _ _ _ _ _ _ _ _ _ _ _ _ _ _ h1 h2 h3 h4 h5
      · rw [put_len hc, Option.bind_some, palanquinlaw09_FlowValid.j1, hw, Option.bind_some, if_neg hc]
        exact J2 _ _ _ _
  · rw [putT_no (by omega) hq ha (fun h => ok h.1), Option.bind_some]
    cases a4 with
    | false =>
      rw [if_neg (by decide), palanquinlaw09_FlowValid.j1, hw, Option.bind_some, if_neg (by decide)]
      exact J2 _ _ _ _
    | true =>
      rw [if_pos rfl, R8.ref_put _ _ _ _ 79999 (by decide)]
      by_cases hc : udpCheck a3_0 a3_1 a3_2.size = 0
      · obtain ⟨i1, i2, i3⟩ := check_zero.mp hc
        rw [put_ok hc (by unfold in16; omega), Option.bind_some, palanquinlaw09_FlowValid.j1, hw, Option.bind_some, if_pos rfl, if_pos rfl]
        exact valid_j2 (ok_udp (by omega) i1 i2) 79996 _ _ _ _ _ _ _ _ _ _ _ _ _ _ h1 h2 h3 h4 h5
      · rw [put_len hc, Option.bind_some, palanquinlaw09_FlowValid.j1, hw, Option.bind_some, if_neg hc]
        exact J2 _ _ _ _
end Go.Proofs.YtcmalglippmocaaDoor.Pure
end

section
namespace Go.Proofs.YtcmalglippmocaaDoor.Pal
open Go.RowKit Go.ChangeShapes Go.WideShapes Go.Deep Go.Proofs.YtcmalglippmocaaDoorW.PrintWords
section
variable {H : Type} {enc : TypeId × Value → H} {P : Program} {w : World} {base : Nat} {spare : Nat → Bool} {held : Bool}
theorem open_fields {r : Reach} {b0 : Nat} {t : TypeId} {fs : Array Field} {v : Value} {d : DataW H} {p : List MemPlace} (hs : P.underlying t = some (.struct fs)) (hone : oneCellFields P fs = true)
    (hv : Value.okWide P w r b0 t v) (h : DataW.Trod enc P w base spare held t v d p) :
    ∃ (cs : Array Value), v = .agg cs ∧ cs.size = P.cellsOf t ∧ ∀ (j : Nat) (f : Field) (c : Value), fs[j]? = some f → cs[j]? = some c → ∃ (n : Nat) (y : DataW H × List MemPlace), DataW.trod enc P w base spare held n f.type [c] = some y := by
  obtain ⟨cs, rfl, hsz⟩ := okWide_struct hs hv
  obtain ⟨fuel, hf⟩ := h
  obtain ⟨xs, n, _, _, _, hlen, hF⟩ := DataW.trod_struct hs hf
  refine ⟨cs, rfl, hsz, fun j f c hj hc => ?_⟩
  obtain ⟨o0, k0⟩ := hone_of hone j f hj
  have hj' : j < xs.length := by rw [hlen]; exact (Array.getElem?_eq_some_iff.1 hj).1
  refine ⟨n, xs[j], ?_⟩
  have e := hF j f hj
  rw [o0, k0, List.getElem?_eq_getElem hj'] at e
  have hc' : (Value.cells (.agg cs)).toList.drop j = c :: (Value.cells (.agg cs)).toList.drop (j + 1) := by
    obtain ⟨hlt, rfl⟩ := Array.getElem?_eq_some_iff.1 hc
    show cs.toList.drop j = cs[j] :: cs.toList.drop (j + 1)
    rw [List.drop_eq_getElem_cons (by simpa using hlt), Array.getElem_toList]
  rw [hc'] at e
  simpa using e
theorem leaf_int {n : Nat} {t : TypeId} {k : IntKind} {c : Value} {y : DataW H × List MemPlace} (ht : P.underlying t = some (.int k)) (h : DataW.trod enc P w base spare held n t [c] = some y) : ∃ a, c = .int k a ∧ (Lit.int k a).wf = true := by
  obtain ⟨a, e1, _, h2⟩ := DataW.trod_int ht h
  exact ⟨a, by simpa using e1, h2⟩
theorem leaf_str {n : Nat} {t : TypeId} {c : Value} {y : DataW H × List MemPlace} (ht : P.underlying t = some .string) (h : DataW.trod enc P w base spare held n t [c] = some y) : ∃ a : ByteArray, c = .string a ∧ a.size ≤ maxLen := by
  obtain ⟨a, e1, _, h2⟩ := DataW.trod_string ht h
  exact ⟨a, by simpa using e1, h2⟩
theorem leaf_bool {n : Nat} {t : TypeId} {c : Value} {y : DataW H × List MemPlace} (ht : P.underlying t = some .bool) (h : DataW.trod enc P w base spare held n t [c] = some y) : ∃ a : Bool, c = .bool a := by
  obtain ⟨a, e1, _⟩ := DataW.trod_bool ht h
  exact ⟨a, by simpa using e1⟩
end
end Go.Proofs.YtcmalglippmocaaDoor.Pal
end

section
namespace Go.Proofs.YtcmalglippmocaaDoor.Pal
open Go.ChangeShapes Go.WideShapes Go.ChangeAt Go.WideElems Go.RowKit Go.Proofs.YtcmalglippmocaaDoor.G
set_option maxRecDepth 100000
section
variable {H : Type} {enc : TypeId × Value → H} {P : Program} {w : World} {base : Nat} {spare : Nat → Bool} {held : Bool}
theorem pair_cells {n : Nat} {t e : TypeId} {cs : List Value} {a b : Int} {p : List MemPlace} (ht : P.underlying t = some (.array 2 e)) (he : P.underlying e = some (.int .i64)) (hc : P.cellsOf e = 1) (hz : P.cellsOf t = 2)
    (h : DataW.trod enc P w base spare held n t cs = some (.agg [.lit (.int .i64 a), .lit (.int .i64 b)], p)) : cs = [.int .i64 a, .int .i64 b] := by
  obtain ⟨xs, m, _, hx, hl, hlen, hel⟩ := DataW.trod_array ht h
  have h0 := hel 0 (by decide)
  have h1 := hel 1 (by decide)
  rw [hc] at h0 h1
  rw [hz] at hl
  match cs, hl with
  | [c0, c1], _ =>
    match xs, hlen with
    | [y0, y1], _ =>
      obtain ⟨k0, e0, x0, _⟩ := DataW.trod_int he (x := y0) (by simpa using h0)
      obtain ⟨k1, e1, x1, _⟩ := DataW.trod_int he (x := y1) (by simpa using h1)
      simp only [Prod.mk.injEq, x0, x1, List.map_cons, List.map_nil, DataW.agg.injEq, List.cons.injEq, DataW.lit.injEq, Lit.int.injEq, true_and, and_true] at hx
      obtain ⟨⟨rfl, rfl⟩, _⟩ := hx
      simp at e0 e1
      rw [e0, e1]
end
section
variable {H : Type} {enc : TypeId × Value → H} {w : World} {base : Nat} {spare : Nat → Bool} {held : Bool}
end
theorem tab_of {W : World} {n : String} {g : Nat} {cs : Array Value} {l : List Int} (hg : Tryd.prog.globalNamed n = some g) (hv : W.var? Tryd.prog n = some cs) (hcs : cs.toList = l.map (Value.int .i64)) : TabAt W g l := fun j x hj => by
  rw [World.var?_cell hg hv j, ← Array.getElem?_toList, hcs, List.getElem?_map, hj]
  rfl
theorem places_rows {H : Type} {enc : TypeId × Value → H} {w : World} {base : Nat} {spare : Nat → Bool} {held : Bool} {n : Nat} {cs : List Value} {p : List MemPlace} (h : DataW.trod enc Tryd.prog w base spare held n 135 cs = some (Rows.laid_palanquin_flow_places, p)) : cs = [.int .i64 6, .int .i64 16, .int .i64 17, .int .i64 6] := by
  obtain ⟨xs, m, _, hx, hl, hlen, hel⟩ := DataW.trod_array Tryd.underlying135 h
  have h0 := hel 0 (by decide)
  have h1 := hel 1 (by decide)
  rw [show Tryd.prog.cellsOf 134 = 2 by kernel_rfl] at h0 h1
  rw [show Tryd.prog.cellsOf 135 = 4 by kernel_rfl] at hl
  match cs, hl with
  | [c0, c1, c2, c3], _ =>
    match xs, hlen with
    | [(d0, p0), (d1, p1)], _ =>
      simp only [Rows.laid_palanquin_flow_places, Prod.mk.injEq, List.map_cons, List.map_nil, DataW.agg.injEq, List.cons.injEq, and_true] at hx
      obtain ⟨⟨rfl, rfl⟩, _⟩ := hx
      have e0 := pair_cells (p := p0) Tryd.underlying134 (by kernel_rfl) (by kernel_rfl) (by kernel_rfl) (by simpa using h0)
      have e1 := pair_cells (p := p1) Tryd.underlying134 (by kernel_rfl) (by kernel_rfl) (by kernel_rfl) (by simpa using h1)
      simp at e0 e1
      obtain ⟨rfl, rfl⟩ := e0
      obtain ⟨rfl, rfl⟩ := e1
      rfl
theorem laid_gp2 {W : World} (h : laidMetH Tryd.prog [("palanquin/flow.places", Rows.laid_palanquin_flow_places), ("palanquin/flow.least", Rows.laid_palanquin_flow_least)] W) : GP W := by
  rw [MakeChecks.laidMetH_plain _ _ _ (by kernel_rfl)] at h
  obtain ⟨ps, ⟨g1, t1, cs1, f1, p1, q1, hg1, ht1, hv1, hd1, ⟨g2, t2, cs2, f2, p2, q2, hg2, ht2, hv2, hd2, _, _⟩, _⟩, _, _⟩ := h
  refine ⟨?_, ?_⟩
  · obtain rfl := Option.some.inj ((show Tryd.prog.globalNamed "palanquin/flow.places" = some 1 by kernel_rfl).symm.trans hg1)
    obtain rfl := Option.some.inj ((show (Tryd.prog.globals[1]?).map (·.type) = some 135 by kernel_rfl).symm.trans ht1)
    exact tab_of hg1 hv1 (places_rows hd1)
  · obtain rfl := Option.some.inj ((show Tryd.prog.globalNamed "palanquin/flow.least" = some 2 by kernel_rfl).symm.trans hg2)
    obtain rfl := Option.some.inj ((show (Tryd.prog.globals[2]?).map (·.type) = some 134 by kernel_rfl).symm.trans ht2)
    exact tab_of hg2 hv2 (pair_cells Tryd.underlying134 (by kernel_rfl) (by kernel_rfl) (by kernel_rfl) hd2)
end Go.Proofs.YtcmalglippmocaaDoor.Pal
end
