/- Texts of this session, joined: each is a section. -/
import Derived.Test.YtcmalglippmocaaDoorMGueb2
import Derived.Test.YtcmalglippmocaaDoorMGueb5
import Derived.Test.YtcmalglippmocaaDoorMGueb6
import Derived.Test.YtcmalglippmocaaDoorMGueb4
set_option linter.unusedVariables false
set_option linter.unusedSimpArgs false
section
/- Plain facts of udp.Put and udp.Get as functions: what is put is got, what is got is put. -/
namespace Go.Proofs.YtcmalglippmocaaDoor.Pure
open Go.RowKit Go.Proofs.YtcmalglippmocaaDoorW.PrintWords Go.Proofs.YtcmalglippmocaaDoorW.PrintLast Go.Proofs.YtcmalglippmocaaDoor.G Go.Proofs.YtcmalglippmocaaDoor.Pal
theorem bl_inj {a b : ByteArray} (h : bl a = bl b) : a = b := ByteArray.ext (Array.toList_inj.mp h)
theorem bl_mk (l : List UInt8) : bl ⟨l.toArray⟩ = l := by simp [bl]
theorem size_mk (l : List UInt8) : (⟨l.toArray⟩ : ByteArray).size = l.length := by simp [ByteArray.size]
theorem in_u16 {a : Int} (h : (Lit.int .u16 a).wf = true) : 0 ≤ a ∧ a ≤ 65535 := by
  simp [Lit.wf] at h; exact h
theorem u64n_of {a : Int} (h0 : 0 ≤ a) (h1 : a ≤ 18446744073709551615) : u64n a = a.toNat := by
  unfold u64n; rw [IntKind.wrap_u64]; omega
theorem be_nb2 {a : Int} (h : in16 a) : ((be (nb 2 (u64n a)) : Nat) : Int) = a := by
  rw [be_nb, u64n_of h.1 (by have := h.2; omega)]; have := h.1; have := h.2; omega
theorem in16_be {l : List UInt8} (h : l.length ≤ 2) : in16 ((be l : Nat) : Int) := by
  have := be_lt_of l 2 h
  unfold in16; omega
theorem check_zero {a b : Int} {n : Nat} : udpCheck a b n = 0 ↔ in16 a ∧ in16 b ∧ n ≤ 65527 := by
  unfold udpCheck
  split
  · split <;> simp_all
  · rename_i h; constructor
    · intro h; omega
    · intro h2; exact absurd ⟨h2.1, h2.2.1⟩ h
/-- The bytes of a datagram, part by part. -/
theorem parts {x : ByteArray} {A B L S : List UInt8} {p : ByteArray} (hx : bl x = A ++ B ++ L ++ S ++ bl p) (hA : A.length = 2) (hB : B.length = 2) (hL : L.length = 2) (hS : S.length = 2) :
    x.size = 8 + p.size ∧ bl (x.extract 0 2) = A ∧ bl (x.extract 2 4) = B ∧ bl (x.extract 4 6) = L ∧ bl (x.extract 6 8) = S ∧ x.extract 8 x.size = p := by
  match A, hA, B, hB, L, hL, S, hS with
  | [a0, a1], _, [b0, b1], _, [l0, l1], _, [s0, s1], _ =>
    have hsz : x.size = 8 + p.size := by rw [← bl_length, hx, ← bl_length]; simp; omega
    refine ⟨hsz, ?_, ?_, ?_, ?_, bl_inj ?_⟩ <;> rw [bl_extract, hx]
    · simp
    · simp
    · simp
    · simp
    · rw [List.take_of_length_le (by simp [bl_length, hsz]; omega)]; simp
theorem put_ok {a b : Int} {p : ByteArray} {n : Int} (h0 : udpCheck a b p.size = 0) (hn : in16 n) : udp_Put.f a b p n = some (⟨(udpBytes a b p n).toArray⟩, 0) := by
  unfold udp_Put.f; rw [if_neg (by omega), if_pos hn]
theorem put_len {a b : Int} {p : ByteArray} {n : Int} (h0 : udpCheck a b p.size ≠ 0) : udp_Put.f a b p n = some (empty, udpCheck a b p.size) := by
  unfold udp_Put.f; rw [if_pos h0]
theorem put_sum {a b : Int} {p : ByteArray} {n : Int} (h0 : udpCheck a b p.size = 0) (hn : ¬ in16 n) : udp_Put.f a b p n = some (empty, 1) := by
  unfold udp_Put.f; rw [if_neg (by omega), if_neg hn]
theorem get_is {s : ByteArray} (hs : s.size ≤ 140737488351232) : udp_Get.f s = some (if udpErr s = 0 then (((be (bl (s.extract 0 2)) : Nat) : Int), ((be (bl (s.extract 2 4)) : Nat) : Int), s.extract 8 s.size, ((be (bl (s.extract 6 8)) : Nat) : Int), 0) else (0, 0, empty, 0, udpErr s)) := by
  unfold udp_Get.f; rw [if_pos hs]
/-- What is put is got. -/
theorem get_put {a b : Int} {p : ByteArray} {n : Int} {x : ByteArray} (ha : in16 a) (hb : in16 b) (hp : p.size ≤ 65527) (hn : in16 n) (hx : bl x = udpBytes a b p n) : udp_Get.f x = some (a, b, p, n, 0) := by
  obtain ⟨h0, h1, h2, h3, h4, h5⟩ := parts hx (nb_length _ _) (nb_length _ _) (nb_length _ _) (nb_length _ _)
  have he : udpErr x = 0 := by
    unfold udpErr
    rw [if_neg (by omega), if_pos (by
      rw [h3]
      have := be_nb2 (a := 8 + (p.size : Int)) (by unfold in16; omega)
      omega)]
  rw [get_is (by omega), if_pos he, h1, h2, h4, h5, be_nb2 ha, be_nb2 hb, be_nb2 hn]
theorem udpBytes_length (a b : Int) (p : ByteArray) (n : Int) : (udpBytes a b p n).length = 8 + p.size := by
  unfold udpBytes; simp only [List.length_append, nb_length, bl_length]
theorem empty_list : (empty : ByteArray).toList = [] := by decide +kernel
end Go.Proofs.YtcmalglippmocaaDoor.Pure
end

section
/- Plain facts of flow.Seal: what is sealed; what palanquinref09 seals is the same. -/
namespace Go.Proofs.YtcmalglippmocaaDoor.Pure
open Go.RowKit Go.Proofs.YtcmalglippmocaaDoorW.PrintWords Go.Proofs.YtcmalglippmocaaDoorW.PrintLast Go.Proofs.YtcmalglippmocaaDoor.G Go.Proofs.YtcmalglippmocaaDoor.Pal
set_option linter.unusedVariables false
/-- The end of what stands ahead of a segment. -/
def psT (six : Bool) (a b : Int) : ByteArray := if six then strOfNums [b / 16777216 % 256, b / 65536 % 256, b / 256 % 256, b % 256, 0, 0, 0, a % 256] else strOfNums [0, a % 256, b / 256 % 256, b % 256]
theorem psT_size (six : Bool) (a b : Int) : (psT six a b).size % 2 = 0 ∧ (psT six a b).size ≤ 8 := by
  have sz_nums : ∀ xs : List Int, (strOfNums xs).size = xs.length := fun xs => by rw [← bl_length]; simp [bl, strOfNums]
  unfold psT; split <;> rw [sz_nums] <;> exact ⟨by simp, by simp⟩
def psB (s d : ByteArray) (a b : Int) : ByteArray := s ++ d ++ psT (s.size == 16) a b
theorem pseudo_some (s d : ByteArray) (hs : s.size ≤ 300) (hd : d.size ≤ 300) (a b : Int) : sum_Pseudo.f s d a b = some (psB s d a b) := by
  have sz_nums : ∀ xs : List Int, (strOfNums xs).size = xs.length := fun xs => by rw [← bl_length]; simp [bl, strOfNums]
  unfold sum_Pseudo.f psB psT
  by_cases h : (s.size : Int) = 16
  · have h' : (s.size == 16) = true := beq_iff_eq.mpr (by omega)
    rw [if_pos h, if_pos (by omega), Option.bind_some, if_pos (by rw [sz_nums, ByteArray.size_append]; simp; omega), if_pos h']
  · have h' : (s.size == 16) = false := beq_eq_false_iff_ne.mpr (by omega)
    rw [if_neg h, if_pos (by omega), Option.bind_some, if_pos (by rw [sz_nums, ByteArray.size_append]; simp; omega), if_neg (by rw [h']; decide)]
theorem psB_size (s d : ByteArray) (a b : Int) : (psB s d a b).size = s.size + d.size + (psT (s.size == 16) a b).size := by unfold psB; rw [ByteArray.size_append, ByteArray.size_append]
theorem psB_even (s d : ByteArray) (a b : Int) (h : (s.size + d.size) % 2 = 0) : odd (bl (psB s d a b)) = false := by
  have := (psT_size (s.size == 16) a b).1
  unfold odd; rw [bl_length, psB_size]; simp only [beq_eq_false_iff_ne]; omega
/-- Between addresses that are exchanged it weighs the same. -/
theorem psB_swap (s d : ByteArray) (a b : Int) (hz : s.size = d.size) (he : s.size % 2 = 0) : tot false (bl (psB s d a b)) = tot false (bl (psB d s a b)) := by
  have o : ∀ x : ByteArray, x.size % 2 = 0 → odd (bl x) = false := fun x hx => by unfold odd; rw [bl_length, hx]; rfl
  have t : ∀ x y z : ByteArray, x.size % 2 = 0 → y.size % 2 = 0 → tot false (bl (x ++ y ++ z)) = tot false (bl x) + tot false (bl y) + tot false (bl z) := fun x y z hx hy => by
    rw [bl_append, bl_append, tot_append, tot_append, o x hx, show odd (bl x ++ bl y) = false by rw [← bl_append]; exact o _ (by rw [ByteArray.size_append]; omega)]
    rfl
  unfold psB
  rw [t s d _ he (by omega), t d s _ (by omega) he, hz]
  omega
theorem ref_pseudo_is (s d : ByteArray) (hs : s.size ≤ 300) (hd : d.size ≤ 300) (a b : Int) (k : Nat) (hk : 4 < k) : palanquinref02_Pseudo.f k s d a b = some (psB s d a b) := by
  obtain ⟨r, h1, h2⟩ := R2.ref_pseudo s d hs hd a b k hk
  rw [pseudo_some s d hs hd] at h1
  rw [h2, ← Option.some.inj h1]
theorem sum_is (l : List ByteArray) (h : (cat l).length ≤ 1099511627776) : sum_Sum.f l = some ((csum (cat l) : Nat) : Int) := by unfold sum_Sum.f; rw [if_pos h]
theorem right2 (a b : ByteArray) (h : a.size + b.size ≤ 1099511627776) : sum_Right.f [a, b] = some (decide (csum (bl a ++ bl b) = 0)) := by
  unfold sum_Right.f
  rw [sum_is _ (by rw [cat_cons, cat_cons, cat_nil, List.append_nil, List.length_append, bl_length, bl_length]; exact h), Option.bind_some, cat_cons, cat_cons, cat_nil, List.append_nil]
  congr 1
  by_cases hc : csum (bl a ++ bl b) = 0
  · rw [hc]; rfl
  · rw [decide_eq_false hc]; exact beq_eq_false_iff_ne.mpr (by omega)
/-- A sum as it is put: a datagram's 0 as FFFF. -/
def sealC (p : Int) (t : Nat) : Nat := if t = 0 ∧ p = 17 then 65535 else t
theorem sealC_le {p : Int} {t : Nat} (h : t ≤ 65535) : sealC p t ≤ 65535 := by unfold sealC; split <;> omega
theorem sealNo_is (p : Int) (t : Nat) : sealNo p (t : Int) = ((sealC p t : Nat) : Int) := by
  unfold sealNo sealC
  by_cases h : t = 0 ∧ p = 17
  · rw [if_pos h, if_pos ⟨by omega, h.2⟩]; rfl
  · rw [if_neg h, if_neg (fun h' => h ⟨by omega, h'.2⟩)]
theorem sealC_17 (t : Nat) : sealC 17 t = seal17 t := by unfold sealC seal17; simp
theorem sealC_6 (t : Nat) : sealC 6 t = t := by unfold sealC; rw [if_neg (fun h => absurd h.2 (by decide))]
/-- The text with another number where its sum stands. -/
def putAt (s : ByteArray) (q c : Nat) : ByteArray := ⟨((bl s).take q ++ nb 2 c ++ (bl s).drop (q + 2)).toArray⟩
theorem bl_putAt (s : ByteArray) (q c : Nat) : bl (putAt s q c) = (bl s).take q ++ nb 2 c ++ (bl s).drop (q + 2) := by unfold putAt; simp [bl]
theorem putAt_size (s : ByteArray) (q c : Nat) (h : q + 2 ≤ s.size) : (putAt s q c).size = s.size := by
  rw [← bl_length, bl_putAt]; simp only [List.length_append, List.length_take, List.length_drop, nb_length, bl_length]; omega
theorem take_putAt (s : ByteArray) (q c : Nat) (h : q + 2 ≤ s.size) : (bl (putAt s q c)).take q = (bl s).take q := by
  have hl : ((bl s).take q).length = q := by rw [List.length_take, bl_length]; omega
  rw [bl_putAt, List.append_assoc, List.take_append_of_le_length (by omega), List.take_of_length_le (by omega)]
theorem drop_putAt (s : ByteArray) (q c : Nat) (h : q + 2 ≤ s.size) : (bl (putAt s q c)).drop (q + 2) = (bl s).drop (q + 2) := by
  have hl : ((bl s).take q).length = q := by rw [List.length_take, bl_length]; omega
  rw [bl_putAt]
  exact List.drop_left' (by rw [List.length_append, nb_length, hl])
theorem putAt_twice (s : ByteArray) (q c d : Nat) (h : q + 2 ≤ s.size) : putAt (putAt s q c) q d = putAt s q d := by
  apply bl_inj
  rw [bl_putAt (putAt s q c), take_putAt s q c h, drop_putAt s q c h, bl_putAt]
/-- The sum of a segment, with zeros where it stands. -/
def sumAt (ps : ByteArray) (s : ByteArray) (q : Nat) : Nat := csum (bl ps ++ bl (putAt s q 0))
theorem sumAt_le (ps s : ByteArray) (q : Nat) : sumAt ps s q ≤ 65535 := csum_bound _
theorem seal_none {p : Int} {a b s : ByteArray} (h : sealAt p s.size = 0) (hs : s.size ≤ 1000000000) : flow_Seal.f p a b s = some s := by unfold flow_Seal.f; rw [if_pos hs, if_pos h]
theorem ext_front (s : ByteArray) (q : Nat) : bl (s.extract 0 q) = (bl s).take q := by rw [cut_bl, List.drop_zero]
theorem ext_back (s : ByteArray) (q : Nat) : bl (s.extract q s.size) = (bl s).drop q := by rw [cut_bl, take_bl]
theorem seal_some {p : Int} {a b s : ByteArray} {q : Nat} (h : sealAt p s.size = q) (h0 : q ≠ 0) (hs : s.size ≤ 1000000000) (ha : a.size ≤ 300) (hb : b.size ≤ 300) :
    flow_Seal.f p a b s = some (putAt s q (sealC p (sumAt (psB a b p s.size) s q))) := by
  unfold flow_Seal.f
  rw [if_pos hs, h, if_neg h0]
  unfold seal_with
  rw [pseudo_some a b ha hb, Option.bind_some]
  have hz := psB_size a b p s.size
  have hz2 := (psT_size (a.size == 16) p s.size).2
  have hcat : cat [psB a b p s.size, s.extract 0 q, ⟨#[0, 0]⟩, s.extract (q + 2) s.size] = bl (psB a b p s.size) ++ bl (putAt s q 0) := by
    rw [bl_putAt, cat_cons, cat_cons, cat_cons, cat_cons, cat_nil, List.append_nil, ext_front, ext_back, show bl (⟨#[0, 0]⟩ : ByteArray) = nb 2 0 from rfl]
    simp only [List.append_assoc]
  rw [sum_is _ (by rw [hcat, bl_putAt]; simp only [List.length_append, List.length_take, List.length_drop, nb_length, bl_length]; omega), Option.bind_some, hcat, sealNo_is]
  unfold sealBytes
  rw [u64n_of (by omega) (by have := sealC_le (p := p) (csum_bound (bl (psB a b p s.size) ++ bl (putAt s q 0))); omega), Int.toNat_natCast, ext_front, ext_back]
  rfl
theorem sealAt_cases (p : Int) (n : Nat) : sealAt p n = 0 ∨ (sealAt p n = 16 ∧ p = 6 ∧ 20 ≤ n) ∨ (sealAt p n = 6 ∧ p = 17 ∧ 8 ≤ n) := by
  unfold sealAt; split
  · rename_i h; exact .inr (.inl ⟨rfl, h.1, h.2⟩)
  · split
    · rename_i h; exact .inr (.inr ⟨rfl, h.1, h.2⟩)
    · exact .inl rfl
theorem ref_seal3 {p : Int} {a b s : ByteArray} {q : Nat} (hq : q = 16 ∨ q = 6) (hs : s.size ≤ 78000) (hl : q + 2 ≤ s.size) (ha : a.size ≤ 300) (hb : b.size ≤ 300) (k : Nat) (hk : s.size + 700 < k) :
    palanquinref09_Seal.j3 (k + 1) p a b s (q : Int) = some (putAt s q (sealC p (sumAt (psB a b p s.size) s q))) := by
  have hz := psB_size a b p s.size
  have hz2 := (psT_size (a.size == 16) p s.size).2
  have hT : ((q : Int)).toNat = q := Int.toNat_natCast q
  have hW : wrap64 ((q : Int) + 2) = ((q + 2 : Nat) : Int) := by unfold wrap64; omega
  have hT2 : (((q + 2 : Nat) : Int)).toNat = q + 2 := Int.toNat_natCast _
  have e1 : (s.extract 0 q).size = q := by rw [ByteArray.size_extract]; omega
  have e2 : (s.extract (q + 2) s.size).size = s.size - (q + 2) := by rw [ByteArray.size_extract]; omega
  have e3 : (⟨#[0, 0]⟩ : ByteArray).size = 2 := rfl
  have hB : ∀ n : Nat, n ≤ 65535 → ∃ r, palanquinref01_Bytes.f k (IntKind.u64.wrap (n : Int)) 2 = some r ∧ r.size = 2 ∧ s.extract 0 q ++ r ++ s.extract (q + 2) s.size = putAt s q n := fun n hn => by
    obtain ⟨r, h1, h2⟩ := bytes_is 2 (by decide) n (by omega) k (by omega)
    refine ⟨r, ?_, by rw [← bl_length, h2, nb_length], ?_⟩
    · rw [show IntKind.u64.wrap (n : Int) = (n : Int) by rw [IntKind.wrap_u64]; omega]; exact h1
    · apply bl_inj
      rw [bl_append, bl_append, h2, bl_putAt, ext_front, ext_back]
  have hJ : bl (psB a b p s.size ++ s.extract 0 q ++ ⟨#[0, 0]⟩ ++ s.extract (q + 2) s.size) = bl (psB a b p s.size) ++ bl (putAt s q 0) := by
    rw [bl_append, bl_append, bl_append, bl_putAt, ext_front, ext_back, show bl (⟨#[0, 0]⟩ : ByteArray) = nb 2 0 from rfl]
    simp only [List.append_assoc]
  rw [palanquinref09_Seal.j3, if_neg (by omega), ref_pseudo_is a b ha hb p s.size k (by omega), Option.bind_some]
  simp only [hT, hW, hT2]
  rw [if_pos (by omega), if_pos (by omega), if_pos (by omega), if_pos (by rw [ByteArray.size_append]; omega), if_pos (by omega), if_pos (by omega), if_pos (by simp only [ByteArray.size_append]; omega),
    R2.ref_sumL _ (by simp only [ByteArray.size_append]; omega) k (by simp only [ByteArray.size_append]; omega), Option.bind_some, hJ]
  have hc := csum_bound (bl (psB a b p s.size) ++ bl (putAt s q 0))
  unfold sumAt
  generalize csum (bl (psB a b p s.size) ++ bl (putAt s q 0)) = c at hc ⊢
  have fin : ∀ n : Nat, n ≤ 65535 → ((palanquinref01_Bytes.f k (IntKind.u64.wrap (n : Int)) 2).bind fun t280 => (if (s.extract 0 q).size + t280.size ≤ 9223372036854775807 then (if ((s.extract 0 q) ++ t280).size + (s.extract (q + 2) s.size).size ≤ 9223372036854775807 then (some (((s.extract 0 q) ++ t280) ++ (s.extract (q + 2) s.size))) else (none)) else (none))) = some (putAt s q n) := fun n hn => by
    obtain ⟨r, h1, h2, h3⟩ := hB n hn
    rw [h1, Option.bind_some, if_pos (by omega), if_pos (by rw [ByteArray.size_append]; omega), h3]
  unfold sealC
  by_cases h0 : c = 0
  · subst h0
    rw [if_pos (by rfl)]
    by_cases h17 : p = 17
    · rw [if_pos h17, if_pos ⟨rfl, h17⟩]
      have := fin 65535 (by decide)
      rw [show IntKind.u64.wrap ((65535 : Nat) : Int) = 65535 by decide +kernel] at this
      exact this
    · rw [if_neg h17, if_neg (fun h => h17 h.2)]
      exact fin 0 (by decide)
  · rw [if_neg (by omega), if_neg (fun h => h0 h.1)]
    exact fin c hc
theorem ref_seal (p : Int) (a b s : ByteArray) (hs : s.size ≤ 78000) (ha : a.size ≤ 300) (hb : b.size ≤ 300) (k : Nat) (hk : s.size + 710 < k) : palanquinref09_Seal.f k p a b s = flow_Seal.f p a b s := by
  obtain ⟨k, rfl⟩ : ∃ j, k = j + 4 := ⟨k - 4, by omega⟩
  have no : sealAt p s.size = 0 → ∀ k, palanquinref09_Seal.j3 (k + 1) p a b s (-1) = flow_Seal.f p a b s := fun h k => by
    rw [palanquinref09_Seal.j3, if_pos (by decide), seal_none h (by omega)]
  unfold palanquinref09_Seal.f
  rcases sealAt_cases p s.size with h | ⟨h, rfl, hn⟩ | ⟨h, rfl, hn⟩
  · have h1 : ¬ (p = 6 ∧ 20 ≤ s.size) := fun h' => by unfold sealAt at h; rw [if_pos h'] at h; omega
    have h2 : ¬ (p = 17 ∧ 8 ≤ s.size) := fun h' => by unfold sealAt at h; rw [if_neg h1, if_pos h'] at h; omega
    have e2 : ∀ j, palanquinref09_Seal.j1 (j + 3) p a b s (-1) = flow_Seal.f p a b s := fun j => by
      rw [palanquinref09_Seal.j1]
      split
      · rename_i hp
        rw [decide_eq_false (fun h' => h2 ⟨hp, by omega⟩), palanquinref09_Seal.j2, if_neg (by decide)]; exact no h j
      · rw [palanquinref09_Seal.j2, if_neg (by decide)]; exact no h j
    split
    · rename_i hp
      rw [decide_eq_false (fun h' => h1 ⟨hp, by omega⟩), palanquinref09_Seal.j0, if_neg (by decide)]; exact e2 k
    · rw [palanquinref09_Seal.j0, if_neg (by decide)]; exact e2 k
  · rw [if_pos rfl, decide_eq_true (show (s.size : Int) ≥ 20 by omega), palanquinref09_Seal.j0, if_pos rfl, palanquinref09_Seal.j1, if_neg (by decide), palanquinref09_Seal.j2, if_neg (by decide), seal_some h (by decide) (by omega) ha hb]
    exact ref_seal3 (q := 16) (.inl rfl) hs (by omega) ha hb k (by omega)
  · rw [if_neg (by decide), palanquinref09_Seal.j0, if_neg (by decide), palanquinref09_Seal.j1, if_pos rfl, decide_eq_true (show (s.size : Int) ≥ 8 by omega), palanquinref09_Seal.j2, if_pos rfl, seal_some h (by decide) (by omega) ha hb]
    exact ref_seal3 (q := 6) (.inr rfl) hs (by omega) ha hb k (by omega)
/-- What is sealed is right. -/
theorem sealed_right {ps s : ByteArray} {q : Nat} {p : Int} (hp : odd (bl ps) = false) (hq : q % 2 = 0) (hl : q + 2 ≤ s.size) : csum (bl ps ++ bl (putAt s q (sealC p (sumAt ps s q)))) = 0 := by
  have hA : odd (bl ps ++ (bl s).take q) = false := by
    have e : ((bl s).take q).length = q := by rw [List.length_take, bl_length]; omega
    unfold odd at hp ⊢
    simp only [beq_eq_false_iff_ne] at hp ⊢
    rw [List.length_append, e]; omega
  have e : ∀ c, bl ps ++ bl (putAt s q c) = (bl ps ++ (bl s).take q) ++ nb 2 c ++ (bl s).drop (q + 2) := fun c => by rw [bl_putAt]; simp only [List.append_assoc]
  unfold sumAt
  rw [e, e]
  unfold sealC
  split
  · rename_i h
    have := inSealed17 (bl ps ++ (bl s).take q) ((bl s).drop (q + 2)) hA
    unfold seal17 at this
    rw [if_pos h.1] at this
    exact this
  · exact inSealed _ _ hA
end Go.Proofs.YtcmalglippmocaaDoor.Pure
end

section
/- Plain facts of gue's functions: what is put, what is got. -/
namespace Go.Proofs.YtcmalglippmocaaDoor.Pure
open Go.RowKit Go.Proofs.YtcmalglippmocaaDoorW.PrintWords Go.Proofs.YtcmalglippmocaaDoorW.PrintLast Go.Proofs.YtcmalglippmocaaDoor.G Go.Proofs.YtcmalglippmocaaDoor.Pal
set_option linter.unusedVariables false
def gueHd (p : Int) : ByteArray := ⟨(nb 1 0 ++ nb 1 (u64n p) ++ nb 2 0).toArray⟩
theorem gueHd_bl (p : Int) : bl (gueHd p) = nb 1 0 ++ nb 1 (u64n p) ++ nb 2 0 := by unfold gueHd; simp [bl]
theorem gueHd_size (p : Int) : (gueHd p).size = 4 := by rw [← bl_length, gueHd_bl]; simp [nb_length]
/-- A datagram's payload. -/
def guePay (x : ByteArray) : ByteArray := gueHd (verOf x).2.1 ++ x
theorem guePay_size (x : ByteArray) : (guePay x).size = 4 + x.size := by unfold guePay; rw [ByteArray.size_append, gueHd_size]
def gueRaw (port : Int) (x : ByteArray) (c : Nat) : ByteArray := ⟨(udpBytes port 6080 (guePay x) (c : Int)).toArray⟩
theorem bl_raw (port : Int) (x : ByteArray) (c : Nat) : bl (gueRaw port x c) = udpBytes port 6080 (guePay x) (c : Int) := by unfold gueRaw; exact bl_mk _
theorem raw_size (port : Int) (x : ByteArray) (c : Nat) : (gueRaw port x c).size = 12 + x.size := by
  rw [← bl_length, bl_raw, udpBytes_length, guePay_size]; omega
theorem u64n_nat (c : Nat) (h : c ≤ 65535) : u64n (c : Int) = c := by rw [u64n_of (by omega) (by omega), Int.toNat_natCast]
theorem raw_put (port : Int) (x : ByteArray) (c d : Nat) (hc : c ≤ 65535) (hd : d ≤ 65535) : putAt (gueRaw port x c) 6 d = gueRaw port x d := by
  apply bl_inj
  rw [bl_putAt, bl_raw, bl_raw]
  unfold udpBytes
  rw [u64n_nat c hc, u64n_nat d hd]
  generalize hA : nb 2 (u64n port) ++ nb 2 (u64n 6080) ++ nb 2 (u64n (8 + ((guePay x).size : Int))) = A
  have h6 : A.length = 6 := by rw [← hA]; simp [nb_length]
  have e1 : (A ++ nb 2 c ++ bl (guePay x)).take 6 = A := by rw [List.append_assoc]; exact List.take_left' h6
  have e2 : (A ++ nb 2 c ++ bl (guePay x)).drop (6 + 2) = bl (guePay x) := List.drop_left' (by rw [List.length_append, nb_length, h6])
  rw [e1, e2]
theorem sealAt_raw (port : Int) (x : ByteArray) (c : Nat) : sealAt 17 (gueRaw port x c).size = 6 := by
  rw [raw_size]; unfold sealAt; rw [if_neg (fun h => absurd h.1 (by decide)), if_pos ⟨rfl, by omega⟩]
theorem gue_put_no {port : Int} {s : Bool} {a b x : ByteArray} (h : (verOf x).2.2.2 ≠ 0) : gue_Put.f port s a b x = some (⟨#[]⟩, (verOf x).2.2.2) := by
  unfold gue_Put.f; rw [proto_is, Option.bind_some, if_neg h]
theorem header_is (p : Int) : gue_header.f p = some (gueHd p) := rfl
theorem gue_put_bad {port : Int} {s : Bool} {a b x : ByteArray} (h : (verOf x).2.2.2 = 0) (hx : x.size ≤ 140737488351232) (hc : udpCheck port 6080 (4 + x.size) ≠ 0) : gue_Put.f port s a b x = some (⟨#[]⟩, udpCheck port 6080 (4 + x.size)) := by
  unfold gue_Put.f
  rw [proto_is, Option.bind_some, if_pos h, header_is, Option.bind_some, if_pos (by rw [gueHd_size]; omega)]
  have e := put_len (a := port) (b := 6080) (p := guePay x) (n := 0) (by rw [guePay_size]; exact hc)
  rw [guePay_size] at e
  rw [show udp_Put.f port 6080 (gueHd (verOf x).2.1 ++ x) 0 = _ from e, Option.bind_some, if_neg hc]
  rfl
/-- The number that is put: 0, or the sum. -/
def gueC (s : Bool) (port : Int) (a b x : ByteArray) : Nat := if s then seal17 (csum (bl (psB a b 17 ((12 + x.size : Nat) : Int)) ++ bl (gueRaw port x 0))) else 0
theorem gueC_le (s : Bool) (port : Int) (a b x : ByteArray) : gueC s port a b x ≤ 65535 := by
  unfold gueC; split
  · exact (seal17_le (csum_bound _)).2
  · omega
theorem gueC_zero (s : Bool) (port : Int) (a b x : ByteArray) : (gueC s port a b x = 0) ↔ s = false := by
  unfold gueC; cases s with
  | false => simp
  | true => rw [if_pos rfl]; have := (seal17_le (csum_bound (bl (psB a b 17 ((12 + x.size : Nat) : Int)) ++ bl (gueRaw port x 0)))).1; constructor; intro h; omega; intro h; cases h
theorem seal_raw {port : Int} {a b x : ByteArray} (hx : x.size ≤ 100000) (ha : a.size ≤ 300) (hb : b.size ≤ 300) : flow_Seal.f 17 a b (gueRaw port x 0) = some (gueRaw port x (gueC true port a b x)) := by
  have hz := raw_size port x 0
  rw [seal_some (sealAt_raw port x 0) (by decide) (by omega) ha hb]
  unfold gueC sumAt
  rw [if_pos rfl, raw_put port x 0 0 (by decide) (by decide), raw_put port x 0 _ (by decide) (sealC_le (csum_bound _)), sealC_17, hz]
theorem gue_put_ok {port : Int} {s : Bool} {a b x : ByteArray} (h : (verOf x).2.2.2 = 0) (hx : x.size ≤ 65523) (hp : in16 port) (ha : a.size ≤ 300) (hb : b.size ≤ 300) :
    gue_Put.f port s a b x = some (gueRaw port x (gueC s port a b x), 0) := by
  have hc : udpCheck port 6080 (guePay x).size = 0 := check_zero.mpr ⟨hp, by unfold in16; omega, by rw [guePay_size]; omega⟩
  unfold gue_Put.f
  rw [proto_is, Option.bind_some, if_pos h, header_is, Option.bind_some, if_pos (by rw [gueHd_size]; omega)]
  rw [show udp_Put.f port 6080 (gueHd (verOf x).2.1 ++ x) 0 = some (gueRaw port x 0, 0) from put_ok (p := guePay x) hc (by unfold in16; omega), Option.bind_some, if_pos rfl]
  cases s with
  | false => rfl
  | true =>
    rw [if_pos rfl, seal_raw (by omega) ha hb, Option.bind_some]
theorem ver_proto {x : ByteArray} (h : (verOf x).2.2.2 = 0) : (verOf x).2.1 = 4 ∨ (verOf x).2.1 = 41 := by
  rcases ver_cases x with ⟨_, e⟩ | ⟨_, _, e⟩ | ⟨_, _, e⟩ | ⟨_, _, _, e⟩ <;> rw [e] at h ⊢ <;> simp at h ⊢
theorem pay_bl (x : ByteArray) : bl (guePay x) = nb 1 0 ++ nb 1 (u64n (verOf x).2.1) ++ nb 2 0 ++ bl x := by unfold guePay; rw [bl_append, gueHd_bl]
theorem pay_parts {x : ByteArray} (h : (verOf x).2.2.2 = 0) : ue0 (guePay x) = 0 ∧ ue2 (guePay x) = 0 ∧ gueIn (guePay x) = (x, 0) := by
  have hb := pay_bl x
  have e0 : bl ((guePay x).extract 0 1) = nb 1 0 := by rw [cut_bl, hb]; rfl
  have e1 : bl ((guePay x).extract 1 2) = nb 1 (u64n (verOf x).2.1) := by rw [cut_bl, hb]; rfl
  have e2 : bl ((guePay x).extract 2 4) = nb 2 0 := by rw [cut_bl, hb]; rfl
  have e4 : (guePay x).extract 4 (guePay x).size = x := by
    apply bl_inj
    rw [ext_back, hb]
    rfl
  refine ⟨by unfold ue0; rw [e0]; rfl, by unfold ue2; rw [e2]; rfl, ?_⟩
  unfold gueIn
  have h1 : ue1 (guePay x) = (verOf x).2.1 := by
    unfold ue1; rw [e1]
    rcases ver_proto h with e | e <;> rw [e] <;> decide +kernel
  rw [h1, e4]
  unfold ipipR
  rw [if_neg (by rcases ver_proto h with e | e <;> omega), if_neg (fun h' => h' h), if_neg (fun h' => h' rfl)]
theorem fin_true {port n : Int} {x : ByteArray} (h : (verOf x).2.2.2 = 0) : gue_fin port 6080 n (guePay x) true = (port, n != 0, x, 0) := by
  obtain ⟨h0, h2, hi⟩ := pay_parts h
  have he : gueErr 6080 true (guePay x) = 0 := by
    unfold gueErr
    rw [if_neg (by decide), if_neg (by decide), if_neg (by rw [guePay_size]; omega), if_neg (by rw [h0]; decide), if_neg (fun h' => h' ⟨h0, h2⟩), hi]
  unfold gue_fin
  rw [if_pos he, hi]
theorem fin_false (port n : Int) (P : ByteArray) : gue_fin port 6080 n P false = (0, false, ⟨#[]⟩, 5) := by
  have he : gueErr 6080 false P = 5 := by unfold gueErr; rw [if_neg (by decide), if_pos rfl]
  unfold gue_fin
  rw [if_neg (by rw [he]; decide), he]
/-- Whether a datagram's sum is taken for right. -/
def rightB (n : Int) (a b y : ByteArray) : Bool := if n = 0 then true else decide (csum (bl (psB a b 17 (y.size : Int)) ++ bl y) = 0)
theorem right_some {n : Int} {a b y : ByteArray} (ha : a.size ≤ 300) (hb : b.size ≤ 300) (hy : y.size ≤ 1000000000) : gue_right n a b y = some (rightB n a b y) := by
  unfold gue_right rightB
  by_cases hn : n = 0
  · rw [if_pos hn, if_pos hn]
  · have hz := psB_size a b 17 (y.size : Int)
    have hz2 := (psT_size (a.size == 16) 17 (y.size : Int)).2
    rw [if_neg hn, if_neg hn, pseudo_some a b ha hb, Option.bind_some, right2 _ _ (by omega)]
theorem gue_get_raw {port : Int} {a b x : ByteArray} {c : Nat} (h : (verOf x).2.2.2 = 0) (hx : x.size ≤ 65523) (hp : in16 port) (ha : a.size ≤ 300) (hb : b.size ≤ 300) (hc : c ≤ 65535) :
    gue_Get.f a b (gueRaw port x c) = some (if rightB (c : Int) a b (gueRaw port x c) = true then (port, (c : Int) != 0, x, 0) else (0, false, ⟨#[]⟩, 5)) := by
  have hu := get_put (a := port) (b := 6080) (p := guePay x) (n := (c : Int)) hp (by unfold in16; omega) (by rw [guePay_size]; omega) (by unfold in16; omega) (bl_raw port x c)
  have hz := raw_size port x c
  unfold gue_Get.f
  rw [hu, Option.bind_some]
  dsimp +instances only
  rw [if_neg (by decide), right_some ha hb (by omega), Option.bind_some]
  cases rightB (c : Int) a b (gueRaw port x c) with
  | true => rw [fin_true h]; rfl
  | false => rw [fin_false]; rfl
theorem right_sealed {s : Bool} {port : Int} {a b x : ByteArray} (he : (a.size + b.size) % 2 = 0) : rightB ((gueC s port a b x : Nat) : Int) a b (gueRaw port x (gueC s port a b x)) = true := by
  unfold rightB
  cases s with
  | false => rw [if_pos (by rfl)]
  | true =>
    have h0 : gueC true port a b x ≠ 0 := fun h => absurd ((gueC_zero _ _ _ _ _).1 h) (by decide)
    rw [if_neg (by omega), raw_size]
    refine decide_eq_true ?_
    have hs := sealed_right (ps := psB a b 17 ((12 + x.size : Nat) : Int)) (s := gueRaw port x 0) (q := 6) (p := 17) (psB_even a b _ _ he) rfl (by rw [raw_size]; omega)
    unfold sumAt at hs
    rw [raw_put port x 0 0 (by decide) (by decide), raw_put port x 0 _ (by decide) (sealC_le (csum_bound _)), sealC_17] at hs
    unfold gueC
    rw [if_pos rfl]
    exact hs
theorem gue_put_some (port : Int) (s : Bool) {a b x : ByteArray} (hx : x.size ≤ 140737488351232) (ha : a.size ≤ 300) (hb : b.size ≤ 300) :
    ((verOf x).2.2.2 = 0 ∧ x.size ≤ 65523 ∧ in16 port ∧ gue_Put.f port s a b x = some (gueRaw port x (gueC s port a b x), 0)) ∨ ∃ e, e ≠ 0 ∧ (∀ s' a' b', gue_Put.f port s' a' b' x = some (⟨#[]⟩, e)) ∧ ((verOf x).2.2.2 = 0 → x.size ≤ 65523 → ¬ in16 port) := by
  by_cases h : (verOf x).2.2.2 = 0
  · by_cases hc : udpCheck port 6080 (4 + x.size) = 0
    · obtain ⟨h1, h2, h3⟩ := check_zero.mp hc
      exact .inl ⟨h, by omega, h1, gue_put_ok h (by omega) h1 ha hb⟩
    · exact .inr ⟨_, hc, fun s' a' b' => gue_put_bad h hx hc, fun _ hz hp => hc (check_zero.mpr ⟨hp, by unfold in16; omega, by omega⟩)⟩
  · exact .inr ⟨_, h, fun s' a' b' => gue_put_no h, fun h' => absurd h' h⟩
theorem gue_get_some {a b y : ByteArray} (ha : a.size ≤ 300) (hb : b.size ≤ 300) (hy : y.size ≤ 1000000000) : ∃ r, gue_Get.f a b y = some r := by
  unfold gue_Get.f
  obtain ⟨d, hd⟩ : ∃ d, udp_Get.f y = some d := ⟨_, get_is (by omega)⟩
  rw [hd, Option.bind_some]
  split
  · exact ⟨_, rfl⟩
  · rw [right_some ha hb hy, Option.bind_some]; exact ⟨_, rfl⟩
theorem awake13 : palanquinlaw13_awake.f = some true := by
  unfold palanquinlaw13_awake.f
  have hv : (verOf (⟨#[69, 120, 121, 122]⟩ : ByteArray)).2.2.2 = 0 := by decide +kernel
  rw [gue_put_ok hv (by decide) (by unfold in16; omega) (by decide) (by decide), Option.bind_some, if_pos (by decide +kernel)]
  rfl
theorem few13 (a b x y : ByteArray) : ∃ t, palanquinlaw13_few.f a b x y = some t ∧ (t = true → a.size ≤ 300 ∧ b.size ≤ 300 ∧ x.size ≤ 70000 ∧ y.size ≤ 70000) := by
  unfold palanquinlaw13_few.f
  split
  · split
    · split
      · exact ⟨_, rfl, fun h => by have := of_decide_eq_true h; omega⟩
      · exact ⟨_, rfl, fun h => absurd h (by decide)⟩
    · exact ⟨_, rfl, fun h => absurd h (by decide)⟩
  · exact ⟨_, rfl, fun h => absurd h (by decide)⟩
end Go.Proofs.YtcmalglippmocaaDoor.Pure
end
