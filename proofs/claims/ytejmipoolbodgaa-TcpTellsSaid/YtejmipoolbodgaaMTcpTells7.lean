/- Texts of this session, joined: each is a section. -/
import Derived.Test.YtejmipoolbodgaaMTcpTells4
import Derived.Test.YtejmipoolbodgaaMTcpTells1
import Derived.Test.YtejmipoolbodgaaMTcpTells5
import Derived.Test.YtejmipoolbodgaaMTcpTells2
import Derived.Lib.Builder
import Derived.Lib.FrozenHead2
import Derived.Lib.UnsafeStr
import Derived.Laws.Externs
import Derived.Lib.Hide
import Derived.RegionTactic
import Derived.StillTailTactics
import Derived.Shelf.Strings.BuilderX
import Derived.Lib.ConvBytes
import Derived.WalkLawsBesides
set_option linter.unusedVariables false
set_option linter.unusedSimpArgs false
section
/- Plain facts of palanquinref01: Value reads a big-endian number, Bytes writes one. -/
namespace Go.Proofs.Ytejmipoolbodgaa.Pure
open Go.RowKit Go.Proofs.YtejmipoolbodgaaW.PrintWords Go.Proofs.YtejmipoolbodgaaW.PrintLast Go.Proofs.Ytejmipoolbodgaa.G Go.Proofs.Ytejmipoolbodgaa.Pal
theorem bt_bl (s : ByteArray) (i : Nat) (h : i < s.size) : bt s (i : Int) = (((bl s)[i]'(by rw [bl_length]; exact h)).toNat : Int) := by
  unfold bt
  rw [dif_pos (by simpa using h)]
  rfl
theorem value_loop (s : ByteArray) (hs : s.size ≤ 8) : ∀ (n i k : Nat), i + n = s.size → n < k → palanquinref01_Value.l0 k s ((be ((bl s).take i) : Nat) : Int) (i : Int) = some ((be (bl s) : Nat) : Int)
  | 0, i, k + 1, hi, _ => by
    rw [palanquinref01_Value.l0, if_neg (by omega), List.take_of_length_le (by rw [bl_length]; omega)]
  | n + 1, i, k + 1, hi, hk => by
    have hlt : i < s.size := by omega
    have hlen : i < (bl s).length := by rw [bl_length]; exact hlt
    rw [palanquinref01_Value.l0, if_pos (by omega), if_pos (by omega)]
    have hb : (bl s)[i].toNat < 256 := (bl s)[i].toNat_lt
    have h1 : be ((bl s).take (i + 1)) = be ((bl s).take i) * 256 + (bl s)[i].toNat := by
      rw [List.take_succ_eq_append_getElem hlen, be_snoc]
    have h2 : be ((bl s).take (i + 1)) < 256 ^ 8 := be_lt_of _ 8 (by rw [List.length_take]; omega)
    have h3 : (256 : Nat) ^ 8 = 18446744073709551616 := by decide
    rw [bt_bl s i hlt, show wrap64 ((i : Int) + 1) = ((i + 1 : Nat) : Int) by unfold wrap64; omega,
      show IntKind.u64.wrap ((IntKind.u64.wrap (((be ((bl s).take i) : Nat) : Int) * 256)) + (IntKind.u64.wrap ((bl s)[i].toNat : Int))) = ((be ((bl s).take (i + 1)) : Nat) : Int) by rw [IntKind.wrap_u64, IntKind.wrap_u64, IntKind.wrap_u64]; omega]
    exact value_loop s hs n (i + 1) k (by omega) (by omega)
theorem value_is (s : ByteArray) (hs : s.size ≤ 8) (k : Nat) (hk : s.size < k) : palanquinref01_Value.f k s = some ((be (bl s) : Nat) : Int) := by
  have := value_loop s hs s.size 0 k (by omega) hk
  exact this
theorem byte_is (x : Int) (h0 : 0 ≤ x) : strOfNums [Int.tmod x 256 % 256] = ⟨#[UInt8.ofNat x.toNat]⟩ := by
  obtain ⟨n, rfl⟩ := Int.eq_ofNat_of_zero_le h0
  have e : Int.tmod (n : Int) 256 % 256 = ((n % 256 : Nat) : Int) := by rw [Int.tmod_eq_emod_of_nonneg (by omega)]; omega
  rw [e]
  simp [strOfNums]
  apply UInt8.toNat.inj
  simp
  omega
theorem bytes_loop (n : Nat) (hn : n ≤ 8) : ∀ (m i k x : Nat) (t : ByteArray), i + m = n → m < k → x ≤ 18446744073709551615 → t.size = i →
    ∃ r, palanquinref01_Bytes.l0 k (x : Int) (n : Int) t (i : Int) = some r ∧ bl r = nb m x ++ bl t
  | 0, i, k + 1, x, t, hi, _, _, _ => by
    refine ⟨t, ?_, by simp [nb]⟩
    rw [palanquinref01_Bytes.l0, if_neg (by omega)]
  | m + 1, i, k + 1, x, t, hi, hk, hx, ht => by
    have hd : IntKind.u64.wrap (Int.tdiv (x : Int) 256) = ((x / 256 : Nat) : Int) := by rw [IntKind.wrap_u64, Int.tdiv_eq_ediv_of_nonneg (by omega)]; omega
    have hb := byte_is (x : Int) (by omega)
    rw [Int.toNat_natCast] at hb
    have h1 : (⟨#[UInt8.ofNat x]⟩ : ByteArray).size = 1 := rfl
    obtain ⟨r, hr, hr2⟩ := bytes_loop n hn m (i + 1) k (x / 256) (⟨#[UInt8.ofNat x]⟩ ++ t) (by omega) (by omega) (by omega) (by rw [ByteArray.size_append, h1]; omega)
    refine ⟨r, ?_, ?_⟩
    · rw [palanquinref01_Bytes.l0, if_pos (by omega), Option.bind_some, hb, if_pos (by rw [h1]; omega), hd, show wrap64 ((i : Int) + 1) = ((i + 1 : Nat) : Int) by unfold wrap64; omega]
      exact hr
    · rw [hr2, bl_append, nb, List.append_assoc]
      rfl
theorem bytes_is (n : Nat) (hn : n ≤ 8) (x : Nat) (hx : x ≤ 18446744073709551615) (k : Nat) (hk : n < k) : ∃ r, palanquinref01_Bytes.f k (x : Int) (n : Int) = some r ∧ bl r = nb n x := by
  obtain ⟨r, h1, h2⟩ := bytes_loop n hn n 0 k x ⟨#[]⟩ (by omega) hk hx rfl
  refine ⟨r, h1, ?_⟩
  rw [h2]
  simp [bl]
theorem bytes_u (n : Nat) (hn : n ≤ 8) (v : Int) (k : Nat) (hk : n < k) : ∃ r, palanquinref01_Bytes.f k (IntKind.u64.wrap v) (n : Int) = some r ∧ bl r = nb n (IntKind.u64.wrap v).toNat := by
  have h0 : 0 ≤ IntKind.u64.wrap v ∧ IntKind.u64.wrap v ≤ 18446744073709551615 := by rw [IntKind.wrap_u64]; omega
  generalize IntKind.u64.wrap v = x at h0 ⊢
  obtain ⟨x, rfl⟩ := Int.eq_ofNat_of_zero_le h0.1
  obtain ⟨r, h1, h2⟩ := bytes_is n hn x (by omega) k hk
  exact ⟨r, h1, by rw [h2, Int.toNat_natCast]⟩
theorem bytes_sized {n : Nat} {r : ByteArray} {x : Nat} (h : bl r = nb n x) : r.size = n := by rw [← bl_length, h, nb_length]
end Go.Proofs.Ytejmipoolbodgaa.Pure
end

section
/- Plain theory: the document's Walk and MSS are the options' walk. -/
namespace Go.Proofs.Ytejmipoolbodgaa.Pure
open Go.RowKit Go.Proofs.YtejmipoolbodgaaW.PrintWords Go.Proofs.YtejmipoolbodgaaW.PrintLast Go.Proofs.Ytejmipoolbodgaa.G Go.Proofs.Ytejmipoolbodgaa.Pal
set_option linter.unusedVariables false
theorem btD (s : ByteArray) (i : Nat) (h : i < s.size) : bt s (i : Int) = (((bl s).getD i 0).toNat : Int) := by
  rw [bt_bl s i h]
  simp [List.getD_eq_getElem?_getD, List.getElem?_eq_getElem (show i < (bl s).length by rw [bl_length]; exact h)]
theorem byte_eq (b : UInt8) (n : Nat) (hn : n < 256) : ((b.toNat : Int) = (n : Int)) ↔ b = UInt8.ofNat n := by
  constructor
  · intro h; apply UInt8.toNat_inj.1; simp only [UInt8.toNat_ofNat']; omega
  · intro h; rw [h]; simp only [UInt8.toNat_ofNat']; omega
theorem byte_two (b : UInt8) : ((b.toNat : Int) = 2) ↔ b = 2 := byte_eq b 2 (by decide)
theorem mss_arith (a b : Nat) (ha : a < 256) (hb : b < 256) : wrap64 (wrap64 (wrap64 (a : Int) * 256) + wrap64 (b : Int)) = ((a * 256 + b : Nat) : Int) := by unfold wrap64; omega
theorem W_count {l : List UInt8} : ∀ i L, W l i = some L → L.length + i ≤ max l.length i := by
  refine W_ind (P := fun i => ∀ L, W l i = some L → L.length + i ≤ max l.length i) l fun i ih L h => ?_
  rcases W_cons h with ⟨c, rfl⟩ | ⟨c, n, L', ho, hw, rfl⟩
  · simp; omega
  · have hb := optLen_bound c.1 ho
    have := ih n hb.1 c.1 L' hw
    rw [List.length_cons]
    omega
def posns (L : List (Nat × Nat)) : List Int := L.map fun p => (p.1 : Int)
theorem walk07 (s : ByteArray) (hs : s.size ≤ 10000000000) : ∀ (m i k : Nat) (out : List Int), s.size ≤ m + i → i ≤ s.size → 2 * m + 2 ≤ k → out.length ≤ i →
    palanquinref07_Walk.l0 k s out (i : Int) = some (match W (bl s) i with | some L => (out ++ posns L, true) | none => ([], false)) := by
  intro m
  induction m with
  | zero =>
    intro i k out h1 h2 h3 h4
    obtain ⟨k, rfl⟩ : ∃ k', k = k' + 2 := ⟨k - 2, by omega⟩
    rw [palanquinref07_Walk.l0, if_neg (by omega), palanquinref07_Walk.j1, if_neg (by decide), W_end (by rw [bl_length]; omega)]
    simp [posns]
  | succ m ih =>
    intro i k out h1 h2 h3 h4
    obtain ⟨k, rfl⟩ : ∃ k', k = k' + 2 := ⟨k - 2, by omega⟩
    by_cases hi : i < s.size
    case neg =>
      rw [palanquinref07_Walk.l0, if_neg (by omega), palanquinref07_Walk.j1, if_neg (by decide), W_end (by rw [bl_length]; omega)]
      simp [posns]
    rw [palanquinref07_Walk.l0, if_pos (by omega), if_pos (by omega), btD s i hi]
    by_cases h0 : (bl s).getD i 0 = 0
    · rw [h0, W_end (fun h => h.2 h0), palanquinref07_Walk.j1, if_neg (by decide)]
      simp [posns]
    have hne : (((((bl s).getD i 0).toNat : Int)) != 0) = true := by
      rw [bne_iff_ne]; intro h; exact h0 (by rw [show (0 : Int) = ((0 : Nat) : Int) from rfl] at h; exact (byte_eq _ 0 (by decide)).mp h)
    have hc : i < (bl s).length ∧ (bl s).getD i 0 ≠ 0 := ⟨by rw [bl_length]; exact hi, h0⟩
    rw [hne, palanquinref07_Walk.j1, if_pos rfl, if_pos (by omega), Option.bind_some, if_pos (by omega), if_pos (by omega), btD s i hi, W_step hc]
    by_cases h1' : (bl s).getD i 0 = 1
    · rw [h1', if_pos (by rfl), show wrap64 ((i : Int) + 1) = ((i + 1 : Nat) : Int) by unfold wrap64; omega,
        ih (i + 1) k (out ++ [(i : Int)]) (by omega) (by omega) (by omega) (by rw [List.length_append, List.length_singleton]; omega), show optLen (bl s) i = some 1 by unfold optLen; rw [if_pos h1'], Option.bind_some]
      cases W (bl s) (i + 1) <;> simp [posns]
    have hn1 : ¬ ((((bl s).getD i 0).toNat : Int)) = 1 := fun h => h1' ((byte_eq _ 1 (by decide)).mp h)
    rw [if_neg hn1, show wrap64 ((s.size : Int) - (i : Int)) = ((s.size - i : Nat) : Int) by unfold wrap64; omega]
    by_cases he : i + 1 = s.size
    · rw [if_pos (by omega), show optLen (bl s) i = none by unfold optLen; rw [if_neg h1', if_pos (.inl (by rw [bl_length]; exact he))], Option.bind_none]
    have hb := UInt8.toNat_lt ((bl s).getD (i + 1) 0)
    rw [if_neg (by omega), show wrap64 ((i : Int) + 1) = ((i + 1 : Nat) : Int) by unfold wrap64; omega, if_pos (by omega), if_pos (by omega), btD s (i + 1) (by omega), show wrap64 ((((bl s).getD (i + 1) 0).toNat : Int)) = ((((bl s).getD (i + 1) 0).toNat : Int)) by unfold wrap64; omega]
    by_cases h2' : ((bl s).getD (i + 1) 0).toNat < 2
    · rw [if_pos (by omega), show optLen (bl s) i = none by unfold optLen; rw [if_neg h1', if_pos (.inr (.inl h2'))], Option.bind_none]
    rw [if_neg (by omega)]
    by_cases h3' : (bl s).length < i + ((bl s).getD (i + 1) 0).toNat
    · rw [if_pos (by rw [bl_length] at h3'; omega), show optLen (bl s) i = none by unfold optLen; rw [if_neg h1', if_pos (.inr (.inr h3'))], Option.bind_none]
    have h3'' := h3'
    rw [bl_length] at h3''
    rw [if_neg (by omega), show wrap64 ((i : Int) + ((((bl s).getD (i + 1) 0).toNat : Int))) = ((i + ((bl s).getD (i + 1) 0).toNat : Nat) : Int) by unfold wrap64; omega,
      ih (i + ((bl s).getD (i + 1) 0).toNat) k (out ++ [(i : Int)]) (by omega) (by omega) (by omega) (by rw [List.length_append, List.length_singleton]; omega),
      show optLen (bl s) i = some ((bl s).getD (i + 1) 0).toNat by unfold optLen; rw [if_neg h1', if_neg (fun h => h.elim (fun h => he (by rw [bl_length] at h; exact h)) (fun h => h.elim h2' h3'))], Option.bind_some]
    cases W (bl s) (i + ((bl s).getD (i + 1) 0).toNat) <;> simp [posns]
def walkR (s : ByteArray) : List Int × Bool := match W (bl s) 0 with | some L => (posns L, true) | none => ([], false)
theorem walkR_snd (s : ByteArray) : (walkR s).2 = rightO (bl s) := by unfold walkR rightO; cases W (bl s) 0 <;> rfl
theorem walk07_is (s : ByteArray) (k : Nat) (hs : s.size ≤ 10000000000) (hk : 2 * s.size + 2 ≤ k) : palanquinref07_Walk.f k s = some (walkR s) := by
  have h := walk07 s hs s.size 0 k [] (by omega) (by omega) hk (by simp)
  unfold palanquinref07_Walk.f
  rw [show (0 : Int) = ((0 : Nat) : Int) from rfl, h]
  unfold walkR
  cases W (bl s) 0 <;> simp
theorem rd_posns (L : List (Nat × Nat)) (j : Nat) (h : j < L.length) : rd (posns L) (j : Int) = ((L[j].1 : Nat) : Int) := by
  unfold rd posns
  simp [h]
theorem mss07 (s : ByteArray) (hs : s.size ≤ 10000000000) (L : List (Nat × Nat)) (hL : ∀ p ∈ L, p.1 + p.2 ≤ (bl s).length ∧ 1 ≤ p.2 ∧ optLen (bl s) p.1 = some p.2) (hlen : L.length ≤ 10000000000) : ∀ (m j k : Nat), L.length ≤ m + j → m + 1 ≤ k →
    palanquinref07_MSS.l0 k s (posns L) (j : Int) = some (match ((L.drop j).find? (isMSS (bl s))).map (mssAt (bl s)) with | some r => (((r.1 : Nat) : Int), ((r.2 : Nat) : Int), true) | none => (0, 0, false)) := by
  have hpl : (posns L).length = L.length := by simp [posns]
  intro m
  induction m with
  | zero =>
    intro j k h1 h2
    obtain ⟨k, rfl⟩ : ∃ k', k = k' + 1 := ⟨k - 1, by omega⟩
    rw [palanquinref07_MSS.l0, if_neg (by omega), List.drop_eq_nil_of_le (by omega)]
    rfl
  | succ m ih =>
    intro j k h1 h2
    obtain ⟨k, rfl⟩ : ∃ k', k = k' + 1 := ⟨k - 1, by omega⟩
    by_cases hj : j < L.length
    case neg =>
      rw [palanquinref07_MSS.l0, if_neg (by omega), List.drop_eq_nil_of_le (by omega)]
      rfl
    obtain ⟨hp1, hp2, hp3⟩ := hL L[j] (List.getElem_mem hj)
    have hbl := bl_length s
    rw [palanquinref07_MSS.l0, if_pos (by omega), if_pos (by omega), rd_posns L j hj, List.drop_eq_getElem_cons hj, List.find?_cons]
    rcases hLj : L[j] with ⟨q, n⟩
    rw [hLj] at hp1 hp2 hp3
    dsimp only at hp1 hp2 hp3 ⊢
    have next := ih (j + 1) k (by omega) (by omega)
    rw [if_pos (by omega), if_pos (by omega), btD s q (by omega)]
    by_cases h2' : (bl s).getD q 0 = 2
    case neg =>
      rw [if_neg (fun h => h2' ((byte_two _).mp h)), show isMSS (bl s) (q, n) = false by show ((bl s).getD q 0 == 2 && n == 4) = false; rw [beq_eq_false_iff_ne.mpr h2', Bool.false_and], show wrap64 ((j : Int) + 1) = ((j + 1 : Nat) : Int) by unfold wrap64; omega]
      exact next
    have hn : n = ((bl s).getD (q + 1) 0).toNat ∧ q + 1 < s.size := by
      unfold optLen at hp3
      rw [if_neg (by rw [h2']; decide)] at hp3
      split at hp3
      · exact absurd hp3 (by simp)
      · rename_i hx
        exact ⟨(Option.some.inj hp3).symm, by rw [hbl] at hx; omega⟩
    rw [if_pos ((byte_two _).mpr h2'), show wrap64 ((q : Int) + 1) = ((q + 1 : Nat) : Int) by unfold wrap64; omega, if_pos (by omega), if_pos (by omega), btD s (q + 1) hn.2]
    by_cases h4 : n = 4
    case neg =>
      rw [if_neg (by omega), show isMSS (bl s) (q, n) = false by show ((bl s).getD q 0 == 2 && n == 4) = false; rw [beq_eq_false_iff_ne.mpr h4, Bool.and_false], show wrap64 ((j : Int) + 1) = ((j + 1 : Nat) : Int) by unfold wrap64; omega]
      exact next
    have l2 : ((bl s).getD (q + 2) 0).toNat < 256 := UInt8.toNat_lt ((bl s).getD (q + 2) 0)
    have l3 : ((bl s).getD (q + 3) 0).toNat < 256 := UInt8.toNat_lt ((bl s).getD (q + 3) 0)
    rw [if_pos (by omega), show wrap64 ((q : Int) + 2) = ((q + 2 : Nat) : Int) by unfold wrap64; omega, if_pos (by omega), if_pos (by omega), show wrap64 ((q : Int) + 3) = ((q + 3 : Nat) : Int) by unfold wrap64; omega, if_pos (by omega), if_pos (by omega), btD s (q + 2) (by omega), btD s (q + 3) (by omega), show isMSS (bl s) (q, n) = true by show ((bl s).getD q 0 == 2 && n == 4) = true; rw [h2', h4]; rfl]
    simp only [Option.map_some, mssAt]
    rw [mss_arith _ _ l2 l3]
theorem mss07_is (s : ByteArray) (k : Nat) (hs : s.size ≤ 1000000) (hk : 2 * s.size + 2 ≤ k) : palanquinref07_MSS.f k s = some (mssR (mssOf (bl s))) := by
  unfold palanquinref07_MSS.f
  rw [walk07_is s k (by omega) hk, Option.bind_some]
  unfold mssOf walkR
  cases hW : W (bl s) 0 with
  | none =>
    have h := mss07 s (by omega) [] (fun p hp => absurd hp (by simp)) (by simp) 0 0 k (by simp) (by omega)
    exact h
  | some L =>
    have hm := W_mem 0 L hW
    have hlen : L.length ≤ s.size := by
      have := W_count 0 L hW
      rw [bl_length] at this; omega
    have h := mss07 s (by omega) L (fun p hp => (hm p hp).2) (by omega) L.length 0 k (by omega) (by omega)
    rw [List.drop_zero] at h
    refine h.trans ?_
    rw [Option.bind_some]
    cases (L.find? (isMSS (bl s))).map (mssAt (bl s)) <;> rfl
end Go.Proofs.Ytejmipoolbodgaa.Pure
end

section
/- By hand: wire's Writer (a strings.Builder in a struct): each method's contract over a writer's block. The walks of strings.Builder's methods are turned from the kit's shelf (Derived/Shelf/Strings), at a block of the Writer's type. -/
namespace Go.Proofs.Ytejmipoolbodgaa.G
open Go.RowKit Go.Proofs.YtejmipoolbodgaaW.PrintWords Go.Proofs.YtejmipoolbodgaaW.PrintLast Go.Proofs.YtejmipoolbodgaaW.PrintMore Go.Proofs.Ytejmipoolbodgaa.Pal
set_option linter.unusedVariables false
set_option linter.unusedSimpArgs false

theorem infoU8 : (Try.prog.info? 5).map (fun i => (i.zero, i.size, i.bytes)) = some (some (.int .u8 0), 1, 1) := by kernel_rfl
theorem sizeBuilder : (Try.prog.info? 80).map (·.size) = some 2 := by kernel_rfl
theorem liesWriter : liesAt Try.prog Try.prog.depth 82 (2 / Try.prog.cellsOf 82) 0 80 1 = true := by kernel_rfl

/-- Block b is a writer: its address word p, its buffer v, which holds the bytes l. -/
def WP (b : Nat) (p v : Value) (l : List UInt8) (w : World) : Prop :=
  w.heap[b]? = some (.cells #[p, v] 82 (0, 0)) ∧ w.ownsRowF b 5 1 v l.length (Lib.byteCells l) ∧ v.ownBlock ≠ some b ∧ (l = [] → v = .slice none 0 0)
def self (b : Nat) : Value := .pointer (some ⟨b, 0, none⟩)
/-- Block b is a writer that has written the bytes l. -/
def WAt (b : Nat) (l : List UInt8) (w : World) : Prop := ∃ v, WP b (.pointer none) v l w ∨ WP b (self b) v l w

theorem WP.ne {b : Nat} {p v : Value} {l : List UInt8} {w : World} (h : WP b p v l w) (v' : Value) (hn : w.ownsRowF b 5 1 v' l.length (Lib.byteCells l)) : True := trivial
theorem WP.shape {b : Nat} {p v : Value} {l : List UInt8} {w : World} (h : WP b p v l w) : w.shape? b = some (82, 2) := by
  have hb := h.1
  simp [World.shape?, hb]
theorem WP.lt {b : Nat} {p v : Value} {l : List UInt8} {w : World} (h : WP b p v l w) : b < w.heap.size := lt_of_block h.1
theorem WP.used {b : Nat} {p v : Value} {l : List UInt8} {w : World} (h : WP b p v l w) (q : Value) : WP b q v l (w.setCell ⟨b, 0, none⟩ q) := by
  obtain ⟨hb, hown, hne, hn⟩ := h
  refine ⟨?_, ?_, hne, hn⟩
  · simp [World.setCell, Array.getElem?_modify, hb]
  · exact hown.kept (row := some b) ⟨rfl, rfl, rfl, by simp [World.setCell], fun k _ hk => Below.heap_setCell _ _ _ _ (fun e => hk (by simp [e]))⟩ (Or.inr hne)
theorem WP.put {b : Nat} {p v v' : Value} {l : List UInt8} {w : World} (hb : w.heap[b]? = some (.cells #[p, v] 82 (0, 0))) (hown : w.ownsRowF b 5 1 v' l.length (Lib.byteCells l)) (hn : l = [] → v' = .slice none 0 0) :
    WP b p v' l (w.setCell ⟨b, 1, none⟩ v') := by
  have hne := Lib.ownBlock_neF hown hb (by decide)
  refine ⟨?_, ?_, hne, hn⟩
  · simp [World.setCell, Array.getElem?_modify, hb]
  · exact hown.kept (row := some b) ⟨rfl, rfl, rfl, by simp [World.setCell], fun k _ hk => Below.heap_setCell _ _ _ _ (fun e => hk (by simp [e]))⟩ (Or.inr hne)

set_option maxHeartbeats 1000000 in
set_option maxRecDepth 100000 in
theorem copyCheck_used (b : Nat) (w : World) (h0 : w.cell? ⟨b, 0, none⟩ = some (self b)) :
    Calls Try.prog 165 #[self b] w fun e w' => e = .returned (.tuple #[]) ∧ w' = w := by
  obtain ⟨j, hj, _⟩ := Option.map_eq_some_iff.1 sizeBuilder
  unfold self at h0 ⊢
  go_enter Try.func165, Try.ntmps165
  go_wp2
  rw [Lib.run_neq_ptr_same w _ Try.underlying78 hj]
  go_wp2
  go_end0
  exact ⟨rfl, rfl⟩

set_option maxHeartbeats 1000000 in
set_option maxRecDepth 100000 in
theorem copyCheck_fresh (b : Nat) (w : World) (h0 : w.cell? ⟨b, 0, none⟩ = some (.pointer none)) (hsh : w.shape? b = some (82, 2)) (hfz : w.frozen? ⟨b, 0, none⟩ = false) :
    Calls Try.prog 165 #[self b] w fun e w' => e = .returned (.tuple #[]) ∧ w' = w.setCell ⟨b, 0, none⟩ (self b) := by
  obtain ⟨j, hj, hjs⟩ := Option.map_eq_some_iff.1 sizeBuilder
  unfold self
  go_enter Try.func165, Try.ntmps165
  go_wp2
  rw [Lib.run_to_unsafe w ⟨b, 0, none⟩ Try.underlying78 Try.underlying191 hj (by rw [hjs]; decide) hsh (Nat.zero_lt_succ 1)]
  simp only [Result.andThen]
  rw [Oper.upon_value]
  go_wp2
  rw [run_callFunc_extern Try.func166 (by kernel_rfl) (by kernel_rfl) (by kernel_rfl) (e := Extern.AbiNoEscape.same) (by kernel_rfl)]
  rw [Lib.run_noEscape]
  simp only [Result.andThen]
  rw [Oper.upon_value]
  go_wp2
  rw [Lib.run_from_unsafe w ⟨b, 0, none⟩ Try.underlying191 Try.underlying78 hj hsh liesWriter]
  simp only [Result.andThen]
  rw [Oper.upon_value]
  go_wp2
  go_end0
  exact ⟨rfl, rfl⟩

theorem copyCheck_any (b : Nat) (l : List UInt8) (w : World) (h : WAt b l w) :
    Calls Try.prog 165 #[self b] w fun e w' => e = .returned (.tuple #[]) ∧ (∃ v, WP b (self b) v l w') ∧ Below b w w' := by
  obtain ⟨v, h | h⟩ := h
  · refine (copyCheck_fresh b w (by rw [Lib.cell_of_heap h.1]; rfl) h.shape (Lib.frozen_of_heap h.1 0)).mono ?_
    rintro e w' ⟨rfl, rfl⟩
    exact ⟨rfl, ⟨v, h.used _⟩, (Below.refl b w).setCell (p := ⟨b, 0, none⟩) (Nat.le_refl _) _⟩
  · refine (copyCheck_used b w (by rw [Lib.cell_of_heap h.1]; rfl)).mono ?_
    rintro e w' ⟨rfl, rfl⟩
    exact ⟨rfl, ⟨v, h⟩, Below.refl b _⟩

set_option maxHeartbeats 2000000 in
set_option maxRecDepth 100000 in
theorem WriteByte_calls (b : Nat) (l : List UInt8) (c : UInt8) (w : World) (h : WAt b l w) (hlen : l.length + 1 ≤ 140737488355328) :
    Calls Try.prog 164 #[self b, .int .u8 (c.toNat : Int)] w fun e w' => e = .returned .nilIface ∧ WAt b (l ++ [c]) w' ∧ Below b w w' := by
  obtain ⟨i0, hi, hz0, hz1, hz2⟩ := info_parts infoU8
  unfold self
  go_enter Try.func164, Try.ntmps164
  go_wp2_with fail
  refine (copyCheck_any b l _ h).mono ?_
  rintro e w1 ⟨rfl, ⟨v, h1⟩, hb1⟩
  obtain ⟨hbk, hown, hne, hnil⟩ := h1
  have c0 : w1.cell? ⟨b, 0, none⟩ = some (.pointer (some ⟨b, 0, none⟩)) := by rw [Lib.cell_of_heap hbk]; rfl
  have c1 : w1.cell? ⟨b, 1, none⟩ = some v := by rw [Lib.cell_of_heap hbk]; rfl
  have HN := Aside0.mk hnil
  have hlt := lt_of_block hbk
  have hsz := hb1.size
  clear hnil h
  go_wp2_with (at_builtin; refine wpList_append_ownF _ rfl _ _ 25 rfl b 5 i0 (.int .u8 0) 1 1 Try.underlying25 hi hz0 hz1 hz2 rfl (by decide) _ _ _ rfl (hown.alloc _) ⟨w1.heap.size, 0, none⟩ 1 1 [.int .u8 (c.toNat : Int)] rfl rfl ?c1 ?c2 ?c3 ?c4 ?c5 ?_)
  case c1 =>
    intro j u hj
    match j, hj with
    | 0, hj => simp at hj; subst hj; simp [Addr.add]
  case c2 => intro u hu; simp at hu; subst hu; rfl
  case c3 => unfold maxLen; omega
  case c4 => omega
  case c5 => simp; omega
  intro v' w2 hown' hgrow _
  have hb2 : w2.heap[b]? = some (.cells #[.pointer (some ⟨b, 0, none⟩), v] 82 (0, 0)) := by
    rw [hgrow.block b (by simp; omega) (fun e => hne e.symm), Lib.alloc_old w1 _ b hlt]
    exact hbk
  have d0 : w2.cell? ⟨b, 0, none⟩ = some (.pointer (some ⟨b, 0, none⟩)) := by rw [Lib.cell_of_heap hb2]; rfl
  have d1 : w2.cell? ⟨b, 1, none⟩ = some v := by rw [Lib.cell_of_heap hb2]; rfl
  have f1 : w2.frozen? ⟨b, 1, none⟩ = false := Lib.frozen_of_heap hb2 1
  obtain ⟨g, cap, rfl⟩ : ∃ g cap, v' = .slice (some ⟨g, 0, none⟩) (l.length + 1) cap := by
    rcases hown'.2 with ⟨_, h0⟩ | ⟨g, cap, cur, fz, hv, _⟩
    · omega
    · exact ⟨g, cap, hv⟩
  go_wp2
  go_ret
  refine ⟨rfl, ⟨_, .inr (WP.put (l := l ++ [c]) hb2 (by simpa [Lib.byteCells] using hown') (fun h => by simp at h))⟩, ?_⟩
  exact ((hb1.alloc (by omega) _).grown hgrow (by simp; omega) (fun k hk => (hown.lt k hk).1)).setCell (p := ⟨b, 1, none⟩) (Nat.le_refl _) _

set_option maxHeartbeats 2000000 in
set_option maxRecDepth 100000 in
theorem WriteString_calls (b : Nat) (l : List UInt8) (s : ByteArray) (w : World) (h : WAt b l w) (hlen : l.length + s.size ≤ 140737488355328) :
    Calls Try.prog 161 #[self b, .string s] w fun e w' => e = .returned (.tuple #[.int .i64 s.size, .nilIface]) ∧ WAt b (l ++ bl s) w' ∧ Below b w w' := by
  obtain ⟨i0, hi, hz0, hz1, hz2⟩ := info_parts infoU8
  unfold self
  go_enter Try.func161, Try.ntmps161
  go_wp2_with fail
  refine (copyCheck_any b l _ h).mono ?_
  rintro e w1 ⟨rfl, ⟨v, h1⟩, hb1⟩
  obtain ⟨hbk, hown, hne, hnil⟩ := h1
  have c0 : w1.cell? ⟨b, 0, none⟩ = some (.pointer (some ⟨b, 0, none⟩)) := by rw [Lib.cell_of_heap hbk]; rfl
  have c1 : w1.cell? ⟨b, 1, none⟩ = some v := by rw [Lib.cell_of_heap hbk]; rfl
  have HN := Aside0.mk hnil
  have hlt := lt_of_block hbk
  have hsz := hb1.size
  clear hnil h
  go_wp2_with (at_builtin; refine Lib.wpList_append_own_stringF _ rfl _ _ 25 9 rfl b 5 i0 Try.underlying25 Try.underlying9 hi hz0 hz1 hz2 _ _ _ rfl hown s rfl ?c3 ?c4 ?c5 ?_)
  case c3 => unfold maxLen; omega
  case c4 => omega
  case c5 => omega
  intro v' w2 hown' hgrow hvn
  have HV := Aside0.mk hvn
  clear hvn
  have hb2 : w2.heap[b]? = some (.cells #[.pointer (some ⟨b, 0, none⟩), v] 82 (0, 0)) := by
    rw [hgrow.block b hlt (fun e => hne e.symm)]
    exact hbk
  have d0 : w2.cell? ⟨b, 0, none⟩ = some (.pointer (some ⟨b, 0, none⟩)) := by rw [Lib.cell_of_heap hb2]; rfl
  have d1 : w2.cell? ⟨b, 1, none⟩ = some v := by rw [Lib.cell_of_heap hb2]; rfl
  have f1 : w2.frozen? ⟨b, 1, none⟩ = false := Lib.frozen_of_heap hb2 1
  obtain ⟨ao, n', cap, rfl⟩ : ∃ ao n' cap, v' = .slice ao n' cap := by
    rcases hown'.2 with ⟨hv, _⟩ | ⟨g, cap, cur, fz, hv, _⟩
    · exact ⟨_, _, _, hv⟩
    · exact ⟨_, _, _, hv⟩
  go_wp2
  go_ret2
  refine ⟨rfl, ⟨_, .inr (WP.put (l := l ++ bl s) hb2 (by rw [List.length_append, bl_length]; simpa [Lib.byteCells, Lib.strCells, bl] using hown') (fun h => ?_))⟩, ?_⟩
  · obtain ⟨h1, h2⟩ := List.append_eq_nil_iff.1 h
    exact HV.out.2 ⟨HN.out h1, ByteArray.ext (by simpa [bl] using h2)⟩
  exact (hb1.grown hgrow (by omega) (fun k hk => (hown.lt k hk).1)).setCell (p := ⟨b, 1, none⟩) (Nat.le_refl _) _

set_option maxHeartbeats 1000000 in
set_option maxRecDepth 100000 in
theorem BString_some (b : Nat) (l : List UInt8) (w : World) (h : WAt b l w) (h0 : l ≠ []) :
    Calls Try.prog 140 #[self b] w fun e w' => e = .returned (.string ⟨l.toArray⟩) ∧ WAt b l w' ∧ Below b w w' := by
  obtain ⟨p, v, hp, hbk, hown, hne, hnil⟩ : ∃ p v, (p = .pointer none ∨ p = self b) ∧ WP b p v l w := by
    obtain ⟨v, h | h⟩ := h
    · exact ⟨_, v, .inl rfl, h⟩
    · exact ⟨_, v, .inr rfl, h⟩
  have hl0 : l.length ≠ 0 := by simpa using h0
  obtain ⟨g, cap, cur, fz, rfl, hbg, hg, hfz, hnc, hcm, hcs, htake⟩ : ∃ g cap cur fz, v = .slice (some ⟨g, 0, none⟩) l.length cap ∧ b ≤ g ∧ w.heap[g]? = some (.cells cur 5 fz) ∧ fz.2 ≤ l.length * 1 ∧ l.length ≤ cap ∧ cap ≤ maxLen ∧ cur.size = cap * 1 ∧ cur.toList.take (l.length * 1) = Lib.byteCells l := by
    rcases hown.2 with ⟨_, hz⟩ | ⟨g, cap, cur, fz, hv, r⟩
    · exact absurd hz hl0
    · exact ⟨g, cap, cur, fz, hv, r⟩
  have c1 : w.drew.cell? ⟨b, 1, none⟩ = some (.slice (some ⟨g, 0, none⟩) l.length cap) := by
    have : w.drew.heap[b]? = some (.cells #[p, .slice (some ⟨g, 0, none⟩) l.length cap] 82 (0, 0)) := hbk
    rw [Lib.cell_of_heap this]; rfl
  have hSD : (Builtin.unsafeSliceData_ #[25] 187 #[.slice (some ⟨g, 0, none⟩) l.length cap]).run Try.prog w.drew = .ok (.pointer (some ⟨g, 0, none⟩)) w.drew :=
    Lib.run_unsafeSliceData_row _ _ _ _ _ _ (by omega)
  have hUS : (Builtin.unsafeString_ #[187, 3] 9 #[.pointer (some ⟨g, 0, none⟩), .int .i64 l.length]).run Try.prog w.drew = .ok (.string ⟨l.toArray⟩) (w.drew.freeze ⟨g, 0, none⟩ l.length) := by
    refine Lib.run_unsafeString_row w.drew 187 3 9 5 Try.underlying187 (by kernel_rfl) g cur.size (by have hg' : w.drew.heap[g]? = some (.cells cur 5 fz) := hg; simp [World.shape?, hg']) l h0 (by omega) (by unfold maxLen at hcm; omega) ?_
    intro j x hx
    have := hown.cells (g := g) rfl j (.int .u8 x.toNat) (by simp [Lib.byteCells, hx])
    exact this
  have hkeep : WAt b l (w.drew.freeze ⟨g, 0, none⟩ l.length) := by
    have hA : Lib.BuilderAtF 82 5 b b p (Lib.byteCells l) w.drew := ⟨Nat.le_refl _, _, hbk, by rw [Lib.byteCells_length]; exact hown, hne⟩
    have hF := hA.froze (g := g) (cap := cap) (by rw [Lib.byteCells_length]; exact c1)
    rw [Lib.byteCells_length] at hF
    obtain ⟨_, v2, f1, f2, f3⟩ := hF
    rw [Lib.byteCells_length] at f2
    rcases hp with rfl | rfl
    · exact ⟨v2, .inl ⟨f1, f2, f3, fun e => absurd e h0⟩⟩
    · exact ⟨v2, .inr ⟨f1, f2, f3, fun e => absurd e h0⟩⟩
  have HK := Lib.hid hkeep
  have hkB : Below b w (w.drew.freeze ⟨g, 0, none⟩ l.length) := Lib.below_freeze (Below.drew (Below.refl b w)) (p := ⟨g, 0, none⟩) hbg _
  have HKB := Lib.hid hkB
  clear hkeep hkB hown hnil hne hp hfz hnc hcm hcs htake hbk hg h
  unfold self
  go_enter Try.func140, Try.ntmps140
  go_wp2
  go_region
  all_goals (go_wp2; go_ret; exact ⟨rfl, HK.out, HKB.out⟩)

set_option maxHeartbeats 1000000 in
set_option maxRecDepth 100000 in
theorem BString_none (b : Nat) (w : World) (h : WAt b [] w) :
    Calls Try.prog 140 #[self b] w fun e w' => e = .returned (.string ⟨#[]⟩) ∧ WAt b [] w' ∧ Below b w w' := by
  obtain ⟨p, v, hp, hbk, hown, hne, hnil⟩ : ∃ p v, (p = .pointer none ∨ p = self b) ∧ WP b p v [] w := by
    obtain ⟨v, h | h⟩ := h
    · exact ⟨_, v, .inl rfl, h⟩
    · exact ⟨_, v, .inr rfl, h⟩
  obtain rfl := hnil rfl
  have c1 : w.drew.cell? ⟨b, 1, none⟩ = some (.slice none 0 0) := by
    have : w.drew.heap[b]? = some (.cells #[p, .slice none 0 0] 82 (0, 0)) := hbk
    rw [Lib.cell_of_heap this]; rfl
  have hSD : (Builtin.unsafeSliceData_ #[25] 187 #[.slice none 0 0]).run Try.prog w.drew = .ok (.pointer none) w.drew := rfl
  have hUS : (Builtin.unsafeString_ #[187, 3] 9 #[.pointer none, .int .i64 0]).run Try.prog w.drew = .ok (.string ⟨#[]⟩) w.drew := Lib.run_unsafeString_none w.drew _ _ _ none
  have HK := Lib.hid h
  clear hown hnil hne hp hbk h
  unfold self
  go_enter Try.func140, Try.ntmps140
  go_wp2
  go_region
  all_goals (go_wp2; go_ret; exact ⟨rfl, HK.out, (Below.refl b w).drew⟩)

theorem BString_calls (b : Nat) (l : List UInt8) (w : World) (h : WAt b l w) :
    Calls Try.prog 140 #[self b] w fun e w' => e = .returned (.string ⟨l.toArray⟩) ∧ WAt b l w' ∧ Below b w w' := by
  cases l with
  | nil => exact BString_none b w h
  | cons x r => exact BString_some b (x :: r) w h (by simp)

set_option maxHeartbeats 1000000 in
theorem BLen_calls (b : Nat) (l : List UInt8) (w : World) (h : WAt b l w) :
    Calls Try.prog 141 #[self b] w fun e w' => e = .returned (.int .i64 (l.length : Int)) ∧ w' = w := by
  obtain ⟨p, v, hbk, hown, hne, hnil⟩ : ∃ p v, WP b p v l w := by
    obtain ⟨v, h | h⟩ := h
    · exact ⟨_, v, h⟩
    · exact ⟨_, v, h⟩
  obtain ⟨ao, cap, rfl⟩ : ∃ ao cap, v = .slice ao l.length cap := by
    rcases hown.2 with ⟨hv, h0⟩ | ⟨g, cap, cur, fz, hv, _⟩
    · exact ⟨none, 0, by rw [hv, h0]⟩
    · exact ⟨_, _, hv⟩
  have c1 : w.cell? ⟨b, 1, none⟩ = some (.slice ao l.length cap) := by rw [Lib.cell_of_heap hbk]; rfl
  clear hown hnil hne hbk h
  unfold self
  go_enter Try.func141, Try.ntmps141
  go_wp2
  go_ret
  exact ⟨rfl, rfl⟩

set_option maxHeartbeats 400000 in
theorem Writer_Text.calls (b : Nat) (l : List UInt8) (s : ByteArray) (w : World) (h : WAt b l w) (hlen : l.length + s.size ≤ 140737488355328) :
    Calls Try.prog 136 #[self b, .string s] w fun e w' => e = .returned (.tuple #[]) ∧ WAt b (l ++ bl s) w' ∧ Below b w w' := by
  unfold self
  go_enter Try.func136, Try.ntmps136
  go_wp2_with fail
  refine (WriteString_calls b l s w h hlen).mono ?_
  rintro e w1 ⟨rfl, h1, h2⟩
  have H1 := Lib.hid h1
  have H2 := Lib.hid h2
  clear h1 h2 h
  go_wp2
  go_end0
  exact ⟨rfl, H1.out, H2.out⟩

set_option maxHeartbeats 400000 in
theorem Writer_String.calls (b : Nat) (l : List UInt8) (w : World) (h : WAt b l w) :
    Calls Try.prog 80 #[self b] w fun e w' => e = .returned (.string ⟨l.toArray⟩) ∧ WAt b l w' ∧ Below b w w' := by
  unfold self
  go_enter Try.func80, Try.ntmps80
  go_wp2_with fail
  refine (BString_calls b l w h).mono ?_
  rintro e w1 ⟨rfl, h1, h2⟩
  have H1 := Lib.hid h1
  have H2 := Lib.hid h2
  clear h1 h2 h
  go_wp2
  go_ret
  exact ⟨rfl, H1.out, H2.out⟩

set_option maxHeartbeats 400000 in
theorem Writer_Len.calls (b : Nat) (l : List UInt8) (w : World) (h : WAt b l w) :
    Calls Try.prog 81 #[self b] w fun e w' => e = .returned (.int .i64 (l.length : Int)) ∧ w' = w := by
  unfold self
  go_enter Try.func81, Try.ntmps81
  go_wp2_with fail
  refine (BLen_calls b l w h).mono ?_
  rintro e w1 ⟨rfl, rfl⟩
  go_wp2
  go_ret
  exact ⟨rfl, rfl⟩

theorem byte_at (n k : Nat) : IntKind.u8.wrap ((n : Int) / 2 ^ (8 * (k : Int)).toNat) = ((UInt8.ofNat (n / 256 ^ k)).toNat : Int) := by
  have e1 : (8 * (k : Int)).toNat = 8 * k := by omega
  rw [e1, show ((2 : Int) ^ (8 * k)) = ((2 ^ (8 * k) : Nat) : Int) from by simp, Nat.pow_mul, IntKind.wrap_u8]
  simp
set_option maxHeartbeats 800000 in
set_option maxRecDepth 100000 in
theorem Writer_number.calls (b : Nat) (l : List UInt8) (n m : Nat) (w : World) (h : WAt b l w) (hn : n < 18446744073709551616) (hm : m ≤ 8) (hlen : l.length + m ≤ 140737488355328) :
    Calls Try.prog 160 #[self b, .int .u64 (n : Int), .int .i64 (m : Int)] w fun e w' => e = .returned (.tuple #[]) ∧ WAt b (l ++ nb m n) w' ∧ Below b w w' := by
  have H := Lib.hid h
  clear h
  unfold self
  go_enter Try.func160, Try.ntmps160
  go_wp2
  go_loopg [6] m (fun kq v6 wr => ∃ j : Nat, v6 = .int .i64 ((m : Int) - 1 - j) ∧ Aside0 (j + kq = m) ∧ Hid (WAt b (l ++ (nb m n).take j) wr) ∧ Hid (Below b w wr))
  case atStart => exact ⟨0, by simp, ⟨by omega⟩, by rw [List.take_zero, List.append_nil]; exact H, Lib.hid (Below.refl _ _)⟩
  case round =>
    obtain ⟨j, rfl, HK, HW, HB⟩ := hrel
    by_cases hlt : j < m
    · rw [show ((m : Int) - 1 - j) = ((m - 1 - j : Nat) : Int) from by omega]
      have HT : Aside0 ((nb m n).take (j + 1) = (nb m n).take j ++ [UInt8.ofNat (n / 256 ^ (m - 1 - j))]) := ⟨nb_take_succ m j n hlt⟩
      have HKK : Aside0 (m - 1 - j + j + 1 = m) := ⟨by omega⟩
      have hk7 : m - 1 - j ≤ 7 := by omega
      generalize m - 1 - j = k at HT HKK hk7 ⊢
      have hw8 : IntKind.i64.wrap (8 * (k : Int)) = 8 * (k : Int) := wraps_i64 _ (by omega) (by omega)
      go_wp2_with fail
      go_still_tail 8, (by kernel_rfl)
      change wpList _ _ _ _ _ wr.drew
      rw [byte_at n k]
      generalize UInt8.ofNat (n / 256 ^ k) = c at HT ⊢
      have hW1 : WAt b (l ++ (nb m n).take j) wr.drew := HW.out
      have hlen1 : (l ++ (nb m n).take j).length + 1 ≤ 140737488355328 := by rw [List.length_append, List.length_take, nb_length]; omega
      go_wp2_with fail
      refine (WriteByte_calls b _ c _ hW1 hlen1).mono ?_
      rintro e w1 ⟨rfl, h1, h2⟩
      have H1 := Lib.hid h1
      have H2 := Lib.hid h2
      clear h1 h2 hW1 hlen1 hw8
      go_wp2
      go_roundg k
      case measure => have := HK.out; have := HKK.out; omega
      case rel => exact ⟨j + 1, by rw [show ((m : Int) - 1 - ((j + 1 : Nat) : Int)) = (k : Int) - 1 from by have := HKK.out; omega], ⟨by have := HKK.out; omega⟩, by rw [HT.out, ← List.append_assoc]; exact H1, Lib.hid ((HB.out.drew).trans H2.out)⟩
    · have HT : Aside0 ((nb m n).take j = nb m n) := ⟨List.take_of_length_le (by rw [nb_length]; omega)⟩
      rw [HT.out] at HW
      go_wp2
      go_end0
      exact ⟨rfl, HW.out, HB.out⟩

set_option maxHeartbeats 400000 in
theorem Writer_U8.calls (b : Nat) (l : List UInt8) (x : Int) (w : World) (h : WAt b l w) (hlen : l.length + 1 ≤ 140737488355328) :
    Calls Try.prog 135 #[self b, .int .i64 x] w fun e w' => e = .returned (.tuple #[]) ∧ WAt b (l ++ nb 1 (IntKind.u64.wrap x).toNat) w' ∧ Below b w w' := by
  obtain ⟨n, hn, e1⟩ : ∃ n : Nat, n < 18446744073709551616 ∧ IntKind.u64.wrap x = (n : Int) := ⟨(IntKind.u64.wrap x).toNat, by rw [IntKind.wrap_u64]; omega, by rw [IntKind.wrap_u64]; omega⟩
  unfold self
  rw [e1, Int.toNat_natCast]
  go_enter Try.func135, Try.ntmps135
  go_wp2_with fail
  refine (Writer_number.calls b l n 1 _ h hn (by decide) hlen).mono ?_
  rintro e w1 ⟨rfl, h1, h2⟩
  have H1 := Lib.hid h1
  have H2 := Lib.hid h2
  clear h1 h2 h
  go_wp2
  go_end0
  exact ⟨rfl, H1.out, H2.out⟩
set_option maxHeartbeats 400000 in
theorem Writer_U16.calls (b : Nat) (l : List UInt8) (x : Int) (w : World) (h : WAt b l w) (hlen : l.length + 2 ≤ 140737488355328) :
    Calls Try.prog 137 #[self b, .int .i64 x] w fun e w' => e = .returned (.tuple #[]) ∧ WAt b (l ++ nb 2 (IntKind.u64.wrap x).toNat) w' ∧ Below b w w' := by
  obtain ⟨n, hn, e1⟩ : ∃ n : Nat, n < 18446744073709551616 ∧ IntKind.u64.wrap x = (n : Int) := ⟨(IntKind.u64.wrap x).toNat, by rw [IntKind.wrap_u64]; omega, by rw [IntKind.wrap_u64]; omega⟩
  unfold self
  rw [e1, Int.toNat_natCast]
  go_enter Try.func137, Try.ntmps137
  go_wp2_with fail
  refine (Writer_number.calls b l n 2 _ h hn (by decide) hlen).mono ?_
  rintro e w1 ⟨rfl, h1, h2⟩
  have H1 := Lib.hid h1
  have H2 := Lib.hid h2
  clear h1 h2 h
  go_wp2
  go_end0
  exact ⟨rfl, H1.out, H2.out⟩
set_option maxHeartbeats 400000 in
theorem Writer_U32.calls (b : Nat) (l : List UInt8) (x : Int) (w : World) (h : WAt b l w) (h0 : 0 ≤ x) (hx : x < 4294967296) (hlen : l.length + 4 ≤ 140737488355328) :
    Calls Try.prog 134 #[self b, .int .u32 x] w fun e w' => e = .returned (.tuple #[]) ∧ WAt b (l ++ nb 4 (IntKind.u64.wrap x).toNat) w' ∧ Below b w w' := by
  obtain ⟨n, hn, e1⟩ : ∃ n : Nat, n < 18446744073709551616 ∧ IntKind.u64.wrap x = (n : Int) := ⟨(IntKind.u64.wrap x).toNat, by rw [IntKind.wrap_u64]; omega, by rw [IntKind.wrap_u64]; omega⟩
  have e2 : x = (n : Int) := by rw [← e1, IntKind.wrap_u64]; omega
  unfold self
  rw [e1, Int.toNat_natCast]
  go_enter Try.func134, Try.ntmps134
  go_wp2_with fail
  rw [e2]
  refine (Writer_number.calls b l n 4 _ h hn (by decide) hlen).mono ?_
  rintro e w1 ⟨rfl, h1, h2⟩
  have H1 := Lib.hid h1
  have H2 := Lib.hid h2
  clear h1 h2 h
  go_wp2
  go_end0
  exact ⟨rfl, H1.out, H2.out⟩
set_option maxHeartbeats 400000 in
theorem Writer_U64.calls (b : Nat) (l : List UInt8) (x : Int) (w : World) (h : WAt b l w) (h0 : 0 ≤ x) (hx : x < 18446744073709551616) (hlen : l.length + 8 ≤ 140737488355328) :
    Calls Try.prog 139 #[self b, .int .u64 x] w fun e w' => e = .returned (.tuple #[]) ∧ WAt b (l ++ nb 8 (IntKind.u64.wrap x).toNat) w' ∧ Below b w w' := by
  obtain ⟨n, hn, e1⟩ : ∃ n : Nat, n < 18446744073709551616 ∧ IntKind.u64.wrap x = (n : Int) := ⟨(IntKind.u64.wrap x).toNat, by rw [IntKind.wrap_u64]; omega, by rw [IntKind.wrap_u64]; omega⟩
  have e2 : x = (n : Int) := by rw [← e1, IntKind.wrap_u64]; omega
  unfold self
  rw [e1, Int.toNat_natCast]
  go_enter Try.func139, Try.ntmps139
  go_wp2_with fail
  rw [e2]
  refine (Writer_number.calls b l n 8 _ h hn (by decide) hlen).mono ?_
  rintro e w1 ⟨rfl, h1, h2⟩
  have H1 := Lib.hid h1
  have H2 := Lib.hid h2
  clear h1 h2 h
  go_wp2
  go_end0
  exact ⟨rfl, H1.out, H2.out⟩

/-- A whole number as a writer takes it. -/
def u64n (x : Int) : Nat := (IntKind.u64.wrap x).toNat
/-- A writer that has just been made. -/
theorem WAt.new (w : World) : WAt w.heap.size [] (w.alloc (.cells #[.pointer none, .slice none 0 0] 82)) :=
  ⟨.slice none 0 0, .inl ⟨heap_alloc_new w _, ⟨by simp [Lib.byteCells], .inl ⟨rfl, rfl⟩⟩, by simp [Value.ownBlock], fun _ => rfl⟩⟩
theorem WAt.drew {b : Nat} {l : List UInt8} {w : World} (h : WAt b l w) : WAt b l w.drew := h
theorem WAt.drewN {b : Nat} {l : List UInt8} {w : World} (h : WAt b l w) (n : Nat) : WAt b l (w.drewN n) := h
/-- While a function writes: its struct parameter in block a, its writer in block b; below B all is as it was. -/
def WS (B a b : Nat) (w w1 : World) (T : TypeId) (cs : Array Value) (l : List UInt8) : Prop := (WAt b l w1 ∧ Blk w1 a T cs ∧ Below B w w1) ∧ a < b ∧ B ≤ b
theorem WS.next {B a b : Nat} {w w1 w2 : World} {T : TypeId} {cs : Array Value} {l l' : List UInt8} (h : WS B a b w w1 T cs l) (h1 : WAt b l' w2) (h2 : Below b w1 w2) : WS B a b w w2 T cs l' :=
  ⟨⟨h1, h.1.2.1.below h2 h.2.1, h.1.2.2.trans (h2.mono h.2.2)⟩, h.2⟩
theorem WS.startAt {B a : Nat} {w w1 : World} {T : TypeId} {cs : Array Value} (h : Blk w1 a T cs) (hB : Below B w w1) (hs : B ≤ w1.heap.size) : WS B a w1.heap.size w (w1.alloc (.cells #[.pointer none, .slice none 0 0] 82)) T cs [] :=
  ⟨⟨WAt.new w1, h.alloc _, hB.alloc hs _⟩, h.lt, hs⟩
theorem WS.start (w : World) (T : TypeId) (cs : Array Value) : WS w.heap.size w.heap.size (w.heap.size + 1) w ((w.alloc (.cells cs T)).alloc (.cells #[.pointer none, .slice none 0 0] 82)) T cs [] := by
  have h := WS.startAt (Blk.new w T cs) ((Below.refl _ _).alloc (Nat.le_refl _) _) (by simp)
  rwa [World.size_alloc] at h
end Go.Proofs.Ytejmipoolbodgaa.G
end

section
/- By hand: wire's Reader: each method's contract over a reader's block. -/
namespace Go.Proofs.Ytejmipoolbodgaa.G
open Go.RowKit Go.Proofs.YtejmipoolbodgaaW.PrintWords Go.Proofs.YtejmipoolbodgaaW.PrintLast Go.Proofs.YtejmipoolbodgaaW.PrintMore Go.Proofs.Ytejmipoolbodgaa.Pal
set_option linter.unusedVariables false
set_option linter.unusedSimpArgs false

/-- Block R is a reader of s that has read so many bytes. -/
def Rd (w : World) (R : Nat) (s : ByteArray) (n : Nat) : Prop := Blk w R 157 #[.string s, .int .i64 (n : Int)] ∧ n ≤ s.size ∧ s.size ≤ 140737488351232
def stopV (e : Int) : Value := .iface 155 (.agg #[.int .i64 e])
def stopped (e : Int) : Ending := .panicked [{ v := stopV e, recovered := false }]
theorem Rd.facts {w : World} {R : Nat} {s : ByteArray} {n : Nat} (h : Rd w R s n) :
    w.cell? ⟨R, 0, none⟩ = some (.string s) ∧ w.cell? ⟨R, 1, none⟩ = some (.int .i64 (n : Int)) ∧ w.frozen? ⟨R, 1, none⟩ = false :=
  ⟨h.1.cell 0 _ rfl, h.1.cell 1 _ rfl, h.1.free 1⟩
theorem Rd.step {w : World} {R : Nat} {s : ByteArray} {n : Nat} (h : Rd w R s n) (m : Nat) (hm : m ≤ s.size) : Rd (w.setCell ⟨R, 1, none⟩ (.int .i64 (m : Int))) R s m := ⟨h.1.set 1 _, hm, h.2.2⟩
theorem Rd.below {w w' : World} {R : Nat} {s : ByteArray} {n : Nat} (h : Rd w R s n) (hb : Below w.heap.size w w') : Rd w' R s n := ⟨h.1.below hb h.1.lt, h.2⟩

set_option maxHeartbeats 400000 in
theorem Reader_Left.calls (R : Nat) (s : ByteArray) (n : Nat) (w : World) (h : Rd w R s n) :
    Calls Try.prog 53 #[.pointer (some ⟨R, 0, none⟩)] w fun e w' => e = .returned (.int .i64 ((s.size : Int) - n)) ∧ ∃ k, w' = w.drewN k := by
  obtain ⟨c0, c1, c2⟩ := h.facts
  have hn := h.2.1
  have hs := h.2.2
  clear h
  go_enter Try.func53, Try.ntmps53
  go_wp2
  go_quiet (fail)
  go_wp2
  go_ret
  exact ⟨rfl, _, rfl⟩

set_option maxHeartbeats 400000 in
theorem Reader_Need.yes (R : Nat) (e : Int) (w : World) :
    Calls Try.prog 50 #[.pointer (some ⟨R, 0, none⟩), .bool true, .int .i64 e] w fun e w' => e = .returned (.tuple #[]) ∧ w' = w := by
  go_enter Try.func50, Try.ntmps50
  go_wp2
  go_end0
  exact ⟨rfl, rfl⟩

set_option maxHeartbeats 400000 in
theorem Reader_Need.no (R : Nat) (e : Int) (w : World) :
    Calls Try.prog 50 #[.pointer (some ⟨R, 0, none⟩), .bool false, .int .i64 e] w fun e1 w' => e1 = stopped e ∧ w' = w := by
  go_enter Try.func50, Try.ntmps50
  go_wp2
  exact ⟨rfl, rfl, rfl⟩

set_option maxHeartbeats 800000 in
theorem Reader_Take.yes (R : Nat) (s : ByteArray) (n : Nat) (m : Nat) (w : World) (h : Rd w R s n) (hm : n + m ≤ s.size) :
    Calls Try.prog 49 #[.pointer (some ⟨R, 0, none⟩), .int .i64 (m : Int)] w fun e w' =>
      e = .returned (.string (s.extract n (n + m))) ∧ ∃ k j, w' = ((w.drewN k).setCell ⟨R, 1, none⟩ (.int .i64 ((n + m : Nat) : Int))).drewN j := by
  have hn := h.2.1
  have hs := h.2.2
  have g1 : decide ((0 : Int) ≤ (m : Int)) = true := by simp
  have g2 : decide ((m : Int) ≤ (s.size : Int) - n) = true := by simp; omega
  go_enter Try.func49, Try.ntmps49
  go_wp2_with fail
  refine (Reader_Left.calls R s n _ h).mono ?_
  rintro e w1 ⟨rfl, k, rfl⟩
  have h1 := (show Rd (w.drewN k) R s n from h)
  go_wp2_with fail
  refine (Reader_Need.yes R 2 _).mono ?_
  rintro e w1 ⟨rfl, hw⟩
  subst hw
  obtain ⟨c0, c1, c2⟩ := h1.facts
  have h2 := h1.step (n + m) hm
  obtain ⟨d0, d1, d2⟩ := h2.facts
  have e1 : (((n + m : Nat) : Int)) = (n : Int) + m := by omega
  rw [e1] at d0 d1
  have h2' := Aside0.mk h2
  clear h2 h1 h
  go_wp2
  have hwn : IntKind.i64.wrap (n : Int) = n := wraps_i64 _ (by omega) (by omega)
  have hsl : ∀ wx : World, (Instr.slice 9 (.string s) (some (.int .i64 (n : Int))) (some (.int .i64 ((n : Int) + m))) none).run Try.prog wx = .ok (.string (s.extract n (n + m))) wx := fun wx => by
    have := run_slice_string (P := Try.prog) wx 9 s .i64 .i64 (n : Int) ((n : Int) + m) Try.underlying9 (by omega) (by omega) (by omega)
    rwa [Int.toNat_natCast, ← e1, Int.toNat_natCast] at this
  go_quiet (fail)
  clear hwn hsl
  go_wp2
  go_ret
  exact ⟨rfl, _, _, by rw [e1]⟩

set_option maxHeartbeats 800000 in
theorem Reader_Take.no (R : Nat) (s : ByteArray) (n : Nat) (m : Int) (w : World) (h : Rd w R s n) (hm : m < 0 ∨ (s.size : Int) < n + m) :
    Calls Try.prog 49 #[.pointer (some ⟨R, 0, none⟩), .int .i64 m] w fun e w' =>
      e = stopped 2 ∧ ∃ k, w' = w.drewN k := by
  have hn := h.2.1
  have hs := h.2.2
  by_cases h0 : 0 ≤ m
  · have g1 : decide ((0 : Int) ≤ m) = true := by simp; omega
    have g2 : decide (m ≤ (s.size : Int) - n) = false := by simp; omega
    clear h0 hm
    go_enter Try.func49, Try.ntmps49
    go_wp2_with fail
    refine (Reader_Left.calls R s n _ h).mono ?_
    rintro e w1 ⟨rfl, k, rfl⟩
    go_wp2_with fail
    refine (Reader_Need.no R 2 _).mono ?_
    rintro e w1 ⟨rfl, hw⟩
    subst hw
    exact ⟨rfl, rfl, _, rfl⟩
  · have g1 : decide ((0 : Int) ≤ m) = false := by simp; omega
    clear h0 hm
    go_enter Try.func49, Try.ntmps49
    go_wp2_with fail
    refine (Reader_Need.no R 2 _).mono ?_
    rintro e w1 ⟨rfl, hw⟩
    subst hw
    exact ⟨rfl, rfl, 0, rfl⟩

set_option maxHeartbeats 400000 in
theorem Reader_At.calls (R : Nat) (s : ByteArray) (n : Nat) (w : World) (h : Rd w R s n) :
    Calls Try.prog 54 #[.pointer (some ⟨R, 0, none⟩)] w fun e w' => e = .returned (.int .i64 (n : Int)) ∧ ∃ k, w' = w.drewN k := by
  obtain ⟨c0, c1, c2⟩ := h.facts
  clear h
  go_enter Try.func54, Try.ntmps54
  go_wp2
  go_ret
  exact ⟨rfl, 0, rfl⟩

/-- What a reading that goes on leaves: so many bytes more are read; of the other blocks all is as it was. -/
def Went (w w' : World) (R : Nat) (s : ByteArray) (n : Nat) : Prop := w.grownBy w' (some R) ∧ Rd w' R s n
theorem Went.take {w : World} {R : Nat} {s : ByteArray} {n : Nat} (h : Rd w R s n) (m : Nat) (hm : n + m ≤ s.size) (k j : Nat) :
    Went w (((w.drewN k).setCell ⟨R, 1, none⟩ (.int .i64 ((n + m : Nat) : Int))).drewN j) R s (n + m) :=
  ⟨grown_drewN (World.grownBy.trans (grown_drewN (grown_refl w _) k) (grown_setCell _ _ _ _)) j, ((show Rd (w.drewN k) R s n from h).step (n + m) hm)⟩

set_option maxHeartbeats 400000 in
theorem Reader_Rest.calls (R : Nat) (s : ByteArray) (n : Nat) (w : World) (h : Rd w R s n) :
    Calls Try.prog 51 #[.pointer (some ⟨R, 0, none⟩)] w fun e w' => e = .returned (.string (s.extract n s.size)) ∧ Went w w' R s s.size := by
  have hn := h.2.1
  go_enter Try.func51, Try.ntmps51
  go_wp2_with fail
  refine (Reader_Left.calls R s n _ h).mono ?_
  rintro e w1 ⟨rfl, k, rfl⟩
  have h1 := (show Rd (w.drewN k) R s n from h)
  go_wp2_with fail
  rw [show ((s.size : Int) - n) = ((s.size - n : Nat) : Int) from by omega]
  refine (Reader_Take.yes R s n (s.size - n) _ h1 (by omega)).mono ?_
  rintro e w1 ⟨rfl, k1, j1, rfl⟩
  have HW := Aside0.mk (Went.take h1 (s.size - n) (by omega) k1 j1)
  have hsz : n + (s.size - n) = s.size := by omega
  rw [hsz] at HW ⊢
  generalize (((w.drewN k).drewN k1).setCell ⟨R, 1, none⟩ (.int .i64 ((s.size : Nat) : Int))).drewN j1 = w2 at HW ⊢
  clear hsz
  go_wp2
  go_ret
  exact ⟨rfl, World.grownBy.trans (grown_drewN (grown_refl w _) k) HW.out.1, HW.out.2⟩

theorem shl_or (x : Nat) (b : UInt8) (hx : x < 72057594037927936) : Go.bits .or .u64 ((x : Int) * 256) (b.toNat : Int) = ((x * 256 + b.toNat : Nat) : Int) := by
  have hb := b.toNat_lt
  have e := u64_or_nat (x * 256) b.toNat (by omega) (by omega)
  rw [nat_join 8 (x * 256) b.toNat (by omega) (by omega)] at e
  rw [← e]
  simp
theorem bl_extract (s : ByteArray) (n m : Nat) : bl (s.extract n m) = ((bl s).take m).drop n := by
  simp [bl, ByteArray.data_extract, List.drop_take]

set_option maxHeartbeats 800000 in
theorem Reader_number.yes (R : Nat) (s : ByteArray) (n : Nat) (m : Nat) (w : World) (h : Rd w R s n) (hm : n + m ≤ s.size) (h8 : m ≤ 8) :
    Calls Try.prog 158 #[.pointer (some ⟨R, 0, none⟩), .int .i64 (m : Int)] w fun e w' =>
      e = .returned (.int .u64 (be (bl (s.extract n (n + m))) : Nat)) ∧ Went w w' R s (n + m) := by
  have hs := h.2.2
  go_enter Try.func158, Try.ntmps158
  go_wp2_with fail
  refine (Reader_Take.yes R s n m _ h hm).mono ?_
  rintro e w1 ⟨rfl, k1, j1, rfl⟩
  have HW := Aside0.mk (Went.take h m hm k1 j1)
  have hsz : (s.extract n (n + m)).size = m := by simp only [ByteArray.size_extract]; omega
  generalize ((w.drewN k1).setCell ⟨R, 1, none⟩ (.int .i64 ((n + m : Nat) : Int))).drewN j1 = w2 at HW ⊢
  generalize hte : s.extract n (n + m) = t at hsz ⊢
  have HE := Aside0.mk hte
  have HS := Aside0.mk hsz
  clear hsz h hte
  have hcv := fun (wx : World) => Lib.run_convert_string_bytes (P := Try.prog) wx 9 25 5 t Try.underlying9 Try.underlying25 Try.underlying5
  go_wp2
  clear hcv
  have hB : Below w2.heap.size w2 (Lib.bytesWorld w2 5 t) := ⟨rfl, rfl, rfl, by rw [Lib.bytesWorld_size]; omega, fun k hk => Lib.bytesWorld_at_old _ _ _ _ hk⟩
  have hC : ∀ j, j < t.size → (Lib.bytesWorld w2 5 t).cell? ⟨w2.heap.size, j, none⟩ = some (.int .u8 ((bl t).getD j 0).toNat) := fun j hj => Lib.bytesWorld_cell _ _ _ _ hj
  generalize Lib.bytesWorld w2 5 t = w3 at hB hC ⊢
  have HB := Aside0.mk hB
  have HC := Aside0.mk hC
  clear hB hC
  go_loopg [5, 13] t.size (fun kq v5 v13 wr => ∃ j : Nat, v13 = .int .i64 (j : Int) ∧ v5 = .int .u64 (be ((bl t).take j) : Nat) ∧ Aside0 (j + kq = t.size) ∧ Aside0 (wr = w3))
  case atStart => exact ⟨0, rfl, rfl, ⟨by omega⟩, ⟨rfl⟩⟩
  case round =>
    obtain ⟨j, rfl, rfl, HK, HEw⟩ := hrel
    obtain rfl := HEw.out
    clear HEw
    by_cases hlt : j < t.size
    · have hcell := HC.out j hlt
      have hx : be ((bl t).take j) < 72057594037927936 := by
        have := be_lt_of ((bl t).take j) 7 (by rw [List.length_take, bl_length]; have := HS.out; omega)
        simpa using this
      have HT : Aside0 ((bl t).take (j + 1) = (bl t).take j ++ [(bl t).getD j 0]) := ⟨by
        rw [List.take_succ_eq_append_getElem (by rw [bl_length]; exact hlt), List.getD_eq_getElem?_getD, List.getElem?_eq_getElem (by rw [bl_length]; exact hlt)]
        rfl⟩
      generalize (bl t).getD j 0 = b at hcell HT
      have hor := shl_or (be ((bl t).take j)) b hx
      have HN : Aside0 (be ((bl t).take (j + 1)) = be ((bl t).take j) * 256 + b.toNat) := ⟨by rw [HT.out, be_snoc]⟩
      generalize be ((bl t).take j) = x at hx hor HN ⊢
      have hw : wrap64 ((j : Int) + 1) = ((j + 1 : Nat) : Int) := by have := HS.out; unfold wrap64; omega
      go_wp2
      go_roundg (t.size - (j + 1))
      case measure => have := HK.out; omega
      case rel => exact ⟨j + 1, by rw [hw], by rw [show IntKind.u64.wrap (b.toNat : Int) = (b.toNat : Int) from by have := b.toNat_lt; exact wraps_u64 _ (by omega) (by omega), hor, HN.out], ⟨by omega⟩, ⟨rfl⟩⟩
    · have HT : Aside0 ((bl t).take j = bl t) := ⟨List.take_of_length_le (by rw [bl_length]; omega)⟩
      rw [HT.out]
      go_wp2
      go_ret
      exact ⟨by rw [← HE.out]; rfl, grown_of_below' HW.out.1 HB.out, HW.out.2.below HB.out⟩

set_option maxHeartbeats 800000 in
theorem Reader_number.no (R : Nat) (s : ByteArray) (n : Nat) (m : Nat) (w : World) (h : Rd w R s n) (hm : s.size < n + m) :
    Calls Try.prog 158 #[.pointer (some ⟨R, 0, none⟩), .int .i64 (m : Int)] w fun e w' =>
      e = stopped 2 ∧ ∃ k, w' = w.drewN k := by
  go_enter Try.func158, Try.ntmps158
  go_wp2_with fail
  refine (Reader_Take.no R s n m _ h (.inr (by omega))).mono ?_
  rintro e w1 ⟨rfl, k1, rfl⟩
  exact ⟨rfl, rfl, _, rfl⟩

theorem be_small_U8 (s : ByteArray) (n : Nat) : be (bl (s.extract n (n + 1))) < 256 := by
  have := be_lt_of (bl (s.extract n (n + 1))) 1 (by rw [bl_length]; simp only [ByteArray.size_extract]; omega)
  simpa using this

set_option maxHeartbeats 400000 in
theorem Reader_U8.yes (R : Nat) (s : ByteArray) (n : Nat) (w : World) (h : Rd w R s n) (hm : n + 1 ≤ s.size) :
    Calls Try.prog 126 #[.pointer (some ⟨R, 0, none⟩)] w fun e w' => e = .returned (.int .i64 (be (bl (s.extract n (n + 1))) : Nat)) ∧ Went w w' R s (n + 1) := by
  have hw : wrap64 ((be (bl (s.extract n (n + 1))) : Nat) : Int) = ((be (bl (s.extract n (n + 1))) : Nat) : Int) := by have := be_small_U8 s n; unfold wrap64; omega
  go_enter Try.func126, Try.ntmps126
  go_wp2_with fail
  refine (Reader_number.yes R s n 1 _ h hm (by decide)).mono ?_
  rintro e w1 ⟨rfl, hw1⟩
  have HW := Aside0.mk hw1
  clear hw1
  go_wp2
  go_ret
  exact ⟨by first | rfl | exact congrArg (fun z => Ending.returned (.int .i64 z)) hw, HW.out⟩
set_option maxHeartbeats 400000 in
theorem Reader_U8.no (R : Nat) (s : ByteArray) (n : Nat) (w : World) (h : Rd w R s n) (hm : s.size < n + 1) :
    Calls Try.prog 126 #[.pointer (some ⟨R, 0, none⟩)] w fun e w' => e = stopped 2 ∧ ∃ k, w' = w.drewN k := by
  go_enter Try.func126, Try.ntmps126
  go_wp2_with fail
  refine (Reader_number.no R s n 1 _ h hm).mono ?_
  rintro e w1 ⟨rfl, k1, rfl⟩
  exact ⟨rfl, rfl, _, rfl⟩

theorem be_small_U16 (s : ByteArray) (n : Nat) : be (bl (s.extract n (n + 2))) < 65536 := by
  have := be_lt_of (bl (s.extract n (n + 2))) 2 (by rw [bl_length]; simp only [ByteArray.size_extract]; omega)
  simpa using this

set_option maxHeartbeats 400000 in
theorem Reader_U16.yes (R : Nat) (s : ByteArray) (n : Nat) (w : World) (h : Rd w R s n) (hm : n + 2 ≤ s.size) :
    Calls Try.prog 127 #[.pointer (some ⟨R, 0, none⟩)] w fun e w' => e = .returned (.int .i64 (be (bl (s.extract n (n + 2))) : Nat)) ∧ Went w w' R s (n + 2) := by
  have hw : wrap64 ((be (bl (s.extract n (n + 2))) : Nat) : Int) = ((be (bl (s.extract n (n + 2))) : Nat) : Int) := by have := be_small_U16 s n; unfold wrap64; omega
  go_enter Try.func127, Try.ntmps127
  go_wp2_with fail
  refine (Reader_number.yes R s n 2 _ h hm (by decide)).mono ?_
  rintro e w1 ⟨rfl, hw1⟩
  have HW := Aside0.mk hw1
  clear hw1
  go_wp2
  go_ret
  exact ⟨by first | rfl | exact congrArg (fun z => Ending.returned (.int .i64 z)) hw, HW.out⟩
set_option maxHeartbeats 400000 in
theorem Reader_U16.no (R : Nat) (s : ByteArray) (n : Nat) (w : World) (h : Rd w R s n) (hm : s.size < n + 2) :
    Calls Try.prog 127 #[.pointer (some ⟨R, 0, none⟩)] w fun e w' => e = stopped 2 ∧ ∃ k, w' = w.drewN k := by
  go_enter Try.func127, Try.ntmps127
  go_wp2_with fail
  refine (Reader_number.no R s n 2 _ h hm).mono ?_
  rintro e w1 ⟨rfl, k1, rfl⟩
  exact ⟨rfl, rfl, _, rfl⟩

theorem be_small_U32 (s : ByteArray) (n : Nat) : be (bl (s.extract n (n + 4))) < 4294967296 := by
  have := be_lt_of (bl (s.extract n (n + 4))) 4 (by rw [bl_length]; simp only [ByteArray.size_extract]; omega)
  simpa using this

set_option maxHeartbeats 400000 in
theorem Reader_U32.yes (R : Nat) (s : ByteArray) (n : Nat) (w : World) (h : Rd w R s n) (hm : n + 4 ≤ s.size) :
    Calls Try.prog 130 #[.pointer (some ⟨R, 0, none⟩)] w fun e w' => e = .returned (.int .u32 (be (bl (s.extract n (n + 4))) : Nat)) ∧ Went w w' R s (n + 4) := by
  have hw : IntKind.u32.wrap ((be (bl (s.extract n (n + 4))) : Nat) : Int) = ((be (bl (s.extract n (n + 4))) : Nat) : Int) := by have := be_small_U32 s n; exact wraps_u32 _ (by omega) (by omega)
  go_enter Try.func130, Try.ntmps130
  go_wp2_with fail
  refine (Reader_number.yes R s n 4 _ h hm (by decide)).mono ?_
  rintro e w1 ⟨rfl, hw1⟩
  have HW := Aside0.mk hw1
  clear hw1
  go_wp2
  go_ret
  exact ⟨by first | rfl | exact congrArg (fun z => Ending.returned (.int .i64 z)) hw, HW.out⟩
set_option maxHeartbeats 400000 in
theorem Reader_U32.no (R : Nat) (s : ByteArray) (n : Nat) (w : World) (h : Rd w R s n) (hm : s.size < n + 4) :
    Calls Try.prog 130 #[.pointer (some ⟨R, 0, none⟩)] w fun e w' => e = stopped 2 ∧ ∃ k, w' = w.drewN k := by
  go_enter Try.func130, Try.ntmps130
  go_wp2_with fail
  refine (Reader_number.no R s n 4 _ h hm).mono ?_
  rintro e w1 ⟨rfl, k1, rfl⟩
  exact ⟨rfl, rfl, _, rfl⟩

theorem be_small_U64 (s : ByteArray) (n : Nat) : be (bl (s.extract n (n + 8))) < 18446744073709551616 := by
  have := be_lt_of (bl (s.extract n (n + 8))) 8 (by rw [bl_length]; simp only [ByteArray.size_extract]; omega)
  simpa using this

set_option maxHeartbeats 400000 in
theorem Reader_U64.yes (R : Nat) (s : ByteArray) (n : Nat) (w : World) (h : Rd w R s n) (hm : n + 8 ≤ s.size) :
    Calls Try.prog 131 #[.pointer (some ⟨R, 0, none⟩)] w fun e w' => e = .returned (.int .u64 (be (bl (s.extract n (n + 8))) : Nat)) ∧ Went w w' R s (n + 8) := by
  go_enter Try.func131, Try.ntmps131
  go_wp2_with fail
  refine (Reader_number.yes R s n 8 _ h hm (by decide)).mono ?_
  rintro e w1 ⟨rfl, hw1⟩
  have HW := Aside0.mk hw1
  clear hw1
  go_wp2
  go_ret
  exact ⟨by first | rfl | exact congrArg (fun z => Ending.returned (.int .i64 z)) hw, HW.out⟩
set_option maxHeartbeats 400000 in
theorem Reader_U64.no (R : Nat) (s : ByteArray) (n : Nat) (w : World) (h : Rd w R s n) (hm : s.size < n + 8) :
    Calls Try.prog 131 #[.pointer (some ⟨R, 0, none⟩)] w fun e w' => e = stopped 2 ∧ ∃ k, w' = w.drewN k := by
  go_enter Try.func131, Try.ntmps131
  go_wp2_with fail
  refine (Reader_number.no R s n 8 _ h hm).mono ?_
  rintro e w1 ⟨rfl, k1, rfl⟩
  exact ⟨rfl, rfl, _, rfl⟩

end Go.Proofs.Ytejmipoolbodgaa.G
end
