/- Texts of this session, joined: each is a section. -/
import Derived.Test.YtejmipoolbodgaaMFragWhole2
import Derived.Test.YtejmipoolbodgaaMFrag7
section
/- Plain law of FragWhole: each piece is a packet that fits, with the packet's header but for Offset and MF; their payloads are the packet's. -/
namespace Go.Proofs.Ytejmipoolbodgaa.Pure
open Go.RowKit Go.Proofs.YtejmipoolbodgaaW.PrintWords Go.Proofs.YtejmipoolbodgaaW.PrintLast Go.Proofs.Ytejmipoolbodgaa.G Go.Proofs.Ytejmipoolbodgaa.Pal
set_option linter.unusedVariables false
theorem wh_arith (i K A B P F : Nat) (hi : i < K) (hK : K ≤ 100000) (hAB : A ≤ B) (hB : B ≤ P) (hP : P ≤ 65535) (hF : F ≤ 8191) :
    (i : Int) < (K : Int) ∧ (0 : Int) ≤ (i : Int) ∧ wrap64 ((F : Int) + wrap64 (((A : Nat) : Int) / 8)) = ((F + A / 8 : Nat) : Int) ∧ wrap64 ((K : Int) - 1) = ((K - 1 : Nat) : Int) ∧ wrap64 ((i : Int) + 1) = ((i + 1 : Nat) : Int) ∧ A + (B - A) ≤ 9223372036854775807 := by
  have e : wrap64 (((A : Nat) : Int) / 8) = ((A / 8 : Nat) : Int) := by unfold wrap64; omega
  rw [e]
  refine ⟨by omega, by omega, by unfold wrap64; omega, by unfold wrap64; omega, by unfold wrap64; omega, by omega⟩
theorem wh_last (i K A B P : Nat) (hi : i < K) (hAB : A ≤ B) (hmid : i + 1 < K → (B - A) % 8 = 0 ∧ A < B ∧ B < P) (hend : i + 1 = K → B = P) : decide (A + (B - A) < P) = decide (i + 1 < K) := by
  apply decide_eq_decide.mpr
  constructor
  · intro h
    by_cases h2 : i + 1 < K
    · exact h2
    · have h3 := hend (by omega)
      omega
  · intro h
    have h3 := (hmid h).2.2
    omega
theorem wh_mid (i K A B : Nat) (hi : i < K) : (i + 1 = K → (i : Int) = ((K - 1 : Nat) : Int) ∧ ¬ i + 1 < K) ∧ (¬ i + 1 = K → ¬ (i : Int) = ((K - 1 : Nat) : Int) ∧ i + 1 < K ∧ ((B - A) % 8 = 0 → A < B → (((B - A : Nat) : Int)) % 8 = 0 ∧ ¬ (((B - A : Nat) : Int)) = 0)) := by
  refine ⟨fun h => ⟨by omega, by omega⟩, fun h => ⟨by omega, by omega, fun h1 h2 => ⟨by omega, by omega⟩⟩⟩
theorem join_ext (P : ByteArray) {A B : Nat} (h : A ≤ B) : P.extract 0 A ++ P.extract A B = P.extract 0 B := by
  apply bl4_inj
  rw [bl_append, cut4, cut4, cut4, List.drop_zero, List.drop_zero]
  conv => rhs; rw [← List.take_append_drop A ((bl P).take B)]
  rw [List.take_take, Nat.min_eq_left h]
theorem whole_round (s x : ByteArray) (m : Int) (L : List ByteArray) (i K k0 A B : Nat) (hL : L.length = K) (hx : rdOf ByteArray.empty L (i : Int) = x) (HE : Aside0 (ip4Err s = 0)) (hpc : PcOf s x A ((hPay s).extract A B)) (hm : 28 ≤ m ∧ m ≤ 65535) (hxm : (x.size : Int) ≤ m) (hi : i < K) (hK : K ≤ 100000) (hAB : A ≤ B) (hB : B ≤ (hPay s).size)
    (hmid : i + 1 < K → (B - A) % 8 = 0 ∧ A < B ∧ B < (hPay s).size) (hend : i + 1 = K → B = (hPay s).size)
    (hnext : palanquinlaw15_FragWhole.l0 k0 m L (hPay s) ((hPay s).extract 0 B) ((i + 1 : Nat) : Int) (hTos s : Int) (hId s : Int) (hOff s : Int) (hTtl s : Int) (hProto s : Int) (hDF s) (hMF s) (hSrc s) (hDst s) (hOpt s) = some true) :
    palanquinlaw15_FragWhole.l0 (k0 + 1 + 1 + 1) m L (hPay s) ((hPay s).extract 0 A) (i : Int) (hTos s : Int) (hId s : Int) (hOff s : Int) (hTtl s : Int) (hProto s : Int) (hDF s) (hMF s) (hSrc s) (hDst s) (hOpt s) = some true := by
  have hsz := sized4 HE.out
  have hP : (hPay s).size ≤ 65535 := by omega
  obtain ⟨a1, a2, a3, a4, a5, a6⟩ := wh_arith i K A B (hPay s).size (hOff s) hi hK hAB hB hP hsz.2.2.2.2.2.2
  have es : ((hPay s).extract A B).size = B - A := by simp only [ByteArray.size_extract]; omega
  have e0 : ((hPay s).extract 0 A).size = A := by simp only [ByteArray.size_extract]; omega
  have hz := sized4 hpc.1
  obtain ⟨c1, c2⟩ := cutL_one hpc.1 hm hxm
  have hg := hpc.get
  rw [es] at hg
  have hcf := cut_f (s := x) (by omega) m
  rw [c1, c2] at hcf
  clear c1 c2
  have hlast := wh_last i K A B (hPay s).size hi hAB hmid hend
  rw [hlast] at hg
  have fin : palanquinlaw15_FragWhole.j4 (k0 + 1) m L (hPay s) ((hPay s).extract 0 A) (i : Int) ((hPay s).extract A B) false (hTos s : Int) (hId s : Int) (hOff s : Int) (hTtl s : Int) (hProto s : Int) (hDF s) (hMF s) (hSrc s) (hDst s) (hOpt s) (hTos s : Int) (hId s : Int) ((hOff s + A / 8 : Nat) : Int) (hTtl s : Int) (hProto s : Int) (hDF s) (hMF s || decide (i + 1 < K)) (hSrc s) (hDst s) (hOpt s) = some true := by
    rw [palanquinlaw15_FragWhole.j4, if_neg (by decide), e0, es, if_pos a6, if_neg (by simp), a5, join_ext _ hAB]
    exact hnext
  have mid : palanquinlaw15_FragWhole.j3 (k0 + 1 + 1) m L (hPay s) ((hPay s).extract 0 A) (i : Int) ((hPay s).extract A B) false (hTos s : Int) (hId s : Int) (hOff s : Int) (hTtl s : Int) (hProto s : Int) (hDF s) (hMF s) (hSrc s) (hDst s) (hOpt s) (hTos s : Int) (hId s : Int) ((hOff s + A / 8 : Nat) : Int) (hTtl s : Int) (hProto s : Int) (hDF s) (hMF s || decide (i + 1 < K)) (hSrc s) (hDst s) (hOpt s) = some true := by
    rw [palanquinlaw15_FragWhole.j3, if_neg (by decide), hL, a4]
    by_cases hl : i + 1 = K
    · have b1 := ((wh_mid i K A B hi).1 hl).1
      have b2 : decide (i + 1 < K) = false := decide_eq_false ((wh_mid i K A B hi).1 hl).2
      rw [if_pos b1, b2]
      rw [b2] at fin
      cases hmf : hMF s
      · rw [hmf] at fin
        rw [if_neg (by decide), show ((i : Int) == ((K - 1 : Nat) : Int)) = true from beq_iff_eq.mpr b1]
        exact fin
      · rw [hmf] at fin
        rw [if_pos rfl]
        exact fin
    · obtain ⟨b1, b5, b6⟩ := (wh_mid i K A B hi).2 hl
      have b2 : decide (i + 1 < K) = true := decide_eq_true b5
      obtain ⟨m1, m2, m3⟩ := hmid b5
      obtain ⟨b3, b4⟩ := b6 m1 m2
      rw [if_neg b1, es, if_pos b3, if_neg b4, b2]
      rw [b2] at fin
      cases hmf : hMF s
      · rw [hmf] at fin
        rw [if_neg (by decide), show ((i : Int) == ((K - 1 : Nat) : Int)) = false from beq_eq_false_iff_ne.mpr b1]
        exact fin
      · rw [hmf] at fin
        rw [if_pos rfl]
        exact fin
  rw [palanquinlaw15_FragWhole.l0, hL, if_pos a1, if_pos a2, hx, hg, Option.bind_some, hcf, Option.bind_some]
  dsimp +instances only
  rw [if_pos rfl, if_neg (Int.not_lt.mpr hxm), if_pos rfl, if_pos (by rfl), if_pos (by show (0 : Int) < ((1 : Nat) : Int); decide), if_pos (by rfl), e0, a3, show (((hOff s + A / 8 : Nat) : Int) != ((hOff s + A / 8 : Nat) : Int)) = false by simp]
  exact mid
theorem whole_loop (s : ByteArray) (m : Int) (L : List ByteArray) (K : Nat) (at_ : Nat → Nat) (hL : L.length = K) (HE : Aside0 (ip4Err s = 0)) (hm : 28 ≤ m ∧ m ≤ 65535) (hK : K ≤ 100000) (hKe : at_ K = (hPay s).size)
    (hT : ∀ i, i < K → at_ i % 8 = 0 ∧ at_ i ≤ at_ (i + 1) ∧ at_ (i + 1) ≤ (hPay s).size ∧ (i + 1 < K → (at_ (i + 1) - at_ i) % 8 = 0 ∧ at_ i < at_ (i + 1) ∧ at_ (i + 1) < (hPay s).size) ∧
    PcOf s (rdOf ByteArray.empty L (i : Int)) (at_ i) ((hPay s).extract (at_ i) (at_ (i + 1))) ∧ ((rdOf ByteArray.empty L (i : Int)).size : Int) ≤ m) :
    ∀ n i, i + n = K → ∃ k, palanquinlaw15_FragWhole.l0 k m L (hPay s) ((hPay s).extract 0 (at_ i)) (i : Int) (hTos s : Int) (hId s : Int) (hOff s : Int) (hTtl s : Int) (hProto s : Int) (hDF s) (hMF s) (hSrc s) (hDst s) (hOpt s) = some true := by
  intro n
  induction n with
  | zero =>
    intro i hi
    obtain rfl : i = K := by omega
    refine ⟨1, ?_⟩
    rw [palanquinlaw15_FragWhole.l0, if_neg (by omega), hKe, show (hPay s).extract 0 (hPay s).size = hPay s from ByteArray.ext (by rw [ByteArray.data_extract]; exact Array.extract_eq_self_of_le (Nat.le_refl _)), beq_self_eq_true]
  | succ n ih =>
    intro i hi
    obtain ⟨k0, hk0⟩ := ih (i + 1) (by omega)
    obtain ⟨t1, t2, t3, t4, t5, t6⟩ := hT i (by omega)
    refine ⟨k0 + 1 + 1 + 1, ?_⟩
    exact whole_round s _ m L i K k0 (at_ i) (at_ (i + 1)) hL rfl HE t5 hm t6 (by omega) hK t2 t3 t4 (fun h => by rw [h]; exact hKe) hk0
theorem FragWhole : palanquinlaw15_FragWhole.Pure := by
  intro s m hs _
  have skip : ∀ k, palanquinlaw15_FragWhole.j0 (k + 1) s m true = some true := fun k => by rw [palanquinlaw15_FragWhole.j0, if_pos rfl]
  have main : ∃ K, ∀ k, K ≤ k → palanquinlaw15_FragWhole.j0 (k + 1) s m false = some true := by
    by_cases hc : cutErr s m = 0
    case neg =>
      refine ⟨0, fun k _ => ?_⟩
      rw [palanquinlaw15_FragWhole.j0, if_neg (by decide), cut_f hs, Option.bind_some]
      dsimp +instances only
      rw [if_neg hc, cutL_bad hc]; rfl
    obtain ⟨he, hm⟩ := cutErr_ok hc
    obtain ⟨K, at_, hK, hl, h0, hKe, hT⟩ := cut_tiles hc
    have hlen := cutL_len (s := s) m
    have h4 := sized4 he
    have HE := Aside0.mk he
    have hg := get4_f s hs he
    have hf := cut_f hs m
    rw [hc] at hf
    clear he hc
    obtain ⟨k, hk⟩ := whole_loop s m (cutL s m) K at_ hl HE hm (by omega) hKe hT K 0 (by omega)
    rw [h0] at hk
    refine ⟨k + 1, fun q hq => ?_⟩
    obtain ⟨q, rfl⟩ : ∃ j, q = j + 1 := ⟨q - 1, by omega⟩
    have e0 : (hPay s).extract 0 0 = ⟨#[]⟩ := ByteArray.ext (by rw [ByteArray.data_extract]; simp)
    rw [e0] at hk
    rw [palanquinlaw15_FragWhole.j0, if_neg (by decide), hf, Option.bind_some]
    dsimp +instances only
    rw [if_pos rfl, hg, Option.bind_some]
    dsimp +instances only
    rw [if_pos rfl, hl, show (((K : Nat) : Int) == 0) = false from beq_eq_false_iff_ne.mpr (by omega), palanquinlaw15_FragWhole.j1, if_neg (by decide)]
    exact at_rounds (g := fun q => palanquinlaw15_FragWhole.l0 q m (cutL s m) (hPay s) ⟨#[]⟩ ((0 : Nat) : Int) (hTos s : Int) (hId s : Int) (hOff s : Int) (hTtl s : Int) (hProto s : Int) (hDF s) (hMF s) (hSrc s) (hDst s) (hOpt s)) (fun q => (palanquinlaw15_FragWhole.mono_l q).2.2.1 _ _ _ _ _ _ _ _ _ _ _ _ _ _ _) (by omega : k ≤ q) hk
  obtain ⟨K, hmain⟩ := main
  refine ⟨max K 6002 + 1, ?_⟩
  unfold palanquinlaw15_FragWhole.f
  rw [awake15 _ (by omega), Option.bind_some, if_pos rfl]
  by_cases h7 : (s.size : Int) > 70000
  · rw [if_pos h7]; exact skip _
  rw [if_neg h7]
  by_cases h3 : (s.size : Int) > 3000
  · rw [if_pos h3]
    by_cases h4 : m < 400
    · rw [decide_eq_true h4]; exact skip _
    · rw [decide_eq_false h4]; exact hmain _ (Nat.le_max_left _ _)
  · rw [if_neg h3]; exact hmain _ (Nat.le_max_left _ _)
end Go.Proofs.Ytejmipoolbodgaa.Pure
end
