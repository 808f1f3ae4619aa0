/- Texts of this session, joined: each is a section. -/
import Derived.Test.YtejmipoolbodgaaMFrbg5
import Derived.Test.YtejmipoolbodgaaMFrbg6
import Derived.Test.YtejmipoolbodgaaMFrbg2
import Derived.Test.YtejmipoolbodgaaMFrbg1
import Derived.Test.YtejmipoolbodgaaMFrbg4
set_option linter.unusedVariables false
set_option linter.unusedSimpArgs false
section
/- Plain facts of palanquinref05's Right and Put: they are ip4.Check's and ip4.Put's. -/
namespace Go.Proofs.Ytejmipoolbodgaa.Pure
open Go.RowKit Go.Proofs.YtejmipoolbodgaaW.PrintWords Go.Proofs.YtejmipoolbodgaaW.PrintLast Go.Proofs.Ytejmipoolbodgaa.G Go.Proofs.Ytejmipoolbodgaa.Pal
theorem ref_in4 (a x y : Int) : palanquinref05_in.f a x y = some (decide (x ≤ a ∧ a ≤ y)) := by
  unfold palanquinref05_in.f
  by_cases h : a ≥ x
  · rw [if_pos h]; congr 1; apply decide_eq_decide.mpr; exact ⟨fun h2 => ⟨h, h2⟩, fun h2 => h2.2⟩
  · rw [if_neg h, decide_eq_false (fun h2 => h h2.1)]
theorem ref_right4 (tos id off ttl proto : Int) (df mf : Bool) (src dst opt : ByteArray) : palanquinref05_Right.f tos id off ttl proto df mf src dst opt = some (decide (ok4 tos id off ttl proto src dst opt)) := by
  unfold palanquinref05_Right.f
  rw [ref_in4, Option.bind_some]
  by_cases h1 : 0 ≤ tos ∧ tos ≤ 255
  case neg => rw [if_neg (by simpa using h1), decide_eq_false (fun h => h1 h.1)]
  rw [if_pos (decide_eq_true h1), ref_in4, Option.bind_some]
  by_cases h2 : 0 ≤ ttl ∧ ttl ≤ 255
  case neg => rw [if_neg (by simpa using h2), decide_eq_false (fun h => h2 h.2.2.2.1)]
  rw [if_pos (decide_eq_true h2), ref_in4, Option.bind_some]
  by_cases h3 : 0 ≤ proto ∧ proto ≤ 255
  case neg => rw [if_neg (by simpa using h3), decide_eq_false (fun h => h3 h.2.2.2.2.1)]
  rw [if_pos (decide_eq_true h3), ref_in4, Option.bind_some]
  by_cases h4 : 0 ≤ id ∧ id ≤ 65535
  case neg => rw [if_neg (by simpa using h4), decide_eq_false (fun h => h4 h.2.1)]
  rw [if_pos (decide_eq_true h4), ref_in4, Option.bind_some]
  by_cases h5 : 0 ≤ off ∧ off ≤ 8191
  case neg => rw [if_neg (by simpa using h5), decide_eq_false (fun h => h5 h.2.2.1)]
  rw [if_pos (decide_eq_true h5)]
  by_cases h6 : (src.size : Int) = 4
  case neg => rw [if_neg h6, decide_eq_false (fun h => h6 (by have := h.2.2.2.2.2.1; omega))]
  rw [if_pos h6]
  by_cases h7 : (dst.size : Int) = 4
  case neg => rw [if_neg h7, decide_eq_false (fun h => h7 (by have := h.2.2.2.2.2.2.1; omega))]
  rw [if_pos h7]
  by_cases h8 : (opt.size : Int) ≤ 40
  case neg => rw [if_neg h8, decide_eq_false (fun h => h8 (by have := h.2.2.2.2.2.2.2.1; omega))]
  rw [if_pos h8]
  congr 1
  rw [Bool.eq_iff_iff, beq_iff_eq, decide_eq_true_iff]
  exact ⟨fun h => ⟨h1, h4, h5, h2, h3, by omega, by omega, by omega, by omega⟩, fun h => by have := h.2.2.2.2.2.2.2.2; omega⟩
theorem num4 (x n : Nat) (hn : n ≤ 8) (hx : x ≤ 18446744073709551615) (k : Nat) (hk : n < k) : ∃ r, palanquinref05_num.f k (x : Int) (n : Int) = some r ∧ bl r = nb n x ∧ r.size = n := by
  obtain ⟨r, h1, h2⟩ := bytes_is n hn x hx k hk
  refine ⟨r, ?_, h2, bytes_sized h2⟩
  unfold palanquinref05_num.f
  rw [show IntKind.u64.wrap (x : Int) = (x : Int) by rw [IntKind.wrap_u64]; omega, h1, Option.bind_some]
theorem w69 (n : Nat) (h : n ≤ 40) : wrap64 (69 + wrap64 ((n : Int) / 4)) = ((64 + (20 + n) / 4 : Nat) : Int) := by
  have e : wrap64 ((n : Int) / 4) = ((n / 4 : Nat) : Int) := by unfold wrap64; omega
  rw [e, show 64 + (20 + n) / 4 = 69 + n / 4 by omega]
  have hb : n / 4 ≤ 10 := by omega
  clear e
  generalize n / 4 = m at hb ⊢
  unfold wrap64
  omega
theorem ref_put4_j1 (tos id off ttl proto : Nat) (df mf : Bool) (src dst opt p : ByteArray) (h : ok4 tos id off ttl proto src dst opt) (hp : 20 + opt.size + p.size ≤ 65535) (k : Nat) (hk : 6000 < k) :
    palanquinref05_Put.j1 (k + 1) p ((20 + opt.size + p.size : Nat) : Int) ((fl df mf off : Nat) : Int) tos id off ttl proto df mf src dst opt = some (⟨(put4 tos id off ttl proto df mf src dst opt p).toArray⟩, 0) := by
  obtain ⟨h1, h2, h3, h4, h5, h6, h7, h8, h9⟩ := h
  have hfl := fl_lt (df := df) (mf := mf) (show off < 8192 by omega)
  unfold put4 head4
  generalize fl df mf off = F at hfl ⊢
  have hT : 20 + opt.size + p.size ≤ 65535 := hp
  generalize 20 + opt.size + p.size = T at hT ⊢
  rw [palanquinref05_Put.j1, w69 _ h8]
  have hF : 64 + (20 + opt.size) / 4 ≤ 79 := by omega
  generalize 64 + (20 + opt.size) / 4 = B at hF ⊢
  obtain ⟨r1, e1, b1, s1⟩ := num4 B 1 (by decide) (by omega) k (by omega)
  obtain ⟨r2, e2, b2, s2⟩ := num4 tos 1 (by decide) (by omega) k (by omega)
  obtain ⟨r3, e3, b3, s3⟩ := num4 T 2 (by decide) (by omega) k (by omega)
  obtain ⟨r4, e4, b4, s4⟩ := num4 id 2 (by decide) (by omega) k (by omega)
  obtain ⟨r5, e5, b5, s5⟩ := num4 F 2 (by decide) (by omega) k (by omega)
  obtain ⟨r6, e6, b6, s6⟩ := num4 ttl 1 (by decide) (by omega) k (by omega)
  obtain ⟨r7, e7, b7, s7⟩ := num4 proto 1 (by decide) (by omega) k (by omega)
  have z0 : (⟨#[0, 0]⟩ : ByteArray).size = 2 := rfl
  have z1 : bl (⟨#[0, 0]⟩ : ByteArray) = nb 2 0 := rfl
  have t2 : (r1 ++ r2).size = 2 := by rw [ByteArray.size_append]; omega
  have t3 : (r1 ++ r2 ++ r3).size = 4 := by rw [ByteArray.size_append]; omega
  have t4 : (r1 ++ r2 ++ r3 ++ r4).size = 6 := by rw [ByteArray.size_append]; omega
  have t5 : (r1 ++ r2 ++ r3 ++ r4 ++ r5).size = 8 := by rw [ByteArray.size_append]; omega
  have t6 : (r1 ++ r2 ++ r3 ++ r4 ++ r5 ++ r6).size = 9 := by rw [ByteArray.size_append]; omega
  have t7 : (r1 ++ r2 ++ r3 ++ r4 ++ r5 ++ r6 ++ r7).size = 10 := by rw [ByteArray.size_append]; omega
  have u1 : (src ++ dst).size = 8 := by rw [ByteArray.size_append]; omega
  have u2 : (src ++ dst ++ opt).size = 8 + opt.size := by rw [ByteArray.size_append]; omega
  have v1 : (r1 ++ r2 ++ r3 ++ r4 ++ r5 ++ r6 ++ r7 ++ (⟨#[0, 0]⟩ : ByteArray)).size = 12 := by rw [ByteArray.size_append]; omega
  have v2 : (r1 ++ r2 ++ r3 ++ r4 ++ r5 ++ r6 ++ r7 ++ (⟨#[0, 0]⟩ : ByteArray) ++ (src ++ dst ++ opt)).size = 20 + opt.size := by rw [ByteArray.size_append]; omega
  have hsum := R2.ref_sum (r1 ++ r2 ++ r3 ++ r4 ++ r5 ++ r6 ++ r7 ++ (⟨#[0, 0]⟩ : ByteArray) ++ (src ++ dst ++ opt)) (by omega) k (by omega)
  have hbl : bl (r1 ++ r2 ++ r3 ++ r4 ++ r5 ++ r6 ++ r7 ++ (⟨#[0, 0]⟩ : ByteArray) ++ (src ++ dst ++ opt)) = nb 1 B ++ nb 1 tos ++ nb 2 T ++ nb 2 id ++ nb 2 F ++ nb 1 ttl ++ nb 1 proto ++ nb 2 0 ++ (bl src ++ bl dst ++ bl opt) := by
    simp only [bl_append, b1, b2, b3, b4, b5, b6, b7, z1]
  rw [hbl] at hsum
  have hc := csum4_le (nb 1 B ++ nb 1 tos ++ nb 2 T ++ nb 2 id ++ nb 2 F ++ nb 1 ttl ++ nb 1 proto ++ nb 2 0 ++ (bl src ++ bl dst ++ bl opt))
  generalize csum (nb 1 B ++ nb 1 tos ++ nb 2 T ++ nb 2 id ++ nb 2 F ++ nb 1 ttl ++ nb 1 proto ++ nb 2 0 ++ (bl src ++ bl dst ++ bl opt)) = C at hsum hc ⊢
  obtain ⟨r8, e8, b8, s8⟩ := num4 C 2 (by decide) (by omega) k (by omega)
  have t8 : (r1 ++ r2 ++ r3 ++ r4 ++ r5 ++ r6 ++ r7 ++ r8).size = 12 := by rw [ByteArray.size_append]; omega
  have t9 : (r1 ++ r2 ++ r3 ++ r4 ++ r5 ++ r6 ++ r7 ++ r8 ++ (src ++ dst ++ opt)).size = 20 + opt.size := by rw [ByteArray.size_append]; omega
  have hps : p.size ≤ 140737488351232 := by omega
  rw [show (1 : Int) = ((1 : Nat) : Int) from rfl, show (2 : Int) = ((2 : Nat) : Int) from rfl, e1, Option.bind_some, e2, Option.bind_some, if_pos (by omega), e3, Option.bind_some, if_pos (by omega), e4, Option.bind_some, if_pos (by omega), e5, Option.bind_some, if_pos (by omega), e6, Option.bind_some, if_pos (by omega), e7, Option.bind_some, if_pos (by omega),
    if_pos (by omega), if_pos (by omega), if_pos (by omega), if_pos (by omega), hsum, Option.bind_some, e8, Option.bind_some, if_pos (by omega), if_pos (by omega), if_pos (by omega)]
  refine congrArg some (Prod.ext (bl4_inj ?_) rfl)
  dsimp only
  refine Eq.trans ?_ (bl4_mk _).symm
  simp only [bl_append, b1, b2, b3, b4, b5, b6, b7, b8]
theorem ref_put4 (tos id off ttl proto : Int) (df mf : Bool) (src dst opt p : ByteArray) (h1 : src.size ≤ 281474976710656) (h2 : dst.size ≤ 281474976710656) (h3 : opt.size ≤ 281474976710656) (hp : p.size ≤ 140737488351232) (k : Nat) (hk : 6002 < k) :
    palanquinref05_Put.f k tos id off ttl proto df mf src dst opt p = ip4_Put.f tos id off ttl proto df mf src dst opt p := by
  unfold palanquinref05_Put.f
  rw [ref_right4, Option.bind_some]
  by_cases o : ok4 tos id off ttl proto src dst opt
  case neg => rw [if_neg (by simpa using o), put4_no o h1 h2 h3]
  rw [if_pos (decide_eq_true o)]
  obtain ⟨a, b, c, d, e, rfl, rfl, rfl, rfl, rfl⟩ := ok4_nat o
  have hs := o.2.2.2.2.2
  rw [show wrap64 (wrap64 (20 + (opt.size : Int)) + (p.size : Int)) = ((20 + opt.size + p.size : Nat) : Int) by unfold wrap64; omega]
  by_cases hb : 20 + opt.size + p.size ≤ 65535
  case neg => rw [if_pos (by omega), put4_big o hb hp]
  rw [if_neg (by omega), put4_ok o hb]
  obtain ⟨k, rfl⟩ : ∃ j, k = j + 1 + 1 := ⟨k - 2, by omega⟩
  have hc : c ≤ 8191 := by have := o.2.2.1; omega
  have key := ref_put4_j1 a b c d e df mf src dst opt p o hb k (by omega)
  cases df
  · rw [if_neg (by decide), palanquinref05_Put.j0]
    cases mf
    · rw [if_neg (by decide), show (c : Int) = ((fl false false c : Nat) : Int) by simp [fl]]; exact key
    · rw [if_pos rfl, show wrap64 ((c : Int) + 8192) = ((fl false true c : Nat) : Int) by simp only [fl]; unfold wrap64; simp; omega]; exact key
  · rw [if_pos rfl, palanquinref05_Put.j0]
    cases mf
    · rw [if_neg (by decide), show wrap64 ((c : Int) + 16384) = ((fl true false c : Nat) : Int) by simp only [fl]; unfold wrap64; simp; omega]; exact key
    · rw [if_pos rfl, show wrap64 (wrap64 ((c : Int) + 16384) + 8192) = ((fl true true c : Nat) : Int) by simp only [fl]; unfold wrap64; simp; omega]; exact key
theorem put4_some (tos id off ttl proto : Int) (df mf : Bool) (src dst opt p : ByteArray) (h1 : src.size ≤ 281474976710656) (h2 : dst.size ≤ 281474976710656) (h3 : opt.size ≤ 281474976710656) (hp : p.size ≤ 140737488351232) : ∃ x, ip4_Put.f tos id off ttl proto df mf src dst opt p = some x := by
  by_cases o : ok4 tos id off ttl proto src dst opt
  · obtain ⟨a, b, c, d, e, rfl, rfl, rfl, rfl, rfl⟩ := ok4_nat o
    by_cases hb : 20 + opt.size + p.size ≤ 65535
    · exact ⟨_, put4_ok o hb⟩
    · exact ⟨_, put4_big o hb hp⟩
  · exact ⟨_, put4_no o h1 h2 h3⟩
end Go.Proofs.Ytejmipoolbodgaa.Pure
end

section
namespace Go.Proofs.Ytejmipoolbodgaa.G
open Go.RowKit Go.Proofs.YtejmipoolbodgaaW.PrintWords Go.Proofs.YtejmipoolbodgaaW.PrintLast Go.Proofs.YtejmipoolbodgaaW.PrintMore
attribute [local go_sem] max2_int min2_int max_two min_two max_three min_three max_four min_four   -- for this text's walks alone
set_option linter.unusedVariables false
set_option linter.unusedSimpArgs false

def palanquinlaw15_awake.f (k : Nat)  : Option (Bool) := if 100 ≤ 281474976710656 then ((palanquinref05_Put.f k 0 0 0 0 0 false false (⟨#[97, 98, 99, 100]⟩ : ByteArray) (⟨#[101, 102, 103, 104]⟩ : ByteArray) (⟨#[]⟩ : ByteArray) (strOfNums (List.replicate 100 0))).bind fun bt773 => ((frag_Cut.f bt773.1 60).bind fun bt775 => (if bt775.2 = 0 then (if (bt775.1.length : Int) = 3 then (if 0 < (bt775.1.length : Int) then (if ((rdOf ByteArray.empty bt775.1 0).size : Int) = 60 then (if 1 < (bt775.1.length : Int) then (if ((rdOf ByteArray.empty bt775.1 1).size : Int) = 60 then (if 2 < (bt775.1.length : Int) then (if ((rdOf ByteArray.empty bt775.1 2).size : Int) = 40 then ((frag_Part.f 20 67).bind fun t782 => (some (t782 == 40))) else (some false)) else (none)) else (some false)) else (none)) else (some false)) else (none)) else (some false)) else (some false)))) else (none)
theorem palanquinlaw15_awake.mono : ∀ k, LeO (palanquinlaw15_awake.f k ) (palanquinlaw15_awake.f (k + 1) ) := by
 intro  k
 unfold palanquinlaw15_awake.f
 repeat' first
   | (with_reducible exact palanquinref05_Put.mono _ _ _ _ _ _ _ _ _ _ _ _)
   | (with_reducible exact LeO.refl _)
   | (with_reducible exact LeO.none _)
   | (with_reducible refine LeO.ite ?_ ?_)
   | (with_reducible refine LeO.bind ?_ (fun _ => ?_))
   | exact palanquinref05_Put.mono _ _ _ _ _ _ _ _ _ _ _ _
   | exact LeO.none _
   | refine LeO.ite ?_ ?_
   | refine LeO.bind ?_ (fun _ => ?_)
set_option maxHeartbeats 8000000 in
set_option maxRecDepth 100000 in
theorem palanquinlaw15_awake.calls (k : Nat)  (r : Bool) (w : World) (h : palanquinlaw15_awake.f k  = some r) :
  Calls Try.prog 113 #[] w fun e w' => e = .returned (.bool r) ∧ Below w.heap.size w w' := by
 have hu93 := Try.underlying93
 have HB := mA (Below.refl w.heap.size w)
 have H : (if 100 ≤ 281474976710656 then ((palanquinref05_Put.f k 0 0 0 0 0 false false (⟨#[97, 98, 99, 100]⟩ : ByteArray) (⟨#[101, 102, 103, 104]⟩ : ByteArray) (⟨#[]⟩ : ByteArray) (strOfNums (List.replicate 100 0))).bind fun bt773 => ((frag_Cut.f bt773.1 60).bind fun bt775 => (if bt775.2 = 0 then (if (bt775.1.length : Int) = 3 then (if 0 < (bt775.1.length : Int) then (if ((rdOf ByteArray.empty bt775.1 0).size : Int) = 60 then (if 1 < (bt775.1.length : Int) then (if ((rdOf ByteArray.empty bt775.1 1).size : Int) = 60 then (if 2 < (bt775.1.length : Int) then (if ((rdOf ByteArray.empty bt775.1 2).size : Int) = 40 then ((frag_Part.f 20 67).bind fun t782 => (some (t782 == 40))) else (some false)) else (none)) else (some false)) else (none)) else (some false)) else (none)) else (some false)) else (some false)))) else (none)) = some r := h
 clear h
 by_cases c1 : 100 ≤ 281474976710656
 ·rw [if_pos c1] at H
  have c1b0 := eq_true c1
  have c1b1 : decide (100 ≤ 281474976710656) = true := decide_eq_true c1
  clear c1
  obtain ⟨y770, hy770⟩ : ∃ y_ : List Int, y_ = (List.replicate 100 0) := ⟨_, rfl⟩
  replace H : ((palanquinref05_Put.f k 0 0 0 0 0 false false (⟨#[97, 98, 99, 100]⟩ : ByteArray) (⟨#[101, 102, 103, 104]⟩ : ByteArray) (⟨#[]⟩ : ByteArray) (strOfNums y770)).bind fun bt773 => ((frag_Cut.f bt773.1 60).bind fun bt775 => (if bt775.2 = 0 then (if (bt775.1.length : Int) = 3 then (if 0 < (bt775.1.length : Int) then (if ((rdOf ByteArray.empty bt775.1 0).size : Int) = 60 then (if 1 < (bt775.1.length : Int) then (if ((rdOf ByteArray.empty bt775.1 1).size : Int) = 60 then (if 2 < (bt775.1.length : Int) then (if ((rdOf ByteArray.empty bt775.1 2).size : Int) = 40 then ((frag_Part.f 20 67).bind fun t782 => (some (t782 == 40))) else (some false)) else (none)) else (some false)) else (none)) else (some false)) else (none)) else (some false)) else (some false)))) = some r := by first | (rw [hy770]; with_reducible exact H) | (have H2_ := (Option.bind_some _ _).symm.trans H; rw [hy770]; with_reducible exact H2_) | (have H2_ := (Option.bind_some _ _).symm.trans H; with_reducible exact H2_) | with_reducible exact H | (rw [hy770]; exact H) | exact H
  have Ny770 := mA hy770
  clear hy770
  replace H := Option.bind_eq_some_iff.mp H
  obtain ⟨⟨t773, t774⟩, A20, H⟩ := H
  replace H : ((frag_Cut.f t773 60).bind fun bt775 => (if bt775.2 = 0 then (if (bt775.1.length : Int) = 3 then (if 0 < (bt775.1.length : Int) then (if ((rdOf ByteArray.empty bt775.1 0).size : Int) = 60 then (if 1 < (bt775.1.length : Int) then (if ((rdOf ByteArray.empty bt775.1 1).size : Int) = 60 then (if 2 < (bt775.1.length : Int) then (if ((rdOf ByteArray.empty bt775.1 2).size : Int) = 40 then ((frag_Part.f 20 67).bind fun t782 => (some (t782 == 40))) else (some false)) else (none)) else (some false)) else (none)) else (some false)) else (none)) else (some false)) else (some false))) = some r := H
  have A2 := mA A20
  clear A20
  replace H := Option.bind_eq_some_iff.mp H
  obtain ⟨⟨t775, t776⟩, A30, H⟩ := H
  replace H : (if t776 = 0 then (if (t775.length : Int) = 3 then (if 0 < (t775.length : Int) then (if ((rdOf ByteArray.empty t775 0).size : Int) = 60 then (if 1 < (t775.length : Int) then (if ((rdOf ByteArray.empty t775 1).size : Int) = 60 then (if 2 < (t775.length : Int) then (if ((rdOf ByteArray.empty t775 2).size : Int) = 40 then ((frag_Part.f 20 67).bind fun t782 => (some (t782 == 40))) else (some false)) else (none)) else (some false)) else (none)) else (some false)) else (none)) else (some false)) else (some false)) = some r := H
  have A3 := mA A30
  clear A30
  by_cases c4 : t776 = 0
  ·rw [if_pos c4] at H
   have c4b0 : (t776 == 0) = true := beq_iff_eq.mpr c4
   have c4b1 : (t776 != 0) = false := bne_eq_false_iff_eq.mpr c4
   clear c4
   by_cases c5 : (t775.length : Int) = 3
   ·rw [if_pos c5] at H
    have c5b0 : ((t775.length : Int) == 3) = true := beq_iff_eq.mpr c5
    have c5b1 : ((t775.length : Int) != 3) = false := bne_eq_false_iff_eq.mpr c5
    clear c5
    by_cases c6 : 0 < (t775.length : Int)
    ·rw [if_pos c6] at H
     have c6b0 : decide (0 < (t775.length : Int)) = true := decide_eq_true c6
     have c6b1 : decide (0 < t775.length) = true := decide_eq_true (by omega)
     clear c6
     by_cases c7 : ((rdOf ByteArray.empty t775 0).size : Int) = 60
     ·rw [if_pos c7] at H
      have c7b0 : (((rdOf ByteArray.empty t775 0).size : Int) == 60) = true := beq_iff_eq.mpr c7
      have c7b1 : (((rdOf ByteArray.empty t775 0).size : Int) != 60) = false := bne_eq_false_iff_eq.mpr c7
      clear c7
      by_cases c8 : 1 < (t775.length : Int)
      ·rw [if_pos c8] at H
       have c8b0 : decide (1 < (t775.length : Int)) = true := decide_eq_true c8
       have c8b1 : decide (1 < t775.length) = true := decide_eq_true (by omega)
       clear c8
       by_cases c9 : ((rdOf ByteArray.empty t775 1).size : Int) = 60
       ·rw [if_pos c9] at H
        have c9b0 : (((rdOf ByteArray.empty t775 1).size : Int) == 60) = true := beq_iff_eq.mpr c9
        have c9b1 : (((rdOf ByteArray.empty t775 1).size : Int) != 60) = false := bne_eq_false_iff_eq.mpr c9
        clear c9
        by_cases c10 : 2 < (t775.length : Int)
        ·rw [if_pos c10] at H
         have c10b0 : decide (2 < (t775.length : Int)) = true := decide_eq_true c10
         have c10b1 : decide (2 < t775.length) = true := decide_eq_true (by omega)
         clear c10
         by_cases c11 : ((rdOf ByteArray.empty t775 2).size : Int) = 40
         ·rw [if_pos c11] at H
          have c11b0 : (((rdOf ByteArray.empty t775 2).size : Int) == 40) = true := beq_iff_eq.mpr c11
          have c11b1 : (((rdOf ByteArray.empty t775 2).size : Int) != 40) = false := bne_eq_false_iff_eq.mpr c11
          clear c11
          replace H := Option.bind_eq_some_iff.mp H
          obtain ⟨t782, A120, H⟩ := H
          replace H : (some (t782 == 40)) = some r := H
          have A12 := mA A120
          clear A120
          obtain rfl := Option.some.inj H
          go_enter Try.func113, Try.ntmps113
          go_wp2_with (first | ((with_reducible refine gate_dst (N := 7) rfl ?_); (try (refine gate_guard (by rfl) ?_; dsimp only)); refine Kd.R_make (Kd.int .u8) _ 5 rfl (N := 7) rfl 25 _ _ rfl 100 rfl rfl Try.underlying25 (.int .u8 0) 1 info5 rfl (by decide) (by omega) 0 (ok := fun _ => True) (okp := fun _ => True) rfl (fun _ hk => hk) trivial (by omega) (by omega) (Below.refl _ _) (Nat.le_refl _) ?_; intro v771 w13 ho14 hb hg_ hnew_; clear hg_ hnew_; (first | rw [← Ny770.out] at ho14 | (simp only [Int.reduceToNat] at ho14; rw [← Ny770.out] at ho14)); have n0_ := mA (Kd.R_lower ho14 (below_size (by repeat (first | (with_reducible first | exact HB.out | apply bA | apply bN | apply bD) | exact HB.out)))); have n1_ := mA (bP (by repeat (first | (with_reducible first | exact HB.out | apply bA | apply bN | apply bD) | exact HB.out)) hb); clear HB; have HO772 := n0_; have HB := n1_; clear n0_ n1_; clear hb ho14; have hcv15 := own_string (P := Try.prog) Try.underlying25 Try.underlying5 Try.underlying9 (Kd.own_of_R HO772.out)) | ((with_reducible refine gate_callee (f := 86) rfl ?_); refine goesL_ (some 9) rfl rfl Try.func86 (by kernel_rfl) rfl #[.agg #[.int .i64 0, .int .i64 0, .int .i64 0, .int .i64 0, .int .i64 0, .bool false, .bool false, .string (⟨#[97, 98, 99, 100]⟩ : ByteArray), .string (⟨#[101, 102, 103, 104]⟩ : ByteArray), .string (⟨#[]⟩ : ByteArray)], .string (strOfNums y770)] rfl (by (try simp only [List.map_toArray, List.map_cons, List.map_nil]); first | done | rfl | (simp only [List.length_drop, List.length_take]; rfl)) ?_; (with_reducible refine (palanquinref05_Put.calls k 0 0 0 0 0 false false (⟨#[97, 98, 99, 100]⟩ : ByteArray) (⟨#[101, 102, 103, 104]⟩ : ByteArray) (⟨#[]⟩ : ByteArray) (strOfNums y770) t773 t774 _ A2.out).mono ?_); rintro e w16 ⟨rfl, hb⟩; refine ⟨_, rfl, ?_⟩; have n0_ := mA (Kd.R_below (by (with_reducible repeat (first | apply Kd.R_alloc | apply Kd.R_drewN | apply Kd.R_drew)); exact HO772.out) hb); have n1_ := mA (bP (by repeat (first | (with_reducible first | exact HB.out | apply bA | apply bN | apply bD) | exact HB.out)) hb); clear HO772; clear HB; have HO772 := n0_; have HB := n1_; clear n0_ n1_; (try clear hb); (try clear hb2); (try clear hk); (try clear hi)) | ((with_reducible refine gate_callee (f := 114) rfl ?_); refine goesL_ (some 14) rfl rfl Try.func114 (by kernel_rfl) rfl #[.string t773, .int .i64 60] rfl (by (try simp only [List.map_toArray, List.map_cons, List.map_nil]); first | done | rfl | (simp only [List.length_drop, List.length_take]; rfl)) ?_; (with_reducible refine (frag_Cut.calls t773 60 t775 t776 _ A3.out).mono ?_); rintro e w17 ⟨v777, rfl, ho0, hb⟩; refine ⟨_, rfl, ?_⟩; have n0_ := mA (Kd.R_below (by (with_reducible repeat (first | apply Kd.R_alloc | apply Kd.R_drewN | apply Kd.R_drew)); exact HO772.out) hb); have n1_ := mA (Kd.R_lower ho0 (below_size (by repeat (first | (with_reducible first | exact HB.out | apply bA | apply bN | apply bD) | exact HB.out)))); have n2_ := mA (bP (by repeat (first | (with_reducible first | exact HB.out | apply bA | apply bN | apply bD) | exact HB.out)) hb); clear HO772; clear HB; have HO772 := n0_; have HO778 := n1_; have HB := n2_; clear n0_ n1_ n2_; (try clear hb); (try clear hb2); (try clear hk); (try clear hi); (try clear ho0); obtain ⟨Ao18, co18, eo18⟩ := Kd.R_slice HO778.out; subst eo18; have p779 : 0 ≤ (0 : Int) := (by omega); have q779 : 0 < (t775.length : Int) := of_decide_eq_true (by first | (with_reducible assumption) | assumption); obtain ⟨ad779, e779, hx779_0⟩ := Kd.at_string (Kd.R_reads' HO778.out).2.2 0 p779 q779; cases e779; have qi779 : (0 < t775.length) = True := eq_true (by omega); (try rw [show ((0 : Int)).toNat = 0 from rfl] at hx779_0); (try rw [Addr.add_zero'] at hx779_0); replace p779 := eq_true p779; replace q779 := eq_true q779; have p780 : 0 ≤ (1 : Int) := (by omega); have q780 : 1 < (t775.length : Int) := of_decide_eq_true (by first | (with_reducible assumption) | assumption); obtain ⟨ad780, e780, hx780_0⟩ := Kd.at_string (Kd.R_reads' HO778.out).2.2 1 p780 q780; obtain rfl : ad779 = ad780 := (by injection e780); (try simp only [show (1 : Int).toNat = 1 from rfl, Nat.reduceMul, Nat.reduceEqDiff, Go.Addr.add, ↓reduceIte] at hx780_0); have qi780 : (1 < t775.length) = True := eq_true (by omega); (try rw [show ((1 : Int)).toNat = 1 from rfl] at hx780_0); replace p780 := eq_true p780; replace q780 := eq_true q780; have p781 : 0 ≤ (2 : Int) := (by omega); have q781 : 2 < (t775.length : Int) := of_decide_eq_true (by first | (with_reducible assumption) | assumption); obtain ⟨ad781, e781, hx781_0⟩ := Kd.at_string (Kd.R_reads' HO778.out).2.2 2 p781 q781; obtain rfl : ad779 = ad781 := (by injection e781); (try simp only [show (2 : Int).toNat = 2 from rfl, Nat.reduceMul, Nat.reduceEqDiff, Go.Addr.add, ↓reduceIte] at hx781_0); have qi781 : (2 < t775.length) = True := eq_true (by omega); (try rw [show ((2 : Int)).toNat = 2 from rfl] at hx781_0); replace p781 := eq_true p781; replace q781 := eq_true q781) | (go_at_call 115; (with_reducible refine (frag_Part.calls 20 67 t782 _ A12.out).mono ?_); rintro e w19 ⟨rfl, hb⟩; have n0_ := mA (Kd.R_below (by (with_reducible repeat (first | apply Kd.R_alloc | apply Kd.R_drewN | apply Kd.R_drew)); exact HO772.out) hb); have n1_ := mA (Kd.R_below (by (with_reducible repeat (first | apply Kd.R_alloc | apply Kd.R_drewN | apply Kd.R_drew)); exact HO778.out) hb); have n2_ := mA (bP (by repeat (first | (with_reducible first | exact HB.out | apply bA | apply bN | apply bD) | exact HB.out)) hb); clear HO772; clear HO778; clear HB; have HO772 := n0_; have HO778 := n1_; have HB := n2_; clear n0_ n1_ n2_; (try clear hb); (try clear hb2); (try clear hk); (try clear hi)))
          go_ret
          exact ⟨by first | rfl | (simp [errW_none, errW_some] <;> rfl) | (simp [*, errW_none, errW_some] <;> rfl), by repeat (first | (with_reducible first | exact HB.out | apply bA | apply bN | apply bD) | exact HB.out)⟩
         ·rw [if_neg c11] at H
          have c11b0 : (((rdOf ByteArray.empty t775 2).size : Int) == 40) = false := beq_eq_false_iff_ne.mpr c11
          have c11b1 : (((rdOf ByteArray.empty t775 2).size : Int) != 40) = true := bne_iff_ne.mpr c11
          obtain rfl := Option.some.inj H
          go_enter Try.func113, Try.ntmps113
          go_wp2_with (first | ((with_reducible refine gate_dst (N := 7) rfl ?_); (try (refine gate_guard (by rfl) ?_; dsimp only)); refine Kd.R_make (Kd.int .u8) _ 5 rfl (N := 7) rfl 25 _ _ rfl 100 rfl rfl Try.underlying25 (.int .u8 0) 1 info5 rfl (by decide) (by omega) 0 (ok := fun _ => True) (okp := fun _ => True) rfl (fun _ hk => hk) trivial (by omega) (by omega) (Below.refl _ _) (Nat.le_refl _) ?_; intro v771 w20 ho21 hb hg_ hnew_; clear hg_ hnew_; (first | rw [← Ny770.out] at ho21 | (simp only [Int.reduceToNat] at ho21; rw [← Ny770.out] at ho21)); have n0_ := mA (Kd.R_lower ho21 (below_size (by repeat (first | (with_reducible first | exact HB.out | apply bA | apply bN | apply bD) | exact HB.out)))); have n1_ := mA (bP (by repeat (first | (with_reducible first | exact HB.out | apply bA | apply bN | apply bD) | exact HB.out)) hb); clear HB; have HO772 := n0_; have HB := n1_; clear n0_ n1_; clear hb ho21; have hcv22 := own_string (P := Try.prog) Try.underlying25 Try.underlying5 Try.underlying9 (Kd.own_of_R HO772.out)) | ((with_reducible refine gate_callee (f := 86) rfl ?_); refine goesL_ (some 9) rfl rfl Try.func86 (by kernel_rfl) rfl #[.agg #[.int .i64 0, .int .i64 0, .int .i64 0, .int .i64 0, .int .i64 0, .bool false, .bool false, .string (⟨#[97, 98, 99, 100]⟩ : ByteArray), .string (⟨#[101, 102, 103, 104]⟩ : ByteArray), .string (⟨#[]⟩ : ByteArray)], .string (strOfNums y770)] rfl (by (try simp only [List.map_toArray, List.map_cons, List.map_nil]); first | done | rfl | (simp only [List.length_drop, List.length_take]; rfl)) ?_; (with_reducible refine (palanquinref05_Put.calls k 0 0 0 0 0 false false (⟨#[97, 98, 99, 100]⟩ : ByteArray) (⟨#[101, 102, 103, 104]⟩ : ByteArray) (⟨#[]⟩ : ByteArray) (strOfNums y770) t773 t774 _ A2.out).mono ?_); rintro e w23 ⟨rfl, hb⟩; refine ⟨_, rfl, ?_⟩; have n0_ := mA (Kd.R_below (by (with_reducible repeat (first | apply Kd.R_alloc | apply Kd.R_drewN | apply Kd.R_drew)); exact HO772.out) hb); have n1_ := mA (bP (by repeat (first | (with_reducible first | exact HB.out | apply bA | apply bN | apply bD) | exact HB.out)) hb); clear HO772; clear HB; have HO772 := n0_; have HB := n1_; clear n0_ n1_; (try clear hb); (try clear hb2); (try clear hk); (try clear hi)) | ((with_reducible refine gate_callee (f := 114) rfl ?_); refine goesL_ (some 14) rfl rfl Try.func114 (by kernel_rfl) rfl #[.string t773, .int .i64 60] rfl (by (try simp only [List.map_toArray, List.map_cons, List.map_nil]); first | done | rfl | (simp only [List.length_drop, List.length_take]; rfl)) ?_; (with_reducible refine (frag_Cut.calls t773 60 t775 t776 _ A3.out).mono ?_); rintro e w24 ⟨v777, rfl, ho0, hb⟩; refine ⟨_, rfl, ?_⟩; have n0_ := mA (Kd.R_below (by (with_reducible repeat (first | apply Kd.R_alloc | apply Kd.R_drewN | apply Kd.R_drew)); exact HO772.out) hb); have n1_ := mA (Kd.R_lower ho0 (below_size (by repeat (first | (with_reducible first | exact HB.out | apply bA | apply bN | apply bD) | exact HB.out)))); have n2_ := mA (bP (by repeat (first | (with_reducible first | exact HB.out | apply bA | apply bN | apply bD) | exact HB.out)) hb); clear HO772; clear HB; have HO772 := n0_; have HO778 := n1_; have HB := n2_; clear n0_ n1_ n2_; (try clear hb); (try clear hb2); (try clear hk); (try clear hi); (try clear ho0); obtain ⟨Ao25, co25, eo25⟩ := Kd.R_slice HO778.out; subst eo25; have p779 : 0 ≤ (0 : Int) := (by omega); have q779 : 0 < (t775.length : Int) := of_decide_eq_true (by first | (with_reducible assumption) | assumption); obtain ⟨ad779, e779, hx779_0⟩ := Kd.at_string (Kd.R_reads' HO778.out).2.2 0 p779 q779; cases e779; have qi779 : (0 < t775.length) = True := eq_true (by omega); (try rw [show ((0 : Int)).toNat = 0 from rfl] at hx779_0); (try rw [Addr.add_zero'] at hx779_0); replace p779 := eq_true p779; replace q779 := eq_true q779; have p780 : 0 ≤ (1 : Int) := (by omega); have q780 : 1 < (t775.length : Int) := of_decide_eq_true (by first | (with_reducible assumption) | assumption); obtain ⟨ad780, e780, hx780_0⟩ := Kd.at_string (Kd.R_reads' HO778.out).2.2 1 p780 q780; obtain rfl : ad779 = ad780 := (by injection e780); (try simp only [show (1 : Int).toNat = 1 from rfl, Nat.reduceMul, Nat.reduceEqDiff, Go.Addr.add, ↓reduceIte] at hx780_0); have qi780 : (1 < t775.length) = True := eq_true (by omega); (try rw [show ((1 : Int)).toNat = 1 from rfl] at hx780_0); replace p780 := eq_true p780; replace q780 := eq_true q780; have p781 : 0 ≤ (2 : Int) := (by omega); have q781 : 2 < (t775.length : Int) := of_decide_eq_true (by first | (with_reducible assumption) | assumption); obtain ⟨ad781, e781, hx781_0⟩ := Kd.at_string (Kd.R_reads' HO778.out).2.2 2 p781 q781; obtain rfl : ad779 = ad781 := (by injection e781); (try simp only [show (2 : Int).toNat = 2 from rfl, Nat.reduceMul, Nat.reduceEqDiff, Go.Addr.add, ↓reduceIte] at hx781_0); have qi781 : (2 < t775.length) = True := eq_true (by omega); (try rw [show ((2 : Int)).toNat = 2 from rfl] at hx781_0); replace p781 := eq_true p781; replace q781 := eq_true q781))
          go_ret
          exact ⟨by first | rfl | (simp [errW_none, errW_some] <;> rfl) | (simp [*, errW_none, errW_some] <;> rfl), by repeat (first | (with_reducible first | exact HB.out | apply bA | apply bN | apply bD) | exact HB.out)⟩
        ·rw [if_neg c10] at H
         exact absurd H (by simp)
       ·rw [if_neg c9] at H
        have c9b0 : (((rdOf ByteArray.empty t775 1).size : Int) == 60) = false := beq_eq_false_iff_ne.mpr c9
        have c9b1 : (((rdOf ByteArray.empty t775 1).size : Int) != 60) = true := bne_iff_ne.mpr c9
        obtain rfl := Option.some.inj H
        go_enter Try.func113, Try.ntmps113
        go_wp2_with (first | ((with_reducible refine gate_dst (N := 7) rfl ?_); (try (refine gate_guard (by rfl) ?_; dsimp only)); refine Kd.R_make (Kd.int .u8) _ 5 rfl (N := 7) rfl 25 _ _ rfl 100 rfl rfl Try.underlying25 (.int .u8 0) 1 info5 rfl (by decide) (by omega) 0 (ok := fun _ => True) (okp := fun _ => True) rfl (fun _ hk => hk) trivial (by omega) (by omega) (Below.refl _ _) (Nat.le_refl _) ?_; intro v771 w26 ho27 hb hg_ hnew_; clear hg_ hnew_; (first | rw [← Ny770.out] at ho27 | (simp only [Int.reduceToNat] at ho27; rw [← Ny770.out] at ho27)); have n0_ := mA (Kd.R_lower ho27 (below_size (by repeat (first | (with_reducible first | exact HB.out | apply bA | apply bN | apply bD) | exact HB.out)))); have n1_ := mA (bP (by repeat (first | (with_reducible first | exact HB.out | apply bA | apply bN | apply bD) | exact HB.out)) hb); clear HB; have HO772 := n0_; have HB := n1_; clear n0_ n1_; clear hb ho27; have hcv28 := own_string (P := Try.prog) Try.underlying25 Try.underlying5 Try.underlying9 (Kd.own_of_R HO772.out)) | ((with_reducible refine gate_callee (f := 86) rfl ?_); refine goesL_ (some 9) rfl rfl Try.func86 (by kernel_rfl) rfl #[.agg #[.int .i64 0, .int .i64 0, .int .i64 0, .int .i64 0, .int .i64 0, .bool false, .bool false, .string (⟨#[97, 98, 99, 100]⟩ : ByteArray), .string (⟨#[101, 102, 103, 104]⟩ : ByteArray), .string (⟨#[]⟩ : ByteArray)], .string (strOfNums y770)] rfl (by (try simp only [List.map_toArray, List.map_cons, List.map_nil]); first | done | rfl | (simp only [List.length_drop, List.length_take]; rfl)) ?_; (with_reducible refine (palanquinref05_Put.calls k 0 0 0 0 0 false false (⟨#[97, 98, 99, 100]⟩ : ByteArray) (⟨#[101, 102, 103, 104]⟩ : ByteArray) (⟨#[]⟩ : ByteArray) (strOfNums y770) t773 t774 _ A2.out).mono ?_); rintro e w29 ⟨rfl, hb⟩; refine ⟨_, rfl, ?_⟩; have n0_ := mA (Kd.R_below (by (with_reducible repeat (first | apply Kd.R_alloc | apply Kd.R_drewN | apply Kd.R_drew)); exact HO772.out) hb); have n1_ := mA (bP (by repeat (first | (with_reducible first | exact HB.out | apply bA | apply bN | apply bD) | exact HB.out)) hb); clear HO772; clear HB; have HO772 := n0_; have HB := n1_; clear n0_ n1_; (try clear hb); (try clear hb2); (try clear hk); (try clear hi)) | ((with_reducible refine gate_callee (f := 114) rfl ?_); refine goesL_ (some 14) rfl rfl Try.func114 (by kernel_rfl) rfl #[.string t773, .int .i64 60] rfl (by (try simp only [List.map_toArray, List.map_cons, List.map_nil]); first | done | rfl | (simp only [List.length_drop, List.length_take]; rfl)) ?_; (with_reducible refine (frag_Cut.calls t773 60 t775 t776 _ A3.out).mono ?_); rintro e w30 ⟨v777, rfl, ho0, hb⟩; refine ⟨_, rfl, ?_⟩; have n0_ := mA (Kd.R_below (by (with_reducible repeat (first | apply Kd.R_alloc | apply Kd.R_drewN | apply Kd.R_drew)); exact HO772.out) hb); have n1_ := mA (Kd.R_lower ho0 (below_size (by repeat (first | (with_reducible first | exact HB.out | apply bA | apply bN | apply bD) | exact HB.out)))); have n2_ := mA (bP (by repeat (first | (with_reducible first | exact HB.out | apply bA | apply bN | apply bD) | exact HB.out)) hb); clear HO772; clear HB; have HO772 := n0_; have HO778 := n1_; have HB := n2_; clear n0_ n1_ n2_; (try clear hb); (try clear hb2); (try clear hk); (try clear hi); (try clear ho0); obtain ⟨Ao31, co31, eo31⟩ := Kd.R_slice HO778.out; subst eo31; have p779 : 0 ≤ (0 : Int) := (by omega); have q779 : 0 < (t775.length : Int) := of_decide_eq_true (by first | (with_reducible assumption) | assumption); obtain ⟨ad779, e779, hx779_0⟩ := Kd.at_string (Kd.R_reads' HO778.out).2.2 0 p779 q779; cases e779; have qi779 : (0 < t775.length) = True := eq_true (by omega); (try rw [show ((0 : Int)).toNat = 0 from rfl] at hx779_0); (try rw [Addr.add_zero'] at hx779_0); replace p779 := eq_true p779; replace q779 := eq_true q779; have p780 : 0 ≤ (1 : Int) := (by omega); have q780 : 1 < (t775.length : Int) := of_decide_eq_true (by first | (with_reducible assumption) | assumption); obtain ⟨ad780, e780, hx780_0⟩ := Kd.at_string (Kd.R_reads' HO778.out).2.2 1 p780 q780; obtain rfl : ad779 = ad780 := (by injection e780); (try simp only [show (1 : Int).toNat = 1 from rfl, Nat.reduceMul, Nat.reduceEqDiff, Go.Addr.add, ↓reduceIte] at hx780_0); have qi780 : (1 < t775.length) = True := eq_true (by omega); (try rw [show ((1 : Int)).toNat = 1 from rfl] at hx780_0); replace p780 := eq_true p780; replace q780 := eq_true q780))
        go_ret
        exact ⟨by first | rfl | (simp [errW_none, errW_some] <;> rfl) | (simp [*, errW_none, errW_some] <;> rfl), by repeat (first | (with_reducible first | exact HB.out | apply bA | apply bN | apply bD) | exact HB.out)⟩
      ·rw [if_neg c8] at H
       exact absurd H (by simp)
     ·rw [if_neg c7] at H
      have c7b0 : (((rdOf ByteArray.empty t775 0).size : Int) == 60) = false := beq_eq_false_iff_ne.mpr c7
      have c7b1 : (((rdOf ByteArray.empty t775 0).size : Int) != 60) = true := bne_iff_ne.mpr c7
      obtain rfl := Option.some.inj H
      go_enter Try.func113, Try.ntmps113
      go_wp2_with (first | ((with_reducible refine gate_dst (N := 7) rfl ?_); (try (refine gate_guard (by rfl) ?_; dsimp only)); refine Kd.R_make (Kd.int .u8) _ 5 rfl (N := 7) rfl 25 _ _ rfl 100 rfl rfl Try.underlying25 (.int .u8 0) 1 info5 rfl (by decide) (by omega) 0 (ok := fun _ => True) (okp := fun _ => True) rfl (fun _ hk => hk) trivial (by omega) (by omega) (Below.refl _ _) (Nat.le_refl _) ?_; intro v771 w32 ho33 hb hg_ hnew_; clear hg_ hnew_; (first | rw [← Ny770.out] at ho33 | (simp only [Int.reduceToNat] at ho33; rw [← Ny770.out] at ho33)); have n0_ := mA (Kd.R_lower ho33 (below_size (by repeat (first | (with_reducible first | exact HB.out | apply bA | apply bN | apply bD) | exact HB.out)))); have n1_ := mA (bP (by repeat (first | (with_reducible first | exact HB.out | apply bA | apply bN | apply bD) | exact HB.out)) hb); clear HB; have HO772 := n0_; have HB := n1_; clear n0_ n1_; clear hb ho33; have hcv34 := own_string (P := Try.prog) Try.underlying25 Try.underlying5 Try.underlying9 (Kd.own_of_R HO772.out)) | ((with_reducible refine gate_callee (f := 86) rfl ?_); refine goesL_ (some 9) rfl rfl Try.func86 (by kernel_rfl) rfl #[.agg #[.int .i64 0, .int .i64 0, .int .i64 0, .int .i64 0, .int .i64 0, .bool false, .bool false, .string (⟨#[97, 98, 99, 100]⟩ : ByteArray), .string (⟨#[101, 102, 103, 104]⟩ : ByteArray), .string (⟨#[]⟩ : ByteArray)], .string (strOfNums y770)] rfl (by (try simp only [List.map_toArray, List.map_cons, List.map_nil]); first | done | rfl | (simp only [List.length_drop, List.length_take]; rfl)) ?_; (with_reducible refine (palanquinref05_Put.calls k 0 0 0 0 0 false false (⟨#[97, 98, 99, 100]⟩ : ByteArray) (⟨#[101, 102, 103, 104]⟩ : ByteArray) (⟨#[]⟩ : ByteArray) (strOfNums y770) t773 t774 _ A2.out).mono ?_); rintro e w35 ⟨rfl, hb⟩; refine ⟨_, rfl, ?_⟩; have n0_ := mA (Kd.R_below (by (with_reducible repeat (first | apply Kd.R_alloc | apply Kd.R_drewN | apply Kd.R_drew)); exact HO772.out) hb); have n1_ := mA (bP (by repeat (first | (with_reducible first | exact HB.out | apply bA | apply bN | apply bD) | exact HB.out)) hb); clear HO772; clear HB; have HO772 := n0_; have HB := n1_; clear n0_ n1_; (try clear hb); (try clear hb2); (try clear hk); (try clear hi)) | ((with_reducible refine gate_callee (f := 114) rfl ?_); refine goesL_ (some 14) rfl rfl Try.func114 (by kernel_rfl) rfl #[.string t773, .int .i64 60] rfl (by (try simp only [List.map_toArray, List.map_cons, List.map_nil]); first | done | rfl | (simp only [List.length_drop, List.length_take]; rfl)) ?_; (with_reducible refine (frag_Cut.calls t773 60 t775 t776 _ A3.out).mono ?_); rintro e w36 ⟨v777, rfl, ho0, hb⟩; refine ⟨_, rfl, ?_⟩; have n0_ := mA (Kd.R_below (by (with_reducible repeat (first | apply Kd.R_alloc | apply Kd.R_drewN | apply Kd.R_drew)); exact HO772.out) hb); have n1_ := mA (Kd.R_lower ho0 (below_size (by repeat (first | (with_reducible first | exact HB.out | apply bA | apply bN | apply bD) | exact HB.out)))); have n2_ := mA (bP (by repeat (first | (with_reducible first | exact HB.out | apply bA | apply bN | apply bD) | exact HB.out)) hb); clear HO772; clear HB; have HO772 := n0_; have HO778 := n1_; have HB := n2_; clear n0_ n1_ n2_; (try clear hb); (try clear hb2); (try clear hk); (try clear hi); (try clear ho0); obtain ⟨Ao37, co37, eo37⟩ := Kd.R_slice HO778.out; subst eo37; have p779 : 0 ≤ (0 : Int) := (by omega); have q779 : 0 < (t775.length : Int) := of_decide_eq_true (by first | (with_reducible assumption) | assumption); obtain ⟨ad779, e779, hx779_0⟩ := Kd.at_string (Kd.R_reads' HO778.out).2.2 0 p779 q779; cases e779; have qi779 : (0 < t775.length) = True := eq_true (by omega); (try rw [show ((0 : Int)).toNat = 0 from rfl] at hx779_0); (try rw [Addr.add_zero'] at hx779_0); replace p779 := eq_true p779; replace q779 := eq_true q779))
      go_ret
      exact ⟨by first | rfl | (simp [errW_none, errW_some] <;> rfl) | (simp [*, errW_none, errW_some] <;> rfl), by repeat (first | (with_reducible first | exact HB.out | apply bA | apply bN | apply bD) | exact HB.out)⟩
    ·rw [if_neg c6] at H
     exact absurd H (by simp)
   ·rw [if_neg c5] at H
    have c5b0 : ((t775.length : Int) == 3) = false := beq_eq_false_iff_ne.mpr c5
    have c5b1 : ((t775.length : Int) != 3) = true := bne_iff_ne.mpr c5
    obtain rfl := Option.some.inj H
    go_enter Try.func113, Try.ntmps113
    go_wp2_with (first | ((with_reducible refine gate_dst (N := 7) rfl ?_); (try (refine gate_guard (by rfl) ?_; dsimp only)); refine Kd.R_make (Kd.int .u8) _ 5 rfl (N := 7) rfl 25 _ _ rfl 100 rfl rfl Try.underlying25 (.int .u8 0) 1 info5 rfl (by decide) (by omega) 0 (ok := fun _ => True) (okp := fun _ => True) rfl (fun _ hk => hk) trivial (by omega) (by omega) (Below.refl _ _) (Nat.le_refl _) ?_; intro v771 w38 ho39 hb hg_ hnew_; clear hg_ hnew_; (first | rw [← Ny770.out] at ho39 | (simp only [Int.reduceToNat] at ho39; rw [← Ny770.out] at ho39)); have n0_ := mA (Kd.R_lower ho39 (below_size (by repeat (first | (with_reducible first | exact HB.out | apply bA | apply bN | apply bD) | exact HB.out)))); have n1_ := mA (bP (by repeat (first | (with_reducible first | exact HB.out | apply bA | apply bN | apply bD) | exact HB.out)) hb); clear HB; have HO772 := n0_; have HB := n1_; clear n0_ n1_; clear hb ho39; have hcv40 := own_string (P := Try.prog) Try.underlying25 Try.underlying5 Try.underlying9 (Kd.own_of_R HO772.out)) | ((with_reducible refine gate_callee (f := 86) rfl ?_); refine goesL_ (some 9) rfl rfl Try.func86 (by kernel_rfl) rfl #[.agg #[.int .i64 0, .int .i64 0, .int .i64 0, .int .i64 0, .int .i64 0, .bool false, .bool false, .string (⟨#[97, 98, 99, 100]⟩ : ByteArray), .string (⟨#[101, 102, 103, 104]⟩ : ByteArray), .string (⟨#[]⟩ : ByteArray)], .string (strOfNums y770)] rfl (by (try simp only [List.map_toArray, List.map_cons, List.map_nil]); first | done | rfl | (simp only [List.length_drop, List.length_take]; rfl)) ?_; (with_reducible refine (palanquinref05_Put.calls k 0 0 0 0 0 false false (⟨#[97, 98, 99, 100]⟩ : ByteArray) (⟨#[101, 102, 103, 104]⟩ : ByteArray) (⟨#[]⟩ : ByteArray) (strOfNums y770) t773 t774 _ A2.out).mono ?_); rintro e w41 ⟨rfl, hb⟩; refine ⟨_, rfl, ?_⟩; have n0_ := mA (Kd.R_below (by (with_reducible repeat (first | apply Kd.R_alloc | apply Kd.R_drewN | apply Kd.R_drew)); exact HO772.out) hb); have n1_ := mA (bP (by repeat (first | (with_reducible first | exact HB.out | apply bA | apply bN | apply bD) | exact HB.out)) hb); clear HO772; clear HB; have HO772 := n0_; have HB := n1_; clear n0_ n1_; (try clear hb); (try clear hb2); (try clear hk); (try clear hi)) | ((with_reducible refine gate_callee (f := 114) rfl ?_); refine goesL_ (some 14) rfl rfl Try.func114 (by kernel_rfl) rfl #[.string t773, .int .i64 60] rfl (by (try simp only [List.map_toArray, List.map_cons, List.map_nil]); first | done | rfl | (simp only [List.length_drop, List.length_take]; rfl)) ?_; (with_reducible refine (frag_Cut.calls t773 60 t775 t776 _ A3.out).mono ?_); rintro e w42 ⟨v777, rfl, ho0, hb⟩; refine ⟨_, rfl, ?_⟩; have n0_ := mA (Kd.R_below (by (with_reducible repeat (first | apply Kd.R_alloc | apply Kd.R_drewN | apply Kd.R_drew)); exact HO772.out) hb); have n1_ := mA (Kd.R_lower ho0 (below_size (by repeat (first | (with_reducible first | exact HB.out | apply bA | apply bN | apply bD) | exact HB.out)))); have n2_ := mA (bP (by repeat (first | (with_reducible first | exact HB.out | apply bA | apply bN | apply bD) | exact HB.out)) hb); clear HO772; clear HB; have HO772 := n0_; have HO778 := n1_; have HB := n2_; clear n0_ n1_ n2_; (try clear hb); (try clear hb2); (try clear hk); (try clear hi); (try clear ho0); obtain ⟨Ao43, co43, eo43⟩ := Kd.R_slice HO778.out; subst eo43))
    go_ret
    exact ⟨by first | rfl | (simp [errW_none, errW_some] <;> rfl) | (simp [*, errW_none, errW_some] <;> rfl), by repeat (first | (with_reducible first | exact HB.out | apply bA | apply bN | apply bD) | exact HB.out)⟩
  ·rw [if_neg c4] at H
   have c4b0 : (t776 == 0) = false := beq_eq_false_iff_ne.mpr c4
   have c4b1 : (t776 != 0) = true := bne_iff_ne.mpr c4
   obtain rfl := Option.some.inj H
   go_enter Try.func113, Try.ntmps113
   go_wp2_with (first | ((with_reducible refine gate_dst (N := 7) rfl ?_); (try (refine gate_guard (by rfl) ?_; dsimp only)); refine Kd.R_make (Kd.int .u8) _ 5 rfl (N := 7) rfl 25 _ _ rfl 100 rfl rfl Try.underlying25 (.int .u8 0) 1 info5 rfl (by decide) (by omega) 0 (ok := fun _ => True) (okp := fun _ => True) rfl (fun _ hk => hk) trivial (by omega) (by omega) (Below.refl _ _) (Nat.le_refl _) ?_; intro v771 w44 ho45 hb hg_ hnew_; clear hg_ hnew_; (first | rw [← Ny770.out] at ho45 | (simp only [Int.reduceToNat] at ho45; rw [← Ny770.out] at ho45)); have n0_ := mA (Kd.R_lower ho45 (below_size (by repeat (first | (with_reducible first | exact HB.out | apply bA | apply bN | apply bD) | exact HB.out)))); have n1_ := mA (bP (by repeat (first | (with_reducible first | exact HB.out | apply bA | apply bN | apply bD) | exact HB.out)) hb); clear HB; have HO772 := n0_; have HB := n1_; clear n0_ n1_; clear hb ho45; have hcv46 := own_string (P := Try.prog) Try.underlying25 Try.underlying5 Try.underlying9 (Kd.own_of_R HO772.out)) | ((with_reducible refine gate_callee (f := 86) rfl ?_); refine goesL_ (some 9) rfl rfl Try.func86 (by kernel_rfl) rfl #[.agg #[.int .i64 0, .int .i64 0, .int .i64 0, .int .i64 0, .int .i64 0, .bool false, .bool false, .string (⟨#[97, 98, 99, 100]⟩ : ByteArray), .string (⟨#[101, 102, 103, 104]⟩ : ByteArray), .string (⟨#[]⟩ : ByteArray)], .string (strOfNums y770)] rfl (by (try simp only [List.map_toArray, List.map_cons, List.map_nil]); first | done | rfl | (simp only [List.length_drop, List.length_take]; rfl)) ?_; (with_reducible refine (palanquinref05_Put.calls k 0 0 0 0 0 false false (⟨#[97, 98, 99, 100]⟩ : ByteArray) (⟨#[101, 102, 103, 104]⟩ : ByteArray) (⟨#[]⟩ : ByteArray) (strOfNums y770) t773 t774 _ A2.out).mono ?_); rintro e w47 ⟨rfl, hb⟩; refine ⟨_, rfl, ?_⟩; have n0_ := mA (Kd.R_below (by (with_reducible repeat (first | apply Kd.R_alloc | apply Kd.R_drewN | apply Kd.R_drew)); exact HO772.out) hb); have n1_ := mA (bP (by repeat (first | (with_reducible first | exact HB.out | apply bA | apply bN | apply bD) | exact HB.out)) hb); clear HO772; clear HB; have HO772 := n0_; have HB := n1_; clear n0_ n1_; (try clear hb); (try clear hb2); (try clear hk); (try clear hi)) | ((with_reducible refine gate_callee (f := 114) rfl ?_); refine goesL_ (some 14) rfl rfl Try.func114 (by kernel_rfl) rfl #[.string t773, .int .i64 60] rfl (by (try simp only [List.map_toArray, List.map_cons, List.map_nil]); first | done | rfl | (simp only [List.length_drop, List.length_take]; rfl)) ?_; (with_reducible refine (frag_Cut.calls t773 60 t775 t776 _ A3.out).mono ?_); rintro e w48 ⟨v777, rfl, ho0, hb⟩; refine ⟨_, rfl, ?_⟩; have n0_ := mA (Kd.R_below (by (with_reducible repeat (first | apply Kd.R_alloc | apply Kd.R_drewN | apply Kd.R_drew)); exact HO772.out) hb); have n1_ := mA (Kd.R_lower ho0 (below_size (by repeat (first | (with_reducible first | exact HB.out | apply bA | apply bN | apply bD) | exact HB.out)))); have n2_ := mA (bP (by repeat (first | (with_reducible first | exact HB.out | apply bA | apply bN | apply bD) | exact HB.out)) hb); clear HO772; clear HB; have HO772 := n0_; have HO778 := n1_; have HB := n2_; clear n0_ n1_ n2_; (try clear hb); (try clear hb2); (try clear hk); (try clear hi); (try clear ho0)))
   go_ret
   exact ⟨by first | rfl | (simp [errW_none, errW_some] <;> rfl) | (simp [*, errW_none, errW_some] <;> rfl), by repeat (first | (with_reducible first | exact HB.out | apply bA | apply bN | apply bD) | exact HB.out)⟩
 ·rw [if_neg c1] at H
  exact absurd H (by simp)

end Go.Proofs.Ytejmipoolbodgaa.G
end

section
/- Plain facts for the laws of chapter 15: the document's example; parts of parts. -/
namespace Go.Proofs.Ytejmipoolbodgaa.Pure
open Go.RowKit Go.Proofs.YtejmipoolbodgaaW.PrintWords Go.Proofs.YtejmipoolbodgaaW.PrintLast Go.Proofs.Ytejmipoolbodgaa.G Go.Proofs.Ytejmipoolbodgaa.Pal
set_option linter.unusedVariables false
theorem cut_f {s : ByteArray} (hs : s.size ≤ 140737488351232) (m : Int) : frag_Cut.f s m = some (cutL s m, cutErr s m) := by unfold frag_Cut.f; rw [if_pos hs]
theorem get4_err {z : ByteArray} (hs : z.size ≤ 140737488351232) (h : ip4Err z ≠ 0) : ip4_Get.f z = some (0, 0, 0, 0, 0, false, false, ⟨#[]⟩, ⟨#[]⟩, ⟨#[]⟩, ⟨#[]⟩, ip4Err z) := by
  unfold ip4_Get.f
  rw [if_pos hs, if_neg h]
theorem ext_ext (P : ByteArray) (a c i j : Nat) (hij : i ≤ j) (hj : a + j ≤ c) : (P.extract a c).extract i j = P.extract (a + i) (a + j) := by
  apply bl4_inj
  rw [cut4, cut4, cut4, List.take_drop, List.take_take, List.drop_drop, Nat.min_eq_left hj]
theorem part_2067 : frag_Part.f 20 67 = some 40 := by decide +kernel
theorem awake15 (k : Nat) (hk : 6002 < k) : palanquinlaw15_awake.f k = some true := by
  unfold palanquinlaw15_awake.f
  obtain ⟨d, hd⟩ : ∃ d : ByteArray, d = strOfNums (List.replicate 100 0) := ⟨_, rfl⟩
  have hz : d.size = 100 := by rw [hd]; decide +kernel
  rw [← hd]
  have s1 : (⟨#[97, 98, 99, 100]⟩ : ByteArray).size = 4 := rfl
  have s2 : (⟨#[101, 102, 103, 104]⟩ : ByteArray).size = 4 := rfl
  have s3 : (⟨#[]⟩ : ByteArray).size = 0 := rfl
  have h : ok4 ((0 : Nat) : Int) ((0 : Nat) : Int) ((0 : Nat) : Int) ((0 : Nat) : Int) ((0 : Nat) : Int) ⟨#[97, 98, 99, 100]⟩ ⟨#[101, 102, 103, 104]⟩ ⟨#[]⟩ := ⟨by omega, by omega, by omega, by omega, by omega, s1, s2, by rw [s3]; decide, by rw [s3]⟩
  have hp : 20 + (⟨#[]⟩ : ByteArray).size + d.size ≤ 65535 := by rw [s3, hz]; decide
  have e := put4_ok (df := false) (mf := false) (p := d) h hp
  obtain ⟨p, hpe⟩ : ∃ p : ByteArray, p = ⟨(put4 0 0 0 0 0 false false ⟨#[97, 98, 99, 100]⟩ ⟨#[101, 102, 103, 104]⟩ ⟨#[]⟩ d).toArray⟩ := ⟨_, rfl⟩
  rw [← hpe] at e
  have g := get4_parts (get_put4 (x := p) (df := false) (mf := false) h hp (by rw [hpe]; exact bl4_mk _))
  rw [show (((0 : Nat) : Int)) = 0 from rfl] at e
  obtain ⟨g0, g1, g2, g3, g4, g5, g6, g7, g8, g9, g10, g11⟩ := g
  have sz := sized4 g0
  rw [g10, g11, s3, hz] at sz
  have hl20 : hl4 p = 20 := by omega
  have hz40 : nF p 60 = 40 := by unfold nF; rw [hl20]
  have h28 : (28 : Int) ≤ 60 ∧ (60 : Int) ≤ 65535 := by decide
  have hnl : ¬ (p.size : Int) ≤ 60 := by omega
  have ce : cutErr p 60 = 0 := by
    rw [cutErr_in g0 h28, if_neg hnl, if_neg (by rw [g6]; decide), show (60 : Int).toNat = 60 from rfl, hz40, if_neg (by decide), if_neg (by rw [g3, g11, hz]; decide)]
  have cl : cutL p 60 = [pieceF p 40 0, pieceF p 40 1, pieceF p 40 2] := by
    unfold cutL
    rw [if_pos ce, if_neg hnl, show (60 : Int).toNat = 60 from rfl, hz40, g11]
    unfold cntP
    rw [hz]; rfl
  have pcs : ∀ i, i < 3 → (pieceF p 40 i).size = 20 + (partP d 40 i).size := fun i hi => by
    have f := piece_fits (s := p) g0 (z := 40) (by decide) (by rw [g3, g11, hz]; decide) (by rw [g11, hz]; decide) i (by rw [g11]; unfold cntP; rw [hz]; exact hi)
    have := (pieceF_is g0 (by decide) f.1 f.2.1).size g0
    rw [this.2, hl20, g11]
  have q0 := pcs 0 (by decide)
  have q1 := pcs 1 (by decide)
  have q2 := pcs 2 (by decide)
  rw [partP_size, hz] at q0 q1 q2
  rw [if_pos (by decide), ref_put4 _ _ _ _ _ _ _ _ _ _ _ (by rw [s1]; decide) (by rw [s2]; decide) (by rw [s3]; decide) (by rw [hz]; decide) k hk, e, Option.bind_some]
  dsimp only
  rw [cut_f (by omega), Option.bind_some, ce, cl, if_pos rfl, if_pos (by rfl), if_pos (by show (0 : Int) < ((3 : Nat) : Int); decide)]
  rw [if_pos (by show (((pieceF p 40 0).size : Nat) : Int) = 60; omega), if_pos (by show (1 : Int) < ((3 : Nat) : Int); decide), if_pos (by show (((pieceF p 40 1).size : Nat) : Int) = 60; omega), if_pos (by show (2 : Int) < ((3 : Nat) : Int); decide), if_pos (by show (((pieceF p 40 2).size : Nat) : Int) = 40; omega), part_2067]
  rfl
end Go.Proofs.Ytejmipoolbodgaa.Pure
end
