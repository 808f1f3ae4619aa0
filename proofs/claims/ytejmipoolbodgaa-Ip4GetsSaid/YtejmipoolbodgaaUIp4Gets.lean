/- Plain law of Ip4Gets: what any bytes say as a packet is just the document's. -/
import Derived.Test.YtejmipoolbodgaaGIp4Gets
import Derived.Test.YtejmipoolbodgaaGref05q2
import Derived.Test.YtejmipoolbodgaaPIp4B
import Derived.Test.YtejmipoolbodgaaPRef02
namespace Go.Proofs.Ytejmipoolbodgaa.Pure
open Go.RowKit Go.Proofs.YtejmipoolbodgaaW.PrintWords Go.Proofs.YtejmipoolbodgaaW.PrintLast Go.Proofs.Ytejmipoolbodgaa.G Go.Proofs.Ytejmipoolbodgaa.Pal
theorem bt4_one (s : ByteArray) (i : Nat) (h : i < s.size) : bt s (i : Int) = ((be (bl (s.extract i (i + 1))) : Nat) : Int) := by
  have e : ((bl s).take (i + 1)).drop i = [(bl s)[i]'(by rw [bl_length]; exact h)] := by
    rw [List.drop_take, show i + 1 - i = 1 by omega, List.drop_eq_getElem_cons (by rw [bl_length]; exact h)]; rfl
  rw [bt_bl s i h, cut4, e]
  simp [be]
theorem r4a (B : Nat) (h : B < 256) : Int.tdiv (B : Int) 16 % 256 = ((B / 16 : Nat) : Int) := by rw [Int.tdiv_eq_ediv_of_nonneg (by omega)]; omega
theorem r4b (B : Nat) (h : B < 256) : wrap64 (wrap64 (Int.tmod (B : Int) 16) * 4) = ((4 * (B % 16) : Nat) : Int) := by
  have e : wrap64 (Int.tmod (B : Int) 16) = ((B % 16 : Nat) : Int) := by rw [Int.tmod_eq_emod_of_nonneg (by omega)]; unfold wrap64; omega
  rw [e]
  have : B % 16 < 16 := Nat.mod_lt _ (by decide)
  generalize B % 16 = m at this ⊢
  unfold wrap64; omega
theorem r4c (F : Nat) (h : F < 32768) : Int.tmod (F : Int) 8192 = ((F % 8192 : Nat) : Int) := by rw [Int.tmod_eq_emod_of_nonneg (by omega)]; omega
theorem r4d (F : Nat) (h : F < 32768) : (wrap64 (Int.tdiv (F : Int) 16384) == 1) = (F / 16384 % 2 == 1) := by
  have e : wrap64 (Int.tdiv (F : Int) 16384) = ((F / 16384 : Nat) : Int) := by rw [Int.tdiv_eq_ediv_of_nonneg (by omega)]; unfold wrap64; omega
  rw [e, Bool.eq_iff_iff, beq_iff_eq, beq_iff_eq]; omega
theorem r4e (F : Nat) (h : F < 32768) : (Int.tmod (wrap64 (Int.tdiv (F : Int) 8192)) 2 == 1) = (F / 8192 % 2 == 1) := by
  have e : wrap64 (Int.tdiv (F : Int) 8192) = ((F / 8192 : Nat) : Int) := by rw [Int.tdiv_eq_ediv_of_nonneg (by omega)]; unfold wrap64; omega
  rw [e, Int.tmod_eq_emod_of_nonneg (by omega), Bool.eq_iff_iff, beq_iff_eq, beq_iff_eq]; omega
theorem w4_small (x : Nat) (h : x < 65536) : wrap64 (x : Int) = (x : Int) := by unfold wrap64; omega
theorem at4 (s : ByteArray) (i : Nat) (hi : i ≤ 100) (h : i + 2 ≤ s.size) (k : Nat) (hk : 2 < k) : palanquinref05_at.f k s (i : Int) 2 = some ((be (bl (s.extract i (i + 2))) : Nat) : Int) := by
  unfold palanquinref05_at.f
  have hw : wrap64 ((i : Int) + 2) = ((i + 2 : Nat) : Int) := by unfold wrap64; omega
  have hz : (s.extract i (i + 2)).size = 2 := by simp only [ByteArray.size_extract]; omega
  have hb : be (bl (s.extract i (i + 2))) < 65536 := be_lt_of _ 2 (by rw [bl_length, hz]; exact Nat.le_refl _)
  rw [hw, if_pos (by omega), if_pos (by omega), if_pos (by omega), Int.toNat_natCast, Int.toNat_natCast, value_is _ (by rw [hz]; decide) k (by rw [hz]; exact hk), Option.bind_some, w4_small _ hb]
theorem ref_get4 (s : ByteArray) (hs : s.size ≤ 140737488351232) (k : Nat) (hk : 6000 < k) : palanquinref05_Get.f (k + 1) s = ip4_Get.f s := by
  unfold palanquinref05_Get.f ip4_Get.f
  rw [if_pos hs]
  by_cases h20 : s.size < 20
  · have he : ip4Err s = 2 := if_pos h20
    rw [if_pos (by omega), he, if_neg (by decide)]
  have z : ∀ i j, (bl (s.extract i j)).length = min j s.size - i := fun i j => by rw [bl_length]; simp only [ByteArray.size_extract]
  have b0 : be (bl (s.extract 0 1)) < 256 := be_lt_of _ 1 (by rw [z]; omega)
  have b1 : be (bl (s.extract 1 2)) < 256 := be_lt_of _ 1 (by rw [z]; omega)
  have b8 : be (bl (s.extract 8 9)) < 256 := be_lt_of _ 1 (by rw [z]; omega)
  have b9 : be (bl (s.extract 9 10)) < 256 := be_lt_of _ 1 (by rw [z]; omega)
  have e0 : bt s 0 = ((be (bl (s.extract 0 1)) : Nat) : Int) := bt4_one s 0 (by omega)
  have e1 : bt s 1 = ((be (bl (s.extract 1 2)) : Nat) : Int) := bt4_one s 1 (by omega)
  have e8 : bt s 8 = ((be (bl (s.extract 8 9)) : Nat) : Int) := bt4_one s 8 (by omega)
  have e9 : bt s 9 = ((be (bl (s.extract 9 10)) : Nat) : Int) := bt4_one s 9 (by omega)
  rw [if_neg (by omega), if_pos (by omega), e0, r4a _ b0, r4b _ b0]
  by_cases hv : be (bl (s.extract 0 1)) / 16 = 4
  case neg =>
    have he : ip4Err s = 3 := by unfold ip4Err; rw [if_neg h20, if_neg hv]
    rw [if_neg (by omega), he, if_neg (by decide)]
  rw [if_pos (by omega), show 4 * (be (bl (s.extract 0 1)) % 16) = hl4 s from rfl]
  have hmax : hl4 s ≤ 60 := by unfold hl4; omega
  have bad : ip4Err s = 4 → palanquinref05_Get.j0 (k + 1) s ((hl4 s : Nat) : Int) true 0 0 0 0 0 false false (⟨#[]⟩ : ByteArray) (⟨#[]⟩ : ByteArray) (⟨#[]⟩ : ByteArray) = some (if ip4Err s = 0 then (((be (bl (s.extract 1 2)) : Nat) : Int), ((be (bl (s.extract 4 6)) : Nat) : Int), ((be (bl (s.extract 6 8)) % 8192 : Nat) : Int), ((be (bl (s.extract 8 9)) : Nat) : Int), ((be (bl (s.extract 9 10)) : Nat) : Int), (be (bl (s.extract 6 8)) / 16384 % 2 == 1), (be (bl (s.extract 6 8)) / 8192 % 2 == 1), s.extract 12 16, s.extract 16 20, s.extract 20 (hl4 s), s.extract (hl4 s) s.size, 0) else (0, 0, 0, 0, 0, false, false, ⟨#[]⟩, ⟨#[]⟩, ⟨#[]⟩, ⟨#[]⟩, ip4Err s)) := fun he => by
    rw [palanquinref05_Get.j0, if_pos rfl, he, if_neg (by decide)]
  by_cases hl : 20 ≤ hl4 s
  case neg => rw [if_pos (by omega)]; exact bad (by unfold ip4Err; rw [if_neg h20, if_pos hv, if_neg (fun h => hl h.1)])
  rw [if_neg (by omega)]
  by_cases hm : hl4 s ≤ s.size
  case neg => rw [if_pos (by omega)]; exact bad (by unfold ip4Err; rw [if_neg h20, if_pos hv, if_neg (fun h => hm h.2.1)])
  have a2 := at4 s 2 (by decide) (by omega) (k + 1) (by omega)
  rw [show ((2 : Nat) : Int) = 2 from rfl] at a2
  rw [if_neg (by omega), a2, Option.bind_some]
  by_cases hT : be (bl (s.extract 2 4)) = s.size
  case neg =>
    have hT' : ((((be (bl (s.extract 2 (2 + 2))) : Nat) : Int)) != (s.size : Int)) = true := bne_iff_ne.mpr (fun h => hT (by exact_mod_cast h))
    rw [hT']; exact bad (by unfold ip4Err; rw [if_neg h20, if_pos hv, if_neg (fun h => hT h.2.2)])
  have hT' : ((((be (bl (s.extract 2 (2 + 2))) : Nat) : Int)) != (s.size : Int)) = false := bne_eq_false_iff_eq.mpr (by exact_mod_cast hT)
  rw [hT', palanquinref05_Get.j0, if_neg (by decide), if_pos (by omega), if_pos (by omega), Int.toNat_natCast, R2.ref_sum _ (by simp only [ByteArray.size_extract]; omega) k (by omega), Option.bind_some]
  by_cases hc : csum (bl (s.extract 0 (hl4 s))) = 0
  case neg =>
    have he : ip4Err s = 5 := by unfold ip4Err; rw [if_neg h20, if_pos hv, if_pos ⟨hl, hm, hT⟩, if_neg hc]
    rw [if_neg (by omega), he, if_neg (by decide)]
  have a6 := at4 s 6 (by decide) (by omega) k (by omega)
  have a4 := at4 s 4 (by decide) (by omega) k (by omega)
  rw [show ((6 : Nat) : Int) = 6 from rfl, show 6 + 2 = 8 from rfl] at a6
  rw [show ((4 : Nat) : Int) = 4 from rfl, show 4 + 2 = 6 from rfl] at a4
  rw [if_pos (by omega), a6, Option.bind_some]
  by_cases hf : be (bl (s.extract 6 8)) / 32768 = 0
  case neg =>
    have he : ip4Err s = 9 := by unfold ip4Err; rw [if_neg h20, if_pos hv, if_pos ⟨hl, hm, hT⟩, if_pos hc, if_neg hf]
    rw [if_pos (by omega), he, if_neg (by decide)]
  have he : ip4Err s = 0 := by unfold ip4Err; rw [if_neg h20, if_pos hv, if_pos ⟨hl, hm, hT⟩, if_pos hc, if_pos hf]
  have hF : be (bl (s.extract 6 8)) < 32768 := by omega
  rw [if_neg (by omega), if_pos (by omega), a4, Option.bind_some, if_pos (by omega), if_pos (by omega), if_pos (by decide), if_pos (by omega), if_pos (by decide), if_pos (by omega), if_pos (by omega), he, if_pos rfl, e1, e8, e9, w4_small _ (by omega), w4_small _ (by omega), w4_small _ (by omega), r4c _ hF, r4d _ hF, r4e _ hF]
theorem Ip4Gets : palanquinlaw05_Ip4Gets.Pure := by
  intro s hs
  refine ⟨6001 + 1, ?_⟩
  unfold palanquinlaw05_Ip4Gets.f
  rw [awake05, Option.bind_some, if_pos rfl]
  by_cases h1 : (s.size : Int) > 70000
  · rw [if_pos h1]
  rw [if_neg h1, ref_get4 s hs 6001 (by decide)]
  obtain ⟨x, hx⟩ : ∃ x, ip4_Get.f s = some x := by unfold ip4_Get.f; rw [if_pos hs]; exact ⟨_, rfl⟩
  rw [hx, Option.bind_some, Option.bind_some, if_pos (by simp), if_pos rfl, beq_self_eq_true]
end Go.Proofs.Ytejmipoolbodgaa.Pure
