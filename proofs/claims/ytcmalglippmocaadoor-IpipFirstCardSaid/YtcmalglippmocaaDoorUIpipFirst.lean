/- The plain law of IpipFirst: a packet is told by its first four bits alone. -/
import Derived.Test.YtcmalglippmocaaDoorPIpip
import Derived.Test.YtcmalglippmocaaDoorGIpipFirst
namespace Go.Proofs.YtcmalglippmocaaDoor.Pure
open Go.RowKit Go.Proofs.YtcmalglippmocaaDoorW.PrintWords Go.Proofs.YtcmalglippmocaaDoorW.PrintLast Go.Proofs.YtcmalglippmocaaDoor.G Go.Proofs.YtcmalglippmocaaDoor.Pal
set_option linter.unusedVariables false
theorem first_nib : ∀ (x : Fin 256) (y : Fin 16), (Go.bits .or .u8 (Go.bits .and .u8 (x.val : Int) 240) ((y.val : Int) % 256)) % 256 / 16 = (x.val : Int) / 16 ∧ 0 ≤ (Go.bits .or .u8 (Go.bits .and .u8 (x.val : Int) 240) ((y.val : Int) % 256)) := by decide +kernel
theorem one_text (B : Int) (h : 0 ≤ B) (x : ByteArray) : (strOfNums [B] ++ x).size = 1 + x.size ∧ bt (strOfNums [B] ++ x) 0 = B % 256 := by
  obtain ⟨n, rfl⟩ := Int.eq_ofNat_of_zero_le h
  have e : strOfNums [(n : Int)] = ⟨#[UInt8.ofNat n]⟩ := by simp [strOfNums]
  rw [e]
  have hs : ((⟨#[UInt8.ofNat n]⟩ : ByteArray) ++ x).size = 1 + x.size := by rw [ByteArray.size_append]; rfl
  refine ⟨hs, ?_⟩
  rw [← bt_at _ 0 (by rw [hs]; show 0 < _; omega)]
  rw [show (((⟨#[UInt8.ofNat n]⟩ : ByteArray) ++ x)[(0 : Int).toNat]'(by rw [hs]; show 0 < _; omega)) = UInt8.ofNat n by
    rw [ByteArray.getElem_append_left (by show 0 < 1; decide)]; rfl]
  simp
theorem IpipFirst (a0 a1 : ByteArray) (w0 : a0.size ≤ 140737488351232) (w1 : a1.size ≤ 140737488351232) : ∃ k, palanquinlaw11_IpipFirst.f k a0 a1 = some true := by
  refine ⟨1, ?_⟩
  unfold palanquinlaw11_IpipFirst.f
  rw [awake11, Option.bind_some, if_pos rfl]
  have end_ : palanquinlaw11_IpipFirst.j0 1 a0 a1 true = some true := by rw [palanquinlaw11_IpipFirst.j0, if_pos rfl]
  split
  · exact end_
  split
  · exact end_
  by_cases h0 : a0.size = 0
  · rw [(toList_nil a0).2 h0]; exact end_
  have hb : (a0.toList == ([] : List UInt8)) = false := by rw [beq_eq_false_iff_ne]; exact fun h => h0 ((toList_nil a0).1 h)
  rw [hb, palanquinlaw11_IpipFirst.j0, if_neg (by decide), if_pos (by omega), Option.bind_some]
  have hx := bt_range a0 0
  obtain ⟨x, hxe⟩ := Int.eq_ofNat_of_zero_le hx.1
  have hm : Go.bits .and .i64 (a1.size : Int) 15 = (((a1.size % 16 : Nat) : Nat) : Int) := by
    have := i64_mask 4 (by decide) (a1.size : Int) (by omega) (by omega)
    simpa using this
  have hn := first_nib ⟨x, by omega⟩ ⟨a1.size % 16, Nat.mod_lt _ (by decide)⟩
  dsimp only at hn
  rw [← hxe] at hn
  have h1 := one_text _ hn.2 a1
  rw [← hm] at h1 hn
  generalize strOfNums [Go.bits .or .u8 (Go.bits .and .u8 (bt a0 0) 240) (Go.bits .and .i64 (a1.size : Int) 15 % 256)] = t at h1 ⊢
  rw [if_pos (by have := h1.1; rw [ByteArray.size_append] at this; omega)]
  have hc : bt (t ++ a1) 0 / 16 = bt a0 0 / 16 := by rw [h1.2]; exact hn.1
  have hv : verOf (t ++ a1) = verOf a0 := by
    unfold verOf
    rw [hc, if_neg (by omega), if_neg h0]
  generalize t ++ a1 = c at hv ⊢
  have hg : ∃ q e, ipip_Get.f (verOf a0).2.1 c = some (q, e) ∧ (((verOf a0).2.2.2 = 0 ∧ q = c ∧ e = 0) ∨ ((verOf a0).2.2.2 ≠ 0 ∧ q = ⟨#[]⟩ ∧ e ≠ 0)) := by
    by_cases he : (verOf a0).2.2.2 = 0
    · refine ⟨c, 0, ?_, .inl ⟨he, rfl, rfl⟩⟩
      have := get_own (s := c) (by rw [hv]; exact he)
      rwa [hv] at this
    · have hp : (verOf a0).2.1 = 0 := by
        rcases ver_cases a0 with ⟨_, e⟩ | ⟨_, _, e⟩ | ⟨_, _, e⟩ | ⟨_, _, _, e⟩ <;> rw [e] at he ⊢ <;> simp at he ⊢
      exact ⟨⟨#[]⟩, 6, by rw [hp]; rfl, .inr ⟨he, rfl, by decide⟩⟩
  obtain ⟨q, e, hq, hqe⟩ := hg
  rw [proto_is, Option.bind_some, proto_is, Option.bind_some, kind_is, Option.bind_some, kind_is, Option.bind_some, hv]
  dsimp +instances only
  rw [hq, Option.bind_some]
  dsimp +instances only
  rw [if_pos rfl, if_pos rfl, if_pos rfl, if_pos rfl, if_pos rfl]
  rcases hqe with ⟨he, rfl, rfl⟩ | ⟨he, rfl, hne⟩
  · rw [if_pos (by rw [he]; rfl), if_pos rfl]
  · rw [if_pos (by rw [beq_eq_false_iff_ne.mpr he, beq_eq_false_iff_ne.mpr hne]; rfl)]
    split
    · rfl
    · first | (rw [empty11]; rfl) | (rw [if_neg he, empty11]; rfl)
end Go.Proofs.YtcmalglippmocaaDoor.Pure
