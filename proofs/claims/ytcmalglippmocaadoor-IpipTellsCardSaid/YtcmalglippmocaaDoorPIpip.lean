/- Plain facts of ipip's functions: what a packet is told to be; the document's answer is that. -/
import Derived.Test.YtcmalglippmocaaDoorHIpipG
import Derived.Test.YtcmalglippmocaaDoorGref11
import Derived.Test.YtcmalglippmocaaDoorGlaw11
import Derived.Test.YtcmalglippmocaaDoorPNum
namespace Go.Proofs.YtcmalglippmocaaDoor.Pure
open Go.RowKit Go.Proofs.YtcmalglippmocaaDoorW.PrintWords Go.Proofs.YtcmalglippmocaaDoorW.PrintLast Go.Proofs.YtcmalglippmocaaDoor.G Go.Proofs.YtcmalglippmocaaDoor.Pal
set_option linter.unusedVariables false
theorem toList_nil (s : ByteArray) : s.toList = ([] : List UInt8) ↔ s.size = 0 := by
  have e := bl_length s
  have h : s.toList = bl s := ByteArray.toList_eq s
  rw [h, ← e]
  exact List.length_eq_zero_iff.symm
theorem ver_cases (s : ByteArray) : (s.size = 0 ∧ verOf s = (0, 0, 0, 2)) ∨ (s.size ≠ 0 ∧ bt s 0 / 16 = 4 ∧ verOf s = (4, 4, 2048, 0)) ∨ (s.size ≠ 0 ∧ bt s 0 / 16 = 6 ∧ verOf s = (6, 41, 34525, 0)) ∨ (s.size ≠ 0 ∧ bt s 0 / 16 ≠ 4 ∧ bt s 0 / 16 ≠ 6 ∧ verOf s = (0, 0, 0, 3)) := by
  unfold verOf
  by_cases h0 : s.size = 0
  · left; exact ⟨h0, if_pos h0⟩
  right
  rw [if_neg h0]
  by_cases h4 : bt s 0 / 16 = 4
  · left; exact ⟨h0, h4, if_pos h4⟩
  right
  rw [if_neg h4]
  by_cases h6 : bt s 0 / 16 = 6
  · left; exact ⟨h0, h6, if_pos h6⟩
  right
  exact ⟨h0, h4, h6, if_neg h6⟩
theorem proto_is (s : ByteArray) : ipip_Proto.f s = some ((verOf s).2.1, (verOf s).2.2.2) := rfl
theorem kind_is (s : ByteArray) : ipip_Kind.f s = some ((verOf s).2.2.1, (verOf s).2.2.2) := rfl
theorem put_is (s : ByteArray) : ipip_Put.f s = some (if (verOf s).2.2.2 = 0 then ((verOf s).2.1, s, 0) else (0, ⟨#[]⟩, (verOf s).2.2.2)) := by
  unfold ipip_Put.f
  rw [proto_is, Option.bind_some]
  split <;> rfl
theorem nib_div (s : ByteArray) : (Int.tdiv (bt s 0) 16) % 256 = bt s 0 / 16 := by
  have h := bt_range s 0
  rw [Int.tdiv_eq_ediv_of_nonneg h.1]
  omega
theorem refProto_is (s : ByteArray) : palanquinref11_Proto.f s = some ((verOf s).2.1, (verOf s).2.2.2) := by
  unfold palanquinref11_Proto.f verOf
  rw [nib_div]
  by_cases h0 : s.size = 0
  · rw [if_pos ((toList_nil s).2 h0), if_pos h0]
  · rw [if_neg (fun h => h0 ((toList_nil s).1 h)), if_pos (by omega), if_neg h0]
    split
    · rfl
    · split <;> rfl
theorem refKind_is (s : ByteArray) : palanquinref11_Kind.f s = some ((verOf s).2.2.1, (verOf s).2.2.2) := by
  unfold palanquinref11_Kind.f
  rw [refProto_is, Option.bind_some]
  rcases ver_cases s with ⟨_, h⟩ | ⟨_, _, h⟩ | ⟨_, _, h⟩ | ⟨_, _, _, h⟩ <;> rw [h] <;> rfl
theorem refGet_is (k : Nat) (p : Int) (s : ByteArray) : palanquinref11_Get.f (k + 1) p s = ipip_Get.f p s := by
  have hp := refProto_is s
  unfold palanquinref11_Get.f ipip_Get.f
  generalize verOf s = v at hp ⊢
  obtain ⟨b, q, kk, e⟩ := v
  by_cases h4 : p = 4 <;> by_cases h41 : p = 41 <;> by_cases he : e = 0 <;> by_cases hq : q = p <;> first | (simp [palanquinref11_Get.j0, hp, h4, h41, he, hq]; done) | (subst h4; simp [palanquinref11_Get.j0, hp, he, hq]; done) | (subst h41; simp [palanquinref11_Get.j0, hp, he, hq]; done) | (simp [palanquinref11_Get.j0, hp, h4, h41, he, hq]; omega)
theorem get_own {s : ByteArray} (h : (verOf s).2.2.2 = 0) : ipip_Get.f (verOf s).2.1 s = some (s, 0) := by
  unfold ipip_Get.f
  have hp : ¬ ((verOf s).2.1 ≠ 4 ∧ (verOf s).2.1 ≠ 41) := by
    rcases ver_cases s with ⟨_, e⟩ | ⟨_, _, e⟩ | ⟨_, _, e⟩ | ⟨_, _, _, e⟩ <;> rw [e] at h ⊢ <;> simp at h ⊢
  rw [if_neg hp, if_neg (by simpa using h), if_neg (by simp)]
theorem get_other {s : ByteArray} {p : Int} (h : (verOf s).2.2.2 = 0) (hp : p ≠ (verOf s).2.1) : ∃ e, ipip_Get.f p s = some (⟨#[]⟩, e) ∧ e ≠ 0 := by
  unfold ipip_Get.f
  by_cases h0 : p ≠ 4 ∧ p ≠ 41
  · exact ⟨6, by rw [if_pos h0], by decide⟩
  · exact ⟨3, by rw [if_neg h0, if_neg (by simpa using h), if_pos (fun e => hp e.symm)], by decide⟩
theorem awake11 : palanquinlaw11_awake.f = some true := by decide +kernel
theorem empty11 : (⟨#[]⟩ : ByteArray).toList = [] := by decide +kernel
end Go.Proofs.YtcmalglippmocaaDoor.Pure
