/- Texts of this session, joined: each is a section. -/
import Derived.Test.YtcmalglippmocaaDoorMGrbg1
import Derived.Test.YtcmalglippmocaaDoorMGrbg3
import Derived.Test.YtcmalglippmocaaDoorMGreTells1
set_option linter.unusedVariables false
set_option linter.unusedSimpArgs false
section
namespace Go.Proofs.YtcmalglippmocaaDoor.G
open Go.RowKit Go.Proofs.YtcmalglippmocaaDoorW.PrintWords Go.Proofs.YtcmalglippmocaaDoorW.PrintLast Go.Proofs.YtcmalglippmocaaDoorW.PrintMore
attribute [local go_sem] max2_int min2_int max_two min_two max_three min_three max_four min_four   -- for this text's walks alone
set_option linter.unusedVariables false
set_option linter.unusedSimpArgs false

/-! ### palanquinref12_Get: function 32 -/
mutual
def palanquinref12_Get.j0 : Nat → ByteArray → Bool → Bool → Bool → Int → Option (Bool × Bool × Int × ByteArray × Int)
  | 0, _, _, _, _, _ => none
  | k + 1, x0, x43, x191000, x191001, x191002 => if x43 = true then (some (x191000, x191001, x191002, (⟨#[]⟩ : ByteArray), 9)) else (if 0 < (x0.size : Int) then (if (bt x0 0) ≥ 128 then (palanquinref12_Get.j1 k x0 (4 + 4) x191000 x191001 x191002 (decide ((bt x0 0) ≥ 128)) ((Int.tmod (bt x0 0) 64) == 32) 0) else (palanquinref12_Get.j1 k x0 4 x191000 x191001 x191002 (decide ((bt x0 0) ≥ 128)) ((Int.tmod (bt x0 0) 64) == 32) 0)) else (none))
def palanquinref12_Get.j1 : Nat → ByteArray → Int → Bool → Bool → Int → Bool → Bool → Int → Option (Bool × Bool × Int × ByteArray × Int)
  | 0, _, _, _, _, _, _, _, _ => none
  | k + 1, x0, x7, x191000, x191001, x191002, x192000, x192001, x192002 => if x192001 = true then (palanquinref12_Get.j2 k x0 (wrap64 (x7 + 4)) x191000 x191001 x191002 x192000 x192001 x192002) else (palanquinref12_Get.j2 k x0 x7 x191000 x191001 x191002 x192000 x192001 x192002)
def palanquinref12_Get.j2 : Nat → ByteArray → Int → Bool → Bool → Int → Bool → Bool → Int → Option (Bool × Bool × Int × ByteArray × Int)
  | 0, _, _, _, _, _, _, _, _ => none
  | k + 1, x0, x7, x191000, x191001, x191002, x192000, x192001, x192002 => if (x0.size : Int) < x7 then (some (x191000, x191001, x191002, (⟨#[]⟩ : ByteArray), 2)) else (if x192000 = true then (if 6 < (x0.size : Int) then (if (bt x0 6) = 0 then (if 7 < (x0.size : Int) then (palanquinref12_Get.j3 k x0 x7 ((bt x0 7) != 0) x191000 x191001 x191002 x192000 x192001 x192002) else (none)) else (palanquinref12_Get.j3 k x0 x7 true x191000 x191001 x191002 x192000 x192001 x192002)) else (none)) else (palanquinref12_Get.j4 k x0 x7 x191000 x191001 x191002 x192000 x192001 x192002))
def palanquinref12_Get.j4 : Nat → ByteArray → Int → Bool → Bool → Int → Bool → Bool → Int → Option (Bool × Bool × Int × ByteArray × Int)
  | 0, _, _, _, _, _, _, _, _ => none
  | k + 1, x0, x7, x191000, x191001, x191002, x192000, x192001, x192002 => if x192001 = true then (if 0 ≤ (wrap64 (x7 - 4)) then (if (wrap64 (x7 - 4)) ≤ x7 then (if x7 ≤ (x0.size : Int) then ((palanquinref01_Value.f k (x0.extract ((wrap64 (x7 - 4)) : Int).toNat (x7 : Int).toNat)).bind fun t193 => (palanquinref12_Get.j5 k x0 x7 x191000 x191001 x191002 x192000 x192001 ((t193) % 4294967296))) else (none)) else (none)) else (none)) else (palanquinref12_Get.j5 k x0 x7 x191000 x191001 x191002 x192000 x192001 x192002)
def palanquinref12_Get.j5 : Nat → ByteArray → Int → Bool → Bool → Int → Bool → Bool → Int → Option (Bool × Bool × Int × ByteArray × Int)
  | 0, _, _, _, _, _, _, _, _ => none
  | k + 1, x0, x7, x191000, x191001, x191002, x192000, x192001, x192002 => if 2 ≤ 4 then (if 4 ≤ (x0.size : Int) then ((palanquinref01_Value.f k (x0.extract 2 4)).bind fun t194 => (if (wrap64 (t194)) = 2048 then (palanquinref12_Get.j6 k x0 x7 (wrap64 (t194)) false x191000 x191001 x191002 x192000 x192001 x192002) else (palanquinref12_Get.j6 k x0 x7 (wrap64 (t194)) ((wrap64 (t194)) != 34525) x191000 x191001 x191002 x192000 x192001 x192002))) else (none)) else (none)
def palanquinref12_Get.j6 : Nat → ByteArray → Int → Int → Bool → Bool → Bool → Int → Bool → Bool → Int → Option (Bool × Bool × Int × ByteArray × Int)
  | 0, _, _, _, _, _, _, _, _, _, _ => none
  | k + 1, x0, x7, x8, x100, x191000, x191001, x191002, x192000, x192001, x192002 => if x100 = true then (some (x191000, x191001, x191002, (⟨#[]⟩ : ByteArray), 6)) else (if 0 ≤ x7 then (if x7 ≤ (x0.size : Int) then ((palanquinref11_Kind.f (x0.extract (x7 : Int).toNat x0.size)).bind fun bt195 => (if bt195.2 = 0 then (if bt195.1 = x8 then (some (x192000, x192001, x192002, x0.extract (x7 : Int).toNat x0.size, 0)) else (some (x191000, x191001, x191002, (⟨#[]⟩ : ByteArray), 3))) else (some (x191000, x191001, x191002, (⟨#[]⟩ : ByteArray), bt195.2)))) else (none)) else (none))
def palanquinref12_Get.j3 : Nat → ByteArray → Int → Bool → Bool → Bool → Int → Bool → Bool → Int → Option (Bool × Bool × Int × ByteArray × Int)
  | 0, _, _, _, _, _, _, _, _, _ => none
  | k + 1, x0, x7, x75, x191000, x191001, x191002, x192000, x192001, x192002 => if x75 = true then (some (x191000, x191001, x191002, (⟨#[]⟩ : ByteArray), 9)) else ((palanquinref02_Sum.f k x0).bind fun t192 => (if t192 = 0 then (palanquinref12_Get.j4 k x0 x7 x191000 x191001 x191002 x192000 x192001 x192002) else (some (x191000, x191001, x191002, (⟨#[]⟩ : ByteArray), 5))))
end
def palanquinref12_Get.f (k : Nat) (a0 : ByteArray) : Option (Bool × Bool × Int × ByteArray × Int) := if (a0.size : Int) < 4 then (some (false, false, 0, (⟨#[]⟩ : ByteArray), 2)) else (if 1 < (a0.size : Int) then (if (Int.tmod (bt a0 1) 8) = 0 then (if (bt a0 1) = 0 then (if 0 < (a0.size : Int) then (if (bt a0 0) = 0 then (palanquinref12_Get.j0 k a0 false false false 0) else (if (bt a0 0) = 32 then (palanquinref12_Get.j0 k a0 false false false 0) else (if (bt a0 0) = 128 then (palanquinref12_Get.j0 k a0 false false false 0) else (palanquinref12_Get.j0 k a0 ((bt a0 0) != 160) false false 0)))) else (none)) else (palanquinref12_Get.j0 k a0 true false false 0)) else (some (false, false, 0, (⟨#[]⟩ : ByteArray), 3))) else (none))
theorem palanquinref12_Get.mono_l : ∀ k, (∀ y0 y1 y2 y3 y4, LeO (palanquinref12_Get.j0 k y0 y1 y2 y3 y4) (palanquinref12_Get.j0 (k + 1) y0 y1 y2 y3 y4)) ∧ (∀ y0 y1 y2 y3 y4 y5 y6 y7, LeO (palanquinref12_Get.j1 k y0 y1 y2 y3 y4 y5 y6 y7) (palanquinref12_Get.j1 (k + 1) y0 y1 y2 y3 y4 y5 y6 y7)) ∧ (∀ y0 y1 y2 y3 y4 y5 y6 y7, LeO (palanquinref12_Get.j2 k y0 y1 y2 y3 y4 y5 y6 y7) (palanquinref12_Get.j2 (k + 1) y0 y1 y2 y3 y4 y5 y6 y7)) ∧ (∀ y0 y1 y2 y3 y4 y5 y6 y7, LeO (palanquinref12_Get.j4 k y0 y1 y2 y3 y4 y5 y6 y7) (palanquinref12_Get.j4 (k + 1) y0 y1 y2 y3 y4 y5 y6 y7)) ∧ (∀ y0 y1 y2 y3 y4 y5 y6 y7, LeO (palanquinref12_Get.j5 k y0 y1 y2 y3 y4 y5 y6 y7) (palanquinref12_Get.j5 (k + 1) y0 y1 y2 y3 y4 y5 y6 y7)) ∧ (∀ y0 y1 y2 y3 y4 y5 y6 y7 y8 y9, LeO (palanquinref12_Get.j6 k y0 y1 y2 y3 y4 y5 y6 y7 y8 y9) (palanquinref12_Get.j6 (k + 1) y0 y1 y2 y3 y4 y5 y6 y7 y8 y9)) ∧ (∀ y0 y1 y2 y3 y4 y5 y6 y7 y8, LeO (palanquinref12_Get.j3 k y0 y1 y2 y3 y4 y5 y6 y7 y8) (palanquinref12_Get.j3 (k + 1) y0 y1 y2 y3 y4 y5 y6 y7 y8))
  | 0 => ⟨fun _ _ _ _ _ r h => by simp [palanquinref12_Get.j0] at h, fun _ _ _ _ _ _ _ _ r h => by simp [palanquinref12_Get.j1] at h, fun _ _ _ _ _ _ _ _ r h => by simp [palanquinref12_Get.j2] at h, fun _ _ _ _ _ _ _ _ r h => by simp [palanquinref12_Get.j4] at h, fun _ _ _ _ _ _ _ _ r h => by simp [palanquinref12_Get.j5] at h, fun _ _ _ _ _ _ _ _ _ _ r h => by simp [palanquinref12_Get.j6] at h, fun _ _ _ _ _ _ _ _ _ r h => by simp [palanquinref12_Get.j3] at h⟩
  | k + 1 => by
    obtain ⟨ih0, ih1, ih2, ih3, ih4, ih5, ih6⟩ := palanquinref12_Get.mono_l k
    refine ⟨?_, ?_, ?_, ?_, ?_, ?_, ?_⟩
    · intro y0 y1 y2 y3 y4
      unfold palanquinref12_Get.j0
      repeat' first
      | (with_reducible exact ih0 _ _ _ _ _)
      | (with_reducible exact ih1 _ _ _ _ _ _ _ _)
      | (with_reducible exact ih2 _ _ _ _ _ _ _ _)
      | (with_reducible exact ih3 _ _ _ _ _ _ _ _)
      | (with_reducible exact ih4 _ _ _ _ _ _ _ _)
      | (with_reducible exact ih5 _ _ _ _ _ _ _ _ _ _)
      | (with_reducible exact ih6 _ _ _ _ _ _ _ _ _)
      | (with_reducible exact palanquinref01_Value.mono _ _)
      | (with_reducible exact palanquinref02_Sum.mono _ _)
      | (with_reducible exact LeO.refl _)
      | (with_reducible exact LeO.none _)
      | (with_reducible refine LeO.ite ?_ ?_)
      | (with_reducible refine LeO.bind ?_ (fun _ => ?_))
      | exact ih0 _ _ _ _ _
      | exact ih1 _ _ _ _ _ _ _ _
      | exact ih2 _ _ _ _ _ _ _ _
      | exact ih3 _ _ _ _ _ _ _ _
      | exact ih4 _ _ _ _ _ _ _ _
      | exact ih5 _ _ _ _ _ _ _ _ _ _
      | exact ih6 _ _ _ _ _ _ _ _ _
      | exact palanquinref01_Value.mono _ _
      | exact palanquinref02_Sum.mono _ _
      | exact LeO.none _
      | refine LeO.ite ?_ ?_
      | refine LeO.bind ?_ (fun _ => ?_)
    · intro y0 y1 y2 y3 y4 y5 y6 y7
      unfold palanquinref12_Get.j1
      repeat' first
      | (with_reducible exact ih0 _ _ _ _ _)
      | (with_reducible exact ih1 _ _ _ _ _ _ _ _)
      | (with_reducible exact ih2 _ _ _ _ _ _ _ _)
      | (with_reducible exact ih3 _ _ _ _ _ _ _ _)
      | (with_reducible exact ih4 _ _ _ _ _ _ _ _)
      | (with_reducible exact ih5 _ _ _ _ _ _ _ _ _ _)
      | (with_reducible exact ih6 _ _ _ _ _ _ _ _ _)
      | (with_reducible exact palanquinref01_Value.mono _ _)
      | (with_reducible exact palanquinref02_Sum.mono _ _)
      | (with_reducible exact LeO.refl _)
      | (with_reducible exact LeO.none _)
      | (with_reducible refine LeO.ite ?_ ?_)
      | (with_reducible refine LeO.bind ?_ (fun _ => ?_))
      | exact ih0 _ _ _ _ _
      | exact ih1 _ _ _ _ _ _ _ _
      | exact ih2 _ _ _ _ _ _ _ _
      | exact ih3 _ _ _ _ _ _ _ _
      | exact ih4 _ _ _ _ _ _ _ _
      | exact ih5 _ _ _ _ _ _ _ _ _ _
      | exact ih6 _ _ _ _ _ _ _ _ _
      | exact palanquinref01_Value.mono _ _
      | exact palanquinref02_Sum.mono _ _
      | exact LeO.none _
      | refine LeO.ite ?_ ?_
      | refine LeO.bind ?_ (fun _ => ?_)
    · intro y0 y1 y2 y3 y4 y5 y6 y7
      unfold palanquinref12_Get.j2
      repeat' first
      | (with_reducible exact ih0 _ _ _ _ _)
      | (with_reducible exact ih1 _ _ _ _ _ _ _ _)
      | (with_reducible exact ih2 _ _ _ _ _ _ _ _)
      | (with_reducible exact ih3 _ _ _ _ _ _ _ _)
      | (with_reducible exact ih4 _ _ _ _ _ _ _ _)
      | (with_reducible exact ih5 _ _ _ _ _ _ _ _ _ _)
      | (with_reducible exact ih6 _ _ _ _ _ _ _ _ _)
      | (with_reducible exact palanquinref01_Value.mono _ _)
      | (with_reducible exact palanquinref02_Sum.mono _ _)
      | (with_reducible exact LeO.refl _)
      | (with_reducible exact LeO.none _)
      | (with_reducible refine LeO.ite ?_ ?_)
      | (with_reducible refine LeO.bind ?_ (fun _ => ?_))
      | exact ih0 _ _ _ _ _
      | exact ih1 _ _ _ _ _ _ _ _
      | exact ih2 _ _ _ _ _ _ _ _
      | exact ih3 _ _ _ _ _ _ _ _
      | exact ih4 _ _ _ _ _ _ _ _
      | exact ih5 _ _ _ _ _ _ _ _ _ _
      | exact ih6 _ _ _ _ _ _ _ _ _
      | exact palanquinref01_Value.mono _ _
      | exact palanquinref02_Sum.mono _ _
      | exact LeO.none _
      | refine LeO.ite ?_ ?_
      | refine LeO.bind ?_ (fun _ => ?_)
    · intro y0 y1 y2 y3 y4 y5 y6 y7
      unfold palanquinref12_Get.j4
      repeat' first
      | (with_reducible exact ih0 _ _ _ _ _)
      | (with_reducible exact ih1 _ _ _ _ _ _ _ _)
      | (with_reducible exact ih2 _ _ _ _ _ _ _ _)
      | (with_reducible exact ih3 _ _ _ _ _ _ _ _)
      | (with_reducible exact ih4 _ _ _ _ _ _ _ _)
      | (with_reducible exact ih5 _ _ _ _ _ _ _ _ _ _)
      | (with_reducible exact ih6 _ _ _ _ _ _ _ _ _)
      | (with_reducible exact palanquinref01_Value.mono _ _)
      | (with_reducible exact palanquinref02_Sum.mono _ _)
      | (with_reducible exact LeO.refl _)
      | (with_reducible exact LeO.none _)
      | (with_reducible refine LeO.ite ?_ ?_)
      | (with_reducible refine LeO.bind ?_ (fun _ => ?_))
      | exact ih0 _ _ _ _ _
      | exact ih1 _ _ _ _ _ _ _ _
      | exact ih2 _ _ _ _ _ _ _ _
      | exact ih3 _ _ _ _ _ _ _ _
      | exact ih4 _ _ _ _ _ _ _ _
      | exact ih5 _ _ _ _ _ _ _ _ _ _
      | exact ih6 _ _ _ _ _ _ _ _ _
      | exact palanquinref01_Value.mono _ _
      | exact palanquinref02_Sum.mono _ _
      | exact LeO.none _
      | refine LeO.ite ?_ ?_
      | refine LeO.bind ?_ (fun _ => ?_)
    · intro y0 y1 y2 y3 y4 y5 y6 y7
      unfold palanquinref12_Get.j5
      repeat' first
      | (with_reducible exact ih0 _ _ _ _ _)
      | (with_reducible exact ih1 _ _ _ _ _ _ _ _)
      | (with_reducible exact ih2 _ _ _ _ _ _ _ _)
      | (with_reducible exact ih3 _ _ _ _ _ _ _ _)
      | (with_reducible exact ih4 _ _ _ _ _ _ _ _)
      | (with_reducible exact ih5 _ _ _ _ _ _ _ _ _ _)
      | (with_reducible exact ih6 _ _ _ _ _ _ _ _ _)
      | (with_reducible exact palanquinref01_Value.mono _ _)
      | (with_reducible exact palanquinref02_Sum.mono _ _)
      | (with_reducible exact LeO.refl _)
      | (with_reducible exact LeO.none _)
      | (with_reducible refine LeO.ite ?_ ?_)
      | (with_reducible refine LeO.bind ?_ (fun _ => ?_))
      | exact ih0 _ _ _ _ _
      | exact ih1 _ _ _ _ _ _ _ _
      | exact ih2 _ _ _ _ _ _ _ _
      | exact ih3 _ _ _ _ _ _ _ _
      | exact ih4 _ _ _ _ _ _ _ _
      | exact ih5 _ _ _ _ _ _ _ _ _ _
      | exact ih6 _ _ _ _ _ _ _ _ _
      | exact palanquinref01_Value.mono _ _
      | exact palanquinref02_Sum.mono _ _
      | exact LeO.none _
      | refine LeO.ite ?_ ?_
      | refine LeO.bind ?_ (fun _ => ?_)
    · intro y0 y1 y2 y3 y4 y5 y6 y7 y8 y9
      unfold palanquinref12_Get.j6
      repeat' first
      | (with_reducible exact ih0 _ _ _ _ _)
      | (with_reducible exact ih1 _ _ _ _ _ _ _ _)
      | (with_reducible exact ih2 _ _ _ _ _ _ _ _)
      | (with_reducible exact ih3 _ _ _ _ _ _ _ _)
      | (with_reducible exact ih4 _ _ _ _ _ _ _ _)
      | (with_reducible exact ih5 _ _ _ _ _ _ _ _ _ _)
      | (with_reducible exact ih6 _ _ _ _ _ _ _ _ _)
      | (with_reducible exact palanquinref01_Value.mono _ _)
      | (with_reducible exact palanquinref02_Sum.mono _ _)
      | (with_reducible exact LeO.refl _)
      | (with_reducible exact LeO.none _)
      | (with_reducible refine LeO.ite ?_ ?_)
      | (with_reducible refine LeO.bind ?_ (fun _ => ?_))
      | exact ih0 _ _ _ _ _
      | exact ih1 _ _ _ _ _ _ _ _
      | exact ih2 _ _ _ _ _ _ _ _
      | exact ih3 _ _ _ _ _ _ _ _
      | exact ih4 _ _ _ _ _ _ _ _
      | exact ih5 _ _ _ _ _ _ _ _ _ _
      | exact ih6 _ _ _ _ _ _ _ _ _
      | exact palanquinref01_Value.mono _ _
      | exact palanquinref02_Sum.mono _ _
      | exact LeO.none _
      | refine LeO.ite ?_ ?_
      | refine LeO.bind ?_ (fun _ => ?_)
    · intro y0 y1 y2 y3 y4 y5 y6 y7 y8
      unfold palanquinref12_Get.j3
      repeat' first
      | (with_reducible exact ih0 _ _ _ _ _)
      | (with_reducible exact ih1 _ _ _ _ _ _ _ _)
      | (with_reducible exact ih2 _ _ _ _ _ _ _ _)
      | (with_reducible exact ih3 _ _ _ _ _ _ _ _)
      | (with_reducible exact ih4 _ _ _ _ _ _ _ _)
      | (with_reducible exact ih5 _ _ _ _ _ _ _ _ _ _)
      | (with_reducible exact ih6 _ _ _ _ _ _ _ _ _)
      | (with_reducible exact palanquinref01_Value.mono _ _)
      | (with_reducible exact palanquinref02_Sum.mono _ _)
      | (with_reducible exact LeO.refl _)
      | (with_reducible exact LeO.none _)
      | (with_reducible refine LeO.ite ?_ ?_)
      | (with_reducible refine LeO.bind ?_ (fun _ => ?_))
      | exact ih0 _ _ _ _ _
      | exact ih1 _ _ _ _ _ _ _ _
      | exact ih2 _ _ _ _ _ _ _ _
      | exact ih3 _ _ _ _ _ _ _ _
      | exact ih4 _ _ _ _ _ _ _ _
      | exact ih5 _ _ _ _ _ _ _ _ _ _
      | exact ih6 _ _ _ _ _ _ _ _ _
      | exact palanquinref01_Value.mono _ _
      | exact palanquinref02_Sum.mono _ _
      | exact LeO.none _
      | refine LeO.ite ?_ ?_
      | refine LeO.bind ?_ (fun _ => ?_)
theorem palanquinref12_Get.mono : ∀ a0 k, LeO (palanquinref12_Get.f k a0) (palanquinref12_Get.f (k + 1) a0) := by
  intro a0 k
  obtain ⟨ih0, ih1, ih2, ih3, ih4, ih5, ih6⟩ := palanquinref12_Get.mono_l k
  unfold palanquinref12_Get.f
  repeat' first
      | (with_reducible exact ih0 _ _ _ _ _)
      | (with_reducible exact ih1 _ _ _ _ _ _ _ _)
      | (with_reducible exact ih2 _ _ _ _ _ _ _ _)
      | (with_reducible exact ih3 _ _ _ _ _ _ _ _)
      | (with_reducible exact ih4 _ _ _ _ _ _ _ _)
      | (with_reducible exact ih5 _ _ _ _ _ _ _ _ _ _)
      | (with_reducible exact ih6 _ _ _ _ _ _ _ _ _)
      | (with_reducible exact palanquinref01_Value.mono _ _)
      | (with_reducible exact palanquinref02_Sum.mono _ _)
      | (with_reducible exact LeO.refl _)
      | (with_reducible exact LeO.none _)
      | (with_reducible refine LeO.ite ?_ ?_)
      | (with_reducible refine LeO.bind ?_ (fun _ => ?_))
      | exact ih0 _ _ _ _ _
      | exact ih1 _ _ _ _ _ _ _ _
      | exact ih2 _ _ _ _ _ _ _ _
      | exact ih3 _ _ _ _ _ _ _ _
      | exact ih4 _ _ _ _ _ _ _ _
      | exact ih5 _ _ _ _ _ _ _ _ _ _
      | exact ih6 _ _ _ _ _ _ _ _ _
      | exact palanquinref01_Value.mono _ _
      | exact palanquinref02_Sum.mono _ _
      | exact LeO.none _
      | refine LeO.ite ?_ ?_
      | refine LeO.bind ?_ (fun _ => ?_)
def palanquinref12_Get.T8 : Bool × List (List Nat × List Nat) := (true, [([], []), ([0], [0]), ([1], [1]), ([], []), ([3], [3]), ([4], [4]), ([5], [5]), ([2, 6], [2, 6]), ([], []), ([8, 7, 0, 1, 2, 3, 4, 5, 6, 7, 8], [7, 8])])
def palanquinref12_Get.B8 : List Nat := [0, 1, 3, 0, 8, 24, 56, 127, 0, 511]
theorem palanquinref12_Get.tab8 : rtab .any (opsOf Tryd.f32 8) = palanquinref12_Get.T8 := by kernel_rfl
theorem palanquinref12_Get.bits8 : waitsOk palanquinref12_Get.T8.2 palanquinref12_Get.B8 = true := by kernel_rfl
set_option maxHeartbeats 8000000 in
set_option maxRecDepth 100000 in
theorem palanquinref12_Get.calls (k : Nat) (a0 : ByteArray) (r1 : Bool) (r2 : Bool) (r3 : Int) (r4 : ByteArray) (r5 : Int) (w : World) (h : palanquinref12_Get.f k a0 = some (r1, r2, r3, r4, r5)) :
    Calls Tryd.prog 32 #[.string a0] w fun e w' => e = .returned (.tuple #[.agg #[.bool r1, .bool r2, .int .u32 r3], .string r4, .int .i64 r5]) ∧ Below w.heap.size w w' := by
  have hu42 := Tryd.underlying42
  have HB := Aside0.mk (Below.refl w.heap.size w)
  have H : (if (a0.size : Int) < 4 then (some (false, false, 0, (⟨#[]⟩ : ByteArray), 2)) else (if 1 < (a0.size : Int) then (if (Int.tmod (bt a0 1) 8) = 0 then (if (bt a0 1) = 0 then (if 0 < (a0.size : Int) then (if (bt a0 0) = 0 then (palanquinref12_Get.j0 k a0 false false false 0) else (if (bt a0 0) = 32 then (palanquinref12_Get.j0 k a0 false false false 0) else (if (bt a0 0) = 128 then (palanquinref12_Get.j0 k a0 false false false 0) else (palanquinref12_Get.j0 k a0 ((bt a0 0) != 160) false false 0)))) else (none)) else (palanquinref12_Get.j0 k a0 true false false 0)) else (some (false, false, 0, (⟨#[]⟩ : ByteArray), 3))) else (none))) = some (r1, r2, r3, r4, r5) := h
  clear h
  by_cases c2 : (a0.size : Int) < 4
  · rw [if_pos c2] at H
    have c2b0 : decide ((a0.size : Int) < 4) = true := decide_eq_true c2
    have c2b1 : decide (a0.size < 4) = true := decide_eq_true (by omega)
    clear c2
    simp only [Option.some.injEq, Prod.mk.injEq] at H
    obtain ⟨rfl, rfl, rfl, rfl, rfl⟩ := H
    go_enter Tryd.func32, Tryd.ntmps32
    go_wp2_with (first | ((with_reducible refine gate_dst (N := 2) rfl ?_); refine box_event ?hg (N := 2) ?hd (cs := #[.bool false, .bool false, .int .u32 0]) (t := 42) ?hr ?_; (case hd => rfl); (case hg => rfl); (case hr => first | (go_simp; done) | (go_simp; rfl)); intro gb189 hg w3 hbox hb; have n0_ := Aside0.mk (below_step (by repeat (first | (with_reducible first | exact HB.out | apply below_alloc | apply pw_below_drewN | apply below_drew1) | exact HB.out)) hb); have n1_ := Aside0.mk (hbox); have n2_ := Aside0.mk ((by rw [hg]; exact (below_size (by repeat (first | (with_reducible first | exact HB.out | apply below_alloc | apply pw_below_drewN | apply below_drew1) | exact HB.out))) : w.heap.size ≤ gb189)); have n3_ := Aside0.mk ((by rw [hg]; exact (below_size (by repeat (first | (with_reducible first | exact HB.out | apply below_alloc | apply pw_below_drewN | apply below_drew1) | exact HB.out))) : w.heap.size ≤ gb189)); clear HB; have HB := n0_; have BK189 := n1_; have GW189 := n2_; have GE189 := n3_; clear n0_ n1_ n2_ n3_; clear hb hbox hg) | ((with_reducible refine gate_dst (N := 5) rfl ?_); refine box_event ?hg (N := 5) ?hd (cs := #[.bool false, .bool false, .int .u32 0]) (t := 42) ?hr ?_; (case hd => rfl); (case hg => rfl); (case hr => first | (go_simp; done) | (go_simp; rfl)); intro gb190 hg w4 hbox hb; have n0_ := Aside0.mk (blk_below (g := gb189) (o := .cells #[.bool false, .bool false, .int .u32 0] 42 (0, 0)) (by (with_reducible repeat (first | refine blk_drewN ?_ _ | refine blk_drew ?_ | refine blk_alloc ?_ _)); exact BK189.out) hb); have n1_ := Aside0.mk (below_step (by repeat (first | (with_reducible first | exact HB.out | apply below_alloc | apply pw_below_drewN | apply below_drew1 | refine below_set ?_ GE189.out) | exact HB.out)) hb); have n2_ := Aside0.mk (hbox); have n3_ := Aside0.mk ((by rw [hg]; exact (below_size (by repeat (first | (with_reducible first | exact HB.out | apply below_alloc | apply pw_below_drewN | apply below_drew1 | refine below_set ?_ GE189.out) | exact HB.out))) : w.heap.size ≤ gb190)); have n4_ := Aside0.mk ((by rw [hg]; exact (below_size (by repeat (first | (with_reducible first | exact HB.out | apply below_alloc | apply pw_below_drewN | apply below_drew1 | refine below_set ?_ GE189.out) | exact HB.out))) : w.heap.size ≤ gb190)); have n5_ := Aside0.mk ((by rw [hg]; exact Nat.ne_of_lt (blk_lt (g := gb189) (o := .cells #[.bool false, .bool false, .int .u32 0] 42 (0, 0)) (by (with_reducible repeat (first | refine blk_drewN ?_ _ | refine blk_drew ?_ | refine blk_alloc ?_ _)); exact BK189.out)) : gb189 ≠ gb190)); have n6_ := Aside0.mk ((by rw [hg]; exact Nat.ne_of_gt (blk_lt (g := gb189) (o := .cells #[.bool false, .bool false, .int .u32 0] 42 (0, 0)) (by (with_reducible repeat (first | refine blk_drewN ?_ _ | refine blk_drew ?_ | refine blk_alloc ?_ _)); exact BK189.out)) : gb190 ≠ gb189)); clear BK189; clear HB; have BK189 := n0_; have HB := n1_; have BK190 := n2_; have GW190 := n3_; have GE190 := n4_; have NB189_190 := n5_; have NB190_189 := n6_; clear n0_ n1_ n2_ n3_ n4_ n5_ n6_; clear hb hbox hg; have hnb5 := NB190_189.out; have hnc5 := NB189_190.out; have hcz6_0 : w4.cell? ⟨gb190, 0, none⟩ = some (.bool false) := (blk_cell BK190.out 0).trans rfl; have hcz6_1 : w4.cell? ⟨gb190, 1, none⟩ = some (.bool false) := (blk_cell BK190.out 1).trans rfl; have hcz6_2 : w4.cell? ⟨gb190, 2, none⟩ = some (.int .u32 0) := (blk_cell BK190.out 2).trans rfl; have hfz6_0 := blk_frozen BK190.out 0; have hfz6_1 := blk_frozen BK190.out 1; have hfz6_2 := blk_frozen BK190.out 2; have hcz7_0 : w4.cell? ⟨gb189, 0, none⟩ = some (.bool false) := (blk_cell BK189.out 0).trans rfl; have hcz7_1 : w4.cell? ⟨gb189, 1, none⟩ = some (.bool false) := (blk_cell BK189.out 1).trans rfl; have hcz7_2 : w4.cell? ⟨gb189, 2, none⟩ = some (.int .u32 0) := (blk_cell BK189.out 2).trans rfl; have hfz7_0 := blk_frozen BK189.out 0; have hfz7_1 := blk_frozen BK189.out 1; have hfz7_2 := blk_frozen BK189.out 2))
    refine bodyPost_ret (results_ctt rfl _ _ gb189 42 #[.bool false, .bool false, .int .u32 0] (0, 0) _ rfl (by (with_reducible repeat (first | refine blk_drewN ?_ _ | refine blk_drew ?_ | refine blk_alloc ?_ _)); refine blk_put (cs := #[.bool false, .bool false, .int .u32 0]) ?_ 2 _ (by first | rfl | (simp [*]; done)); (with_reducible repeat (first | refine blk_drewN ?_ _ | refine blk_drew ?_ | refine blk_alloc ?_ _)); refine blk_put (cs := #[.bool false, .bool false, .int .u32 0]) ?_ 1 _ (by first | rfl | (simp [*]; done)); (with_reducible repeat (first | refine blk_drewN ?_ _ | refine blk_drew ?_ | refine blk_alloc ?_ _)); refine blk_put (cs := #[.bool false, .bool false, .int .u32 0]) ?_ 0 _ (by first | rfl | (simp [*]; done)); (with_reducible repeat (first | refine blk_drewN ?_ _ | refine blk_drew ?_ | refine blk_alloc ?_ _)); refine blk_far ?_ NB189_190.out _; (with_reducible repeat (first | refine blk_drewN ?_ _ | refine blk_drew ?_ | refine blk_alloc ?_ _)); refine blk_far ?_ NB189_190.out _; (with_reducible repeat (first | refine blk_drewN ?_ _ | refine blk_drew ?_ | refine blk_alloc ?_ _)); refine blk_far ?_ NB189_190.out _; (with_reducible repeat (first | refine blk_drewN ?_ _ | refine blk_drew ?_ | refine blk_alloc ?_ _)); exact BK189.out) Tryd.underlying42 rfl (by kernel_rfl)) rfl ?_
    exact ⟨by first | rfl | (simp [errW_none, errW_some] <;> rfl) | (simp [*, errW_none, errW_some] <;> rfl), by repeat (first | (with_reducible first | exact HB.out | apply below_alloc | apply pw_below_drewN | apply below_drew1 | refine below_set ?_ GE189.out | refine below_set ?_ GE190.out) | exact HB.out)⟩
  · rw [if_neg c2] at H
    have c2b0 : decide ((a0.size : Int) < 4) = false := decide_eq_false c2
    have c2b1 : decide (a0.size < 4) = false := decide_eq_false (by omega)
    clear c2
    by_cases c8 : 1 < (a0.size : Int)
    · rw [if_pos c8] at H
      have c8b0 : decide (1 < (a0.size : Int)) = true := decide_eq_true c8
      have c8b1 : decide (1 < a0.size) = true := decide_eq_true (by omega)
      clear c8
      by_cases c10 : (Int.tmod (bt a0 1) 8) = 0
      · rw [if_pos c10] at H
        have c10b0 : ((Int.tmod (bt a0 1) 8) == 0) = true := beq_iff_eq.mpr c10
        have c10b1 : ((Int.tmod (bt a0 1) 8) != 0) = false := bne_eq_false_iff_eq.mpr c10
        clear c10
        have HC11 := Aside0.mk H
        clear H
        go_enter Tryd.func32, Tryd.ntmps32
        go_upto_region 6 with (first | ((with_reducible refine gate_dst (N := 2) rfl ?_); refine box_event ?hg (N := 2) ?hd (cs := #[.bool false, .bool false, .int .u32 0]) (t := 42) ?hr ?_; (case hd => rfl); (case hg => rfl); (case hr => first | (go_simp; done) | (go_simp; rfl)); intro gb189 hg w12 hbox hb; have n0_ := Aside0.mk (below_step (by repeat (first | (with_reducible first | exact HB.out | apply below_alloc | apply pw_below_drewN | apply below_drew1) | exact HB.out)) hb); have n1_ := Aside0.mk (hbox); have n2_ := Aside0.mk ((by rw [hg]; exact (below_size (by repeat (first | (with_reducible first | exact HB.out | apply below_alloc | apply pw_below_drewN | apply below_drew1) | exact HB.out))) : w.heap.size ≤ gb189)); have n3_ := Aside0.mk ((by rw [hg]; exact (below_size (by repeat (first | (with_reducible first | exact HB.out | apply below_alloc | apply pw_below_drewN | apply below_drew1) | exact HB.out))) : w.heap.size ≤ gb189)); clear HB; have HB := n0_; have BK189 := n1_; have GW189 := n2_; have GE189 := n3_; clear n0_ n1_ n2_ n3_; clear hb hbox hg) | ((with_reducible refine gate_dst (N := 5) rfl ?_); refine box_event ?hg (N := 5) ?hd (cs := #[.bool false, .bool false, .int .u32 0]) (t := 42) ?hr ?_; (case hd => rfl); (case hg => rfl); (case hr => first | (go_simp; done) | (go_simp; rfl)); intro gb190 hg w13 hbox hb; have n0_ := Aside0.mk (blk_below (g := gb189) (o := .cells #[.bool false, .bool false, .int .u32 0] 42 (0, 0)) (by (with_reducible repeat (first | refine blk_drewN ?_ _ | refine blk_drew ?_ | refine blk_alloc ?_ _)); exact BK189.out) hb); have n1_ := Aside0.mk (below_step (by repeat (first | (with_reducible first | exact HB.out | apply below_alloc | apply pw_below_drewN | apply below_drew1 | refine below_set ?_ GE189.out) | exact HB.out)) hb); have n2_ := Aside0.mk (hbox); have n3_ := Aside0.mk ((by rw [hg]; exact (below_size (by repeat (first | (with_reducible first | exact HB.out | apply below_alloc | apply pw_below_drewN | apply below_drew1 | refine below_set ?_ GE189.out) | exact HB.out))) : w.heap.size ≤ gb190)); have n4_ := Aside0.mk ((by rw [hg]; exact (below_size (by repeat (first | (with_reducible first | exact HB.out | apply below_alloc | apply pw_below_drewN | apply below_drew1 | refine below_set ?_ GE189.out) | exact HB.out))) : w.heap.size ≤ gb190)); have n5_ := Aside0.mk ((by rw [hg]; exact Nat.ne_of_lt (blk_lt (g := gb189) (o := .cells #[.bool false, .bool false, .int .u32 0] 42 (0, 0)) (by (with_reducible repeat (first | refine blk_drewN ?_ _ | refine blk_drew ?_ | refine blk_alloc ?_ _)); exact BK189.out)) : gb189 ≠ gb190)); have n6_ := Aside0.mk ((by rw [hg]; exact Nat.ne_of_gt (blk_lt (g := gb189) (o := .cells #[.bool false, .bool false, .int .u32 0] 42 (0, 0)) (by (with_reducible repeat (first | refine blk_drewN ?_ _ | refine blk_drew ?_ | refine blk_alloc ?_ _)); exact BK189.out)) : gb190 ≠ gb189)); clear BK189; clear HB; have BK189 := n0_; have HB := n1_; have BK190 := n2_; have GW190 := n3_; have GE190 := n4_; have NB189_190 := n5_; have NB190_189 := n6_; clear n0_ n1_ n2_ n3_ n4_ n5_ n6_; clear hb hbox hg; have hnb14 := NB190_189.out; have hnc14 := NB189_190.out; have hcz15_0 : w13.cell? ⟨gb190, 0, none⟩ = some (.bool false) := (blk_cell BK190.out 0).trans rfl; have hcz15_1 : w13.cell? ⟨gb190, 1, none⟩ = some (.bool false) := (blk_cell BK190.out 1).trans rfl; have hcz15_2 : w13.cell? ⟨gb190, 2, none⟩ = some (.int .u32 0) := (blk_cell BK190.out 2).trans rfl; have hfz15_0 := blk_frozen BK190.out 0; have hfz15_1 := blk_frozen BK190.out 1; have hfz15_2 := blk_frozen BK190.out 2; have p9 : 0 ≤ (1 : Int) := (by omega); have q9 : 1 < a0.size := (by have : (1 : Int) < (a0.size : Int) := of_decide_eq_true (by first | (with_reducible assumption) | assumption); omega); have hx9 : ∀ h : 1 < a0.size, ((a0[1]'h).toNat : Int) = bt a0 1 := bt_at a0 1; clear p9; have qi9 : (1 < (a0.size : Int)) = True := eq_true (of_decide_eq_true (by first | (with_reducible assumption) | assumption)); replace q9 := eq_true q9))
        (try simp only [Act.put, List.setIfInBounds_toArray, List.set_cons_zero, List.set_cons_succ])
        go_cut [43] (fun v43 wc => ∃ (kq : Nat) (x43_10 : Bool), v43 = .bool x43_10 ∧ Aside0 (palanquinref12_Get.j0 kq a0 x43_10 false false 0 = some (r1, r2, r3, r4, r5)) ∧ Aside0 (kq ≤ k) ∧ Aside0 (wc.heap[gb189]? = some (.cells #[.bool false, .bool false, .int .u32 0] 42 (0, 0))) ∧ Aside0 (wc.heap[gb190]? = some (.cells #[.bool false, .bool false, .int .u32 0] 42 (0, 0))) ∧ Aside0 (Below w.heap.size w wc))
        case first =>
          have H := HC11.out
          clear HC11
          by_cases c17 : (bt a0 1) = 0
          · rw [if_pos c17] at H
            have c17b0 : ((bt a0 1) == 0) = true := beq_iff_eq.mpr c17
            have c17b1 : ((bt a0 1) != 0) = false := bne_eq_false_iff_eq.mpr c17
            clear c17
            (first | rw [c17b0] | (simp only [i64_w, i32_w]; rw [c17b0]) | skip)
            by_cases c18 : 0 < (a0.size : Int)
            · rw [if_pos c18] at H
              have c18b0 : decide (0 < (a0.size : Int)) = true := decide_eq_true c18
              have c18b1 : decide (0 < a0.size) = true := decide_eq_true (by omega)
              clear c18
              by_cases c20 : (bt a0 0) = 0
              · rw [if_pos c20] at H
                have c20b0 : ((bt a0 0) == 0) = true := beq_iff_eq.mpr c20
                have c20b1 : ((bt a0 0) != 0) = false := bne_eq_false_iff_eq.mpr c20
                clear c20
                have H' := Aside0.mk H
                clear H
                have p16 : 0 ≤ (1 : Int) := (by omega)
                have q16 : 1 < a0.size := (by have : (1 : Int) < (a0.size : Int) := of_decide_eq_true (by first | (with_reducible assumption) | assumption); omega)
                have hx16 : ∀ h : 1 < a0.size, ((a0[1]'h).toNat : Int) = bt a0 1 := bt_at a0 1
                clear p16
                have qi16 : (1 < (a0.size : Int)) = True := eq_true (of_decide_eq_true (by first | (with_reducible assumption) | assumption))
                replace q16 := eq_true q16
                have p19 : 0 ≤ (0 : Int) := (by omega)
                have q19 : 0 < a0.size := (by have : (0 : Int) < (a0.size : Int) := of_decide_eq_true (by first | (with_reducible assumption) | assumption); omega)
                have hx19 : ∀ h : 0 < a0.size, ((a0[0]'h).toNat : Int) = bt a0 0 := bt_at a0 0
                clear p19
                have qi19 : (0 < (a0.size : Int)) = True := eq_true (of_decide_eq_true (by first | (with_reducible assumption) | assumption))
                replace q19 := eq_true q19
                go_wp2
                go_meet
                case rel => exact ⟨_, (false), (by first | rfl | (simp; done) | (simp [*]; done)), H', ⟨by first | omega | exact Nat.le_refl _⟩, ⟨by (with_reducible repeat (first | refine blk_drewN ?_ _ | refine blk_drew ?_ | refine blk_alloc ?_ _)); refine blk_far ?_ NB189_190.out _; (with_reducible repeat (first | refine blk_drewN ?_ _ | refine blk_drew ?_ | refine blk_alloc ?_ _)); refine blk_far ?_ NB189_190.out _; (with_reducible repeat (first | refine blk_drewN ?_ _ | refine blk_drew ?_ | refine blk_alloc ?_ _)); refine blk_far ?_ NB189_190.out _; (with_reducible repeat (first | refine blk_drewN ?_ _ | refine blk_drew ?_ | refine blk_alloc ?_ _)); exact BK189.out⟩, ⟨by (with_reducible repeat (first | refine blk_drewN ?_ _ | refine blk_drew ?_ | refine blk_alloc ?_ _)); refine blk_put (cs := #[.bool false, .bool false, .int .u32 0]) ?_ 2 _ (by first | rfl | (simp [*]; done)); (with_reducible repeat (first | refine blk_drewN ?_ _ | refine blk_drew ?_ | refine blk_alloc ?_ _)); refine blk_put (cs := #[.bool false, .bool false, .int .u32 0]) ?_ 1 _ (by first | rfl | (simp [*]; done)); (with_reducible repeat (first | refine blk_drewN ?_ _ | refine blk_drew ?_ | refine blk_alloc ?_ _)); refine blk_put (cs := #[.bool false, .bool false, .int .u32 0]) ?_ 0 _ (by first | rfl | (simp [*]; done)); (with_reducible repeat (first | refine blk_drewN ?_ _ | refine blk_drew ?_ | refine blk_alloc ?_ _)); exact BK190.out⟩, ⟨by repeat (first | (with_reducible first | exact HB.out | apply below_alloc | apply pw_below_drewN | apply below_drew1 | refine below_set ?_ GE189.out | refine below_set ?_ GE190.out) | exact HB.out)⟩⟩
              · rw [if_neg c20] at H
                have c20b0 : ((bt a0 0) == 0) = false := beq_eq_false_iff_ne.mpr c20
                have c20b1 : ((bt a0 0) != 0) = true := bne_iff_ne.mpr c20
                by_cases c22 : (bt a0 0) = 32
                · rw [if_pos c22] at H
                  have c22b0 : ((bt a0 0) == 32) = true := beq_iff_eq.mpr c22
                  have c22b1 : ((bt a0 0) != 32) = false := bne_eq_false_iff_eq.mpr c22
                  clear c22
                  have H' := Aside0.mk H
                  clear H
                  have p16 : 0 ≤ (1 : Int) := (by omega)
                  have q16 : 1 < a0.size := (by have : (1 : Int) < (a0.size : Int) := of_decide_eq_true (by first | (with_reducible assumption) | assumption); omega)
                  have hx16 : ∀ h : 1 < a0.size, ((a0[1]'h).toNat : Int) = bt a0 1 := bt_at a0 1
                  clear p16
                  have qi16 : (1 < (a0.size : Int)) = True := eq_true (of_decide_eq_true (by first | (with_reducible assumption) | assumption))
                  replace q16 := eq_true q16
                  have p19 : 0 ≤ (0 : Int) := (by omega)
                  have q19 : 0 < a0.size := (by have : (0 : Int) < (a0.size : Int) := of_decide_eq_true (by first | (with_reducible assumption) | assumption); omega)
                  have hx19 : ∀ h : 0 < a0.size, ((a0[0]'h).toNat : Int) = bt a0 0 := bt_at a0 0
                  clear p19
                  have qi19 : (0 < (a0.size : Int)) = True := eq_true (of_decide_eq_true (by first | (with_reducible assumption) | assumption))
                  replace q19 := eq_true q19
                  have p21 : 0 ≤ (0 : Int) := (by omega)
                  have q21 : 0 < a0.size := (by have : (0 : Int) < (a0.size : Int) := of_decide_eq_true (by first | (with_reducible assumption) | assumption); omega)
                  have hx21 : ∀ h : 0 < a0.size, ((a0[0]'h).toNat : Int) = bt a0 0 := bt_at a0 0
                  clear p21
                  have qi21 : (0 < (a0.size : Int)) = True := eq_true (of_decide_eq_true (by first | (with_reducible assumption) | assumption))
                  replace q21 := eq_true q21
                  go_wp2
                  go_meet
                  case rel => exact ⟨_, (false), (by first | rfl | (simp; done) | (simp [*]; done)), H', ⟨by first | omega | exact Nat.le_refl _⟩, ⟨by (with_reducible repeat (first | refine blk_drewN ?_ _ | refine blk_drew ?_ | refine blk_alloc ?_ _)); refine blk_far ?_ NB189_190.out _; (with_reducible repeat (first | refine blk_drewN ?_ _ | refine blk_drew ?_ | refine blk_alloc ?_ _)); refine blk_far ?_ NB189_190.out _; (with_reducible repeat (first | refine blk_drewN ?_ _ | refine blk_drew ?_ | refine blk_alloc ?_ _)); refine blk_far ?_ NB189_190.out _; (with_reducible repeat (first | refine blk_drewN ?_ _ | refine blk_drew ?_ | refine blk_alloc ?_ _)); exact BK189.out⟩, ⟨by (with_reducible repeat (first | refine blk_drewN ?_ _ | refine blk_drew ?_ | refine blk_alloc ?_ _)); refine blk_put (cs := #[.bool false, .bool false, .int .u32 0]) ?_ 2 _ (by first | rfl | (simp [*]; done)); (with_reducible repeat (first | refine blk_drewN ?_ _ | refine blk_drew ?_ | refine blk_alloc ?_ _)); refine blk_put (cs := #[.bool false, .bool false, .int .u32 0]) ?_ 1 _ (by first | rfl | (simp [*]; done)); (with_reducible repeat (first | refine blk_drewN ?_ _ | refine blk_drew ?_ | refine blk_alloc ?_ _)); refine blk_put (cs := #[.bool false, .bool false, .int .u32 0]) ?_ 0 _ (by first | rfl | (simp [*]; done)); (with_reducible repeat (first | refine blk_drewN ?_ _ | refine blk_drew ?_ | refine blk_alloc ?_ _)); exact BK190.out⟩, ⟨by repeat (first | (with_reducible first | exact HB.out | apply below_alloc | apply pw_below_drewN | apply below_drew1 | refine below_set ?_ GE189.out | refine below_set ?_ GE190.out) | exact HB.out)⟩⟩
                · rw [if_neg c22] at H
                  have c22b0 : ((bt a0 0) == 32) = false := beq_eq_false_iff_ne.mpr c22
                  have c22b1 : ((bt a0 0) != 32) = true := bne_iff_ne.mpr c22
                  by_cases c24 : (bt a0 0) = 128
                  · rw [if_pos c24] at H
                    have c24b0 : ((bt a0 0) == 128) = true := beq_iff_eq.mpr c24
                    have c24b1 : ((bt a0 0) != 128) = false := bne_eq_false_iff_eq.mpr c24
                    clear c24
                    have H' := Aside0.mk H
                    clear H
                    have p16 : 0 ≤ (1 : Int) := (by omega)
                    have q16 : 1 < a0.size := (by have : (1 : Int) < (a0.size : Int) := of_decide_eq_true (by first | (with_reducible assumption) | assumption); omega)
                    have hx16 : ∀ h : 1 < a0.size, ((a0[1]'h).toNat : Int) = bt a0 1 := bt_at a0 1
                    clear p16
                    have qi16 : (1 < (a0.size : Int)) = True := eq_true (of_decide_eq_true (by first | (with_reducible assumption) | assumption))
                    replace q16 := eq_true q16
                    have p19 : 0 ≤ (0 : Int) := (by omega)
                    have q19 : 0 < a0.size := (by have : (0 : Int) < (a0.size : Int) := of_decide_eq_true (by first | (with_reducible assumption) | assumption); omega)
                    have hx19 : ∀ h : 0 < a0.size, ((a0[0]'h).toNat : Int) = bt a0 0 := bt_at a0 0
                    clear p19
                    have qi19 : (0 < (a0.size : Int)) = True := eq_true (of_decide_eq_true (by first | (with_reducible assumption) | assumption))
                    replace q19 := eq_true q19
                    have p21 : 0 ≤ (0 : Int) := (by omega)
                    have q21 : 0 < a0.size := (by have : (0 : Int) < (a0.size : Int) := of_decide_eq_true (by first | (with_reducible assumption) | assumption); omega)
                    have hx21 : ∀ h : 0 < a0.size, ((a0[0]'h).toNat : Int) = bt a0 0 := bt_at a0 0
                    clear p21
                    have qi21 : (0 < (a0.size : Int)) = True := eq_true (of_decide_eq_true (by first | (with_reducible assumption) | assumption))
                    replace q21 := eq_true q21
                    have p23 : 0 ≤ (0 : Int) := (by omega)
                    have q23 : 0 < a0.size := (by have : (0 : Int) < (a0.size : Int) := of_decide_eq_true (by first | (with_reducible assumption) | assumption); omega)
                    have hx23 : ∀ h : 0 < a0.size, ((a0[0]'h).toNat : Int) = bt a0 0 := bt_at a0 0
                    clear p23
                    have qi23 : (0 < (a0.size : Int)) = True := eq_true (of_decide_eq_true (by first | (with_reducible assumption) | assumption))
                    replace q23 := eq_true q23
                    go_wp2
                    go_meet
                    case rel => exact ⟨_, (false), (by first | rfl | (simp; done) | (simp [*]; done)), H', ⟨by first | omega | exact Nat.le_refl _⟩, ⟨by (with_reducible repeat (first | refine blk_drewN ?_ _ | refine blk_drew ?_ | refine blk_alloc ?_ _)); refine blk_far ?_ NB189_190.out _; (with_reducible repeat (first | refine blk_drewN ?_ _ | refine blk_drew ?_ | refine blk_alloc ?_ _)); refine blk_far ?_ NB189_190.out _; (with_reducible repeat (first | refine blk_drewN ?_ _ | refine blk_drew ?_ | refine blk_alloc ?_ _)); refine blk_far ?_ NB189_190.out _; (with_reducible repeat (first | refine blk_drewN ?_ _ | refine blk_drew ?_ | refine blk_alloc ?_ _)); exact BK189.out⟩, ⟨by (with_reducible repeat (first | refine blk_drewN ?_ _ | refine blk_drew ?_ | refine blk_alloc ?_ _)); refine blk_put (cs := #[.bool false, .bool false, .int .u32 0]) ?_ 2 _ (by first | rfl | (simp [*]; done)); (with_reducible repeat (first | refine blk_drewN ?_ _ | refine blk_drew ?_ | refine blk_alloc ?_ _)); refine blk_put (cs := #[.bool false, .bool false, .int .u32 0]) ?_ 1 _ (by first | rfl | (simp [*]; done)); (with_reducible repeat (first | refine blk_drewN ?_ _ | refine blk_drew ?_ | refine blk_alloc ?_ _)); refine blk_put (cs := #[.bool false, .bool false, .int .u32 0]) ?_ 0 _ (by first | rfl | (simp [*]; done)); (with_reducible repeat (first | refine blk_drewN ?_ _ | refine blk_drew ?_ | refine blk_alloc ?_ _)); exact BK190.out⟩, ⟨by repeat (first | (with_reducible first | exact HB.out | apply below_alloc | apply pw_below_drewN | apply below_drew1 | refine below_set ?_ GE189.out | refine below_set ?_ GE190.out) | exact HB.out)⟩⟩
                  · rw [if_neg c24] at H
                    have c24b0 : ((bt a0 0) == 128) = false := beq_eq_false_iff_ne.mpr c24
                    have c24b1 : ((bt a0 0) != 128) = true := bne_iff_ne.mpr c24
                    have H' := Aside0.mk H
                    clear H
                    have p16 : 0 ≤ (1 : Int) := (by omega)
                    have q16 : 1 < a0.size := (by have : (1 : Int) < (a0.size : Int) := of_decide_eq_true (by first | (with_reducible assumption) | assumption); omega)
                    have hx16 : ∀ h : 1 < a0.size, ((a0[1]'h).toNat : Int) = bt a0 1 := bt_at a0 1
                    clear p16
                    have qi16 : (1 < (a0.size : Int)) = True := eq_true (of_decide_eq_true (by first | (with_reducible assumption) | assumption))
                    replace q16 := eq_true q16
                    have p19 : 0 ≤ (0 : Int) := (by omega)
                    have q19 : 0 < a0.size := (by have : (0 : Int) < (a0.size : Int) := of_decide_eq_true (by first | (with_reducible assumption) | assumption); omega)
                    have hx19 : ∀ h : 0 < a0.size, ((a0[0]'h).toNat : Int) = bt a0 0 := bt_at a0 0
                    clear p19
                    have qi19 : (0 < (a0.size : Int)) = True := eq_true (of_decide_eq_true (by first | (with_reducible assumption) | assumption))
                    replace q19 := eq_true q19
                    have p21 : 0 ≤ (0 : Int) := (by omega)
                    have q21 : 0 < a0.size := (by have : (0 : Int) < (a0.size : Int) := of_decide_eq_true (by first | (with_reducible assumption) | assumption); omega)
                    have hx21 : ∀ h : 0 < a0.size, ((a0[0]'h).toNat : Int) = bt a0 0 := bt_at a0 0
                    clear p21
                    have qi21 : (0 < (a0.size : Int)) = True := eq_true (of_decide_eq_true (by first | (with_reducible assumption) | assumption))
                    replace q21 := eq_true q21
                    have p23 : 0 ≤ (0 : Int) := (by omega)
                    have q23 : 0 < a0.size := (by have : (0 : Int) < (a0.size : Int) := of_decide_eq_true (by first | (with_reducible assumption) | assumption); omega)
                    have hx23 : ∀ h : 0 < a0.size, ((a0[0]'h).toNat : Int) = bt a0 0 := bt_at a0 0
                    clear p23
                    have qi23 : (0 < (a0.size : Int)) = True := eq_true (of_decide_eq_true (by first | (with_reducible assumption) | assumption))
                    replace q23 := eq_true q23
                    have p25 : 0 ≤ (0 : Int) := (by omega)
                    have q25 : 0 < a0.size := (by have : (0 : Int) < (a0.size : Int) := of_decide_eq_true (by first | (with_reducible assumption) | assumption); omega)
                    have hx25 : ∀ h : 0 < a0.size, ((a0[0]'h).toNat : Int) = bt a0 0 := bt_at a0 0
                    clear p25
                    have qi25 : (0 < (a0.size : Int)) = True := eq_true (of_decide_eq_true (by first | (with_reducible assumption) | assumption))
                    replace q25 := eq_true q25
                    go_wp2
                    go_meet
                    case rel => exact ⟨_, (((bt a0 0) != 160)), (by first | rfl | (simp; done) | (simp [*]; done)), H', ⟨by first | omega | exact Nat.le_refl _⟩, ⟨by (with_reducible repeat (first | refine blk_drewN ?_ _ | refine blk_drew ?_ | refine blk_alloc ?_ _)); refine blk_far ?_ NB189_190.out _; (with_reducible repeat (first | refine blk_drewN ?_ _ | refine blk_drew ?_ | refine blk_alloc ?_ _)); refine blk_far ?_ NB189_190.out _; (with_reducible repeat (first | refine blk_drewN ?_ _ | refine blk_drew ?_ | refine blk_alloc ?_ _)); refine blk_far ?_ NB189_190.out _; (with_reducible repeat (first | refine blk_drewN ?_ _ | refine blk_drew ?_ | refine blk_alloc ?_ _)); exact BK189.out⟩, ⟨by (with_reducible repeat (first | refine blk_drewN ?_ _ | refine blk_drew ?_ | refine blk_alloc ?_ _)); refine blk_put (cs := #[.bool false, .bool false, .int .u32 0]) ?_ 2 _ (by first | rfl | (simp [*]; done)); (with_reducible repeat (first | refine blk_drewN ?_ _ | refine blk_drew ?_ | refine blk_alloc ?_ _)); refine blk_put (cs := #[.bool false, .bool false, .int .u32 0]) ?_ 1 _ (by first | rfl | (simp [*]; done)); (with_reducible repeat (first | refine blk_drewN ?_ _ | refine blk_drew ?_ | refine blk_alloc ?_ _)); refine blk_put (cs := #[.bool false, .bool false, .int .u32 0]) ?_ 0 _ (by first | rfl | (simp [*]; done)); (with_reducible repeat (first | refine blk_drewN ?_ _ | refine blk_drew ?_ | refine blk_alloc ?_ _)); exact BK190.out⟩, ⟨by repeat (first | (with_reducible first | exact HB.out | apply below_alloc | apply pw_below_drewN | apply below_drew1 | refine below_set ?_ GE189.out | refine below_set ?_ GE190.out) | exact HB.out)⟩⟩
            · rw [if_neg c18] at H
              exact absurd H (by simp)
          · rw [if_neg c17] at H
            have c17b0 : ((bt a0 1) == 0) = false := beq_eq_false_iff_ne.mpr c17
            have c17b1 : ((bt a0 1) != 0) = true := bne_iff_ne.mpr c17
            (first | rw [c17b0] | (simp only [i64_w, i32_w]; rw [c17b0]) | skip)
            have H' := Aside0.mk H
            clear H
            have p16 : 0 ≤ (1 : Int) := (by omega)
            have q16 : 1 < a0.size := (by have : (1 : Int) < (a0.size : Int) := of_decide_eq_true (by first | (with_reducible assumption) | assumption); omega)
            have hx16 : ∀ h : 1 < a0.size, ((a0[1]'h).toNat : Int) = bt a0 1 := bt_at a0 1
            clear p16
            have qi16 : (1 < (a0.size : Int)) = True := eq_true (of_decide_eq_true (by first | (with_reducible assumption) | assumption))
            replace q16 := eq_true q16
            go_wp2
            go_meet
            case rel => exact ⟨_, (true), (by first | rfl | (simp; done) | (simp [*]; done)), H', ⟨by first | omega | exact Nat.le_refl _⟩, ⟨by (with_reducible repeat (first | refine blk_drewN ?_ _ | refine blk_drew ?_ | refine blk_alloc ?_ _)); refine blk_far ?_ NB189_190.out _; (with_reducible repeat (first | refine blk_drewN ?_ _ | refine blk_drew ?_ | refine blk_alloc ?_ _)); refine blk_far ?_ NB189_190.out _; (with_reducible repeat (first | refine blk_drewN ?_ _ | refine blk_drew ?_ | refine blk_alloc ?_ _)); refine blk_far ?_ NB189_190.out _; (with_reducible repeat (first | refine blk_drewN ?_ _ | refine blk_drew ?_ | refine blk_alloc ?_ _)); exact BK189.out⟩, ⟨by (with_reducible repeat (first | refine blk_drewN ?_ _ | refine blk_drew ?_ | refine blk_alloc ?_ _)); refine blk_put (cs := #[.bool false, .bool false, .int .u32 0]) ?_ 2 _ (by first | rfl | (simp [*]; done)); (with_reducible repeat (first | refine blk_drewN ?_ _ | refine blk_drew ?_ | refine blk_alloc ?_ _)); refine blk_put (cs := #[.bool false, .bool false, .int .u32 0]) ?_ 1 _ (by first | rfl | (simp [*]; done)); (with_reducible repeat (first | refine blk_drewN ?_ _ | refine blk_drew ?_ | refine blk_alloc ?_ _)); refine blk_put (cs := #[.bool false, .bool false, .int .u32 0]) ?_ 0 _ (by first | rfl | (simp [*]; done)); (with_reducible repeat (first | refine blk_drewN ?_ _ | refine blk_drew ?_ | refine blk_alloc ?_ _)); exact BK190.out⟩, ⟨by repeat (first | (with_reducible first | exact HB.out | apply below_alloc | apply pw_below_drewN | apply below_drew1 | refine below_set ?_ GE189.out | refine below_set ?_ GE190.out) | exact HB.out)⟩⟩
        case rest =>
          clear HC11
          try clear c1
          try clear p1
          try clear q1
          try clear hx1
          try clear qi1
          try clear c2
          try clear c2b0
          try clear c2b1
          try clear p2
          try clear q2
          try clear hx2
          try clear qi2
          try clear c3
          try clear c5
          try clear c8
          try clear c8b0
          try clear c8b1
          try clear p9
          try clear q9
          try clear hx9
          try clear qi9
          try clear c10
          try clear c10b0
          try clear c10b1
          try clear c14
          try clear p16
          try clear q16
          try clear hx16
          try clear qi16
          try clear c17
          try clear c17b0
          try clear c17b1
          try clear c18
          try clear c18b0
          try clear c18b1
          try clear p19
          try clear q19
          try clear hx19
          try clear qi19
          try clear c20
          try clear c20b0
          try clear c20b1
          try clear p21
          try clear q21
          try clear hx21
          try clear qi21
          try clear c22
          try clear c22b0
          try clear c22b1
          try clear p23
          try clear q23
          try clear hx23
          try clear qi23
          try clear c24
          try clear c24b0
          try clear c24b1
          try clear p25
          try clear q25
          try clear hx25
          try clear qi25
          try clear hcz15_0
          try clear hcz15_1
          try clear hcz15_2
          try clear hcz6_0
          try clear hcz6_1
          try clear hcz6_2
          try clear hcz7_0
          try clear hcz7_1
          try clear hcz7_2
          try clear hfz15_0
          try clear hfz15_1
          try clear hfz15_2
          try clear hfz6_0
          try clear hfz6_1
          try clear hfz6_2
          try clear hfz7_0
          try clear hfz7_1
          try clear hfz7_2
          try clear p16
          try clear p19
          try clear p21
          try clear p23
          try clear p25
          try clear p9
          try clear q16
          try clear q19
          try clear q21
          try clear q23
          try clear q25
          try clear q9
          obtain ⟨kq, x43_10, rfl, HA, HJ10, BK189, BK190, HB⟩ := hcut
          cases kq with
          | zero => exact absurd HA.out (by simp [palanquinref12_Get.j0])
          | succ kj10 =>
            have H := HA.out
            clear HA
            simp only [palanquinref12_Get.j0] at H
            by_cases c26 : x43_10 = true
            · subst c26
              have H1 : (some (false, false, 0, (⟨#[]⟩ : ByteArray), 9)) = some (r1, r2, r3, r4, r5) := by rw [if_pos rfl] at H; exact H
              clear H
              have H := H1
              clear H1
              simp only [Option.some.injEq, Prod.mk.injEq] at H
              obtain ⟨rfl, rfl, rfl, rfl, rfl⟩ := H
              have hnb27 := NB190_189.out
              have hnc27 := NB189_190.out
              have hcz28_0 : wc.cell? ⟨gb190, 0, none⟩ = some (.bool false) := (blk_cell BK190.out 0).trans rfl
              have hcz28_1 : wc.cell? ⟨gb190, 1, none⟩ = some (.bool false) := (blk_cell BK190.out 1).trans rfl
              have hcz28_2 : wc.cell? ⟨gb190, 2, none⟩ = some (.int .u32 0) := (blk_cell BK190.out 2).trans rfl
              have hfz28_0 := blk_frozen BK190.out 0
              have hfz28_1 := blk_frozen BK190.out 1
              have hfz28_2 := blk_frozen BK190.out 2
              have hcz29_0 : wc.cell? ⟨gb189, 0, none⟩ = some (.bool false) := (blk_cell BK189.out 0).trans rfl
              have hcz29_1 : wc.cell? ⟨gb189, 1, none⟩ = some (.bool false) := (blk_cell BK189.out 1).trans rfl
              have hcz29_2 : wc.cell? ⟨gb189, 2, none⟩ = some (.int .u32 0) := (blk_cell BK189.out 2).trans rfl
              have hfz29_0 := blk_frozen BK189.out 0
              have hfz29_1 := blk_frozen BK189.out 1
              have hfz29_2 := blk_frozen BK189.out 2
              go_wp2
              refine bodyPost_ret (results_ctt rfl _ _ gb189 42 #[.bool false, .bool false, .int .u32 0] (0, 0) _ rfl (by (with_reducible repeat (first | refine blk_drewN ?_ _ | refine blk_drew ?_ | refine blk_alloc ?_ _)); refine blk_put (cs := #[.bool false, .bool false, .int .u32 0]) ?_ 2 _ (by first | rfl | (simp [*]; done)); (with_reducible repeat (first | refine blk_drewN ?_ _ | refine blk_drew ?_ | refine blk_alloc ?_ _)); refine blk_put (cs := #[.bool false, .bool false, .int .u32 0]) ?_ 1 _ (by first | rfl | (simp [*]; done)); (with_reducible repeat (first | refine blk_drewN ?_ _ | refine blk_drew ?_ | refine blk_alloc ?_ _)); refine blk_put (cs := #[.bool false, .bool false, .int .u32 0]) ?_ 0 _ (by first | rfl | (simp [*]; done)); (with_reducible repeat (first | refine blk_drewN ?_ _ | refine blk_drew ?_ | refine blk_alloc ?_ _)); exact BK189.out) Tryd.underlying42 rfl (by kernel_rfl)) rfl ?_
              exact ⟨by first | rfl | (simp [errW_none, errW_some] <;> rfl) | (simp [*, errW_none, errW_some] <;> rfl), by repeat (first | (with_reducible first | exact HB.out | apply below_alloc | apply pw_below_drewN | apply below_drew1 | refine below_set ?_ GE189.out | refine below_set ?_ GE190.out) | exact HB.out)⟩
            · replace c26 := Bool.eq_false_iff.mpr c26
              subst c26
              have H1 : (if 0 < (a0.size : Int) then (if (bt a0 0) ≥ 128 then (palanquinref12_Get.j1 kj10 a0 (4 + 4) false false 0 (decide ((bt a0 0) ≥ 128)) ((Int.tmod (bt a0 0) 64) == 32) 0) else (palanquinref12_Get.j1 kj10 a0 4 false false 0 (decide ((bt a0 0) ≥ 128)) ((Int.tmod (bt a0 0) 64) == 32) 0)) else (none)) = some (r1, r2, r3, r4, r5) := by rw [if_neg (show ¬ (false = true) by decide)] at H; exact H
              clear H
              have H := H1
              clear H1
              by_cases c30 : 0 < (a0.size : Int)
              · rw [if_pos c30] at H
                have c30b0 : decide (0 < (a0.size : Int)) = true := decide_eq_true c30
                have c30b1 : decide (0 < a0.size) = true := decide_eq_true (by omega)
                clear c30
                have HC33 := Aside0.mk H
                clear H
                try go_wp2
                have n0_ := Aside0.mk (blk_drew BK189.out)
                have n1_ := Aside0.mk (blk_drew BK190.out)
                have n2_ := Aside0.mk (below_drew1 HB.out)
                clear BK189
                clear BK190
                clear HB
                have BK189 := n0_
                have BK190 := n1_
                have HB := n2_
                clear n0_ n1_ n2_
                have p31 : 0 ≤ (0 : Int) := (by omega)
                have q31 : 0 < a0.size := (by have : (0 : Int) < (a0.size : Int) := of_decide_eq_true (by first | (with_reducible assumption) | assumption); omega)
                have hx31 : ∀ h : 0 < a0.size, ((a0[0]'h).toNat : Int) = bt a0 0 := bt_at a0 0
                clear p31
                have qi31 : (0 < (a0.size : Int)) = True := eq_true (of_decide_eq_true (by first | (with_reducible assumption) | assumption))
                replace q31 := eq_true q31
                have p32 : 0 ≤ (0 : Int) := (by omega)
                have q32 : 0 < a0.size := (by have : (0 : Int) < (a0.size : Int) := of_decide_eq_true (by first | (with_reducible assumption) | assumption); omega)
                have hx32 : ∀ h : 0 < a0.size, ((a0[0]'h).toNat : Int) = bt a0 0 := bt_at a0 0
                clear p32
                have qi32 : (0 < (a0.size : Int)) = True := eq_true (of_decide_eq_true (by first | (with_reducible assumption) | assumption))
                replace q32 := eq_true q32
                refine start_ (n := 10) (S := fun w' => True) (ds := []) #[false, false, false, false, false, false, false, false, false, false] (by kernel_rfl) rfl rfl trivial (fun hHeld => ?_); refine with_tabW palanquinref12_Get.tab8 palanquinref12_Get.bits8 (fun HT_ HW_ => ?_)
                generalize wc.drew = w34 at BK189 BK190 HB hHeld ⊢
                refine pure_ (i := 0) (N := some 45) (v := ?_) (a' := ?_) #[true, false, false, false, false, false, false, false, false, false] rfl rfl (any_of HT_.out (by kernel_rfl)) (fun _ _ _ h => h) (Or.inl ⟨by rfl, ?_⟩) ?_ ?_
                rotate_left
                · intro w'
                  go_simp
                  with_reducible rfl
                rotate_left
                · simp only [Act.put, List.setIfInBounds_toArray, List.set_cons_zero, List.set_cons_succ, i64_w, i32_w]
                  rfl
                refine pure_ (i := 3) (N := some 48) (v := ?_) (a' := ?_) #[true, false, false, true, false, false, false, false, false, false] rfl rfl (any_of HT_.out (by kernel_rfl)) (fun _ _ _ h => h) (Or.inl ⟨by rfl, ?_⟩) ?_ ?_
                rotate_left
                · intro w'
                  go_simp
                  with_reducible rfl
                rotate_left
                · simp only [Act.put, List.setIfInBounds_toArray, List.set_cons_zero, List.set_cons_succ, i64_w, i32_w]
                  rfl
                refine take_ (i := 1) (N := some 46) (v := ?_) (a' := ?_) #[true, true, false, true, false, false, false, false, false, false] rfl rfl (take_ofW HT_.out HW_.out (by kernel_rfl)) (fun _ _ _ h => h) (Or.inl ⟨by rfl, ?_⟩) hHeld ?_ ?_
                rotate_left
                · intro w' _
                  go_simp
                  with_reducible rfl
                rotate_left
                · simp only [Act.put, List.setIfInBounds_toArray, List.set_cons_zero, List.set_cons_succ, i64_w, i32_w]
                  rfl
                refine pure_ (i := 2) (N := some 47) (v := ?_) (a' := ?_) #[true, true, true, true, false, false, false, false, false, false] rfl rfl (any_of HT_.out (by kernel_rfl)) (fun _ _ _ h => h) (Or.inl ⟨by rfl, ?_⟩) ?_ ?_
                rotate_left
                · intro w'
                  go_simp
                  with_reducible rfl
                rotate_left
                · simp only [Act.put, List.setIfInBounds_toArray, List.set_cons_zero, List.set_cons_succ, i64_w, i32_w]
                  rfl
                refine take_ (i := 4) (N := some 49) (v := ?_) (a' := ?_) #[true, true, true, true, true, false, false, false, false, false] rfl rfl (take_ofW HT_.out HW_.out (by kernel_rfl)) (fun _ _ _ h => h) (Or.inl ⟨by rfl, ?_⟩) hHeld ?_ ?_
                rotate_left
                · intro w' _
                  go_simp
                  with_reducible rfl
                rotate_left
                · simp only [Act.put, List.setIfInBounds_toArray, List.set_cons_zero, List.set_cons_succ, i64_w, i32_w]
                  rfl
                refine pure_ (i := 5) (N := some 50) (v := ?_) (a' := ?_) #[true, true, true, true, true, true, false, false, false, false] rfl rfl (any_of HT_.out (by kernel_rfl)) (fun _ _ _ h => h) (Or.inl ⟨by rfl, ?_⟩) ?_ ?_
                rotate_left
                · intro w'
                  go_simp
                  with_reducible rfl
                rotate_left
                · simp only [Act.put, List.setIfInBounds_toArray, List.set_cons_zero, List.set_cons_succ, i64_w, i32_w]
                  rfl
                refine pure_ (i := 6) (N := some 51) (v := ?_) (a' := ?_) #[true, true, true, true, true, true, true, false, false, false] rfl rfl (any_of HT_.out (by kernel_rfl)) (fun _ _ _ h => h) (Or.inl ⟨by rfl, ?_⟩) ?_ ?_
                rotate_left
                · intro w'
                  go_simp
                  with_reducible rfl
                rotate_left
                · simp only [Act.put, List.setIfInBounds_toArray, List.set_cons_zero, List.set_cons_succ, i64_w, i32_w]
                  rfl
                refine pure_ (i := 7) (N := some 52) (v := ?_) (a' := ?_) #[true, true, true, true, true, true, true, true, false, false] rfl rfl (any_of HT_.out (by kernel_rfl)) (fun _ _ _ h => h) (Or.inl ⟨by rfl, ?_⟩) ?_ ?_
                rotate_left
                · intro w'
                  go_simp
                  with_reducible rfl
                rotate_left
                · simp only [Act.put, List.setIfInBounds_toArray, List.set_cons_zero, List.set_cons_succ, i64_w, i32_w]
                  rfl
                refine one_ (i := 8) (N := some 6) #[true, true, true, true, true, true, true, true, true, false] rfl rfl (one_of HT_.out (by kernel_rfl)) (by decide) (fun K hK => ?_)
                refine box_step ?hg (N := 6) ?hd (cs := #[.bool false, .bool false, .int .u32 0]) (t := 42) ?hr ?_; (case hd => rfl); (case hg => rfl); (case hr => first | (go_simp; done) | (go_simp; rfl))
                intro gb191 hg w35 hbox hb
                have n0_ := Aside0.mk (blk_below (g := gb189) (o := .cells #[.bool false, .bool false, .int .u32 0] 42 (0, 0)) (by (with_reducible repeat (first | refine blk_drewN ?_ _ | refine blk_drew ?_ | refine blk_alloc ?_ _)); exact BK189.out) hb)
                have n1_ := Aside0.mk (blk_below (g := gb190) (o := .cells #[.bool false, .bool false, .int .u32 0] 42 (0, 0)) (by (with_reducible repeat (first | refine blk_drewN ?_ _ | refine blk_drew ?_ | refine blk_alloc ?_ _)); exact BK190.out) hb)
                have n2_ := Aside0.mk (below_step (by repeat (first | (with_reducible first | exact HB.out | apply below_alloc | apply pw_below_drewN | apply below_drew1 | refine below_set ?_ GE189.out | refine below_set ?_ GE190.out) | exact HB.out)) hb)
                have n3_ := Aside0.mk (hbox)
                have n4_ := Aside0.mk ((by rw [hg]; exact (below_size (by repeat (first | (with_reducible first | exact HB.out | apply below_alloc | apply pw_below_drewN | apply below_drew1 | refine below_set ?_ GE189.out | refine below_set ?_ GE190.out) | exact HB.out))) : w.heap.size ≤ gb191))
                have n5_ := Aside0.mk ((by rw [hg]; exact (below_size (by repeat (first | (with_reducible first | exact HB.out | apply below_alloc | apply pw_below_drewN | apply below_drew1 | refine below_set ?_ GE189.out | refine below_set ?_ GE190.out) | exact HB.out))) : w.heap.size ≤ gb191))
                have n6_ := Aside0.mk ((by rw [hg]; exact Nat.ne_of_lt (blk_lt (g := gb189) (o := .cells #[.bool false, .bool false, .int .u32 0] 42 (0, 0)) (by (with_reducible repeat (first | refine blk_drewN ?_ _ | refine blk_drew ?_ | refine blk_alloc ?_ _)); exact BK189.out)) : gb189 ≠ gb191))
                have n7_ := Aside0.mk ((by rw [hg]; exact Nat.ne_of_gt (blk_lt (g := gb189) (o := .cells #[.bool false, .bool false, .int .u32 0] 42 (0, 0)) (by (with_reducible repeat (first | refine blk_drewN ?_ _ | refine blk_drew ?_ | refine blk_alloc ?_ _)); exact BK189.out)) : gb191 ≠ gb189))
                have n8_ := Aside0.mk ((by rw [hg]; exact Nat.ne_of_lt (blk_lt (g := gb190) (o := .cells #[.bool false, .bool false, .int .u32 0] 42 (0, 0)) (by (with_reducible repeat (first | refine blk_drewN ?_ _ | refine blk_drew ?_ | refine blk_alloc ?_ _)); exact BK190.out)) : gb190 ≠ gb191))
                have n9_ := Aside0.mk ((by rw [hg]; exact Nat.ne_of_gt (blk_lt (g := gb190) (o := .cells #[.bool false, .bool false, .int .u32 0] 42 (0, 0)) (by (with_reducible repeat (first | refine blk_drewN ?_ _ | refine blk_drew ?_ | refine blk_alloc ?_ _)); exact BK190.out)) : gb191 ≠ gb190))
                clear BK189
                clear BK190
                clear HB
                have BK189 := n0_
                have BK190 := n1_
                have HB := n2_
                have BK191 := n3_
                have GW191 := n4_
                have GE191 := n5_
                have NB189_191 := n6_
                have NB191_189 := n7_
                have NB190_191 := n8_
                have NB191_190 := n9_
                clear n0_ n1_ n2_ n3_ n4_ n5_ n6_ n7_ n8_ n9_
                clear hb hbox hg
                refine hK.out _ _ trivial (fun hHeld => ?_)
                clear hK K
                refine norm_ (a' := ?_) ?_ ?_
                rotate_left
                · show Act.put _ (some 6) _ = _
                  simp only [Act.put, List.setIfInBounds_toArray, List.set_cons_zero, List.set_cons_succ, i64_w, i32_w]
                  rfl
                refine one_ (i := 9) (N := none) #[true, true, true, true, true, true, true, true, true, true] rfl rfl (one_of HT_.out (by kernel_rfl)) (by decide) (fun K hK => ?_)
                have hs36 : w35.cell? ⟨gb191, 0, none⟩ = some (.bool false) := (blk_cell BK191.out 0).trans rfl
                have hfs36 := blk_frozen BK191.out 0
                have hns36_0 := NB189_191.out
                have hns36_1 := NB190_191.out
                have hms36_0 := NB191_189.out
                have hms36_1 := NB191_190.out
                have hs37 : w35.cell? ⟨gb191, 1, none⟩ = some (.bool false) := (blk_cell BK191.out 1).trans rfl
                have hfs37 := blk_frozen BK191.out 1
                have hns37_0 := NB189_191.out
                have hns37_1 := NB190_191.out
                have hms37_0 := NB191_189.out
                have hms37_1 := NB191_190.out
                have hs38 : w35.cell? ⟨gb191, 2, none⟩ = some (.int .u32 0) := (blk_cell BK191.out 2).trans rfl
                have hfs38 := blk_frozen BK191.out 2
                have hns38_0 := NB189_191.out
                have hns38_1 := NB190_191.out
                have hms38_0 := NB191_189.out
                have hms38_1 := NB191_190.out
                refine skip_ (w1 := ?_) (by rfl) rfl ?_ ?_
                rotate_left
                · go_simp
                  rfl
                refine hK.out _ _ trivial (fun hHeld => ?_)
                clear hK K
                refine done_ (done_of HT_.out (by kernel_rfl)) ?_
                have hnb39 := NB191_189.out
                have hnc39 := NB189_191.out
                have hnb40 := NB191_190.out
                have hnc40 := NB190_191.out
                have hcz41_0 : w35.cell? ⟨gb191, 0, none⟩ = some (.bool false) := (blk_cell BK191.out 0).trans rfl
                have hcz41_1 : w35.cell? ⟨gb191, 1, none⟩ = some (.bool false) := (blk_cell BK191.out 1).trans rfl
                have hcz41_2 : w35.cell? ⟨gb191, 2, none⟩ = some (.int .u32 0) := (blk_cell BK191.out 2).trans rfl
                have hfz41_0 := blk_frozen BK191.out 0
                have hfz41_1 := blk_frozen BK191.out 1
                have hfz41_2 := blk_frozen BK191.out 2
                go_upto_if 54 with (fail)
                go_cut [7] (fun v7 wc => ∃ (kq : Nat) (x7_32 : Int), v7 = .int .i64 x7_32 ∧ Aside0 (palanquinref12_Get.j1 kq a0 x7_32 false false 0 (decide ((bt a0 0) ≥ 128)) ((Int.tmod (bt a0 0) 64) == 32) 0 = some (r1, r2, r3, r4, r5)) ∧ Aside0 (kq ≤ kj10) ∧ Aside0 (wc.heap[gb189]? = some (.cells #[.bool false, .bool false, .int .u32 0] 42 (0, 0))) ∧ Aside0 (wc.heap[gb190]? = some (.cells #[.bool false, .bool false, .int .u32 0] 42 (0, 0))) ∧ Aside0 (wc.heap[gb191]? = some (.cells #[.bool (decide ((bt a0 0) ≥ 128)), .bool ((Int.tmod (bt a0 0) 64) == 32), .int .u32 0] 42 (0, 0))) ∧ Aside0 (Below w.heap.size w wc))
                case first =>
                  have H := HC33.out
                  clear HC33
                  by_cases c42 : (bt a0 0) ≥ 128
                  · rw [if_pos c42] at H
                    have c42b0 : decide (128 ≤ (bt a0 0)) = true := decide_eq_true c42
                    clear c42
                    (first | rw [c42b0] | (simp only [i64_w, i32_w]; rw [c42b0]) | skip)
                    have H' := Aside0.mk H
                    clear H
                    go_wp2
                    go_meet
                    case rel => exact ⟨_, (4 + 4), (by first | rfl | (simp; done) | (simp [*]; done)), H', ⟨by have := HJ10.out; first | omega | exact Nat.le_refl _⟩, ⟨by (with_reducible repeat (first | refine blk_drewN ?_ _ | refine blk_drew ?_ | refine blk_alloc ?_ _)); refine blk_far ?_ NB189_191.out _; (with_reducible repeat (first | refine blk_drewN ?_ _ | refine blk_drew ?_ | refine blk_alloc ?_ _)); refine blk_far ?_ NB189_191.out _; (with_reducible repeat (first | refine blk_drewN ?_ _ | refine blk_drew ?_ | refine blk_alloc ?_ _)); refine blk_far ?_ NB189_191.out _; (with_reducible repeat (first | refine blk_drewN ?_ _ | refine blk_drew ?_ | refine blk_alloc ?_ _)); exact BK189.out⟩, ⟨by (with_reducible repeat (first | refine blk_drewN ?_ _ | refine blk_drew ?_ | refine blk_alloc ?_ _)); refine blk_far ?_ NB190_191.out _; (with_reducible repeat (first | refine blk_drewN ?_ _ | refine blk_drew ?_ | refine blk_alloc ?_ _)); refine blk_far ?_ NB190_191.out _; (with_reducible repeat (first | refine blk_drewN ?_ _ | refine blk_drew ?_ | refine blk_alloc ?_ _)); refine blk_far ?_ NB190_191.out _; (with_reducible repeat (first | refine blk_drewN ?_ _ | refine blk_drew ?_ | refine blk_alloc ?_ _)); exact BK190.out⟩, ⟨by (with_reducible repeat (first | refine blk_drewN ?_ _ | refine blk_drew ?_ | refine blk_alloc ?_ _)); refine blk_put (cs := #[.bool (decide ((bt a0 0) ≥ 128)), .bool ((Int.tmod (bt a0 0) 64) == 32), .int .u32 0]) ?_ 2 _ (by first | rfl | (simp [*]; done)); (with_reducible repeat (first | refine blk_drewN ?_ _ | refine blk_drew ?_ | refine blk_alloc ?_ _)); refine blk_put (cs := #[.bool (decide ((bt a0 0) ≥ 128)), .bool false, .int .u32 0]) ?_ 1 _ (by first | rfl | (simp [*]; done)); (with_reducible repeat (first | refine blk_drewN ?_ _ | refine blk_drew ?_ | refine blk_alloc ?_ _)); refine blk_put (cs := #[.bool false, .bool false, .int .u32 0]) ?_ 0 _ (by first | rfl | (simp [*]; done)); (with_reducible repeat (first | refine blk_drewN ?_ _ | refine blk_drew ?_ | refine blk_alloc ?_ _)); exact BK191.out⟩, ⟨by repeat (first | (with_reducible first | exact HB.out | apply below_alloc | apply pw_below_drewN | apply below_drew1 | refine below_set ?_ GE189.out | refine below_set ?_ GE190.out | refine below_set ?_ GE191.out) | exact HB.out)⟩⟩
                  · rw [if_neg c42] at H
                    have c42b0 : decide (128 ≤ (bt a0 0)) = false := decide_eq_false c42
                    clear c42
                    (first | rw [c42b0] | (simp only [i64_w, i32_w]; rw [c42b0]) | skip)
                    have H' := Aside0.mk H
                    clear H
                    go_wp2
                    go_meet
                    case rel => exact ⟨_, (4), (by first | rfl | (simp; done) | (simp [*]; done)), H', ⟨by have := HJ10.out; first | omega | exact Nat.le_refl _⟩, ⟨by (with_reducible repeat (first | refine blk_drewN ?_ _ | refine blk_drew ?_ | refine blk_alloc ?_ _)); refine blk_far ?_ NB189_191.out _; (with_reducible repeat (first | refine blk_drewN ?_ _ | refine blk_drew ?_ | refine blk_alloc ?_ _)); refine blk_far ?_ NB189_191.out _; (with_reducible repeat (first | refine blk_drewN ?_ _ | refine blk_drew ?_ | refine blk_alloc ?_ _)); refine blk_far ?_ NB189_191.out _; (with_reducible repeat (first | refine blk_drewN ?_ _ | refine blk_drew ?_ | refine blk_alloc ?_ _)); exact BK189.out⟩, ⟨by (with_reducible repeat (first | refine blk_drewN ?_ _ | refine blk_drew ?_ | refine blk_alloc ?_ _)); refine blk_far ?_ NB190_191.out _; (with_reducible repeat (first | refine blk_drewN ?_ _ | refine blk_drew ?_ | refine blk_alloc ?_ _)); refine blk_far ?_ NB190_191.out _; (with_reducible repeat (first | refine blk_drewN ?_ _ | refine blk_drew ?_ | refine blk_alloc ?_ _)); refine blk_far ?_ NB190_191.out _; (with_reducible repeat (first | refine blk_drewN ?_ _ | refine blk_drew ?_ | refine blk_alloc ?_ _)); exact BK190.out⟩, ⟨by (with_reducible repeat (first | refine blk_drewN ?_ _ | refine blk_drew ?_ | refine blk_alloc ?_ _)); refine blk_put (cs := #[.bool (decide ((bt a0 0) ≥ 128)), .bool ((Int.tmod (bt a0 0) 64) == 32), .int .u32 0]) ?_ 2 _ (by first | rfl | (simp [*]; done)); (with_reducible repeat (first | refine blk_drewN ?_ _ | refine blk_drew ?_ | refine blk_alloc ?_ _)); refine blk_put (cs := #[.bool (decide ((bt a0 0) ≥ 128)), .bool false, .int .u32 0]) ?_ 1 _ (by first | rfl | (simp [*]; done)); (with_reducible repeat (first | refine blk_drewN ?_ _ | refine blk_drew ?_ | refine blk_alloc ?_ _)); refine blk_put (cs := #[.bool false, .bool false, .int .u32 0]) ?_ 0 _ (by first | rfl | (simp [*]; done)); (with_reducible repeat (first | refine blk_drewN ?_ _ | refine blk_drew ?_ | refine blk_alloc ?_ _)); exact BK191.out⟩, ⟨by repeat (first | (with_reducible first | exact HB.out | apply below_alloc | apply pw_below_drewN | apply below_drew1 | refine below_set ?_ GE189.out | refine below_set ?_ GE190.out | refine below_set ?_ GE191.out) | exact HB.out)⟩⟩
                case rest =>
                  clear HC33
                  try clear c1
                  try clear p1
                  try clear q1
                  try clear hx1
                  try clear qi1
                  try clear c2
                  try clear c2b0
                  try clear c2b1
                  try clear p2
                  try clear q2
                  try clear hx2
                  try clear qi2
                  try clear c3
                  try clear p3
                  try clear q3
                  try clear hx3
                  try clear qi3
                  try clear c4
                  try clear c5
                  try clear c8
                  try clear c8b0
                  try clear c8b1
                  try clear p9
                  try clear q9
                  try clear hx9
                  try clear qi9
                  try clear c10
                  try clear c10b0
                  try clear c10b1
                  try clear c14
                  try clear p16
                  try clear q16
                  try clear hx16
                  try clear qi16
                  try clear c17
                  try clear c17b0
                  try clear c17b1
                  try clear c18
                  try clear c18b0
                  try clear c18b1
                  try clear p19
                  try clear q19
                  try clear hx19
                  try clear qi19
                  try clear c20
                  try clear c20b0
                  try clear c20b1
                  try clear p21
                  try clear q21
                  try clear hx21
                  try clear qi21
                  try clear c22
                  try clear c22b0
                  try clear c22b1
                  try clear p23
                  try clear q23
                  try clear hx23
                  try clear qi23
                  try clear c24
                  try clear c24b0
                  try clear c24b1
                  try clear p25
                  try clear q25
                  try clear hx25
                  try clear qi25
                  try clear c26
                  try clear c27
                  try clear c30
                  try clear c30b0
                  try clear c30b1
                  try clear p31
                  try clear q31
                  try clear hx31
                  try clear qi31
                  try clear c32
                  try clear p32
                  try clear q32
                  try clear hx32
                  try clear qi32
                  try clear c39
                  try clear c40
                  try clear c42
                  try clear c42b0
                  try clear hcz15_0
                  try clear hcz15_1
                  try clear hcz15_2
                  try clear hcz28_0
                  try clear hcz28_1
                  try clear hcz28_2
                  try clear hcz29_0
                  try clear hcz29_1
                  try clear hcz29_2
                  try clear hcz41_0
                  try clear hcz41_1
                  try clear hcz41_2
                  try clear hcz6_0
                  try clear hcz6_1
                  try clear hcz6_2
                  try clear hcz7_0
                  try clear hcz7_1
                  try clear hcz7_2
                  try clear hfz15_0
                  try clear hfz15_1
                  try clear hfz15_2
                  try clear hfz28_0
                  try clear hfz28_1
                  try clear hfz28_2
                  try clear hfz29_0
                  try clear hfz29_1
                  try clear hfz29_2
                  try clear hfz41_0
                  try clear hfz41_1
                  try clear hfz41_2
                  try clear hfz6_0
                  try clear hfz6_1
                  try clear hfz6_2
                  try clear hfz7_0
                  try clear hfz7_1
                  try clear hfz7_2
                  try clear p1
                  try clear p16
                  try clear p19
                  try clear p2
                  try clear p21
                  try clear p23
                  try clear p25
                  try clear p31
                  try clear p32
                  try clear p9
                  try clear q1
                  try clear q16
                  try clear q19
                  try clear q2
                  try clear q21
                  try clear q23
                  try clear q25
                  try clear q31
                  try clear q32
                  try clear q9
                  obtain ⟨kq, x7_32, rfl, HA, HJ32, BK189, BK190, BK191, HB⟩ := hcut
                  cases kq with
                  | zero => exact absurd HA.out (by simp [palanquinref12_Get.j1])
                  | succ kj32 =>
                    have H := HA.out
                    clear HA
                    simp only [palanquinref12_Get.j1] at H
                    have HC43 := Aside0.mk H
                    clear H
                    have hnb44 := NB191_189.out
                    have hnc44 := NB189_191.out
                    have hnb45 := NB191_190.out
                    have hnc45 := NB190_191.out
                    have hcz46_0 : wc.cell? ⟨gb191, 0, none⟩ = some (.bool (decide ((bt a0 0) ≥ 128))) := (blk_cell BK191.out 0).trans rfl
                    have hcz46_1 : wc.cell? ⟨gb191, 1, none⟩ = some (.bool ((Int.tmod (bt a0 0) 64) == 32)) := (blk_cell BK191.out 1).trans rfl
                    have hcz46_2 : wc.cell? ⟨gb191, 2, none⟩ = some (.int .u32 0) := (blk_cell BK191.out 2).trans rfl
                    have hfz46_0 := blk_frozen BK191.out 0
                    have hfz46_1 := blk_frozen BK191.out 1
                    have hfz46_2 := blk_frozen BK191.out 2
                    go_upto_if 58 with (fail)
                    go_cut [7] (fun v7 wc => ∃ (kq : Nat) (x7_42 : Int), v7 = .int .i64 x7_42 ∧ Aside0 (palanquinref12_Get.j2 kq a0 x7_42 false false 0 (decide ((bt a0 0) ≥ 128)) ((Int.tmod (bt a0 0) 64) == 32) 0 = some (r1, r2, r3, r4, r5)) ∧ Aside0 (kq ≤ kj32) ∧ Aside0 (wc.heap[gb189]? = some (.cells #[.bool false, .bool false, .int .u32 0] 42 (0, 0))) ∧ Aside0 (wc.heap[gb190]? = some (.cells #[.bool false, .bool false, .int .u32 0] 42 (0, 0))) ∧ Aside0 (wc.heap[gb191]? = some (.cells #[.bool (decide ((bt a0 0) ≥ 128)), .bool ((Int.tmod (bt a0 0) 64) == 32), .int .u32 0] 42 (0, 0))) ∧ Aside0 (Below w.heap.size w wc))
                    case first =>
                      have H := HC43.out
                      clear HC43
                      by_cases c47 : ((Int.tmod (bt a0 0) 64) == 32) = true
                      · rw [if_pos c47] at H
                        have c47b0 : ((Int.tmod (bt a0 0) 64) == 32) = true := c47
                        (try (have c47b1 : decide ((Int.tmod (bt a0 0) 64) = 32) = true := by simpa using c47))
                        (try (have c47b2 : ((Int.tmod (bt a0 0) 64) == 32) = true := by simpa using c47))
                        clear c47
                        (first | rw [c47b0] | (simp only [i64_w, i32_w]; rw [c47b0]) | skip)
                        have H' := Aside0.mk H
                        clear H
                        go_wp2
                        go_meet
                        case rel => exact ⟨_, (wrap64 (x7_32 + 4)), (by first | rfl | (simp; done) | (simp [*]; done)), H', ⟨by have := HJ10.out; have := HJ32.out; first | omega | exact Nat.le_refl _⟩, ⟨by (with_reducible repeat (first | refine blk_drewN ?_ _ | refine blk_drew ?_ | refine blk_alloc ?_ _)); exact BK189.out⟩, ⟨by (with_reducible repeat (first | refine blk_drewN ?_ _ | refine blk_drew ?_ | refine blk_alloc ?_ _)); exact BK190.out⟩, ⟨by (with_reducible repeat (first | refine blk_drewN ?_ _ | refine blk_drew ?_ | refine blk_alloc ?_ _)); exact BK191.out⟩, ⟨by repeat (first | (with_reducible first | exact HB.out | apply below_alloc | apply pw_below_drewN | apply below_drew1 | refine below_set ?_ GE189.out | refine below_set ?_ GE190.out | refine below_set ?_ GE191.out) | exact HB.out)⟩⟩
                      · rw [if_neg c47] at H
                        have c47b0 : ((Int.tmod (bt a0 0) 64) == 32) = false := by simpa using c47
                        (try (have c47b1 : decide ((Int.tmod (bt a0 0) 64) = 32) = false := by simpa using c47))
                        (try (have c47b2 : ((Int.tmod (bt a0 0) 64) == 32) = false := by simpa using c47))
                        (try (have c47b3 : ¬ ((Int.tmod (bt a0 0) 64) = 32) := by simpa using c47))
                        clear c47
                        (first | rw [c47b0] | (simp only [i64_w, i32_w]; rw [c47b0]) | skip)
                        have H' := Aside0.mk H
                        clear H
                        go_wp2
                        go_meet
                        case rel => exact ⟨_, (x7_32), (by first | rfl | (simp; done) | (simp [*]; done)), H', ⟨by have := HJ10.out; have := HJ32.out; first | omega | exact Nat.le_refl _⟩, ⟨by (with_reducible repeat (first | refine blk_drewN ?_ _ | refine blk_drew ?_ | refine blk_alloc ?_ _)); exact BK189.out⟩, ⟨by (with_reducible repeat (first | refine blk_drewN ?_ _ | refine blk_drew ?_ | refine blk_alloc ?_ _)); exact BK190.out⟩, ⟨by (with_reducible repeat (first | refine blk_drewN ?_ _ | refine blk_drew ?_ | refine blk_alloc ?_ _)); exact BK191.out⟩, ⟨by repeat (first | (with_reducible first | exact HB.out | apply below_alloc | apply pw_below_drewN | apply below_drew1 | refine below_set ?_ GE189.out | refine below_set ?_ GE190.out | refine below_set ?_ GE191.out) | exact HB.out)⟩⟩
                    case rest =>
                      clear HC43
                      try clear c1
                      try clear p1
                      try clear q1
                      try clear hx1
                      try clear qi1
                      try clear c2
                      try clear c2b0
                      try clear c2b1
                      try clear p2
                      try clear q2
                      try clear hx2
                      try clear qi2
                      try clear c3
                      try clear p3
                      try clear q3
                      try clear hx3
                      try clear qi3
                      try clear c4
                      try clear c5
                      try clear p6
                      try clear c8
                      try clear c8b0
                      try clear c8b1
                      try clear p9
                      try clear q9
                      try clear hx9
                      try clear qi9
                      try clear c10
                      try clear c10b0
                      try clear c10b1
                      try clear c14
                      try clear p16
                      try clear q16
                      try clear hx16
                      try clear qi16
                      try clear c17
                      try clear c17b0
                      try clear c17b1
                      try clear c18
                      try clear c18b0
                      try clear c18b1
                      try clear p19
                      try clear q19
                      try clear hx19
                      try clear qi19
                      try clear c20
                      try clear c20b0
                      try clear c20b1
                      try clear p21
                      try clear q21
                      try clear hx21
                      try clear qi21
                      try clear c22
                      try clear c22b0
                      try clear c22b1
                      try clear p23
                      try clear q23
                      try clear hx23
                      try clear qi23
                      try clear c24
                      try clear c24b0
                      try clear c24b1
                      try clear p25
                      try clear q25
                      try clear hx25
                      try clear qi25
                      try clear c26
                      try clear c27
                      try clear c30
                      try clear c30b0
                      try clear c30b1
                      try clear p31
                      try clear q31
                      try clear hx31
                      try clear qi31
                      try clear c32
                      try clear p32
                      try clear q32
                      try clear hx32
                      try clear qi32
                      try clear c39
                      try clear c40
                      try clear c42
                      try clear c42b0
                      try clear c44
                      try clear c45
                      try clear c47
                      try clear c47b0
                      try clear c47b1
                      try clear c47b2
                      try clear hcz15_0
                      try clear hcz15_1
                      try clear hcz15_2
                      try clear hcz28_0
                      try clear hcz28_1
                      try clear hcz28_2
                      try clear hcz29_0
                      try clear hcz29_1
                      try clear hcz29_2
                      try clear hcz41_0
                      try clear hcz41_1
                      try clear hcz41_2
                      try clear hcz46_0
                      try clear hcz46_1
                      try clear hcz46_2
                      try clear hcz6_0
                      try clear hcz6_1
                      try clear hcz6_2
                      try clear hcz7_0
                      try clear hcz7_1
                      try clear hcz7_2
                      try clear hfz15_0
                      try clear hfz15_1
                      try clear hfz15_2
                      try clear hfz28_0
                      try clear hfz28_1
                      try clear hfz28_2
                      try clear hfz29_0
                      try clear hfz29_1
                      try clear hfz29_2
                      try clear hfz41_0
                      try clear hfz41_1
                      try clear hfz41_2
                      try clear hfz46_0
                      try clear hfz46_1
                      try clear hfz46_2
                      try clear hfz6_0
                      try clear hfz6_1
                      try clear hfz6_2
                      try clear hfz7_0
                      try clear hfz7_1
                      try clear hfz7_2
                      try clear p1
                      try clear p16
                      try clear p19
                      try clear p2
                      try clear p21
                      try clear p23
                      try clear p25
                      try clear p3
                      try clear p31
                      try clear p32
                      try clear p9
                      try clear q1
                      try clear q16
                      try clear q19
                      try clear q2
                      try clear q21
                      try clear q23
                      try clear q25
                      try clear q3
                      try clear q31
                      try clear q32
                      try clear q9
                      obtain ⟨kq, x7_42, rfl, HA, HJ42, BK189, BK190, BK191, HB⟩ := hcut
                      cases kq with
                      | zero => exact absurd HA.out (by simp [palanquinref12_Get.j2])
                      | succ kj42 =>
                        have H := HA.out
                        clear HA
                        simp only [palanquinref12_Get.j2] at H
                        by_cases c48 : (a0.size : Int) < x7_42
                        · rw [if_pos c48] at H
                          have c48b0 : decide ((a0.size : Int) < x7_42) = true := decide_eq_true c48
                          clear c48
                          simp only [Option.some.injEq, Prod.mk.injEq] at H
                          obtain ⟨rfl, rfl, rfl, rfl, rfl⟩ := H
                          have hnb49 := NB190_189.out
                          have hnc49 := NB189_190.out
                          have hnb50 := NB190_191.out
                          have hnc50 := NB191_190.out
                          have hcz51_0 : wc.cell? ⟨gb190, 0, none⟩ = some (.bool false) := (blk_cell BK190.out 0).trans rfl
                          have hcz51_1 : wc.cell? ⟨gb190, 1, none⟩ = some (.bool false) := (blk_cell BK190.out 1).trans rfl
                          have hcz51_2 : wc.cell? ⟨gb190, 2, none⟩ = some (.int .u32 0) := (blk_cell BK190.out 2).trans rfl
                          have hfz51_0 := blk_frozen BK190.out 0
                          have hfz51_1 := blk_frozen BK190.out 1
                          have hfz51_2 := blk_frozen BK190.out 2
                          have hnb52 := NB189_191.out
                          have hnc52 := NB191_189.out
                          have hcz53_0 : wc.cell? ⟨gb189, 0, none⟩ = some (.bool false) := (blk_cell BK189.out 0).trans rfl
                          have hcz53_1 : wc.cell? ⟨gb189, 1, none⟩ = some (.bool false) := (blk_cell BK189.out 1).trans rfl
                          have hcz53_2 : wc.cell? ⟨gb189, 2, none⟩ = some (.int .u32 0) := (blk_cell BK189.out 2).trans rfl
                          have hfz53_0 := blk_frozen BK189.out 0
                          have hfz53_1 := blk_frozen BK189.out 1
                          have hfz53_2 := blk_frozen BK189.out 2
                          go_wp2
                          refine bodyPost_ret (results_ctt rfl _ _ gb189 42 #[.bool false, .bool false, .int .u32 0] (0, 0) _ rfl (by (with_reducible repeat (first | refine blk_drewN ?_ _ | refine blk_drew ?_ | refine blk_alloc ?_ _)); refine blk_put (cs := #[.bool false, .bool false, .int .u32 0]) ?_ 2 _ (by first | rfl | (simp [*]; done)); (with_reducible repeat (first | refine blk_drewN ?_ _ | refine blk_drew ?_ | refine blk_alloc ?_ _)); refine blk_put (cs := #[.bool false, .bool false, .int .u32 0]) ?_ 1 _ (by first | rfl | (simp [*]; done)); (with_reducible repeat (first | refine blk_drewN ?_ _ | refine blk_drew ?_ | refine blk_alloc ?_ _)); refine blk_put (cs := #[.bool false, .bool false, .int .u32 0]) ?_ 0 _ (by first | rfl | (simp [*]; done)); (with_reducible repeat (first | refine blk_drewN ?_ _ | refine blk_drew ?_ | refine blk_alloc ?_ _)); exact BK189.out) Tryd.underlying42 rfl (by kernel_rfl)) rfl ?_
                          exact ⟨by first | rfl | (simp [errW_none, errW_some] <;> rfl) | (simp [*, errW_none, errW_some] <;> rfl), by repeat (first | (with_reducible first | exact HB.out | apply below_alloc | apply pw_below_drewN | apply below_drew1 | refine below_set ?_ GE189.out | refine below_set ?_ GE190.out | refine below_set ?_ GE191.out) | exact HB.out)⟩
                        · rw [if_neg c48] at H
                          have c48b0 : decide ((a0.size : Int) < x7_42) = false := decide_eq_false c48
                          clear c48
                          have HC54 := Aside0.mk H
                          clear H
                          have hnb55 := NB191_189.out
                          have hnc55 := NB189_191.out
                          have hnb56 := NB191_190.out
                          have hnc56 := NB190_191.out
                          have hcz57_0 : wc.cell? ⟨gb191, 0, none⟩ = some (.bool (decide ((bt a0 0) ≥ 128))) := (blk_cell BK191.out 0).trans rfl
                          have hcz57_1 : wc.cell? ⟨gb191, 1, none⟩ = some (.bool ((Int.tmod (bt a0 0) 64) == 32)) := (blk_cell BK191.out 1).trans rfl
                          have hcz57_2 : wc.cell? ⟨gb191, 2, none⟩ = some (.int .u32 0) := (blk_cell BK191.out 2).trans rfl
                          have hfz57_0 := blk_frozen BK191.out 0
                          have hfz57_1 := blk_frozen BK191.out 1
                          have hfz57_2 := blk_frozen BK191.out 2
                          go_upto_if 67 with (fail)
                          go_cut [] (fun wc => ∃ (kq : Nat) (x190000_53 : Bool) (x190001_53 : Bool) (x190002_53 : Int), Aside0 (palanquinref12_Get.j4 kq a0 x7_42 false false 0 (decide ((bt a0 0) ≥ 128)) ((Int.tmod (bt a0 0) 64) == 32) 0 = some (r1, r2, r3, r4, r5)) ∧ Aside0 (kq ≤ kj42) ∧ Aside0 (wc.heap[gb189]? = some (.cells #[.bool x190000_53, .bool x190001_53, .int .u32 x190002_53] 42 (0, 0))) ∧ Aside0 (wc.heap[gb190]? = some (.cells #[.bool false, .bool false, .int .u32 0] 42 (0, 0))) ∧ Aside0 (wc.heap[gb191]? = some (.cells #[.bool (decide ((bt a0 0) ≥ 128)), .bool ((Int.tmod (bt a0 0) 64) == 32), .int .u32 0] 42 (0, 0))) ∧ Aside0 (Below w.heap.size w wc))
                          case first =>
                            have H := HC54.out
                            clear HC54
                            by_cases c58 : (decide ((bt a0 0) ≥ 128)) = true
                            · rw [if_pos c58] at H
                              have c58b0 : (decide ((bt a0 0) ≥ 128)) = true := c58
                              clear c58
                              (first | rw [c58b0] | (simp only [i64_w, i32_w]; rw [c58b0]) | skip)
                              have HC59 := Aside0.mk H
                              clear H
                              go_upto_region 17 with (fail)
                              go_cut [75] (fun v75 wc => ∃ (kq : Nat) (x75_58 : Bool), v75 = .bool x75_58 ∧ Aside0 (palanquinref12_Get.j3 kq a0 x7_42 x75_58 false false 0 (decide ((bt a0 0) ≥ 128)) ((Int.tmod (bt a0 0) 64) == 32) 0 = some (r1, r2, r3, r4, r5)) ∧ Aside0 (kq ≤ kj42) ∧ Aside0 (wc.heap[gb189]? = some (.cells #[.bool false, .bool false, .int .u32 0] 42 (0, 0))) ∧ Aside0 (wc.heap[gb190]? = some (.cells #[.bool false, .bool false, .int .u32 0] 42 (0, 0))) ∧ Aside0 (wc.heap[gb191]? = some (.cells #[.bool (decide ((bt a0 0) ≥ 128)), .bool ((Int.tmod (bt a0 0) 64) == 32), .int .u32 0] 42 (0, 0))) ∧ Aside0 (Below w.heap.size w wc))
                              case first =>
                                have H := HC59.out
                                clear HC59
                                by_cases c60 : 6 < (a0.size : Int)
                                · rw [if_pos c60] at H
                                  have c60b0 : decide (6 < (a0.size : Int)) = true := decide_eq_true c60
                                  have c60b1 : decide (6 < a0.size) = true := decide_eq_true (by omega)
                                  clear c60
                                  (first | rw [c60b0] | (simp only [i64_w, i32_w]; rw [c60b0]) | skip)
                                  by_cases c62 : (bt a0 6) = 0
                                  · rw [if_pos c62] at H
                                    have c62b0 : ((bt a0 6) == 0) = true := beq_iff_eq.mpr c62
                                    have c62b1 : ((bt a0 6) != 0) = false := bne_eq_false_iff_eq.mpr c62
                                    clear c62
                                    by_cases c63 : 7 < (a0.size : Int)
                                    · rw [if_pos c63] at H
                                      have c63b0 : decide (7 < (a0.size : Int)) = true := decide_eq_true c63
                                      have c63b1 : decide (7 < a0.size) = true := decide_eq_true (by omega)
                                      clear c63
                                      have H' := Aside0.mk H
                                      clear H
                                      have p61 : 0 ≤ (6 : Int) := (by omega)
                                      have q61 : 6 < a0.size := (by have : (6 : Int) < (a0.size : Int) := of_decide_eq_true (by first | (with_reducible assumption) | assumption); omega)
                                      have hx61 : ∀ h : 6 < a0.size, ((a0[6]'h).toNat : Int) = bt a0 6 := bt_at a0 6
                                      clear p61
                                      have qi61 : (6 < (a0.size : Int)) = True := eq_true (of_decide_eq_true (by first | (with_reducible assumption) | assumption))
                                      replace q61 := eq_true q61
                                      have p64 : 0 ≤ (7 : Int) := (by omega)
                                      have q64 : 7 < a0.size := (by have : (7 : Int) < (a0.size : Int) := of_decide_eq_true (by first | (with_reducible assumption) | assumption); omega)
                                      have hx64 : ∀ h : 7 < a0.size, ((a0[7]'h).toNat : Int) = bt a0 7 := bt_at a0 7
                                      clear p64
                                      have qi64 : (7 < (a0.size : Int)) = True := eq_true (of_decide_eq_true (by first | (with_reducible assumption) | assumption))
                                      replace q64 := eq_true q64
                                      go_wp2
                                      go_meet
                                      case rel => exact ⟨_, (((bt a0 7) != 0)), (by first | rfl | (simp; done) | (simp [*]; done)), H', ⟨by have := HJ10.out; have := HJ32.out; have := HJ42.out; first | omega | exact Nat.le_refl _⟩, ⟨by (with_reducible repeat (first | refine blk_drewN ?_ _ | refine blk_drew ?_ | refine blk_alloc ?_ _)); exact BK189.out⟩, ⟨by (with_reducible repeat (first | refine blk_drewN ?_ _ | refine blk_drew ?_ | refine blk_alloc ?_ _)); exact BK190.out⟩, ⟨by (with_reducible repeat (first | refine blk_drewN ?_ _ | refine blk_drew ?_ | refine blk_alloc ?_ _)); exact BK191.out⟩, ⟨by repeat (first | (with_reducible first | exact HB.out | apply below_alloc | apply pw_below_drewN | apply below_drew1 | refine below_set ?_ GE189.out | refine below_set ?_ GE190.out | refine below_set ?_ GE191.out) | exact HB.out)⟩⟩
                                    · rw [if_neg c63] at H
                                      exact absurd H (by simp)
                                  · rw [if_neg c62] at H
                                    have c62b0 : ((bt a0 6) == 0) = false := beq_eq_false_iff_ne.mpr c62
                                    have c62b1 : ((bt a0 6) != 0) = true := bne_iff_ne.mpr c62
                                    have H' := Aside0.mk H
                                    clear H
                                    have p61 : 0 ≤ (6 : Int) := (by omega)
                                    have q61 : 6 < a0.size := (by have : (6 : Int) < (a0.size : Int) := of_decide_eq_true (by first | (with_reducible assumption) | assumption); omega)
                                    have hx61 : ∀ h : 6 < a0.size, ((a0[6]'h).toNat : Int) = bt a0 6 := bt_at a0 6
                                    clear p61
                                    have qi61 : (6 < (a0.size : Int)) = True := eq_true (of_decide_eq_true (by first | (with_reducible assumption) | assumption))
                                    replace q61 := eq_true q61
                                    go_wp2
                                    go_meet
                                    case rel => exact ⟨_, (true), (by first | rfl | (simp; done) | (simp [*]; done)), H', ⟨by have := HJ10.out; have := HJ32.out; have := HJ42.out; first | omega | exact Nat.le_refl _⟩, ⟨by (with_reducible repeat (first | refine blk_drewN ?_ _ | refine blk_drew ?_ | refine blk_alloc ?_ _)); exact BK189.out⟩, ⟨by (with_reducible repeat (first | refine blk_drewN ?_ _ | refine blk_drew ?_ | refine blk_alloc ?_ _)); exact BK190.out⟩, ⟨by (with_reducible repeat (first | refine blk_drewN ?_ _ | refine blk_drew ?_ | refine blk_alloc ?_ _)); exact BK191.out⟩, ⟨by repeat (first | (with_reducible first | exact HB.out | apply below_alloc | apply pw_below_drewN | apply below_drew1 | refine below_set ?_ GE189.out | refine below_set ?_ GE190.out | refine below_set ?_ GE191.out) | exact HB.out)⟩⟩
                                · rw [if_neg c60] at H
                                  exact absurd H (by simp)
                              case rest =>
                                clear HC59
                                try clear c1
                                try clear p1
                                try clear q1
                                try clear hx1
                                try clear qi1
                                try clear c2
                                try clear c2b0
                                try clear c2b1
                                try clear p2
                                try clear q2
                                try clear hx2
                                try clear qi2
                                try clear c3
                                try clear p3
                                try clear q3
                                try clear hx3
                                try clear qi3
                                try clear c4
                                try clear c5
                                try clear c6
                                try clear p6
                                try clear q6
                                try clear hx6
                                try clear qi6
                                try clear c8
                                try clear c8b0
                                try clear c8b1
                                try clear p9
                                try clear q9
                                try clear hx9
                                try clear qi9
                                try clear c10
                                try clear c10b0
                                try clear c10b1
                                try clear c14
                                try clear p16
                                try clear q16
                                try clear hx16
                                try clear qi16
                                try clear c17
                                try clear c17b0
                                try clear c17b1
                                try clear c18
                                try clear c18b0
                                try clear c18b1
                                try clear p19
                                try clear q19
                                try clear hx19
                                try clear qi19
                                try clear c20
                                try clear c20b0
                                try clear c20b1
                                try clear p21
                                try clear q21
                                try clear hx21
                                try clear qi21
                                try clear c22
                                try clear c22b0
                                try clear c22b1
                                try clear p23
                                try clear q23
                                try clear hx23
                                try clear qi23
                                try clear c24
                                try clear c24b0
                                try clear c24b1
                                try clear p25
                                try clear q25
                                try clear hx25
                                try clear qi25
                                try clear c26
                                try clear c27
                                try clear c30
                                try clear c30b0
                                try clear c30b1
                                try clear p31
                                try clear q31
                                try clear hx31
                                try clear qi31
                                try clear c32
                                try clear p32
                                try clear q32
                                try clear hx32
                                try clear qi32
                                try clear c39
                                try clear c40
                                try clear c42
                                try clear c42b0
                                try clear c44
                                try clear c45
                                try clear c47
                                try clear c47b0
                                try clear c47b1
                                try clear c47b2
                                try clear c48
                                try clear c48b0
                                try clear c49
                                try clear c50
                                try clear c52
                                try clear c55
                                try clear c56
                                try clear c58
                                try clear c58b0
                                try clear c60
                                try clear c60b0
                                try clear c60b1
                                try clear p61
                                try clear q61
                                try clear hx61
                                try clear qi61
                                try clear c62
                                try clear c62b0
                                try clear c62b1
                                try clear c63
                                try clear c63b0
                                try clear c63b1
                                try clear p64
                                try clear q64
                                try clear hx64
                                try clear qi64
                                try clear hcz15_0
                                try clear hcz15_1
                                try clear hcz15_2
                                try clear hcz28_0
                                try clear hcz28_1
                                try clear hcz28_2
                                try clear hcz29_0
                                try clear hcz29_1
                                try clear hcz29_2
                                try clear hcz41_0
                                try clear hcz41_1
                                try clear hcz41_2
                                try clear hcz46_0
                                try clear hcz46_1
                                try clear hcz46_2
                                try clear hcz51_0
                                try clear hcz51_1
                                try clear hcz51_2
                                try clear hcz53_0
                                try clear hcz53_1
                                try clear hcz53_2
                                try clear hcz57_0
                                try clear hcz57_1
                                try clear hcz57_2
                                try clear hcz6_0
                                try clear hcz6_1
                                try clear hcz6_2
                                try clear hcz7_0
                                try clear hcz7_1
                                try clear hcz7_2
                                try clear hfz15_0
                                try clear hfz15_1
                                try clear hfz15_2
                                try clear hfz28_0
                                try clear hfz28_1
                                try clear hfz28_2
                                try clear hfz29_0
                                try clear hfz29_1
                                try clear hfz29_2
                                try clear hfz41_0
                                try clear hfz41_1
                                try clear hfz41_2
                                try clear hfz46_0
                                try clear hfz46_1
                                try clear hfz46_2
                                try clear hfz51_0
                                try clear hfz51_1
                                try clear hfz51_2
                                try clear hfz53_0
                                try clear hfz53_1
                                try clear hfz53_2
                                try clear hfz57_0
                                try clear hfz57_1
                                try clear hfz57_2
                                try clear hfz6_0
                                try clear hfz6_1
                                try clear hfz6_2
                                try clear hfz7_0
                                try clear hfz7_1
                                try clear hfz7_2
                                try clear p1
                                try clear p16
                                try clear p19
                                try clear p2
                                try clear p21
                                try clear p23
                                try clear p25
                                try clear p3
                                try clear p31
                                try clear p32
                                try clear p6
                                try clear p61
                                try clear p64
                                try clear p9
                                try clear q1
                                try clear q16
                                try clear q19
                                try clear q2
                                try clear q21
                                try clear q23
                                try clear q25
                                try clear q3
                                try clear q31
                                try clear q32
                                try clear q61
                                try clear q64
                                try clear q9
                                obtain ⟨kq, x75_58, rfl, HA, HJ58, BK189, BK190, BK191, HB⟩ := hcut
                                cases kq with
                                | zero => exact absurd HA.out (by simp [palanquinref12_Get.j3])
                                | succ kj58 =>
                                  have H := HA.out
                                  clear HA
                                  simp only [palanquinref12_Get.j3] at H
                                  by_cases c65 : x75_58 = true
                                  · subst c65
                                    have H1 : (some (false, false, 0, (⟨#[]⟩ : ByteArray), 9)) = some (r1, r2, r3, r4, r5) := by rw [if_pos rfl] at H; exact H
                                    clear H
                                    have H := H1
                                    clear H1
                                    simp only [Option.some.injEq, Prod.mk.injEq] at H
                                    obtain ⟨rfl, rfl, rfl, rfl, rfl⟩ := H
                                    have hnb66 := NB190_189.out
                                    have hnc66 := NB189_190.out
                                    have hnb67 := NB190_191.out
                                    have hnc67 := NB191_190.out
                                    have hcz68_0 : wc.cell? ⟨gb190, 0, none⟩ = some (.bool false) := (blk_cell BK190.out 0).trans rfl
                                    have hcz68_1 : wc.cell? ⟨gb190, 1, none⟩ = some (.bool false) := (blk_cell BK190.out 1).trans rfl
                                    have hcz68_2 : wc.cell? ⟨gb190, 2, none⟩ = some (.int .u32 0) := (blk_cell BK190.out 2).trans rfl
                                    have hfz68_0 := blk_frozen BK190.out 0
                                    have hfz68_1 := blk_frozen BK190.out 1
                                    have hfz68_2 := blk_frozen BK190.out 2
                                    have hnb69 := NB189_191.out
                                    have hnc69 := NB191_189.out
                                    have hcz70_0 : wc.cell? ⟨gb189, 0, none⟩ = some (.bool false) := (blk_cell BK189.out 0).trans rfl
                                    have hcz70_1 : wc.cell? ⟨gb189, 1, none⟩ = some (.bool false) := (blk_cell BK189.out 1).trans rfl
                                    have hcz70_2 : wc.cell? ⟨gb189, 2, none⟩ = some (.int .u32 0) := (blk_cell BK189.out 2).trans rfl
                                    have hfz70_0 := blk_frozen BK189.out 0
                                    have hfz70_1 := blk_frozen BK189.out 1
                                    have hfz70_2 := blk_frozen BK189.out 2
                                    go_wp2
                                    refine bodyPost_ret (results_ctt rfl _ _ gb189 42 #[.bool false, .bool false, .int .u32 0] (0, 0) _ rfl (by (with_reducible repeat (first | refine blk_drewN ?_ _ | refine blk_drew ?_ | refine blk_alloc ?_ _)); refine blk_put (cs := #[.bool false, .bool false, .int .u32 0]) ?_ 2 _ (by first | rfl | (simp [*]; done)); (with_reducible repeat (first | refine blk_drewN ?_ _ | refine blk_drew ?_ | refine blk_alloc ?_ _)); refine blk_put (cs := #[.bool false, .bool false, .int .u32 0]) ?_ 1 _ (by first | rfl | (simp [*]; done)); (with_reducible repeat (first | refine blk_drewN ?_ _ | refine blk_drew ?_ | refine blk_alloc ?_ _)); refine blk_put (cs := #[.bool false, .bool false, .int .u32 0]) ?_ 0 _ (by first | rfl | (simp [*]; done)); (with_reducible repeat (first | refine blk_drewN ?_ _ | refine blk_drew ?_ | refine blk_alloc ?_ _)); exact BK189.out) Tryd.underlying42 rfl (by kernel_rfl)) rfl ?_
                                    exact ⟨by first | rfl | (simp [errW_none, errW_some] <;> rfl) | (simp [*, errW_none, errW_some] <;> rfl), by repeat (first | (with_reducible first | exact HB.out | apply below_alloc | apply pw_below_drewN | apply below_drew1 | refine below_set ?_ GE189.out | refine below_set ?_ GE190.out | refine below_set ?_ GE191.out) | exact HB.out)⟩
                                  · replace c65 := Bool.eq_false_iff.mpr c65
                                    subst c65
                                    have H1 : ((palanquinref02_Sum.f kj58 a0).bind fun t192 => (if t192 = 0 then (palanquinref12_Get.j4 kj58 a0 x7_42 false false 0 (decide ((bt a0 0) ≥ 128)) ((Int.tmod (bt a0 0) 64) == 32) 0) else (some (false, false, 0, (⟨#[]⟩ : ByteArray), 5)))) = some (r1, r2, r3, r4, r5) := by rw [if_neg (show ¬ (false = true) by decide)] at H; exact H
                                    clear H
                                    have H := H1
                                    clear H1
                                    replace H := Option.bind_eq_some_iff.mp H
                                    obtain ⟨t192, A710, H⟩ := H
                                    replace H : (if t192 = 0 then (palanquinref12_Get.j4 kj58 a0 x7_42 false false 0 (decide ((bt a0 0) ≥ 128)) ((Int.tmod (bt a0 0) 64) == 32) 0) else (some (false, false, 0, (⟨#[]⟩ : ByteArray), 5))) = some (r1, r2, r3, r4, r5) := H
                                    have A71 := Aside0.mk A710
                                    clear A710
                                    by_cases c72 : t192 = 0
                                    · rw [if_pos c72] at H
                                      have c72b0 : (t192 == 0) = true := beq_iff_eq.mpr c72
                                      have c72b1 : (t192 != 0) = false := bne_eq_false_iff_eq.mpr c72
                                      clear c72
                                      have H' := Aside0.mk H
                                      clear H
                                      go_wp2_with (first | ((with_reducible refine gate_callee (f := 62) rfl ?_); refine goesL_ (some 78) rfl rfl Tryd.func62 (by kernel_rfl) rfl #[.string a0] rfl (by (try simp only [List.map_toArray, List.map_cons, List.map_nil]); first | done | rfl | (simp only [List.length_drop, List.length_take]; rfl)) ?_; (with_reducible refine (palanquinref02_Sum.calls kj58 a0 t192 _ A71.out).mono ?_); rintro e w73 ⟨rfl, hb⟩; refine ⟨_, rfl, ?_⟩; have n0_ := Aside0.mk (blk_below (g := gb189) (o := .cells #[.bool false, .bool false, .int .u32 0] 42 (0, 0)) (by (with_reducible repeat (first | refine blk_drewN ?_ _ | refine blk_drew ?_ | refine blk_alloc ?_ _)); exact BK189.out) hb); have n1_ := Aside0.mk (blk_below (g := gb190) (o := .cells #[.bool false, .bool false, .int .u32 0] 42 (0, 0)) (by (with_reducible repeat (first | refine blk_drewN ?_ _ | refine blk_drew ?_ | refine blk_alloc ?_ _)); exact BK190.out) hb); have n2_ := Aside0.mk (blk_below (g := gb191) (o := .cells #[.bool (decide ((bt a0 0) ≥ 128)), .bool ((Int.tmod (bt a0 0) 64) == 32), .int .u32 0] 42 (0, 0)) (by (with_reducible repeat (first | refine blk_drewN ?_ _ | refine blk_drew ?_ | refine blk_alloc ?_ _)); exact BK191.out) hb); have n3_ := Aside0.mk (below_step (by repeat (first | (with_reducible first | exact HB.out | apply below_alloc | apply pw_below_drewN | apply below_drew1 | refine below_set ?_ GE189.out | refine below_set ?_ GE190.out | refine below_set ?_ GE191.out) | exact HB.out)) hb); clear BK189; clear BK190; clear BK191; clear HB; have BK189 := n0_; have BK190 := n1_; have BK191 := n2_; have HB := n3_; clear n0_ n1_ n2_ n3_; (try clear hb); (try clear hb2); (try clear hk); (try clear hi)))
                                      go_meet
                                      case rel => exact ⟨_, (false), (false), (0), H', ⟨by have := HJ10.out; have := HJ32.out; have := HJ42.out; have := HJ58.out; first | omega | exact Nat.le_refl _⟩, ⟨by (with_reducible repeat (first | refine blk_drewN ?_ _ | refine blk_drew ?_ | refine blk_alloc ?_ _)); exact BK189.out⟩, ⟨by (with_reducible repeat (first | refine blk_drewN ?_ _ | refine blk_drew ?_ | refine blk_alloc ?_ _)); exact BK190.out⟩, ⟨by (with_reducible repeat (first | refine blk_drewN ?_ _ | refine blk_drew ?_ | refine blk_alloc ?_ _)); exact BK191.out⟩, ⟨by repeat (first | (with_reducible first | exact HB.out | apply below_alloc | apply pw_below_drewN | apply below_drew1 | refine below_set ?_ GE189.out | refine below_set ?_ GE190.out | refine below_set ?_ GE191.out) | exact HB.out)⟩⟩
                                    · rw [if_neg c72] at H
                                      have c72b0 : (t192 == 0) = false := beq_eq_false_iff_ne.mpr c72
                                      have c72b1 : (t192 != 0) = true := bne_iff_ne.mpr c72
                                      simp only [Option.some.injEq, Prod.mk.injEq] at H
                                      obtain ⟨rfl, rfl, rfl, rfl, rfl⟩ := H
                                      go_wp2_with (first | ((with_reducible refine gate_callee (f := 62) rfl ?_); refine goesL_ (some 78) rfl rfl Tryd.func62 (by kernel_rfl) rfl #[.string a0] rfl (by (try simp only [List.map_toArray, List.map_cons, List.map_nil]); first | done | rfl | (simp only [List.length_drop, List.length_take]; rfl)) ?_; (with_reducible refine (palanquinref02_Sum.calls kj58 a0 t192 _ A71.out).mono ?_); rintro e w74 ⟨rfl, hb⟩; refine ⟨_, rfl, ?_⟩; have n0_ := Aside0.mk (blk_below (g := gb189) (o := .cells #[.bool false, .bool false, .int .u32 0] 42 (0, 0)) (by (with_reducible repeat (first | refine blk_drewN ?_ _ | refine blk_drew ?_ | refine blk_alloc ?_ _)); exact BK189.out) hb); have n1_ := Aside0.mk (blk_below (g := gb190) (o := .cells #[.bool false, .bool false, .int .u32 0] 42 (0, 0)) (by (with_reducible repeat (first | refine blk_drewN ?_ _ | refine blk_drew ?_ | refine blk_alloc ?_ _)); exact BK190.out) hb); have n2_ := Aside0.mk (blk_below (g := gb191) (o := .cells #[.bool (decide ((bt a0 0) ≥ 128)), .bool ((Int.tmod (bt a0 0) 64) == 32), .int .u32 0] 42 (0, 0)) (by (with_reducible repeat (first | refine blk_drewN ?_ _ | refine blk_drew ?_ | refine blk_alloc ?_ _)); exact BK191.out) hb); have n3_ := Aside0.mk (below_step (by repeat (first | (with_reducible first | exact HB.out | apply below_alloc | apply pw_below_drewN | apply below_drew1 | refine below_set ?_ GE189.out | refine below_set ?_ GE190.out | refine below_set ?_ GE191.out) | exact HB.out)) hb); clear BK189; clear BK190; clear BK191; clear HB; have BK189 := n0_; have BK190 := n1_; have BK191 := n2_; have HB := n3_; clear n0_ n1_ n2_ n3_; (try clear hb); (try clear hb2); (try clear hk); (try clear hi); have hnb75 := NB190_189.out; have hnc75 := NB189_190.out; have hnb76 := NB190_191.out; have hnc76 := NB191_190.out; have hcz77_0 : w74.cell? ⟨gb190, 0, none⟩ = some (.bool false) := (blk_cell BK190.out 0).trans rfl; have hcz77_1 : w74.cell? ⟨gb190, 1, none⟩ = some (.bool false) := (blk_cell BK190.out 1).trans rfl; have hcz77_2 : w74.cell? ⟨gb190, 2, none⟩ = some (.int .u32 0) := (blk_cell BK190.out 2).trans rfl; have hfz77_0 := blk_frozen BK190.out 0; have hfz77_1 := blk_frozen BK190.out 1; have hfz77_2 := blk_frozen BK190.out 2; have hnb78 := NB189_191.out; have hnc78 := NB191_189.out; have hcz79_0 : w74.cell? ⟨gb189, 0, none⟩ = some (.bool false) := (blk_cell BK189.out 0).trans rfl; have hcz79_1 : w74.cell? ⟨gb189, 1, none⟩ = some (.bool false) := (blk_cell BK189.out 1).trans rfl; have hcz79_2 : w74.cell? ⟨gb189, 2, none⟩ = some (.int .u32 0) := (blk_cell BK189.out 2).trans rfl; have hfz79_0 := blk_frozen BK189.out 0; have hfz79_1 := blk_frozen BK189.out 1; have hfz79_2 := blk_frozen BK189.out 2))
                                      refine bodyPost_ret (results_ctt rfl _ _ gb189 42 #[.bool false, .bool false, .int .u32 0] (0, 0) _ rfl (by (with_reducible repeat (first | refine blk_drewN ?_ _ | refine blk_drew ?_ | refine blk_alloc ?_ _)); refine blk_put (cs := #[.bool false, .bool false, .int .u32 0]) ?_ 2 _ (by first | rfl | (simp [*]; done)); (with_reducible repeat (first | refine blk_drewN ?_ _ | refine blk_drew ?_ | refine blk_alloc ?_ _)); refine blk_put (cs := #[.bool false, .bool false, .int .u32 0]) ?_ 1 _ (by first | rfl | (simp [*]; done)); (with_reducible repeat (first | refine blk_drewN ?_ _ | refine blk_drew ?_ | refine blk_alloc ?_ _)); refine blk_put (cs := #[.bool false, .bool false, .int .u32 0]) ?_ 0 _ (by first | rfl | (simp [*]; done)); (with_reducible repeat (first | refine blk_drewN ?_ _ | refine blk_drew ?_ | refine blk_alloc ?_ _)); exact BK189.out) Tryd.underlying42 rfl (by kernel_rfl)) rfl ?_
                                      exact ⟨by first | rfl | (simp [errW_none, errW_some] <;> rfl) | (simp [*, errW_none, errW_some] <;> rfl), by repeat (first | (with_reducible first | exact HB.out | apply below_alloc | apply pw_below_drewN | apply below_drew1 | refine below_set ?_ GE189.out | refine below_set ?_ GE190.out | refine below_set ?_ GE191.out) | exact HB.out)⟩
                            · rw [if_neg c58] at H
                              have c58b0 : (decide ((bt a0 0) ≥ 128)) = false := by simpa using c58
                              clear c58
                              (first | rw [c58b0] | (simp only [i64_w, i32_w]; rw [c58b0]) | skip)
                              have H' := Aside0.mk H
                              clear H
                              go_wp2
                              go_meet
                              case rel => exact ⟨_, (false), (false), (0), H', ⟨by have := HJ10.out; have := HJ32.out; have := HJ42.out; first | omega | exact Nat.le_refl _⟩, ⟨by (with_reducible repeat (first | refine blk_drewN ?_ _ | refine blk_drew ?_ | refine blk_alloc ?_ _)); exact BK189.out⟩, ⟨by (with_reducible repeat (first | refine blk_drewN ?_ _ | refine blk_drew ?_ | refine blk_alloc ?_ _)); exact BK190.out⟩, ⟨by (with_reducible repeat (first | refine blk_drewN ?_ _ | refine blk_drew ?_ | refine blk_alloc ?_ _)); exact BK191.out⟩, ⟨by repeat (first | (with_reducible first | exact HB.out | apply below_alloc | apply pw_below_drewN | apply below_drew1 | refine below_set ?_ GE189.out | refine below_set ?_ GE190.out | refine below_set ?_ GE191.out) | exact HB.out)⟩⟩
                          case rest =>
                            clear HC54
                            try clear c1
                            try clear p1
                            try clear q1
                            try clear hx1
                            try clear qi1
                            try clear c2
                            try clear c2b0
                            try clear c2b1
                            try clear p2
                            try clear q2
                            try clear hx2
                            try clear qi2
                            try clear c3
                            try clear p3
                            try clear q3
                            try clear hx3
                            try clear qi3
                            try clear c4
                            try clear c5
                            try clear c6
                            try clear p6
                            try clear q6
                            try clear hx6
                            try clear qi6
                            try clear c7
                            try clear c8
                            try clear c8b0
                            try clear c8b1
                            try clear p9
                            try clear q9
                            try clear hx9
                            try clear qi9
                            try clear c10
                            try clear c10b0
                            try clear c10b1
                            try clear c14
                            try clear p16
                            try clear q16
                            try clear hx16
                            try clear qi16
                            try clear c17
                            try clear c17b0
                            try clear c17b1
                            try clear c18
                            try clear c18b0
                            try clear c18b1
                            try clear p19
                            try clear q19
                            try clear hx19
                            try clear qi19
                            try clear c20
                            try clear c20b0
                            try clear c20b1
                            try clear p21
                            try clear q21
                            try clear hx21
                            try clear qi21
                            try clear c22
                            try clear c22b0
                            try clear c22b1
                            try clear p23
                            try clear q23
                            try clear hx23
                            try clear qi23
                            try clear c24
                            try clear c24b0
                            try clear c24b1
                            try clear p25
                            try clear q25
                            try clear hx25
                            try clear qi25
                            try clear c26
                            try clear c27
                            try clear c30
                            try clear c30b0
                            try clear c30b1
                            try clear p31
                            try clear q31
                            try clear hx31
                            try clear qi31
                            try clear c32
                            try clear p32
                            try clear q32
                            try clear hx32
                            try clear qi32
                            try clear c39
                            try clear c40
                            try clear c42
                            try clear c42b0
                            try clear c44
                            try clear c45
                            try clear c47
                            try clear c47b0
                            try clear c47b1
                            try clear c47b2
                            try clear c48
                            try clear c48b0
                            try clear c49
                            try clear c50
                            try clear c52
                            try clear c55
                            try clear c56
                            try clear c58
                            try clear c58b0
                            try clear c60
                            try clear c60b0
                            try clear c60b1
                            try clear p61
                            try clear q61
                            try clear hx61
                            try clear qi61
                            try clear c62
                            try clear c62b0
                            try clear c62b1
                            try clear c63
                            try clear c63b0
                            try clear c63b1
                            try clear p64
                            try clear q64
                            try clear hx64
                            try clear qi64
                            try clear c65
                            try clear c66
                            try clear c67
                            try clear c69
                            try clear c72
                            try clear c72b0
                            try clear c72b1
                            try clear c75
                            try clear c76
                            try clear c78
                            try clear hcz15_0
                            try clear hcz15_1
                            try clear hcz15_2
                            try clear hcz28_0
                            try clear hcz28_1
                            try clear hcz28_2
                            try clear hcz29_0
                            try clear hcz29_1
                            try clear hcz29_2
                            try clear hcz41_0
                            try clear hcz41_1
                            try clear hcz41_2
                            try clear hcz46_0
                            try clear hcz46_1
                            try clear hcz46_2
                            try clear hcz51_0
                            try clear hcz51_1
                            try clear hcz51_2
                            try clear hcz53_0
                            try clear hcz53_1
                            try clear hcz53_2
                            try clear hcz57_0
                            try clear hcz57_1
                            try clear hcz57_2
                            try clear hcz68_0
                            try clear hcz68_1
                            try clear hcz68_2
                            try clear hcz6_0
                            try clear hcz6_1
                            try clear hcz6_2
                            try clear hcz70_0
                            try clear hcz70_1
                            try clear hcz70_2
                            try clear hcz77_0
                            try clear hcz77_1
                            try clear hcz77_2
                            try clear hcz79_0
                            try clear hcz79_1
                            try clear hcz79_2
                            try clear hcz7_0
                            try clear hcz7_1
                            try clear hcz7_2
                            try clear hfz15_0
                            try clear hfz15_1
                            try clear hfz15_2
                            try clear hfz28_0
                            try clear hfz28_1
                            try clear hfz28_2
                            try clear hfz29_0
                            try clear hfz29_1
                            try clear hfz29_2
                            try clear hfz41_0
                            try clear hfz41_1
                            try clear hfz41_2
                            try clear hfz46_0
                            try clear hfz46_1
                            try clear hfz46_2
                            try clear hfz51_0
                            try clear hfz51_1
                            try clear hfz51_2
                            try clear hfz53_0
                            try clear hfz53_1
                            try clear hfz53_2
                            try clear hfz57_0
                            try clear hfz57_1
                            try clear hfz57_2
                            try clear hfz68_0
                            try clear hfz68_1
                            try clear hfz68_2
                            try clear hfz6_0
                            try clear hfz6_1
                            try clear hfz6_2
                            try clear hfz70_0
                            try clear hfz70_1
                            try clear hfz70_2
                            try clear hfz77_0
                            try clear hfz77_1
                            try clear hfz77_2
                            try clear hfz79_0
                            try clear hfz79_1
                            try clear hfz79_2
                            try clear hfz7_0
                            try clear hfz7_1
                            try clear hfz7_2
                            try clear p1
                            try clear p16
                            try clear p19
                            try clear p2
                            try clear p21
                            try clear p23
                            try clear p25
                            try clear p3
                            try clear p31
                            try clear p32
                            try clear p6
                            try clear p61
                            try clear p64
                            try clear p9
                            try clear q1
                            try clear q16
                            try clear q19
                            try clear q2
                            try clear q21
                            try clear q23
                            try clear q25
                            try clear q3
                            try clear q31
                            try clear q32
                            try clear q6
                            try clear q61
                            try clear q64
                            try clear q9
                            obtain ⟨kq, x190000_53, x190001_53, x190002_53, HA, HJ53, BK189, BK190, BK191, HB⟩ := hcut
                            cases kq with
                            | zero => exact absurd HA.out (by simp [palanquinref12_Get.j4])
                            | succ kj53 =>
                              have H := HA.out
                              clear HA
                              simp only [palanquinref12_Get.j4] at H
                              have HC80 := Aside0.mk H
                              clear H
                              have hnb81 := NB191_189.out
                              have hnc81 := NB189_191.out
                              have hnb82 := NB191_190.out
                              have hnc82 := NB190_191.out
                              have hcz83_0 : wc.cell? ⟨gb191, 0, none⟩ = some (.bool (decide ((bt a0 0) ≥ 128))) := (blk_cell BK191.out 0).trans rfl
                              have hcz83_1 : wc.cell? ⟨gb191, 1, none⟩ = some (.bool ((Int.tmod (bt a0 0) 64) == 32)) := (blk_cell BK191.out 1).trans rfl
                              have hcz83_2 : wc.cell? ⟨gb191, 2, none⟩ = some (.int .u32 0) := (blk_cell BK191.out 2).trans rfl
                              have hfz83_0 := blk_frozen BK191.out 0
                              have hfz83_1 := blk_frozen BK191.out 1
                              have hfz83_2 := blk_frozen BK191.out 2
                              go_upto_if 82 with (fail)
                              go_cut [] (fun wc => ∃ (kq : Nat) (x192002_79 : Int), Aside0 (palanquinref12_Get.j5 kq a0 x7_42 false false 0 (decide ((bt a0 0) ≥ 128)) ((Int.tmod (bt a0 0) 64) == 32) x192002_79 = some (r1, r2, r3, r4, r5)) ∧ Aside0 (kq ≤ kj53) ∧ Aside0 (wc.heap[gb189]? = some (.cells #[.bool x190000_53, .bool x190001_53, .int .u32 x190002_53] 42 (0, 0))) ∧ Aside0 (wc.heap[gb190]? = some (.cells #[.bool false, .bool false, .int .u32 0] 42 (0, 0))) ∧ Aside0 (wc.heap[gb191]? = some (.cells #[.bool (decide ((bt a0 0) ≥ 128)), .bool ((Int.tmod (bt a0 0) 64) == 32), .int .u32 x192002_79] 42 (0, 0))) ∧ Aside0 (Below w.heap.size w wc))
                              case first =>
                                have H := HC80.out
                                clear HC80
                                by_cases c84 : ((Int.tmod (bt a0 0) 64) == 32) = true
                                · rw [if_pos c84] at H
                                  have c84b0 : ((Int.tmod (bt a0 0) 64) == 32) = true := c84
                                  (try (have c84b1 : decide ((Int.tmod (bt a0 0) 64) = 32) = true := by simpa using c84))
                                  (try (have c84b2 : ((Int.tmod (bt a0 0) 64) == 32) = true := by simpa using c84))
                                  clear c84
                                  (first | rw [c84b0] | (simp only [i64_w, i32_w]; rw [c84b0]) | skip)
                                  obtain ⟨ji85, hji85⟩ : ∃ j_ : Int, (wrap64 (x7_42 - 4)) = j_ := ⟨_, rfl⟩
                                  replace H : (if 0 ≤ (ji85) then (if (ji85) ≤ x7_42 then (if x7_42 ≤ (a0.size : Int) then ((palanquinref01_Value.f kj53 (a0.extract ((ji85) : Int).toNat (x7_42 : Int).toNat)).bind fun t193 => (palanquinref12_Get.j5 kj53 a0 x7_42 false false 0 (decide ((bt a0 0) ≥ 128)) ((Int.tmod (bt a0 0) 64) == 32) ((t193) % 4294967296))) else (none)) else (none)) else (none)) = some (r1, r2, r3, r4, r5) := by first | (rw [hji85] at H; exact H) | (simp only [hji85] at H ⊢; exact H)
                                  have hji85w : (IntKind.i64.wrap (x7_42 - 4)) = ji85 := (i64_w _).trans hji85
                                  by_cases c86 : 0 ≤ (ji85)
                                  · rw [if_pos c86] at H
                                    have c86b0 := eq_true c86
                                    have c86b1 : decide (0 ≤ (ji85)) = true := decide_eq_true c86
                                    clear c86
                                    by_cases c87 : (ji85) ≤ x7_42
                                    · rw [if_pos c87] at H
                                      have c87b0 := eq_true c87
                                      have c87b1 : decide ((ji85) ≤ x7_42) = true := decide_eq_true c87
                                      clear c87
                                      by_cases c88 : x7_42 ≤ (a0.size : Int)
                                      · rw [if_pos c88] at H
                                        have c88b0 := eq_true c88
                                        have c88b1 : decide (x7_42 ≤ (a0.size : Int)) = true := decide_eq_true c88
                                        clear c88
                                        replace H := Option.bind_eq_some_iff.mp H
                                        obtain ⟨t193, A890, H⟩ := H
                                        replace H : (palanquinref12_Get.j5 kj53 a0 x7_42 false false 0 (decide ((bt a0 0) ≥ 128)) ((Int.tmod (bt a0 0) 64) == 32) ((t193) % 4294967296)) = some (r1, r2, r3, r4, r5) := H
                                        have A89 := Aside0.mk A890
                                        clear A890
                                        have H' := Aside0.mk H
                                        clear H
                                        go_wp2_with (first | ((with_reducible refine gate_callee (f := 72) rfl ?_); refine goesL_ (some 88) rfl rfl Tryd.func72 (by kernel_rfl) rfl #[.string (a0.extract ((ji85) : Int).toNat (x7_42 : Int).toNat)] rfl (by (try simp only [List.map_toArray, List.map_cons, List.map_nil]); first | done | (simp only [hji85]; rfl) | rfl | (simp only [List.length_drop, List.length_take]; rfl)) ?_; (with_reducible refine (palanquinref01_Value.calls kj53 (a0.extract ((ji85) : Int).toNat (x7_42 : Int).toNat) t193 _ A89.out).mono ?_); rintro e w' ⟨rfl, ⟨nd, rfl⟩⟩; refine ⟨_, rfl, ?_⟩; (try (rw [drewN_self wc]; generalize hq_ : World.drewN wc _ = wc; have n0_ : Aside0 (wc.heap[gb189]? = some (.cells #[.bool x190000_53, .bool x190001_53, .int .u32 x190002_53] 42 (0, 0))) := ⟨by rw [← hq_]; exact (by (with_reducible repeat (first | refine blk_drewN ?_ _ | refine blk_drew ?_ | refine blk_alloc ?_ _)); exact BK189.out)⟩; have n1_ : Aside0 (wc.heap[gb190]? = some (.cells #[.bool false, .bool false, .int .u32 0] 42 (0, 0))) := ⟨by rw [← hq_]; exact (by (with_reducible repeat (first | refine blk_drewN ?_ _ | refine blk_drew ?_ | refine blk_alloc ?_ _)); exact BK190.out)⟩; have n2_ : Aside0 (wc.heap[gb191]? = some (.cells #[.bool (decide ((bt a0 0) ≥ 128)), .bool ((Int.tmod (bt a0 0) 64) == 32), .int .u32 0] 42 (0, 0))) := ⟨by rw [← hq_]; exact (by (with_reducible repeat (first | refine blk_drewN ?_ _ | refine blk_drew ?_ | refine blk_alloc ?_ _)); exact BK191.out)⟩; have n3_ : Aside0 (Below w.heap.size w wc) := ⟨by rw [← hq_]; exact (by repeat (first | (with_reducible first | exact HB.out | apply below_alloc | apply pw_below_drewN | apply below_drew1 | refine below_set ?_ GE189.out | refine below_set ?_ GE190.out | refine below_set ?_ GE191.out) | exact HB.out))⟩; clear BK189 BK190 BK191 HB hq_; have BK189 := n0_; have BK190 := n1_; have BK191 := n2_; have HB := n3_; clear n0_ n1_ n2_ n3_)); have hnb90 := NB191_189.out; have hnc90 := NB189_191.out; have hnb91 := NB191_190.out; have hnc91 := NB190_191.out; have hcz92_0 : wc.cell? ⟨gb191, 0, none⟩ = some (.bool (decide ((bt a0 0) ≥ 128))) := (blk_cell BK191.out 0).trans rfl; have hcz92_1 : wc.cell? ⟨gb191, 1, none⟩ = some (.bool ((Int.tmod (bt a0 0) 64) == 32)) := (blk_cell BK191.out 1).trans rfl; have hcz92_2 : wc.cell? ⟨gb191, 2, none⟩ = some (.int .u32 0) := (blk_cell BK191.out 2).trans rfl; have hfz92_0 := blk_frozen BK191.out 0; have hfz92_1 := blk_frozen BK191.out 1; have hfz92_2 := blk_frozen BK191.out 2))
                                        go_meet
                                        case rel => exact ⟨_, ((t193) % 4294967296), H', ⟨by have := HJ10.out; have := HJ32.out; have := HJ42.out; have := HJ53.out; first | omega | exact Nat.le_refl _⟩, ⟨by (with_reducible repeat (first | refine blk_drewN ?_ _ | refine blk_drew ?_ | refine blk_alloc ?_ _)); refine blk_far ?_ NB189_191.out _; (with_reducible repeat (first | refine blk_drewN ?_ _ | refine blk_drew ?_ | refine blk_alloc ?_ _)); exact BK189.out⟩, ⟨by (with_reducible repeat (first | refine blk_drewN ?_ _ | refine blk_drew ?_ | refine blk_alloc ?_ _)); refine blk_far ?_ NB190_191.out _; (with_reducible repeat (first | refine blk_drewN ?_ _ | refine blk_drew ?_ | refine blk_alloc ?_ _)); exact BK190.out⟩, ⟨by (with_reducible repeat (first | refine blk_drewN ?_ _ | refine blk_drew ?_ | refine blk_alloc ?_ _)); refine blk_put (cs := #[.bool (decide ((bt a0 0) ≥ 128)), .bool ((Int.tmod (bt a0 0) 64) == 32), .int .u32 0]) ?_ 2 _ (by first | rfl | (simp [*]; done)); (with_reducible repeat (first | refine blk_drewN ?_ _ | refine blk_drew ?_ | refine blk_alloc ?_ _)); exact BK191.out⟩, ⟨by repeat (first | (with_reducible first | exact HB.out | apply below_alloc | apply pw_below_drewN | apply below_drew1 | refine below_set ?_ GE189.out | refine below_set ?_ GE190.out | refine below_set ?_ GE191.out) | exact HB.out)⟩⟩
                                      · rw [if_neg c88] at H
                                        exact absurd H (by simp)
                                    · rw [if_neg c87] at H
                                      exact absurd H (by simp)
                                  · rw [if_neg c86] at H
                                    exact absurd H (by simp)
                                · rw [if_neg c84] at H
                                  have c84b0 : ((Int.tmod (bt a0 0) 64) == 32) = false := by simpa using c84
                                  (try (have c84b1 : decide ((Int.tmod (bt a0 0) 64) = 32) = false := by simpa using c84))
                                  (try (have c84b2 : ((Int.tmod (bt a0 0) 64) == 32) = false := by simpa using c84))
                                  (try (have c84b3 : ¬ ((Int.tmod (bt a0 0) 64) = 32) := by simpa using c84))
                                  clear c84
                                  (first | rw [c84b0] | (simp only [i64_w, i32_w]; rw [c84b0]) | skip)
                                  have H' := Aside0.mk H
                                  clear H
                                  go_wp2
                                  go_meet
                                  case rel => exact ⟨_, (0), H', ⟨by have := HJ10.out; have := HJ32.out; have := HJ42.out; have := HJ53.out; first | omega | exact Nat.le_refl _⟩, ⟨by (with_reducible repeat (first | refine blk_drewN ?_ _ | refine blk_drew ?_ | refine blk_alloc ?_ _)); exact BK189.out⟩, ⟨by (with_reducible repeat (first | refine blk_drewN ?_ _ | refine blk_drew ?_ | refine blk_alloc ?_ _)); exact BK190.out⟩, ⟨by (with_reducible repeat (first | refine blk_drewN ?_ _ | refine blk_drew ?_ | refine blk_alloc ?_ _)); exact BK191.out⟩, ⟨by repeat (first | (with_reducible first | exact HB.out | apply below_alloc | apply pw_below_drewN | apply below_drew1 | refine below_set ?_ GE189.out | refine below_set ?_ GE190.out | refine below_set ?_ GE191.out) | exact HB.out)⟩⟩
                              case rest =>
                                clear HC80
                                try clear c1
                                try clear p1
                                try clear q1
                                try clear hx1
                                try clear qi1
                                try clear c2
                                try clear c2b0
                                try clear c2b1
                                try clear p2
                                try clear q2
                                try clear hx2
                                try clear qi2
                                try clear c3
                                try clear p3
                                try clear q3
                                try clear hx3
                                try clear qi3
                                try clear c4
                                try clear c5
                                try clear c6
                                try clear p6
                                try clear q6
                                try clear hx6
                                try clear qi6
                                try clear c7
                                try clear c8
                                try clear c8b0
                                try clear c8b1
                                try clear c9
                                try clear p9
                                try clear q9
                                try clear hx9
                                try clear qi9
                                try clear c10
                                try clear c10b0
                                try clear c10b1
                                try clear c14
                                try clear p16
                                try clear q16
                                try clear hx16
                                try clear qi16
                                try clear c17
                                try clear c17b0
                                try clear c17b1
                                try clear c18
                                try clear c18b0
                                try clear c18b1
                                try clear p19
                                try clear q19
                                try clear hx19
                                try clear qi19
                                try clear c20
                                try clear c20b0
                                try clear c20b1
                                try clear p21
                                try clear q21
                                try clear hx21
                                try clear qi21
                                try clear c22
                                try clear c22b0
                                try clear c22b1
                                try clear p23
                                try clear q23
                                try clear hx23
                                try clear qi23
                                try clear c24
                                try clear c24b0
                                try clear c24b1
                                try clear p25
                                try clear q25
                                try clear hx25
                                try clear qi25
                                try clear c26
                                try clear c27
                                try clear c30
                                try clear c30b0
                                try clear c30b1
                                try clear p31
                                try clear q31
                                try clear hx31
                                try clear qi31
                                try clear c32
                                try clear p32
                                try clear q32
                                try clear hx32
                                try clear qi32
                                try clear c39
                                try clear c40
                                try clear c42
                                try clear c42b0
                                try clear c44
                                try clear c45
                                try clear c47
                                try clear c47b0
                                try clear c47b1
                                try clear c47b2
                                try clear c48
                                try clear c48b0
                                try clear c49
                                try clear c50
                                try clear c52
                                try clear c55
                                try clear c56
                                try clear c58
                                try clear c58b0
                                try clear c60
                                try clear c60b0
                                try clear c60b1
                                try clear p61
                                try clear q61
                                try clear hx61
                                try clear qi61
                                try clear c62
                                try clear c62b0
                                try clear c62b1
                                try clear c63
                                try clear c63b0
                                try clear c63b1
                                try clear p64
                                try clear q64
                                try clear hx64
                                try clear qi64
                                try clear c65
                                try clear c66
                                try clear c67
                                try clear c69
                                try clear c72
                                try clear c72b0
                                try clear c72b1
                                try clear c75
                                try clear c76
                                try clear c78
                                try clear c81
                                try clear c82
                                try clear c84
                                try clear c84b0
                                try clear c84b1
                                try clear c84b2
                                try clear c86
                                try clear c86b0
                                try clear c86b1
                                try clear c87
                                try clear c87b0
                                try clear c87b1
                                try clear c88
                                try clear c88b0
                                try clear c88b1
                                try clear c90
                                try clear c91
                                try clear hcz15_0
                                try clear hcz15_1
                                try clear hcz15_2
                                try clear hcz28_0
                                try clear hcz28_1
                                try clear hcz28_2
                                try clear hcz29_0
                                try clear hcz29_1
                                try clear hcz29_2
                                try clear hcz41_0
                                try clear hcz41_1
                                try clear hcz41_2
                                try clear hcz46_0
                                try clear hcz46_1
                                try clear hcz46_2
                                try clear hcz51_0
                                try clear hcz51_1
                                try clear hcz51_2
                                try clear hcz53_0
                                try clear hcz53_1
                                try clear hcz53_2
                                try clear hcz57_0
                                try clear hcz57_1
                                try clear hcz57_2
                                try clear hcz68_0
                                try clear hcz68_1
                                try clear hcz68_2
                                try clear hcz6_0
                                try clear hcz6_1
                                try clear hcz6_2
                                try clear hcz70_0
                                try clear hcz70_1
                                try clear hcz70_2
                                try clear hcz77_0
                                try clear hcz77_1
                                try clear hcz77_2
                                try clear hcz79_0
                                try clear hcz79_1
                                try clear hcz79_2
                                try clear hcz7_0
                                try clear hcz7_1
                                try clear hcz7_2
                                try clear hcz83_0
                                try clear hcz83_1
                                try clear hcz83_2
                                try clear hcz92_0
                                try clear hcz92_1
                                try clear hcz92_2
                                try clear hfz15_0
                                try clear hfz15_1
                                try clear hfz15_2
                                try clear hfz28_0
                                try clear hfz28_1
                                try clear hfz28_2
                                try clear hfz29_0
                                try clear hfz29_1
                                try clear hfz29_2
                                try clear hfz41_0
                                try clear hfz41_1
                                try clear hfz41_2
                                try clear hfz46_0
                                try clear hfz46_1
                                try clear hfz46_2
                                try clear hfz51_0
                                try clear hfz51_1
                                try clear hfz51_2
                                try clear hfz53_0
                                try clear hfz53_1
                                try clear hfz53_2
                                try clear hfz57_0
                                try clear hfz57_1
                                try clear hfz57_2
                                try clear hfz68_0
                                try clear hfz68_1
                                try clear hfz68_2
                                try clear hfz6_0
                                try clear hfz6_1
                                try clear hfz6_2
                                try clear hfz70_0
                                try clear hfz70_1
                                try clear hfz70_2
                                try clear hfz77_0
                                try clear hfz77_1
                                try clear hfz77_2
                                try clear hfz79_0
                                try clear hfz79_1
                                try clear hfz79_2
                                try clear hfz7_0
                                try clear hfz7_1
                                try clear hfz7_2
                                try clear hfz83_0
                                try clear hfz83_1
                                try clear hfz83_2
                                try clear hfz92_0
                                try clear hfz92_1
                                try clear hfz92_2
                                try clear p1
                                try clear p16
                                try clear p19
                                try clear p2
                                try clear p21
                                try clear p23
                                try clear p25
                                try clear p3
                                try clear p31
                                try clear p32
                                try clear p6
                                try clear p61
                                try clear p64
                                try clear p9
                                try clear q1
                                try clear q16
                                try clear q19
                                try clear q2
                                try clear q21
                                try clear q23
                                try clear q25
                                try clear q3
                                try clear q31
                                try clear q32
                                try clear q6
                                try clear q61
                                try clear q64
                                try clear q9
                                obtain ⟨kq, x192002_79, HA, HJ79, BK189, BK190, BK191, HB⟩ := hcut
                                cases kq with
                                | zero => exact absurd HA.out (by simp [palanquinref12_Get.j5])
                                | succ kj79 =>
                                  have H := HA.out
                                  clear HA
                                  simp only [palanquinref12_Get.j5] at H
                                  by_cases c93 : 2 ≤ 4
                                  · rw [if_pos c93] at H
                                    have c93b0 := eq_true c93
                                    have c93b1 : decide (2 ≤ 4) = true := decide_eq_true c93
                                    clear c93
                                    by_cases c94 : 4 ≤ (a0.size : Int)
                                    · rw [if_pos c94] at H
                                      have c94b0 := eq_true c94
                                      have c94b1 : decide (4 ≤ (a0.size : Int)) = true := decide_eq_true c94
                                      clear c94
                                      replace H := Option.bind_eq_some_iff.mp H
                                      obtain ⟨t194, A950, H⟩ := H
                                      replace H : (if (wrap64 (t194)) = 2048 then (palanquinref12_Get.j6 kj79 a0 x7_42 (wrap64 (t194)) false false false 0 (decide ((bt a0 0) ≥ 128)) ((Int.tmod (bt a0 0) 64) == 32) x192002_79) else (palanquinref12_Get.j6 kj79 a0 x7_42 (wrap64 (t194)) ((wrap64 (t194)) != 34525) false false 0 (decide ((bt a0 0) ≥ 128)) ((Int.tmod (bt a0 0) 64) == 32) x192002_79)) = some (r1, r2, r3, r4, r5) := H
                                      have A95 := Aside0.mk A950
                                      clear A950
                                      have HC96 := Aside0.mk H
                                      clear H
                                      go_upto_region 24 with (first | ((with_reducible refine gate_callee (f := 72) rfl ?_); refine goesL_ (some 93) rfl rfl Tryd.func72 (by kernel_rfl) rfl #[.string (a0.extract 2 4)] rfl (by (try simp only [List.map_toArray, List.map_cons, List.map_nil]); first | done | rfl | (simp only [List.length_drop, List.length_take]; rfl)) ?_; (with_reducible refine (palanquinref01_Value.calls kj79 (a0.extract 2 4) t194 _ A95.out).mono ?_); rintro e w' ⟨rfl, ⟨nd, rfl⟩⟩; refine ⟨_, rfl, ?_⟩))
                                      (try simp only [Act.put, List.setIfInBounds_toArray, List.set_cons_zero, List.set_cons_succ])
                                      go_cut [100] (fun v100 wc => ∃ (kq : Nat) (x100_95 : Bool), v100 = .bool x100_95 ∧ Aside0 (palanquinref12_Get.j6 kq a0 x7_42 (wrap64 (t194)) x100_95 false false 0 (decide ((bt a0 0) ≥ 128)) ((Int.tmod (bt a0 0) 64) == 32) x192002_79 = some (r1, r2, r3, r4, r5)) ∧ Aside0 (kq ≤ kj79) ∧ Aside0 (wc.heap[gb189]? = some (.cells #[.bool x190000_53, .bool x190001_53, .int .u32 x190002_53] 42 (0, 0))) ∧ Aside0 (wc.heap[gb190]? = some (.cells #[.bool false, .bool false, .int .u32 0] 42 (0, 0))) ∧ Aside0 (wc.heap[gb191]? = some (.cells #[.bool (decide ((bt a0 0) ≥ 128)), .bool ((Int.tmod (bt a0 0) 64) == 32), .int .u32 x192002_79] 42 (0, 0))) ∧ Aside0 (Below w.heap.size w wc))
                                      case first =>
                                        have H := HC96.out
                                        clear HC96
                                        by_cases c97 : (wrap64 (t194)) = 2048
                                        · rw [if_pos c97] at H
                                          have c97b0 : ((wrap64 (t194)) == 2048) = true := beq_iff_eq.mpr c97
                                          have c97b1 : ((wrap64 (t194)) != 2048) = false := bne_eq_false_iff_eq.mpr c97
                                          clear c97
                                          (first | rw [c97b0] | (simp only [i64_w, i32_w]; rw [c97b0]) | skip)
                                          have H' := Aside0.mk H
                                          clear H
                                          go_wp2
                                          go_meet
                                          case rel => exact ⟨_, (false), (by first | rfl | (simp; done) | (simp [*]; done)), H', ⟨by have := HJ10.out; have := HJ32.out; have := HJ42.out; have := HJ53.out; have := HJ79.out; first | omega | exact Nat.le_refl _⟩, ⟨by (with_reducible repeat (first | refine blk_drewN ?_ _ | refine blk_drew ?_ | refine blk_alloc ?_ _)); exact BK189.out⟩, ⟨by (with_reducible repeat (first | refine blk_drewN ?_ _ | refine blk_drew ?_ | refine blk_alloc ?_ _)); exact BK190.out⟩, ⟨by (with_reducible repeat (first | refine blk_drewN ?_ _ | refine blk_drew ?_ | refine blk_alloc ?_ _)); exact BK191.out⟩, ⟨by repeat (first | (with_reducible first | exact HB.out | apply below_alloc | apply pw_below_drewN | apply below_drew1 | refine below_set ?_ GE189.out | refine below_set ?_ GE190.out | refine below_set ?_ GE191.out) | exact HB.out)⟩⟩
                                        · rw [if_neg c97] at H
                                          have c97b0 : ((wrap64 (t194)) == 2048) = false := beq_eq_false_iff_ne.mpr c97
                                          have c97b1 : ((wrap64 (t194)) != 2048) = true := bne_iff_ne.mpr c97
                                          (first | rw [c97b0] | (simp only [i64_w, i32_w]; rw [c97b0]) | skip)
                                          have H' := Aside0.mk H
                                          clear H
                                          go_wp2
                                          go_meet
                                          case rel => exact ⟨_, (((wrap64 (t194)) != 34525)), (by first | rfl | (simp; done) | (simp [*]; done)), H', ⟨by have := HJ10.out; have := HJ32.out; have := HJ42.out; have := HJ53.out; have := HJ79.out; first | omega | exact Nat.le_refl _⟩, ⟨by (with_reducible repeat (first | refine blk_drewN ?_ _ | refine blk_drew ?_ | refine blk_alloc ?_ _)); exact BK189.out⟩, ⟨by (with_reducible repeat (first | refine blk_drewN ?_ _ | refine blk_drew ?_ | refine blk_alloc ?_ _)); exact BK190.out⟩, ⟨by (with_reducible repeat (first | refine blk_drewN ?_ _ | refine blk_drew ?_ | refine blk_alloc ?_ _)); exact BK191.out⟩, ⟨by repeat (first | (with_reducible first | exact HB.out | apply below_alloc | apply pw_below_drewN | apply below_drew1 | refine below_set ?_ GE189.out | refine below_set ?_ GE190.out | refine below_set ?_ GE191.out) | exact HB.out)⟩⟩
                                      case rest =>
                                        clear HC96
                                        try clear c1
                                        try clear p1
                                        try clear q1
                                        try clear hx1
                                        try clear qi1
                                        try clear c2
                                        try clear c2b0
                                        try clear c2b1
                                        try clear p2
                                        try clear q2
                                        try clear hx2
                                        try clear qi2
                                        try clear c3
                                        try clear p3
                                        try clear q3
                                        try clear hx3
                                        try clear qi3
                                        try clear c4
                                        try clear c5
                                        try clear c6
                                        try clear p6
                                        try clear q6
                                        try clear hx6
                                        try clear qi6
                                        try clear c7
                                        try clear c8
                                        try clear c8b0
                                        try clear c8b1
                                        try clear c9
                                        try clear p9
                                        try clear q9
                                        try clear hx9
                                        try clear qi9
                                        try clear c10
                                        try clear c10b0
                                        try clear c10b1
                                        try clear c14
                                        try clear p16
                                        try clear q16
                                        try clear hx16
                                        try clear qi16
                                        try clear c17
                                        try clear c17b0
                                        try clear c17b1
                                        try clear c18
                                        try clear c18b0
                                        try clear c18b1
                                        try clear p19
                                        try clear q19
                                        try clear hx19
                                        try clear qi19
                                        try clear c20
                                        try clear c20b0
                                        try clear c20b1
                                        try clear p21
                                        try clear q21
                                        try clear hx21
                                        try clear qi21
                                        try clear c22
                                        try clear c22b0
                                        try clear c22b1
                                        try clear p23
                                        try clear q23
                                        try clear hx23
                                        try clear qi23
                                        try clear c24
                                        try clear c24b0
                                        try clear c24b1
                                        try clear p25
                                        try clear q25
                                        try clear hx25
                                        try clear qi25
                                        try clear c26
                                        try clear c27
                                        try clear c30
                                        try clear c30b0
                                        try clear c30b1
                                        try clear p31
                                        try clear q31
                                        try clear hx31
                                        try clear qi31
                                        try clear c32
                                        try clear p32
                                        try clear q32
                                        try clear hx32
                                        try clear qi32
                                        try clear c39
                                        try clear c40
                                        try clear c42
                                        try clear c42b0
                                        try clear c44
                                        try clear c45
                                        try clear c47
                                        try clear c47b0
                                        try clear c47b1
                                        try clear c47b2
                                        try clear c48
                                        try clear c48b0
                                        try clear c49
                                        try clear c50
                                        try clear c52
                                        try clear c55
                                        try clear c56
                                        try clear c58
                                        try clear c58b0
                                        try clear c60
                                        try clear c60b0
                                        try clear c60b1
                                        try clear p61
                                        try clear q61
                                        try clear hx61
                                        try clear qi61
                                        try clear c62
                                        try clear c62b0
                                        try clear c62b1
                                        try clear c63
                                        try clear c63b0
                                        try clear c63b1
                                        try clear p64
                                        try clear q64
                                        try clear hx64
                                        try clear qi64
                                        try clear c65
                                        try clear c66
                                        try clear c67
                                        try clear c69
                                        try clear c72
                                        try clear c72b0
                                        try clear c72b1
                                        try clear c75
                                        try clear c76
                                        try clear c78
                                        try clear c81
                                        try clear c82
                                        try clear c84
                                        try clear c84b0
                                        try clear c84b1
                                        try clear c84b2
                                        try clear c86
                                        try clear c86b0
                                        try clear c86b1
                                        try clear c87
                                        try clear c87b0
                                        try clear c87b1
                                        try clear c88
                                        try clear c88b0
                                        try clear c88b1
                                        try clear c90
                                        try clear c91
                                        try clear c93
                                        try clear c93b0
                                        try clear c93b1
                                        try clear c94
                                        try clear c94b0
                                        try clear c94b1
                                        try clear c97
                                        try clear c97b0
                                        try clear c97b1
                                        try clear hcz15_0
                                        try clear hcz15_1
                                        try clear hcz15_2
                                        try clear hcz28_0
                                        try clear hcz28_1
                                        try clear hcz28_2
                                        try clear hcz29_0
                                        try clear hcz29_1
                                        try clear hcz29_2
                                        try clear hcz41_0
                                        try clear hcz41_1
                                        try clear hcz41_2
                                        try clear hcz46_0
                                        try clear hcz46_1
                                        try clear hcz46_2
                                        try clear hcz51_0
                                        try clear hcz51_1
                                        try clear hcz51_2
                                        try clear hcz53_0
                                        try clear hcz53_1
                                        try clear hcz53_2
                                        try clear hcz57_0
                                        try clear hcz57_1
                                        try clear hcz57_2
                                        try clear hcz68_0
                                        try clear hcz68_1
                                        try clear hcz68_2
                                        try clear hcz6_0
                                        try clear hcz6_1
                                        try clear hcz6_2
                                        try clear hcz70_0
                                        try clear hcz70_1
                                        try clear hcz70_2
                                        try clear hcz77_0
                                        try clear hcz77_1
                                        try clear hcz77_2
                                        try clear hcz79_0
                                        try clear hcz79_1
                                        try clear hcz79_2
                                        try clear hcz7_0
                                        try clear hcz7_1
                                        try clear hcz7_2
                                        try clear hcz83_0
                                        try clear hcz83_1
                                        try clear hcz83_2
                                        try clear hcz92_0
                                        try clear hcz92_1
                                        try clear hcz92_2
                                        try clear hfz15_0
                                        try clear hfz15_1
                                        try clear hfz15_2
                                        try clear hfz28_0
                                        try clear hfz28_1
                                        try clear hfz28_2
                                        try clear hfz29_0
                                        try clear hfz29_1
                                        try clear hfz29_2
                                        try clear hfz41_0
                                        try clear hfz41_1
                                        try clear hfz41_2
                                        try clear hfz46_0
                                        try clear hfz46_1
                                        try clear hfz46_2
                                        try clear hfz51_0
                                        try clear hfz51_1
                                        try clear hfz51_2
                                        try clear hfz53_0
                                        try clear hfz53_1
                                        try clear hfz53_2
                                        try clear hfz57_0
                                        try clear hfz57_1
                                        try clear hfz57_2
                                        try clear hfz68_0
                                        try clear hfz68_1
                                        try clear hfz68_2
                                        try clear hfz6_0
                                        try clear hfz6_1
                                        try clear hfz6_2
                                        try clear hfz70_0
                                        try clear hfz70_1
                                        try clear hfz70_2
                                        try clear hfz77_0
                                        try clear hfz77_1
                                        try clear hfz77_2
                                        try clear hfz79_0
                                        try clear hfz79_1
                                        try clear hfz79_2
                                        try clear hfz7_0
                                        try clear hfz7_1
                                        try clear hfz7_2
                                        try clear hfz83_0
                                        try clear hfz83_1
                                        try clear hfz83_2
                                        try clear hfz92_0
                                        try clear hfz92_1
                                        try clear hfz92_2
                                        try clear p1
                                        try clear p16
                                        try clear p19
                                        try clear p2
                                        try clear p21
                                        try clear p23
                                        try clear p25
                                        try clear p3
                                        try clear p31
                                        try clear p32
                                        try clear p6
                                        try clear p61
                                        try clear p64
                                        try clear p9
                                        try clear q1
                                        try clear q16
                                        try clear q19
                                        try clear q2
                                        try clear q21
                                        try clear q23
                                        try clear q25
                                        try clear q3
                                        try clear q31
                                        try clear q32
                                        try clear q6
                                        try clear q61
                                        try clear q64
                                        try clear q9
                                        obtain ⟨kq, x100_95, rfl, HA, HJ95, BK189, BK190, BK191, HB⟩ := hcut
                                        cases kq with
                                        | zero => exact absurd HA.out (by simp [palanquinref12_Get.j6])
                                        | succ kj95 =>
                                          have H := HA.out
                                          clear HA
                                          simp only [palanquinref12_Get.j6] at H
                                          by_cases c98 : x100_95 = true
                                          · subst c98
                                            have H1 : (some (false, false, 0, (⟨#[]⟩ : ByteArray), 6)) = some (r1, r2, r3, r4, r5) := by rw [if_pos rfl] at H; exact H
                                            clear H
                                            have H := H1
                                            clear H1
                                            simp only [Option.some.injEq, Prod.mk.injEq] at H
                                            obtain ⟨rfl, rfl, rfl, rfl, rfl⟩ := H
                                            have hnb99 := NB190_189.out
                                            have hnc99 := NB189_190.out
                                            have hnb100 := NB190_191.out
                                            have hnc100 := NB191_190.out
                                            have hcz101_0 : wc.cell? ⟨gb190, 0, none⟩ = some (.bool false) := (blk_cell BK190.out 0).trans rfl
                                            have hcz101_1 : wc.cell? ⟨gb190, 1, none⟩ = some (.bool false) := (blk_cell BK190.out 1).trans rfl
                                            have hcz101_2 : wc.cell? ⟨gb190, 2, none⟩ = some (.int .u32 0) := (blk_cell BK190.out 2).trans rfl
                                            have hfz101_0 := blk_frozen BK190.out 0
                                            have hfz101_1 := blk_frozen BK190.out 1
                                            have hfz101_2 := blk_frozen BK190.out 2
                                            have hnb102 := NB189_191.out
                                            have hnc102 := NB191_189.out
                                            have hcz103_0 : wc.cell? ⟨gb189, 0, none⟩ = some (.bool x190000_53) := (blk_cell BK189.out 0).trans rfl
                                            have hcz103_1 : wc.cell? ⟨gb189, 1, none⟩ = some (.bool x190001_53) := (blk_cell BK189.out 1).trans rfl
                                            have hcz103_2 : wc.cell? ⟨gb189, 2, none⟩ = some (.int .u32 x190002_53) := (blk_cell BK189.out 2).trans rfl
                                            have hfz103_0 := blk_frozen BK189.out 0
                                            have hfz103_1 := blk_frozen BK189.out 1
                                            have hfz103_2 := blk_frozen BK189.out 2
                                            go_wp2
                                            refine bodyPost_ret (results_ctt rfl _ _ gb189 42 #[.bool false, .bool false, .int .u32 0] (0, 0) _ rfl (by (with_reducible repeat (first | refine blk_drewN ?_ _ | refine blk_drew ?_ | refine blk_alloc ?_ _)); refine blk_put (cs := #[.bool false, .bool false, .int .u32 x190002_53]) ?_ 2 _ (by first | rfl | (simp [*]; done)); (with_reducible repeat (first | refine blk_drewN ?_ _ | refine blk_drew ?_ | refine blk_alloc ?_ _)); refine blk_put (cs := #[.bool false, .bool x190001_53, .int .u32 x190002_53]) ?_ 1 _ (by first | rfl | (simp [*]; done)); (with_reducible repeat (first | refine blk_drewN ?_ _ | refine blk_drew ?_ | refine blk_alloc ?_ _)); refine blk_put (cs := #[.bool x190000_53, .bool x190001_53, .int .u32 x190002_53]) ?_ 0 _ (by first | rfl | (simp [*]; done)); (with_reducible repeat (first | refine blk_drewN ?_ _ | refine blk_drew ?_ | refine blk_alloc ?_ _)); exact BK189.out) Tryd.underlying42 rfl (by kernel_rfl)) rfl ?_
                                            exact ⟨by first | rfl | (simp [errW_none, errW_some] <;> rfl) | (simp [*, errW_none, errW_some] <;> rfl), by repeat (first | (with_reducible first | exact HB.out | apply below_alloc | apply pw_below_drewN | apply below_drew1 | refine below_set ?_ GE189.out | refine below_set ?_ GE190.out | refine below_set ?_ GE191.out) | exact HB.out)⟩
                                          · replace c98 := Bool.eq_false_iff.mpr c98
                                            subst c98
                                            have H1 : (if 0 ≤ x7_42 then (if x7_42 ≤ (a0.size : Int) then ((palanquinref11_Kind.f (a0.extract (x7_42 : Int).toNat a0.size)).bind fun bt195 => (if bt195.2 = 0 then (if bt195.1 = (wrap64 (t194)) then (some ((decide ((bt a0 0) ≥ 128)), ((Int.tmod (bt a0 0) 64) == 32), x192002_79, a0.extract (x7_42 : Int).toNat a0.size, 0)) else (some (false, false, 0, (⟨#[]⟩ : ByteArray), 3))) else (some (false, false, 0, (⟨#[]⟩ : ByteArray), bt195.2)))) else (none)) else (none)) = some (r1, r2, r3, r4, r5) := by rw [if_neg (show ¬ (false = true) by decide)] at H; exact H
                                            clear H
                                            have H := H1
                                            clear H1
                                            by_cases c104 : 0 ≤ x7_42
                                            · rw [if_pos c104] at H
                                              have c104b0 := eq_true c104
                                              have c104b1 : decide (0 ≤ x7_42) = true := decide_eq_true c104
                                              clear c104
                                              by_cases c105 : x7_42 ≤ (a0.size : Int)
                                              · rw [if_pos c105] at H
                                                have c105b0 := eq_true c105
                                                have c105b1 : decide (x7_42 ≤ (a0.size : Int)) = true := decide_eq_true c105
                                                clear c105
                                                replace H := Option.bind_eq_some_iff.mp H
                                                obtain ⟨⟨t195, t196⟩, A1060, H⟩ := H
                                                replace H : (if t196 = 0 then (if t195 = (wrap64 (t194)) then (some ((decide ((bt a0 0) ≥ 128)), ((Int.tmod (bt a0 0) 64) == 32), x192002_79, a0.extract (x7_42 : Int).toNat a0.size, 0)) else (some (false, false, 0, (⟨#[]⟩ : ByteArray), 3))) else (some (false, false, 0, (⟨#[]⟩ : ByteArray), t196))) = some (r1, r2, r3, r4, r5) := H
                                                have A106 := Aside0.mk A1060
                                                clear A1060
                                                by_cases c107 : t196 = 0
                                                · rw [if_pos c107] at H
                                                  have c107b0 : (t196 == 0) = true := beq_iff_eq.mpr c107
                                                  have c107b1 : (t196 != 0) = false := bne_eq_false_iff_eq.mpr c107
                                                  clear c107
                                                  by_cases c108 : t195 = (wrap64 (t194))
                                                  · rw [if_pos c108] at H
                                                    have c108b0 : (t195 == (wrap64 (t194))) = true := beq_iff_eq.mpr c108
                                                    have c108b1 : (t195 != (wrap64 (t194))) = false := bne_eq_false_iff_eq.mpr c108
                                                    clear c108
                                                    have c109b0 := eq_true (of_decide_eq_true (by first | (with_reducible assumption) | assumption) : 0 ≤ x7_42)
                                                    have c110b0 := eq_true (of_decide_eq_true (by first | (with_reducible assumption) | assumption) : x7_42 ≤ (a0.size : Int))
                                                    simp only [Option.some.injEq, Prod.mk.injEq] at H
                                                    obtain ⟨rfl, rfl, rfl, rfl, rfl⟩ := H
                                                    try go_wp2_with (first | ((with_reducible refine gate_callee (f := 26) rfl ?_); refine goesL_ (some 106) rfl rfl Tryd.func26 (by kernel_rfl) rfl #[.string (a0.extract (x7_42 : Int).toNat a0.size)] rfl (by (try simp only [List.map_toArray, List.map_cons, List.map_nil]); first | done | rfl | (simp only [List.length_drop, List.length_take]; rfl)) ?_; (with_reducible refine (palanquinref11_Kind.calls (a0.extract (x7_42 : Int).toNat a0.size) t195 t196 _ A106.out).mono ?_); rintro e w' ⟨rfl, ⟨nd, rfl⟩⟩; refine ⟨_, rfl, ?_⟩; (try (rw [drewN_self wc]; generalize hq_ : World.drewN wc _ = wc; have n0_ : Aside0 (wc.heap[gb189]? = some (.cells #[.bool x190000_53, .bool x190001_53, .int .u32 x190002_53] 42 (0, 0))) := ⟨by rw [← hq_]; exact (by (with_reducible repeat (first | refine blk_drewN ?_ _ | refine blk_drew ?_ | refine blk_alloc ?_ _)); exact BK189.out)⟩; have n1_ : Aside0 (wc.heap[gb190]? = some (.cells #[.bool false, .bool false, .int .u32 0] 42 (0, 0))) := ⟨by rw [← hq_]; exact (by (with_reducible repeat (first | refine blk_drewN ?_ _ | refine blk_drew ?_ | refine blk_alloc ?_ _)); exact BK190.out)⟩; have n2_ : Aside0 (wc.heap[gb191]? = some (.cells #[.bool (decide ((bt a0 0) ≥ 128)), .bool ((Int.tmod (bt a0 0) 64) == 32), .int .u32 x192002_79] 42 (0, 0))) := ⟨by rw [← hq_]; exact (by (with_reducible repeat (first | refine blk_drewN ?_ _ | refine blk_drew ?_ | refine blk_alloc ?_ _)); exact BK191.out)⟩; have n3_ : Aside0 (Below w.heap.size w wc) := ⟨by rw [← hq_]; exact (by repeat (first | (with_reducible first | exact HB.out | apply below_alloc | apply pw_below_drewN | apply below_drew1 | refine below_set ?_ GE189.out | refine below_set ?_ GE190.out | refine below_set ?_ GE191.out) | exact HB.out))⟩; clear BK189 BK190 BK191 HB hq_; have BK189 := n0_; have BK190 := n1_; have BK191 := n2_; have HB := n3_; clear n0_ n1_ n2_ n3_))))
                                                    have n0_ := Aside0.mk (blk_drew BK189.out)
                                                    have n1_ := Aside0.mk (blk_drew BK190.out)
                                                    have n2_ := Aside0.mk (blk_drew BK191.out)
                                                    have n3_ := Aside0.mk (below_drew1 HB.out)
                                                    clear BK189
                                                    clear BK190
                                                    clear BK191
                                                    clear HB
                                                    have BK189 := n0_
                                                    have BK190 := n1_
                                                    have BK191 := n2_
                                                    have HB := n3_
                                                    clear n0_ n1_ n2_ n3_
                                                    refine start_ (n := 7) (S := fun w' => w'.cell? ⟨gb191, 0, none⟩ = some (.bool (decide ((bt a0 0) ≥ 128))) ∧ w'.cell? ⟨gb191, 1, none⟩ = some (.bool ((Int.tmod (bt a0 0) 64) == 32)) ∧ w'.cell? ⟨gb191, 2, none⟩ = some (.int .u32 x192002_79)) (ds := []) #[false, false, false, false, false, false, false] (by kernel_rfl) rfl rfl ⟨(blk_cell BK191.out 0).trans rfl, (blk_cell BK191.out 1).trans rfl, (blk_cell BK191.out 2).trans rfl⟩ (fun hHeld => ?_)
                                                    generalize wc.drew = w111 at BK189 BK190 BK191 HB hHeld ⊢
                                                    refine pure_ (i := 1) (N := some 118) (v := ?_) (a' := ?_) #[false, true, false, false, false, false, false] rfl rfl (by kernel_rfl) (fun _ _ _ h => h) (Or.inl ⟨by rfl, ?_⟩) ?_ ?_
                                                    rotate_left
                                                    · intro w'
                                                      go_simp
                                                      with_reducible rfl
                                                    rotate_left
                                                    · simp only [Act.put, List.setIfInBounds_toArray, List.set_cons_zero, List.set_cons_succ, i64_w, i32_w]
                                                      rfl
                                                    refine pure_ (i := 2) (N := some 119) (v := ?_) (a' := ?_) #[false, true, true, false, false, false, false] rfl rfl (by kernel_rfl) (fun _ _ _ h => h) (Or.inl ⟨by rfl, ?_⟩) ?_ ?_
                                                    rotate_left
                                                    · intro w'
                                                      go_simp
                                                      with_reducible rfl
                                                    rotate_left
                                                    · simp only [Act.put, List.setIfInBounds_toArray, List.set_cons_zero, List.set_cons_succ, i64_w, i32_w]
                                                      rfl
                                                    refine pure_ (i := 3) (N := some 120) (v := ?_) (a' := ?_) #[false, true, true, true, false, false, false] rfl rfl (by kernel_rfl) (fun _ _ _ h => h) (Or.inl ⟨by rfl, ?_⟩) ?_ ?_
                                                    rotate_left
                                                    · intro w'
                                                      go_simp
                                                      with_reducible rfl
                                                    rotate_left
                                                    · simp only [Act.put, List.setIfInBounds_toArray, List.set_cons_zero, List.set_cons_succ, i64_w, i32_w]
                                                      rfl
                                                    refine take_ (i := 0) (N := some 117) (v := ?_) (a' := ?_) #[true, true, true, true, false, false, false] rfl rfl (by kernel_rfl) (fun _ _ _ h => h) (Or.inl ⟨by rfl, ?_⟩) hHeld ?_ ?_
                                                    rotate_left
                                                    · rintro w' ⟨s0, s1, s2⟩
                                                      go_simp
                                                      with_reducible rfl
                                                    rotate_left
                                                    · simp only [Act.put, List.setIfInBounds_toArray, List.set_cons_zero, List.set_cons_succ, i64_w, i32_w]
                                                      rfl
                                                    refine one_ (i := 4) (N := none) #[true, true, true, true, true, false, false] rfl rfl (by kernel_rfl) (by decide) (fun K hK => ?_)
                                                    have hs112 : w111.cell? ⟨gb189, 0, none⟩ = some (.bool x190000_53) := (blk_cell BK189.out 0).trans rfl
                                                    have hfs112 := blk_frozen BK189.out 0
                                                    have hns112_1 := NB190_189.out
                                                    have hns112_2 := NB191_189.out
                                                    have hms112_1 := NB189_190.out
                                                    have hms112_2 := NB189_191.out
                                                    have hs113 : w111.cell? ⟨gb189, 1, none⟩ = some (.bool x190001_53) := (blk_cell BK189.out 1).trans rfl
                                                    have hfs113 := blk_frozen BK189.out 1
                                                    have hns113_1 := NB190_189.out
                                                    have hns113_2 := NB191_189.out
                                                    have hms113_1 := NB189_190.out
                                                    have hms113_2 := NB189_191.out
                                                    have hs114 : w111.cell? ⟨gb189, 2, none⟩ = some (.int .u32 x190002_53) := (blk_cell BK189.out 2).trans rfl
                                                    have hfs114 := blk_frozen BK189.out 2
                                                    have hns114_1 := NB190_189.out
                                                    have hns114_2 := NB191_189.out
                                                    have hms114_1 := NB189_190.out
                                                    have hms114_2 := NB189_191.out
                                                    refine skip_ (w1 := ?_) (by rfl) rfl ?_ ?_
                                                    rotate_left
                                                    · go_simp
                                                      rfl
                                                    refine hK.out _ _ ⟨((cell_far (p := ⟨gb189, _, none⟩) NB191_189.out _).trans (((cell_far (p := ⟨gb189, _, none⟩) NB191_189.out _).trans (((cell_far (p := ⟨gb189, _, none⟩) NB191_189.out _).trans (hHeld.1)))))), ((cell_far (p := ⟨gb189, _, none⟩) NB191_189.out _).trans (((cell_far (p := ⟨gb189, _, none⟩) NB191_189.out _).trans (((cell_far (p := ⟨gb189, _, none⟩) NB191_189.out _).trans (hHeld.2.1)))))), ((cell_far (p := ⟨gb189, _, none⟩) NB191_189.out _).trans (((cell_far (p := ⟨gb189, _, none⟩) NB191_189.out _).trans (((cell_far (p := ⟨gb189, _, none⟩) NB191_189.out _).trans (hHeld.2.2))))))⟩ (fun hHeld => ?_)
                                                    clear hK K
                                                    refine pure_ (i := 5) (N := some 3) (v := ?_) (a' := ?_) #[true, true, true, true, true, true, false] rfl rfl (by kernel_rfl) (fun _ _ _ h => h) (Or.inl ⟨by rfl, ?_⟩) ?_ ?_
                                                    rotate_left
                                                    · intro w'
                                                      go_simp
                                                      with_reducible rfl
                                                    rotate_left
                                                    · simp only [Act.put, List.setIfInBounds_toArray, List.set_cons_zero, List.set_cons_succ, i64_w, i32_w]
                                                      rfl
                                                    refine pure_ (i := 6) (N := some 4) (v := ?_) (a' := ?_) #[true, true, true, true, true, true, true] rfl rfl (by kernel_rfl) (fun _ _ _ h => h) (Or.inl ⟨by rfl, ?_⟩) ?_ ?_
                                                    rotate_left
                                                    · intro w'
                                                      go_simp
                                                      with_reducible rfl
                                                    rotate_left
                                                    · simp only [Act.put, List.setIfInBounds_toArray, List.set_cons_zero, List.set_cons_succ, i64_w, i32_w]
                                                      rfl
                                                    refine done_ (by kernel_rfl) ?_
                                                    try go_wp2
                                                    refine bodyPost_ret (results_ctt rfl _ _ gb189 42 #[.bool (decide ((bt a0 0) ≥ 128)), .bool ((Int.tmod (bt a0 0) 64) == 32), .int .u32 x192002_79] (0, 0) _ rfl (by (with_reducible repeat (first | refine blk_drewN ?_ _ | refine blk_drew ?_ | refine blk_alloc ?_ _)); refine blk_put (cs := #[.bool (decide ((bt a0 0) ≥ 128)), .bool ((Int.tmod (bt a0 0) 64) == 32), .int .u32 x190002_53]) ?_ 2 _ (by first | rfl | (simp [*]; done)); (with_reducible repeat (first | refine blk_drewN ?_ _ | refine blk_drew ?_ | refine blk_alloc ?_ _)); refine blk_put (cs := #[.bool (decide ((bt a0 0) ≥ 128)), .bool x190001_53, .int .u32 x190002_53]) ?_ 1 _ (by first | rfl | (simp [*]; done)); (with_reducible repeat (first | refine blk_drewN ?_ _ | refine blk_drew ?_ | refine blk_alloc ?_ _)); refine blk_put (cs := #[.bool x190000_53, .bool x190001_53, .int .u32 x190002_53]) ?_ 0 _ (by first | rfl | (simp [*]; done)); (with_reducible repeat (first | refine blk_drewN ?_ _ | refine blk_drew ?_ | refine blk_alloc ?_ _)); exact BK189.out) Tryd.underlying42 rfl (by kernel_rfl)) rfl ?_
                                                    exact ⟨by first | rfl | (simp [errW_none, errW_some] <;> rfl) | (simp [*, errW_none, errW_some] <;> rfl), by repeat (first | (with_reducible first | exact HB.out | apply below_alloc | apply pw_below_drewN | apply below_drew1 | refine below_set ?_ GE189.out | refine below_set ?_ GE190.out | refine below_set ?_ GE191.out) | exact HB.out)⟩
                                                  · rw [if_neg c108] at H
                                                    have c108b0 : (t195 == (wrap64 (t194))) = false := beq_eq_false_iff_ne.mpr c108
                                                    have c108b1 : (t195 != (wrap64 (t194))) = true := bne_iff_ne.mpr c108
                                                    simp only [Option.some.injEq, Prod.mk.injEq] at H
                                                    obtain ⟨rfl, rfl, rfl, rfl, rfl⟩ := H
                                                    go_wp2_with (first | ((with_reducible refine gate_callee (f := 26) rfl ?_); refine goesL_ (some 106) rfl rfl Tryd.func26 (by kernel_rfl) rfl #[.string (a0.extract (x7_42 : Int).toNat a0.size)] rfl (by (try simp only [List.map_toArray, List.map_cons, List.map_nil]); first | done | rfl | (simp only [List.length_drop, List.length_take]; rfl)) ?_; (with_reducible refine (palanquinref11_Kind.calls (a0.extract (x7_42 : Int).toNat a0.size) t195 t196 _ A106.out).mono ?_); rintro e w' ⟨rfl, ⟨nd, rfl⟩⟩; refine ⟨_, rfl, ?_⟩; (try (rw [drewN_self wc]; generalize hq_ : World.drewN wc _ = wc; have n0_ : Aside0 (wc.heap[gb189]? = some (.cells #[.bool x190000_53, .bool x190001_53, .int .u32 x190002_53] 42 (0, 0))) := ⟨by rw [← hq_]; exact (by (with_reducible repeat (first | refine blk_drewN ?_ _ | refine blk_drew ?_ | refine blk_alloc ?_ _)); exact BK189.out)⟩; have n1_ : Aside0 (wc.heap[gb190]? = some (.cells #[.bool false, .bool false, .int .u32 0] 42 (0, 0))) := ⟨by rw [← hq_]; exact (by (with_reducible repeat (first | refine blk_drewN ?_ _ | refine blk_drew ?_ | refine blk_alloc ?_ _)); exact BK190.out)⟩; have n2_ : Aside0 (wc.heap[gb191]? = some (.cells #[.bool (decide ((bt a0 0) ≥ 128)), .bool ((Int.tmod (bt a0 0) 64) == 32), .int .u32 x192002_79] 42 (0, 0))) := ⟨by rw [← hq_]; exact (by (with_reducible repeat (first | refine blk_drewN ?_ _ | refine blk_drew ?_ | refine blk_alloc ?_ _)); exact BK191.out)⟩; have n3_ : Aside0 (Below w.heap.size w wc) := ⟨by rw [← hq_]; exact (by repeat (first | (with_reducible first | exact HB.out | apply below_alloc | apply pw_below_drewN | apply below_drew1 | refine below_set ?_ GE189.out | refine below_set ?_ GE190.out | refine below_set ?_ GE191.out) | exact HB.out))⟩; clear BK189 BK190 BK191 HB hq_; have BK189 := n0_; have BK190 := n1_; have BK191 := n2_; have HB := n3_; clear n0_ n1_ n2_ n3_)); have hnb115 := NB190_189.out; have hnc115 := NB189_190.out; have hnb116 := NB190_191.out; have hnc116 := NB191_190.out; have hcz117_0 : wc.cell? ⟨gb190, 0, none⟩ = some (.bool false) := (blk_cell BK190.out 0).trans rfl; have hcz117_1 : wc.cell? ⟨gb190, 1, none⟩ = some (.bool false) := (blk_cell BK190.out 1).trans rfl; have hcz117_2 : wc.cell? ⟨gb190, 2, none⟩ = some (.int .u32 0) := (blk_cell BK190.out 2).trans rfl; have hfz117_0 := blk_frozen BK190.out 0; have hfz117_1 := blk_frozen BK190.out 1; have hfz117_2 := blk_frozen BK190.out 2; have hnb118 := NB189_191.out; have hnc118 := NB191_189.out; have hcz119_0 : wc.cell? ⟨gb189, 0, none⟩ = some (.bool x190000_53) := (blk_cell BK189.out 0).trans rfl; have hcz119_1 : wc.cell? ⟨gb189, 1, none⟩ = some (.bool x190001_53) := (blk_cell BK189.out 1).trans rfl; have hcz119_2 : wc.cell? ⟨gb189, 2, none⟩ = some (.int .u32 x190002_53) := (blk_cell BK189.out 2).trans rfl; have hfz119_0 := blk_frozen BK189.out 0; have hfz119_1 := blk_frozen BK189.out 1; have hfz119_2 := blk_frozen BK189.out 2))
                                                    refine bodyPost_ret (results_ctt rfl _ _ gb189 42 #[.bool false, .bool false, .int .u32 0] (0, 0) _ rfl (by (with_reducible repeat (first | refine blk_drewN ?_ _ | refine blk_drew ?_ | refine blk_alloc ?_ _)); refine blk_put (cs := #[.bool false, .bool false, .int .u32 x190002_53]) ?_ 2 _ (by first | rfl | (simp [*]; done)); (with_reducible repeat (first | refine blk_drewN ?_ _ | refine blk_drew ?_ | refine blk_alloc ?_ _)); refine blk_put (cs := #[.bool false, .bool x190001_53, .int .u32 x190002_53]) ?_ 1 _ (by first | rfl | (simp [*]; done)); (with_reducible repeat (first | refine blk_drewN ?_ _ | refine blk_drew ?_ | refine blk_alloc ?_ _)); refine blk_put (cs := #[.bool x190000_53, .bool x190001_53, .int .u32 x190002_53]) ?_ 0 _ (by first | rfl | (simp [*]; done)); (with_reducible repeat (first | refine blk_drewN ?_ _ | refine blk_drew ?_ | refine blk_alloc ?_ _)); exact BK189.out) Tryd.underlying42 rfl (by kernel_rfl)) rfl ?_
                                                    exact ⟨by first | rfl | (simp [errW_none, errW_some] <;> rfl) | (simp [*, errW_none, errW_some] <;> rfl), by repeat (first | (with_reducible first | exact HB.out | apply below_alloc | apply pw_below_drewN | apply below_drew1 | refine below_set ?_ GE189.out | refine below_set ?_ GE190.out | refine below_set ?_ GE191.out) | exact HB.out)⟩
                                                · rw [if_neg c107] at H
                                                  have c107b0 : (t196 == 0) = false := beq_eq_false_iff_ne.mpr c107
                                                  have c107b1 : (t196 != 0) = true := bne_iff_ne.mpr c107
                                                  simp only [Option.some.injEq, Prod.mk.injEq] at H
                                                  obtain ⟨rfl, rfl, rfl, rfl, rfl⟩ := H
                                                  go_wp2_with (first | ((with_reducible refine gate_callee (f := 26) rfl ?_); refine goesL_ (some 106) rfl rfl Tryd.func26 (by kernel_rfl) rfl #[.string (a0.extract (x7_42 : Int).toNat a0.size)] rfl (by (try simp only [List.map_toArray, List.map_cons, List.map_nil]); first | done | rfl | (simp only [List.length_drop, List.length_take]; rfl)) ?_; (with_reducible refine (palanquinref11_Kind.calls (a0.extract (x7_42 : Int).toNat a0.size) t195 t196 _ A106.out).mono ?_); rintro e w' ⟨rfl, ⟨nd, rfl⟩⟩; refine ⟨_, rfl, ?_⟩; (try (rw [drewN_self wc]; generalize hq_ : World.drewN wc _ = wc; have n0_ : Aside0 (wc.heap[gb189]? = some (.cells #[.bool x190000_53, .bool x190001_53, .int .u32 x190002_53] 42 (0, 0))) := ⟨by rw [← hq_]; exact (by (with_reducible repeat (first | refine blk_drewN ?_ _ | refine blk_drew ?_ | refine blk_alloc ?_ _)); exact BK189.out)⟩; have n1_ : Aside0 (wc.heap[gb190]? = some (.cells #[.bool false, .bool false, .int .u32 0] 42 (0, 0))) := ⟨by rw [← hq_]; exact (by (with_reducible repeat (first | refine blk_drewN ?_ _ | refine blk_drew ?_ | refine blk_alloc ?_ _)); exact BK190.out)⟩; have n2_ : Aside0 (wc.heap[gb191]? = some (.cells #[.bool (decide ((bt a0 0) ≥ 128)), .bool ((Int.tmod (bt a0 0) 64) == 32), .int .u32 x192002_79] 42 (0, 0))) := ⟨by rw [← hq_]; exact (by (with_reducible repeat (first | refine blk_drewN ?_ _ | refine blk_drew ?_ | refine blk_alloc ?_ _)); exact BK191.out)⟩; have n3_ : Aside0 (Below w.heap.size w wc) := ⟨by rw [← hq_]; exact (by repeat (first | (with_reducible first | exact HB.out | apply below_alloc | apply pw_below_drewN | apply below_drew1 | refine below_set ?_ GE189.out | refine below_set ?_ GE190.out | refine below_set ?_ GE191.out) | exact HB.out))⟩; clear BK189 BK190 BK191 HB hq_; have BK189 := n0_; have BK190 := n1_; have BK191 := n2_; have HB := n3_; clear n0_ n1_ n2_ n3_)); have hnb120 := NB190_189.out; have hnc120 := NB189_190.out; have hnb121 := NB190_191.out; have hnc121 := NB191_190.out; have hcz122_0 : wc.cell? ⟨gb190, 0, none⟩ = some (.bool false) := (blk_cell BK190.out 0).trans rfl; have hcz122_1 : wc.cell? ⟨gb190, 1, none⟩ = some (.bool false) := (blk_cell BK190.out 1).trans rfl; have hcz122_2 : wc.cell? ⟨gb190, 2, none⟩ = some (.int .u32 0) := (blk_cell BK190.out 2).trans rfl; have hfz122_0 := blk_frozen BK190.out 0; have hfz122_1 := blk_frozen BK190.out 1; have hfz122_2 := blk_frozen BK190.out 2; have hnb123 := NB189_191.out; have hnc123 := NB191_189.out; have hcz124_0 : wc.cell? ⟨gb189, 0, none⟩ = some (.bool x190000_53) := (blk_cell BK189.out 0).trans rfl; have hcz124_1 : wc.cell? ⟨gb189, 1, none⟩ = some (.bool x190001_53) := (blk_cell BK189.out 1).trans rfl; have hcz124_2 : wc.cell? ⟨gb189, 2, none⟩ = some (.int .u32 x190002_53) := (blk_cell BK189.out 2).trans rfl; have hfz124_0 := blk_frozen BK189.out 0; have hfz124_1 := blk_frozen BK189.out 1; have hfz124_2 := blk_frozen BK189.out 2))
                                                  refine bodyPost_ret (results_ctt rfl _ _ gb189 42 #[.bool false, .bool false, .int .u32 0] (0, 0) _ rfl (by (with_reducible repeat (first | refine blk_drewN ?_ _ | refine blk_drew ?_ | refine blk_alloc ?_ _)); refine blk_put (cs := #[.bool false, .bool false, .int .u32 x190002_53]) ?_ 2 _ (by first | rfl | (simp [*]; done)); (with_reducible repeat (first | refine blk_drewN ?_ _ | refine blk_drew ?_ | refine blk_alloc ?_ _)); refine blk_put (cs := #[.bool false, .bool x190001_53, .int .u32 x190002_53]) ?_ 1 _ (by first | rfl | (simp [*]; done)); (with_reducible repeat (first | refine blk_drewN ?_ _ | refine blk_drew ?_ | refine blk_alloc ?_ _)); refine blk_put (cs := #[.bool x190000_53, .bool x190001_53, .int .u32 x190002_53]) ?_ 0 _ (by first | rfl | (simp [*]; done)); (with_reducible repeat (first | refine blk_drewN ?_ _ | refine blk_drew ?_ | refine blk_alloc ?_ _)); exact BK189.out) Tryd.underlying42 rfl (by kernel_rfl)) rfl ?_
                                                  exact ⟨by first | rfl | (simp [errW_none, errW_some] <;> rfl) | (simp [*, errW_none, errW_some] <;> rfl), by repeat (first | (with_reducible first | exact HB.out | apply below_alloc | apply pw_below_drewN | apply below_drew1 | refine below_set ?_ GE189.out | refine below_set ?_ GE190.out | refine below_set ?_ GE191.out) | exact HB.out)⟩
                                              · rw [if_neg c105] at H
                                                exact absurd H (by simp)
                                            · rw [if_neg c104] at H
                                              exact absurd H (by simp)
                                    · rw [if_neg c94] at H
                                      exact absurd H (by simp)
                                  · rw [if_neg c93] at H
                                    exact absurd H (by simp)
              · rw [if_neg c30] at H
                exact absurd H (by simp)
      · rw [if_neg c10] at H
        have c10b0 : ((Int.tmod (bt a0 1) 8) == 0) = false := beq_eq_false_iff_ne.mpr c10
        have c10b1 : ((Int.tmod (bt a0 1) 8) != 0) = true := bne_iff_ne.mpr c10
        simp only [Option.some.injEq, Prod.mk.injEq] at H
        obtain ⟨rfl, rfl, rfl, rfl, rfl⟩ := H
        go_enter Tryd.func32, Tryd.ntmps32
        go_wp2_with (first | ((with_reducible refine gate_dst (N := 2) rfl ?_); refine box_event ?hg (N := 2) ?hd (cs := #[.bool false, .bool false, .int .u32 0]) (t := 42) ?hr ?_; (case hd => rfl); (case hg => rfl); (case hr => first | (go_simp; done) | (go_simp; rfl)); intro gb189 hg w125 hbox hb; have n0_ := Aside0.mk (below_step (by repeat (first | (with_reducible first | exact HB.out | apply below_alloc | apply pw_below_drewN | apply below_drew1) | exact HB.out)) hb); have n1_ := Aside0.mk (hbox); have n2_ := Aside0.mk ((by rw [hg]; exact (below_size (by repeat (first | (with_reducible first | exact HB.out | apply below_alloc | apply pw_below_drewN | apply below_drew1) | exact HB.out))) : w.heap.size ≤ gb189)); have n3_ := Aside0.mk ((by rw [hg]; exact (below_size (by repeat (first | (with_reducible first | exact HB.out | apply below_alloc | apply pw_below_drewN | apply below_drew1) | exact HB.out))) : w.heap.size ≤ gb189)); clear HB; have HB := n0_; have BK189 := n1_; have GW189 := n2_; have GE189 := n3_; clear n0_ n1_ n2_ n3_; clear hb hbox hg) | ((with_reducible refine gate_dst (N := 5) rfl ?_); refine box_event ?hg (N := 5) ?hd (cs := #[.bool false, .bool false, .int .u32 0]) (t := 42) ?hr ?_; (case hd => rfl); (case hg => rfl); (case hr => first | (go_simp; done) | (go_simp; rfl)); intro gb190 hg w126 hbox hb; have n0_ := Aside0.mk (blk_below (g := gb189) (o := .cells #[.bool false, .bool false, .int .u32 0] 42 (0, 0)) (by (with_reducible repeat (first | refine blk_drewN ?_ _ | refine blk_drew ?_ | refine blk_alloc ?_ _)); exact BK189.out) hb); have n1_ := Aside0.mk (below_step (by repeat (first | (with_reducible first | exact HB.out | apply below_alloc | apply pw_below_drewN | apply below_drew1 | refine below_set ?_ GE189.out) | exact HB.out)) hb); have n2_ := Aside0.mk (hbox); have n3_ := Aside0.mk ((by rw [hg]; exact (below_size (by repeat (first | (with_reducible first | exact HB.out | apply below_alloc | apply pw_below_drewN | apply below_drew1 | refine below_set ?_ GE189.out) | exact HB.out))) : w.heap.size ≤ gb190)); have n4_ := Aside0.mk ((by rw [hg]; exact (below_size (by repeat (first | (with_reducible first | exact HB.out | apply below_alloc | apply pw_below_drewN | apply below_drew1 | refine below_set ?_ GE189.out) | exact HB.out))) : w.heap.size ≤ gb190)); have n5_ := Aside0.mk ((by rw [hg]; exact Nat.ne_of_lt (blk_lt (g := gb189) (o := .cells #[.bool false, .bool false, .int .u32 0] 42 (0, 0)) (by (with_reducible repeat (first | refine blk_drewN ?_ _ | refine blk_drew ?_ | refine blk_alloc ?_ _)); exact BK189.out)) : gb189 ≠ gb190)); have n6_ := Aside0.mk ((by rw [hg]; exact Nat.ne_of_gt (blk_lt (g := gb189) (o := .cells #[.bool false, .bool false, .int .u32 0] 42 (0, 0)) (by (with_reducible repeat (first | refine blk_drewN ?_ _ | refine blk_drew ?_ | refine blk_alloc ?_ _)); exact BK189.out)) : gb190 ≠ gb189)); clear BK189; clear HB; have BK189 := n0_; have HB := n1_; have BK190 := n2_; have GW190 := n3_; have GE190 := n4_; have NB189_190 := n5_; have NB190_189 := n6_; clear n0_ n1_ n2_ n3_ n4_ n5_ n6_; clear hb hbox hg; have hnb127 := NB190_189.out; have hnc127 := NB189_190.out; have hcz128_0 : w126.cell? ⟨gb190, 0, none⟩ = some (.bool false) := (blk_cell BK190.out 0).trans rfl; have hcz128_1 : w126.cell? ⟨gb190, 1, none⟩ = some (.bool false) := (blk_cell BK190.out 1).trans rfl; have hcz128_2 : w126.cell? ⟨gb190, 2, none⟩ = some (.int .u32 0) := (blk_cell BK190.out 2).trans rfl; have hfz128_0 := blk_frozen BK190.out 0; have hfz128_1 := blk_frozen BK190.out 1; have hfz128_2 := blk_frozen BK190.out 2; have p9 : 0 ≤ (1 : Int) := (by omega); have q9 : 1 < a0.size := (by have : (1 : Int) < (a0.size : Int) := of_decide_eq_true (by first | (with_reducible assumption) | assumption); omega); have hx9 : ∀ h : 1 < a0.size, ((a0[1]'h).toNat : Int) = bt a0 1 := bt_at a0 1; clear p9; have qi9 : (1 < (a0.size : Int)) = True := eq_true (of_decide_eq_true (by first | (with_reducible assumption) | assumption)); replace q9 := eq_true q9; have hcz129_0 : w126.cell? ⟨gb189, 0, none⟩ = some (.bool false) := (blk_cell BK189.out 0).trans rfl; have hcz129_1 : w126.cell? ⟨gb189, 1, none⟩ = some (.bool false) := (blk_cell BK189.out 1).trans rfl; have hcz129_2 : w126.cell? ⟨gb189, 2, none⟩ = some (.int .u32 0) := (blk_cell BK189.out 2).trans rfl; have hfz129_0 := blk_frozen BK189.out 0; have hfz129_1 := blk_frozen BK189.out 1; have hfz129_2 := blk_frozen BK189.out 2))
        refine bodyPost_ret (results_ctt rfl _ _ gb189 42 #[.bool false, .bool false, .int .u32 0] (0, 0) _ rfl (by (with_reducible repeat (first | refine blk_drewN ?_ _ | refine blk_drew ?_ | refine blk_alloc ?_ _)); refine blk_put (cs := #[.bool false, .bool false, .int .u32 0]) ?_ 2 _ (by first | rfl | (simp [*]; done)); (with_reducible repeat (first | refine blk_drewN ?_ _ | refine blk_drew ?_ | refine blk_alloc ?_ _)); refine blk_put (cs := #[.bool false, .bool false, .int .u32 0]) ?_ 1 _ (by first | rfl | (simp [*]; done)); (with_reducible repeat (first | refine blk_drewN ?_ _ | refine blk_drew ?_ | refine blk_alloc ?_ _)); refine blk_put (cs := #[.bool false, .bool false, .int .u32 0]) ?_ 0 _ (by first | rfl | (simp [*]; done)); (with_reducible repeat (first | refine blk_drewN ?_ _ | refine blk_drew ?_ | refine blk_alloc ?_ _)); refine blk_far ?_ NB189_190.out _; (with_reducible repeat (first | refine blk_drewN ?_ _ | refine blk_drew ?_ | refine blk_alloc ?_ _)); refine blk_far ?_ NB189_190.out _; (with_reducible repeat (first | refine blk_drewN ?_ _ | refine blk_drew ?_ | refine blk_alloc ?_ _)); refine blk_far ?_ NB189_190.out _; (with_reducible repeat (first | refine blk_drewN ?_ _ | refine blk_drew ?_ | refine blk_alloc ?_ _)); exact BK189.out) Tryd.underlying42 rfl (by kernel_rfl)) rfl ?_
        exact ⟨by first | rfl | (simp [errW_none, errW_some] <;> rfl) | (simp [*, errW_none, errW_some] <;> rfl), by repeat (first | (with_reducible first | exact HB.out | apply below_alloc | apply pw_below_drewN | apply below_drew1 | refine below_set ?_ GE189.out | refine below_set ?_ GE190.out) | exact HB.out)⟩
    · rw [if_neg c8] at H
      exact absurd H (by simp)

end Go.Proofs.YtcmalglippmocaaDoor.G
end
